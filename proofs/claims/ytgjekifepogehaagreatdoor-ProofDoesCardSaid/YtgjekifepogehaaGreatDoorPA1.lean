/- A part of this seat's proofs. No conditions. -/
import Derived.Below
import Derived.Deep.LoopGhost
import Derived.IntWalk
import Derived.Laws.AppendOwn
import Derived.Laws.NewBlocks
import Derived.Laws.StructEq
import Derived.Orders
import Derived.Tactics
namespace Go.Ab
open Go
abbrev ZA:=@List.getElem_mem
abbrev ZB:=@Nat.le_refl
abbrev ZC:=@Bool.and_eq_true
abbrev ZD:=@List.getElem?_eq_getElem
abbrev ZE:=@List.append_assoc
abbrev ZF:=@List.take_length
abbrev ZG:=@Option.map_eq_some_iff
abbrev ZH:=@List.all_eq_true
abbrev ZI:=@Option.some.injEq
abbrev ZJ:=@List.map_cons
abbrev ZK:=@Decidable.not_not
abbrev ZL:=@Option.bind_eq_some_iff
abbrev ZM:=@List.take_append_getElem
abbrev ZN:=@List.getElem_cons_zero
abbrev ZO:=@List.length_cons
abbrev ZP:=@Nat.le_of_ble_eq_true
abbrev ZQ:=@List.mem_map
abbrev ZR:=@List.length_append
abbrev ZS:=@List.eq_nil_of_length_eq_zero
abbrev ZT:=@List.getElem?_eq_some_iff
abbrev ZU:=@List.mem_append
abbrev ZV:=@Array.getD_eq_getD_getElem?
abbrev ZW:=@List.sum_cons
abbrev ZX:=@List.take_zero
abbrev ZY:=@List.append_nil
abbrev ZZ:=@List.mem_flatMap
abbrev Z0:=@List.getElem_cons_succ
abbrev Z1:=@List.flatMap_cons
abbrev Z2:=@List.map_nil
abbrev Z3:=@List.nil_append
abbrev Z4:=@List.mem_cons
abbrev Z5:=@List.flatten_nil
abbrev Z6:=@List.all_append
abbrev Z7:=@List.length_nil
abbrev Z8:=@List.getElem?_map
abbrev Z9:=@Nat.eq_of_beq_eq_true
abbrev aa:=@List.getElem_of_mem
abbrev ag:=@Array.getElem?_setIfInBounds
abbrev ah:=@List.mem_singleton
abbrev ai:=@List.getElem?_append_left
abbrev aj:=@List.getElem?_append_right
abbrev ak:=@Option.map_some
abbrev an:=@Option.isSome_some
abbrev aq:=@Nat.zero_add
abbrev au:=@Array.getElem?_eq_some_iff
abbrev ay:=@Nat.le_trans
abbrev az:=@List.flatten_cons
abbrev aA:=@Int.natCast_add
abbrev aB:=@List.getD_eq_getElem?_getD
abbrev aC:=@List.take_of_length_le
abbrev aD:=@List.mem_append_right
abbrev aE:=@List.cons_append
abbrev aF:=@List.map_congr_left
abbrev aG:=@Nat.add_right_cancel_iff
abbrev aH:=@Bool.true_and
abbrev aI:=@List.length_map
abbrev aJ:=@Array.getElem?_eq_getElem
abbrev aK:=@List.map_map
abbrev aL:=@Nat.mul_le_mul_right
abbrev aM:=@Nat.add_mul
abbrev aN:=@List.sum_nil
abbrev aO:=@List.length_eq_zero_iff
abbrev aP:=@List.not_mem_nil
abbrev aQ:=@Option.getD_some
abbrev aR:=@List.nodup_cons
abbrev aS:=@Bool.eq_iff_iff
abbrev aT:=@List.take_succ_eq_append_getElem
abbrev aU:=@List.mem_append_left
abbrev aV:=@Bool.or_eq_true
abbrev aW:=@Option.some.inj
abbrev aX:=@List.mem_flatten
abbrev aY:=@Int.add_assoc
abbrev aZ:=@List.map_append
abbrev bf:=@List.replicate_zero
abbrev bg:=@List.length_singleton
abbrev bh:=@Nat.mul_le_mul
abbrev bk:=@List.all_cons
abbrev bp:=@List.nodup_nil
abbrev bq:=@List.getElem?_take
abbrev bt:=@List.mem_of_getElem?
abbrev bu:=@List.flatMap_append
abbrev bw:=@List.take_append_drop
abbrev bz:=@List.perm_append_comm
abbrev bA:=@Nat.eq_zero_or_pos
abbrev bB:=@Option.isSome_iff_exists
abbrev bC:=@Array.getElem?_replicate
abbrev bD:=@Int.add_zero
abbrev bE:=@Bool.false_and
abbrev bF:=@Nat.add_sub_cancel_left
abbrev bH:=@List.getElem?_cons_succ
abbrev bI:=@List.mem_filter
abbrev bJ:=@Function.comp_apply
abbrev bK:=@List.getD_cons_zero
abbrev bL:=@Nat.zero_le
abbrev bM:=@List.perm_middle
abbrev bP:=@List.flatMap_nil
abbrev bQ:=@Nat.lt_of_lt_of_le
abbrev bS:=@List.mem_range
abbrev bT:=@Array.toList_setIfInBounds
abbrev bU:=@List.getElem?_zipWith
abbrev bV:=@Nat.ble_eq_true_of_le
abbrev bW:=@Decidable.byContradiction
abbrev bY:=@Array.length_toList
abbrev bZ:=@List.getElem?_cons_zero
abbrev cc:=@Nat.lt_or_ge
abbrev cg:=@List.zipWith_cons_cons
abbrev cj:=@List.mem_filterMap
abbrev ck:=@Nat.not_lt_zero
abbrev cl:=@List.length_filter_le
abbrev cm:=@Bool.not_eq_false
abbrev cq:=@List.mem_cons_of_mem
abbrev cr:=@List.mem_iff_getElem
abbrev ct:=@Nat.pow_le_pow_right
abbrev cu:=@Option.bind_some
abbrev cw:=@Nat.sub_self
abbrev cy:=@Int.zero_add
abbrev cz:=@List.all_map
abbrev cA:=@List.length_take
abbrev cB:=@List.flatten_append
abbrev cC:=@List.sum_append
abbrev cD:=@Option.map_none
abbrev cF:=@List.set_cons_zero
abbrev cG:=@List.mem_cons_self
abbrev cH:=@Nat.one_le_two_pow
abbrev cI:=@Nat.beq_refl
abbrev cJ:=@Nat.add_zero
abbrev cK:=@List.drop_of_length_le
abbrev cL:=@List.ext_getElem?
abbrev cM:=@Nat.pow_succ
abbrev cN:=@Int.mul_nonneg
abbrev cO:=@Int.mul_le_mul
abbrev cP:=@Nat.div_lt_iff_lt_mul
abbrev cQ:=@List.mem_iff_getElem?
abbrev cS:=@List.drop_append
abbrev cT:=@List.any_eq_true
abbrev cU:=@Nat.lt_succ_self
abbrev cV:=@Int.mul_le_mul_of_nonneg_left
abbrev cW:=@List.mem_map_of_mem
abbrev cX:=@List.getD_cons_succ
abbrev cY:=@Bool.and_false
abbrev cZ:=@Option.isSome_none
abbrev dc:=@List.mem_of_find?_eq_some
abbrev de:=@List.mem_or_eq_of_mem_set
abbrev dg:=@List.pairwise_iff_getElem
abbrev dh:=@Go.WideShapes.sorted_perm
abbrev di:=@List.drop_eq_getElem_cons
abbrev dm:=@List.nodup_append
abbrev dn:=@List.foldl_append
abbrev dw:=@Bool.not_or
abbrev dx:=@List.length_drop
abbrev dy:=@List.zipIdx_cons
abbrev dz:=@Nat.zero_lt_succ
abbrev dA:=@List.flatMap_map
abbrev dB:=@Option.getD_none
abbrev dD:=@Int.eq_ofNat_of_zero_le
abbrev dF:=@List.getLast?_singleton
abbrev dG:=@List.getLast?_cons_cons
abbrev dH:=@Nat.le_of_eq
abbrev dI:=@Nat.mod_lt
abbrev dJ:=@Nat.mul_comm
abbrev dK:=@Nat.sub_zero
abbrev dL:=@Option.map_eq_none_iff
abbrev dM:=@Array.getElem?_push_lt
abbrev dN:=@Nat.div_add_mod
abbrev dO:=@List.foldl_cons
abbrev dP:=@List.mem_range'
abbrev dQ:=@List.cons.injEq
abbrev dS:=@List.any_append
abbrev dU:=@List.getElem?_eq_none
abbrev dV:=@Option.none_or
abbrev dW:=@List.pairwise_append
abbrev dX:=@List.getLast?_append
abbrev eo:=@Bool.not_true
abbrev eX:=@Nat.mul_one
theorem U.{u}{α:Sort u}{a:α}:a=a:=rfl
theorem jY{P:Prop}(h:P:=by
 intro hP;simp only[ZF] at hP;simp only[ZF];have hAok:=(Lx p.terms (s.1+1,s.2)).2.1;rw[if_neg (by simp[hP])] at he;generalize hA0:Ce p.terms (s.1+1,s.2)=a0 at*;refine M.w0 ?_;refine M.rp p.Aa.length (fun m=>(Cr (p.Aa.take m) a0.2).1=true)
  (fun m=>([(0,.ptr 0 0),(3,.ptr 1 0),(99,.s .fm p.Aa),(100,.i p.Aa.length),(101,.i m)],⟨2,[(0,.var [.i ((Cr (p.Aa.take m) a0.2).2.1:Nat),.bool (Cr (p.Aa.take m) a0.2).2.2]),(1,.var p.view)]⟩))
  rfl (M.W AQ) ?_ ?_
 .intro m hm hP2;have hs2:=zc Fm.full (ZA hm);have hs4:=zl Fm.size p.Aa m;have hok:=(Mg (p.Aa.take m) a0.2).2.1;have hnn:=VX p.Aa[m];have hnum:p.Aa[m].num=(p.Aa[m].num.toNat:Int):=dY
  have hc:=Rf p.Aa[m] dY;rw[hnum] at hc;have hcnt:=PR (Cr (p.Aa.take m) a0.2).2.1 (Cr (p.Aa.take m) a0.2).2.2 p.Aa[m].num.toNat p.Aa[m].err gY dY;by_cases h2:p.Aa[m].err=2
  .rw[show(p.Aa[m].err !=2)=false by simp[h2]] at hcnt;have hst:=Vf hm hP2 h2;rw[hst,if_pos rfl] at he;rw[he];refine M.w2 @hc @hcnt ?_
   (exact M.n2 Ay (h8:=eM))
  .rw[show(p.Aa[m].err !=2)=true by simp[h2]] at hcnt;have hA1:Cr (p.Aa.take (m+1)) a0.2=(true,((Cr (p.Aa.take m) a0.2).2.1+p.Aa[m].num.toNat,(Cr (p.Aa.take m) a0.2).2.2||p.Aa[m].err==4)):=by
    rw[UB hm hP2,Cr,if_neg h2];rfl
   refine M.w2 @hc @hcnt ?_;refine⟨rfl,congrArg Prod.fst hA1,?_⟩;simp only[hA1];exact(M.W AQ)
 .intro hP2;simp only[ZF] at hP2;simp only[ZF];have hBok:=(Mg p.Aa a0.2).2.1;rw[if_neg (by simp[hP2])] at he;generalize hB0:Cr p.Aa a0.2=b0 at*;refine M.w0 ?_;refine M.rp p.args.length (fun m=>(CX (p.args.take m) b0.2).1=true)
   (fun m=>([(0,.ptr 0 0),(3,.ptr 1 0),(114,.s .pf p.args),(115,.i p.args.length),(116,.i m)],⟨2,[(0,.var [.i ((CX (p.args.take m) b0.2).2.1:Nat),.bool (CX (p.args.take m) b0.2).2.2]),(1,.var p.view)]⟩))
   rfl (M.W AQ) ?_ ?_
  .intro m hm hP3;have hs2:=zc Pf.full (ZA hm);have hs4:=zl Pf.size p.args m;have hok:=(Tg (p.args.take m) (fun q _=>SF q) b0.2).2.1;have hs5:=yq Pf.full p.args m hm;have hs6:=zl Pf.full p.args (m+1);have hs7:=xh (f:=Pf.size) (g:=Pf.full) (p.args.take m) fun x _=>x.Ah;have hc:=ih p.args[m] (CX (p.args.take m) b0.2).2 dY dY gY;cases h2:(Ee p.args[m] (CX (p.args.take m) b0.2).2).1 with
   |false=>
    have hst:=UX hm hP3 h2;rw[hst] at he;rw[he];rw[h2] at hc ⊢;refine M.w1 @hc ?_
    (exact M.n2 Ay (h8:=eM))
   |true=>
    rw[h2] at hc;have hA1:CX (p.args.take (m+1)) b0.2=Ee p.args[m] (CX (p.args.take m) b0.2).2:=by rw[U4 hm hP3,U0]
    refine M.w1 @hc ?_;refine⟨rfl,(congrArg Prod.fst hA1).trans h2,?_⟩;simp only[hA1];exact(M.W AQ)
  .intro hP3;simp only[ZF] at hP3;simp only[ZF];rw[he,hP3];refine M.w0 ?_
   (exact M.n2 Ay (h8:=eM))):P:=h
theorem jZ{P:Prop}(h:P:=by
 by_cases hx:m+1=p.args.length
 .rw[if_pos hx,if_pos dY]
 .rw[if_neg hx,if_neg dY]):P:=h
theorem j0{P:Prop}(h:P:=by
 rintro e a σ y' ⟨rfl,rfl,rfl,rfl⟩;refine K.yT (BW.seq (.of (AW.AP ?_)));refine M.o0 ?_;refine K.yT (BW.ret ⟨rfl,?_⟩)
 (exact M.n2 Ay (h8:=eY))):P:=h
theorem j3{P:Prop}(h:P:=by
 refine AW.block (AW.upto t.terms.length (fun i=>(i:Int)<Tm.AD most n0 (t.terms.take i)/\(Tm.AD most n0 (t.terms.take i)<=2\/Tm.AD most n0 (t.terms.take i)<=most+2))
  (fun i=>([(1,.i most),(2,.ptr 0 0),(5,.i (Tm.AD most n0 (t.terms.take i))),(6,.i i)],⟨1,[(0,.var t.view)]⟩))
  ⟨gq,gq⟩ (M.W Ay) fun i hi hP=> ?_)
 obtain⟨p1,p2⟩:=hP;by_cases hlt:i<t.terms.length
 .by_cases hle:Tm.AD most n0 (t.terms.take i)<=most
  .have htk:=Tm.B5 hlt hle;have hs2:=zc Tm.full (ZA hlt);have hx:=t.terms[i].BX (most-Tm.AD most n0 (t.terms.take i));have hc:=Q6 _ t.terms[i] (most-Tm.AD most n0 (t.terms.take i)) (ZB _) dY;(repeat' first|refine M.o0 ?_|refine M.gs ?_ ?_<;>intro h|refine M.z1 5 ?_|refine M.cs ?_ ?_<;>intro h|refine M.gk ?_|fail);all_goals first
    |(exfalso;simp at h;omega)
    |(exfalso;simp at*;omega)
    |skip
   refine K.sq (AW.block ?_);refine M.w1 @hc ?_;refine⟨hlt,(show((i+1:Nat):Int)<Tm.AD most n0 (t.terms.take (i+1))/\(Tm.AD most n0 (t.terms.take (i+1))<=2\/Tm.AD most n0 (t.terms.take (i+1))<=most+2) by omega),?_⟩;simp only[htk];exact(M.W Ay)
  .have e:=Tm.Cj hle;rw[<-e];(repeat' first|refine M.o0 ?_|refine M.gs ?_ ?_<;>intro h|refine M.z1 5 ?_|refine M.cs ?_ ?_<;>intro h|refine M.gk ?_|fail);all_goals first
    |(exfalso;simp at*;omega)
    |(exfalso;simp at*;rw[e] at*;omega)
    |exact⟨(),(M.W Ay)⟩
 .have e:t.terms.take i=t.terms:=aC dY;rw[e];(repeat' first|refine M.o0 ?_|refine M.gs ?_ ?_<;>intro h|refine M.z1 5 ?_|refine M.cs ?_ ?_<;>intro h|refine M.gk ?_|fail);all_goals first
   |(exfalso;simp at*;omega)
   |exact⟨(),(M.W Ay)⟩):P:=h
theorem j4{P:Prop}(h:P:=by
 obtain⟨p,d',hm,ok',hA⟩:=Ku (n+1) lems tys hyps hc hs d2 ok2 k;refine⟨p,d',hm,ok',?_⟩;show AW _ _ _ (Code.seq _ _) _ _ _;(repeat' first|refine M.o0 ?_|refine M.gs ?_ ?_<;>intro h|refine M.z1 3 ?_|refine M.cs ?_ ?_<;>intro h|refine M.gk ?_|fail);all_goals first
  |(exfalso;simp at h;omega)
  |skip
 (repeat' first|refine M.o3 @hx @hp1 @hI ?_|refine M.z1 61 ?_|refine M.bl ?_|refine M.cs ?_ ?_<;>intro h|refine M.gk ?_|fail);all_goals first
  |exact AW.weak (M.W EV) hA
  |(exfalso;simp at h;omega)
  |trace_state):P:=h
theorem j5{P:Prop}(h:P:=by
 intro m hm hP;have hs2:=zc Tm.full (ZA hm);have hs4:=zl Tm.size p.terms m;have hok:=(Lx (p.terms.take m) (s.1+1,s.2)).2.1;have hnn:0<=p.terms[m].num/\p.terms[m].num<=4096:=by rcases Rh p.terms[m] with⟨_,_,_,e⟩|⟨_,_,e⟩|⟨_,_,_,e⟩<;>omega
 have hnum:p.terms[m].num=(p.terms[m].num.toNat:Int):=dY
 have hc:=PV p.terms[m] dY;rw[hnum] at hc;have hcnt:=PR (Ce (p.terms.take m) (s.1+1,s.2)).2.1 (Ce (p.terms.take m) (s.1+1,s.2)).2.2 p.terms[m].num.toNat p.terms[m].err (by simp only at hok;omega) dY;by_cases h2:p.terms[m].err=2
 .rw[show(p.terms[m].err !=2)=false by simp[h2]] at hcnt;have hst:=Xu hm hP h2;rw[hst,if_pos rfl] at he;rw[he];refine M.w2 @hc @hcnt ?_
  (exact M.n2 Ay (h8:=eM))
 .rw[show(p.terms[m].err !=2)=true by simp[h2]] at hcnt;have hA1:Ce (p.terms.take (m+1)) (s.1+1,s.2)=(true,((Ce (p.terms.take m) (s.1+1,s.2)).2.1+p.terms[m].num.toNat,(Ce (p.terms.take m) (s.1+1,s.2)).2.2||p.terms[m].err==4)):=by
   rw[VL hm hP,Ce,if_neg h2];rfl
  refine M.w2 @hc @hcnt ?_;refine⟨rfl,congrArg Prod.fst hA1,?_⟩;simp only[hA1];exact(M.W AQ)):P:=h
theorem j6{P:Prop}(h:P:=by
 intro _;rw[hre];simp only[JE];skip
 (exact M.n2 AQ (h6:=(by(repeat'(first|exact trivial|refine And.intro ?_ ?_|refine⟨_,U,_,U,_,U,?_⟩|exact Ai.refl _|refine⟨_,U,_,_,U,?_,?_⟩|(simp[Aj.Aw,hX1,ZE];done)));done)) (h8:=fK))):P:=h
theorem j7{P:Prop}(h:P:=by
 rw[n4];unfold BZ at n1
 repeat(split at n1;· cases n1;decide)
 cases n1):P:=h
theorem j8{P:Prop}(h:P:=by
 intro m hm _;refine M.w0 ?_;exact⟨rfl,trivial,(M.W CZ)⟩):P:=h
theorem j9{P:Prop}(h:P:=by
 refine M.F Tryz.func196 ?_;refine M.v1 @h1 ?_
 rfl):P:=h
theorem ke{P:Prop}(h:P:=by
 intro m hm _;have hs2:=zc Fm.full (ZA hm);have hc:=WW a k n0 ha hk hn0 (Xs++p.terms.map ((A6 a) v)++(p.Aa.take m).map ((A8 a) (v+Au p.kind))) p.Aa[m] (v+Au p.kind) (fe _ (ZA hm)) dY (i2 _ (ZA hm)) (DA.pre ji hg);(repeat' first|refine M.w0 ?_|refine M.cv (hc) [0,1,2,3] 0 ?_|fail);exact⟨rfl,trivial,(M.W HS (he:=(by(repeat'(first|exact trivial|refine And.intro ?_ ?_|refine⟨_,U,_,U,_,U,?_⟩|exact Ai.refl _|exact Ai.of_eq fN));done)))⟩):P:=h
theorem kf{P:Prop}(h:P:=by
 intro m hm _;have hs2:=zc Fm.full (ZA hm);have hc:=U1 (Xs++p.terms.map (CK v)++(p.Aa.take m).map (C9 (v+Au p.kind))) p.Aa[m] (v+Au p.kind) dY dY (i2 _ (ZA hm));(repeat' first|refine M.w0 ?_|refine M.cv (hc) [0,1,2] 0 ?_|fail);exact⟨rfl,trivial,(M.W Fg (he:=(by(repeat'(first|exact trivial|refine And.intro ?_ ?_|refine⟨_,U,_,U,_,U,?_⟩|exact Ai.refl _|refine⟨_,U,_,_,U,?_,?_⟩|(simp[Aj.Aw,zp _ _ _ hm,ZE];done)));done)))⟩):P:=h
theorem kg{P:Prop}(h:P:=by
 intro m hm _;have hs2:=zc Tm.full (ZA hm);have hc:=U3 a k n0 ha hk hn0 (Xs++(p.terms.take m).map ((A6 a) v)) p.terms[m] v (te _ (ZA hm)) dY (i1 _ (ZA hm)) (DA.pre jj hg);(repeat' first|refine M.w0 ?_|refine M.cv (hc) [0,1,2,3] 0 ?_|fail);exact⟨rfl,trivial,(M.W HS (he:=(by(repeat'(first|exact trivial|refine And.intro ?_ ?_|refine⟨_,U,_,U,_,U,?_⟩|exact Ai.refl _|exact Ai.of_eq fN));done)))⟩):P:=h
theorem ki{P:Prop}(h:P:=by
 intro m hm _;have hs2:=zc Fm.full (ZA hm);have hc:=YH (Xs++p.terms.map ((fun _ t=>t.near) v)++(p.Aa.take m).map ((fun _ f=>f.near) (v+Au p.kind))) p.Aa[m] (v+Au p.kind) dY;(repeat' first|refine M.w0 ?_|refine M.cv (hc) [0] 0 ?_|fail);exact⟨rfl,trivial,(M.W DT (he:=(by(repeat'(first|exact trivial|refine And.intro ?_ ?_|refine⟨_,U,_,U,_,U,?_⟩|exact Ai.refl _|exact Ai.of_eq fN));done)))⟩):P:=h
theorem kj{P:Prop}(h:P:=by
 intro m hm _;have hs2:=zc Tm.full (ZA hm);have hc:=VJ (Xs++(p.terms.take m).map (CK v)) p.terms[m] v dY dY (i1 _ (ZA hm));(repeat' first|refine M.w0 ?_|refine M.cv (hc) [0,1,2] 0 ?_|fail);exact⟨rfl,trivial,(M.W Fg (he:=(by(repeat'(first|exact trivial|refine And.intro ?_ ?_|refine⟨_,U,_,U,_,U,?_⟩|exact Ai.refl _|refine⟨_,U,_,_,U,?_,?_⟩|(simp[Aj.Aw,zp _ _ _ hm,ZE];done)));done)))⟩):P:=h
theorem kn{P:Prop}(h:P:=by
 simp_all only[beq_iff_eq,beq_eq_false_iff_ne,ne_eq];exact(M.W SK (hf:=(by(repeat'(first|exact trivial|refine And.intro ?_ ?_|refine⟨_,U,_,U,?_⟩|exact Ai.refl _|exact Ai.of_eq jd));done)))):P:=h
theorem ko{P:Prop}(h:P:=by
 (repeat'(first|exact trivial|refine And.intro ?_ ?_|refine⟨_,U,_,U,_,U,?_⟩|exact Bb.refl _|exact Ai.refl _|refine⟨_,U,_,_,U,?_,?_⟩|with_reducible exact rfl|exact Eq.refl true|rfl))):P:=h
theorem kq{P:Prop}(h:P:=by
 have hD:∀n,(n<σ.nx\/n∈List.range' σ.nx news)↔n<σ.nx+news:=fun n=>by
  grind
 have hle:∀n,(fun n=>n<σ.nx) n->(fun n=>n<σ.nx+news) n:=fun n h=>dY
 refine h2 (by simp only[Aj.Aw];omega) g' w' _ (hR'.more fun n h=>(hD n).1 h) ?_ (hY.ext hx') g0 F0 w0 (hx.trans (hx'.mono fun n hn=>dY));exact(hF.ext hx' hle).put (L5 hd) (hv'.more fun n h=>(hD n).1 h)):P:=h
theorem kr{P:Prop}(h:P:=by
 intro m hm _;have hs2:=zc Tm.full (ZA hm);have hc:=RY _ p.terms[m] (ZB _) dY;refine M.w1 @hc ?_;exact⟨rfl,trivial,(M.W [some 0,some 1,some 2,some 3,some 4,some 5,some 6,some 7,some 10] (he:=(by(repeat'(first|exact trivial|exact Or.inr ⟨_,U,rfl⟩|refine And.intro ?_ ?_|refine⟨_,U,_,U,_,U,?_⟩|exact Ai.refl _|exact Ai.of_eq eO));done)))⟩):P:=h
theorem ku{P:Prop}(h:P:=by
 rename_i h;exact zq c h):P:=h
theorem kz{P:Prop}(h:P:=by
 rw[if_pos hA] at he;rw[he];refine M.F Tryz.func145 ?_;(repeat' first|refine M.o1 @hru ?_|refine M.gs ?_ ?_<;>intro h|refine M.z1 4 ?_|refine M.cs ?_ ?_<;>intro h|refine M.gk ?_|fail);all_goals(try(exfalso;simp only[Pf.Ge,hnd] at hA;simp_all;done))
 all_goals(try(exfalso;simp only[Pf.Ge,hnd] at hA;simp_all;omega))
 all_goals(exact M.n2 Ay (h8:=eM))):P:=h
theorem kA{P:Prop}(h:P:=by
 intro m hm _;have hs2:=zc Fm.full (ZA hm);have hc:=WS p.Aa[m] dY;refine M.w1 @hc ?_;exact⟨rfl,trivial,(M.W [some 0,some 1,some 2,some 3,some 4,some 5,some 6,some 7,some 8,some 11] (he:=(by(repeat'(first|exact trivial|exact Or.inr ⟨_,U,rfl⟩|refine And.intro ?_ ?_|refine⟨_,U,_,U,_,U,?_⟩|exact Ai.refl _|exact Ai.of_eq eO));done)))⟩):P:=h
theorem kB{P:Prop}(h:P:=by
 intro m hm _;have hs2:=zc Tm.full (ZA hm);have hc:=Vh (Xs++(p.terms.take m).map ((fun _ t=>t.near) v)) p.terms[m] v dY;(repeat' first|refine M.w0 ?_|refine M.cv (hc) [0] 0 ?_|fail);exact⟨rfl,trivial,(M.W DT (he:=(by(repeat'(first|exact trivial|refine And.intro ?_ ?_|refine⟨_,U,_,U,_,U,?_⟩|exact Ai.refl _|exact Ai.of_eq fN));done)))⟩):P:=h
theorem kC{P:Prop}(h:P:=by
 intro m hm hP;have hc:=loopE m hm (Az k0 (BS ((t.args.take m).flatMap (Tm.vars (up t.kind bl)))));refine M.w2 @hbe @hc ?_;refine⟨rfl,trivial,?_⟩;exact(M.W AQ (he:=(by(repeat'(first|exact trivial|refine And.intro ?_ ?_|refine⟨_,U,_,U,_,U,?_⟩|exact Ai.refl _|refine⟨_,U,_,_,U,?_,?_⟩|(simp[Aj.Aw,Ji,xr,wg _ _ _ hm];done)));done)))):P:=h
theorem kD{P:Prop}(h:P:=by
 intro m hm _;have hs2:=zc Tm.full (ZA hm);(repeat' first|refine M.w0 ?_|refine M.c2 (IU _ _ (ZB _) ?_) ?_|exact M.lt|fail);exact⟨rfl,trivial,(M.W [some 0,some 1,some 2,some 5] (he:=(by(repeat'(first|exact trivial|exact Or.inr ⟨_,U,rfl⟩|refine And.intro ?_ ?_|refine⟨_,U,_,U,_,U,?_⟩|exact Ai.refl _|exact Ai.of_eq eO));done)))⟩):P:=h
theorem kE{P:Prop}(h:P:=by
 intro m hm hP;have hm':m<y.args.length:=dY
 have hs2:=zc Tm.full (ZA hm);(repeat' first|refine M.w0 ?_|refine M.c2 (ih _ _ ?_ ?_) ?_|refine M.cs ?_ ?_<;>intro h|exact M.le|exact M.lt|fail)
 .have:¬x=y:=by rw[heq];exact fun hc=>uu hm hm' ek hc.2.2.2
  simp[this,zh,za,V.wk,V.An]
 .exact ⟨rfl,Hf hl hm hP ek,(M.W AQ)⟩):P:=h
theorem kF{P:Prop}(h:P:=by
 intro m hm hP;have hm':m<y.args.length:=dY
 have hs2:=zc Ty.size (ZA hm);(repeat' first|refine M.w0 ?_|refine M.c2 (ih _ _ ?_ ?_) ?_|refine M.cs ?_ ?_<;>intro h|exact M.le|exact M.lt|fail)
 .have:¬x=y:=by rw[heq];exact fun hc=>uu hm hm' ek hc.2
  simp[this,zh,za,V.wk,V.An]
 .exact ⟨rfl,Hf hl hm hP ek,(M.W AQ)⟩):P:=h
theorem kG{P:Prop}(h:P:=by
 rw[Pf.size_eq,p.size_eq];simp only[Pf.AE,Pf.B4,Pf.Ag,aK];have q1:=Pc (sz:=Tm.size) (sz':=Tm.size∘fun t=>t.re (xt (a+v) s) 0) (G:=A6 a v) (k:=s.size) p.terms zt;have q2:=Pc (sz:=Fm.size) (sz':=Fm.size∘fun f=>f.put (a+(v+Au p.kind)) s) (G:=A8 a (v+Au p.kind)) (k:=s.size) p.Aa zf;rw[LU,LU];omega):P:=h
theorem kH{P:Prop}(h:P:=by
 have:¬x=y:=fE
 simp[this,zh,za,V.wk,V.An]):P:=h
theorem kJ{P:Prop}(h:P:=by
 intro m hm _;obtain⟨q,hq,hbo,X,hc,hX⟩:=hL m hm;have h4:=hP m;have h5:=hP (m+1);refine M.w2 @hbo @hc ?_;refine⟨rfl,trivial,?_⟩;simp only[<-hX];exact(M.W Ay (hf:=(by(repeat'(first|exact trivial|refine And.intro ?_ ?_|refine⟨_,U,_,U,?_⟩|exact Ai.refl _|exact Ai.of_eq fD));done)))):P:=h
theorem kK{P:Prop}(h:P:=by
 have e:(f.put (a+(v+Au p.kind)) s).size=f.size+ug (a+(v+Au p.kind)) (f.AZ 0)*(s.size-1):=J5 (a+(v+Au p.kind)) s hs f (s5 f hf) 0;rw[e,cast];rfl):P:=h
theorem kM{P:Prop}(h:P:=by
 refine hR.step hx.mark hx.cells (fun _ h=>h) (fun _ _=>rfl) (fun _ _=>rfl) (fun n e he=> .inl ⟨he,fun b hb=>hsame b (hR.BB he hb)⟩) ?_ hR'.fresh;intro n n' e e' b h4 h5 h6 h7;exact hR.A9 n n' e e' b h4 h5 (by cases e<;>exact h6) (by cases e'<;>exact h7)):P:=h
theorem kN{P:Prop}(h:P:=by
 obtain ⟨c1,hc1⟩:=Ax (yp h1) hc;obtain⟨c0,hc0,hle⟩:=h2.nth i c1 hc1;exact Al.FN (ρ:=[]) (g2:=g) (hle _ _ _ _ (hr i v c0 hv hc0)) rfl (fun n m h=>absurd h (hnr n m)) (fun n m h=>absurd h (hnr n m)) (fun n h=>by simp[Dz] at h) c (wj h1 i c c1 hc hc1)):P:=h
theorem kO{P:Prop}(h:P:=by
 intro n e h;have h3:=he.get n e h;cases e with
 |var cs=>obtain⟨m,hm,_⟩:=h3;exact ut (uh hm)
 |map c ks xs=>obtain⟨m,hm,_⟩:=h3;exact ut (uh hm)
 |row=>
  rcases h3 with h3|⟨m,hm,_⟩
  .exact ut h3
  .exact ut (uh hm)
 |gone=>simp_all):P:=h
theorem kP{P:Prop}(h:P:=by
 intro _;rw[hre];simp only[KN];skip
 (exact M.n2 CI (h6:=(by(repeat'(first|exact trivial|refine And.intro ?_ ?_|refine⟨_,U,_,U,_,U,?_⟩|exact Ai.refl _|refine⟨_,U,_,_,U,?_,?_⟩|(simp[Aj.Aw,ZE];done)));done)) (h8:=ga))):P:=h
theorem kQ{P:Prop}(h:P:=by
 have e:t.args.take i=t.args:=aC dY;rw[e];(repeat' first|refine M.o0 ?_|refine M.gs ?_ ?_<;>intro h|refine M.z1 5 ?_|refine M.cs ?_ ?_<;>intro h|refine M.gk ?_|fail);all_goals first|exfalso;simp at*;omega|(rw[he];rfl)):P:=h
theorem kR{P:Prop}(h:P:=by
 intro _;refine M.w0 ?_
 rfl):P:=h
theorem kS{P:Prop}(h:P:=by
 rw[if_neg he];refine M.F Tryz.func80 ?_;(repeat' first|refine M.o1 @h1 ?_|refine M.z1 4 ?_|refine M.cs ?_ ?_<;>intro h|refine M.gk ?_|fail);all_goals first
  |rfl
  |(exfalso;simp at h;exact he h)
  |trace_state):P:=h
theorem kT{P:Prop}(h:P:=by
 obtain ⟨l,hl,hb⟩:=aX.1 hb;obtain⟨m,hm,rfl⟩:=aa hl;rw[Jb] at hm;rw[Jr _ _ _ _ _ _ hm] at hb
 grind):P:=h
theorem kU{P:Prop}(h:P:=by
 refine M.F Tryz.func196 ?_;(repeat' first|refine M.o1 @hp ?_|refine M.z1 24 ?_|refine M.bl ?_|refine M.cs ?_ ?_<;>intro h|refine M.gk ?_|fail);all_goals first
  |rfl
  |(exfalso;simp at h;exact hk h)):P:=h
theorem kV{P:Prop}(h:P:=by
 refine M.F Tryz.func196 ?_;(repeat' first|refine M.o1 @hp ?_|refine M.z1 22 ?_|refine M.bl ?_|refine M.cs ?_ ?_<;>intro h|refine M.gk ?_|fail);all_goals first
  |rfl
  |(exfalso;simp at h;exact he h)):P:=h
theorem kW{P:Prop}(h:P:=by
 intro _;simp only[ZF];refine M.w0 ?_
 rfl):P:=h
theorem kX{P:Prop}(h:P:=by
 exfalso;simp at h;omega):P:=h
theorem kY{P:Prop}(h:P:=by
 rw[h3];exact run_firstCells_some (P:=E.P) W sz len2 ⟨g.blk q,0,none⟩ len2 cap2 news hnews (fun j v hv=>by
  rw[hnews0,bq] at hv;split at hv
  .rw[Gy,aq,ux (by rw[hW];exact k10)];grind
  grind)):P:=h
theorem kZ{P:Prop}(h:P:=by
 intro _;rw[hre];simp only[KN];skip
 (exact M.n2 EV (h6:=(by(repeat'(first|exact trivial|refine And.intro ?_ ?_|refine⟨_,U,_,U,_,U,?_⟩|exact Ai.refl _|exact Ai.of_eq iC));done)) (h8:=ga))):P:=h
theorem k8{P:Prop}(h:P:=by
 intro _;rw[hre];simp only[JE];skip
 (exact M.n2 AQ (h6:=(by(repeat'(first|exact trivial|refine And.intro ?_ ?_|refine⟨_,U,_,U,_,U,?_⟩|exact Ai.refl _|exact Ai.of_eq ig));done)) (h8:=fK))):P:=h
theorem ld{P:Prop}(h:P:=by
 rw[h3];exact run_firstCells_some (P:=E.P) W sz len ⟨g.blk r,0,none⟩ len cap olds hol (fun j v hv=>by
  rw[holds,bq] at hv;split at hv
  .rw[Gy,aq,ux (by rw[hW];exact h10)];grind
  grind)):P:=h
theorem lg{P:Prop}(h:P:=by
 have h:=((Ty.Ad t).1 he).1;obtain⟨k,zs⟩:=t;rw[Ty.Ak,ZC] at h;have h1:=h.1;simp only[Ty.kind,Ty.args] at hk h1;subst hk;have h2:zs.length=0:=by simpa[Ex] using h1
 rw[ZS h2];rfl):P:=h
theorem lp{P:Prop}(h:P:=by
 rw[h2] at hi1;cases hi1;rw[h5] at hi3;cases hi3;exact(v8 hi4).2.1):P:=h
theorem lq{P:Prop}(h:P:=by
 refine Sv w _ b o ?_;rcases cc b w.heap.size with h|h
 .exact h
 .rw[hR.fresh b h] at ho;omega):P:=h
theorem lu{P:Prop}(h:P:=by
 intro _;rw[hre];simp only[KN];skip
 (exact M.n2 Ay (h6:=(by(repeat'(first|exact trivial|refine And.intro ?_ ?_|refine⟨_,U,_,U,_,U,?_⟩|exact Ai.of_eq iC));done)) (h8:=ga))):P:=h
theorem lz{P:Prop}(h:P:=by
 intro _;rw[hre];simp only[JE];skip
 (exact M.n2 Ay (h6:=(by(repeat'(first|exact trivial|refine And.intro ?_ ?_|refine⟨_,U,_,U,_,U,?_⟩|exact Ai.of_eq ig));done)) (h8:=fK))):P:=h
theorem lB{P:Prop}(h:P:=by
 have:¬x=y:=gj
 simp[this,zh,za,V.wk,V.An]):P:=h
theorem lC{P:Prop}(h:P:=by
 intro hP;refine M.w0 ?_;simp[zh,V.wk,V.An,za,Ty.view,Tm.view]):P:=h
theorem lD{P:Prop}(h:P:=by
 intro _;simp only[ZF];refine M.w0 ?_
 (exact M.n2 AQ (h8:=fL))):P:=h
theorem lF{P:Prop}(h:P:=by
 obtain ⟨l,hl,hb⟩:=aX.1 hb;obtain⟨m,hm,rfl⟩:=aa hl;rw[vk] at hm;rw[uj _ _ _ _ _ hm] at hb;have hk:p.kind≠1:=fun e=>by
  rw[e] at a1;simp[BZ] at a1
  grind
 grind):P:=h
theorem lG{P:Prop}(h:P:=by
 intro i v c hv hc;obtain⟨c1,hc2⟩:=Ax (yp hc1) hc;obtain⟨c0,hc3,hc4⟩:=h5.nth i c1 hc2;exact hun (hc4 _ _ _ _ (h10 i v c0 hv hc3)) (wj hc1 i c c1 hc hc2)):P:=h
theorem lH{P:Prop}(h:P:=by
 intro m hm _;refine M.w0 ?_;exact⟨rfl,trivial,(M.W DT)⟩):P:=h
theorem lI{P:Prop}(h:P:=by
 (exact M.n2 Ay (h6:=(by(repeat'(first|exact trivial|refine And.intro ?_ ?_|refine⟨_,U,_,U,_,U,?_⟩|exact Ai.of_eq (by simp[Aj.Aw,FE,h])));done)) (h8:=jL))):P:=h
theorem lJ{P:Prop}(h:P:=by
 (exact M.n2 Ay (h6:=(by(repeat'(first|exact trivial|refine And.intro ?_ ?_|refine⟨_,U,_,U,_,U,?_⟩|exact Ai.of_eq (by simp[Aj.Aw,OX,h])));done)) (h8:=jO))):P:=h
theorem lK{P:Prop}(h:P:=by
 rw[ZE,ai dY,holds,bq,if_pos hq] at hv;rw[ai dY] at hd;exact(h13 q v d hv hd).mono (fun _=>ZB _) (fun _ _ _=>rfl) (fun _ h=>h) (fun _ _=>rfl) (fun _ _=>rfl)):P:=h
theorem lM{P:Prop}(h:P:=by
 rw[zm,if_neg (fun e=>hi e.symm)] at h;exact h):P:=h
theorem lN{P:Prop}(h:P:=by
 rw[if_pos h1];refine M.F Tryz.func196 ?_;(repeat' first|refine M.v0 ?_|refine M.cs ?_ ?_<;>intro h|fail);all_goals first
  |rfl
  |(exfalso;simp at h;omega)):P:=h
theorem lP{P:Prop}(h:P:=by
 intro i j e e' b h2 h3 h4 h5;obtain⟨d,h6,h7⟩:=hfoot i e b h2 h4;obtain⟨d',h8,h9⟩:=hfoot j e' b h3 h5;exact hR.A9 i j d d' b h6 h8 h7 h9):P:=h
theorem lQ{P:Prop}(h:P:=by
 refine .inl ⟨hold i e hi he,fun b hb=>⟨hother b (fun e2=>hi ?_),rfl⟩⟩;exact hR.A9 i n e _ b (hold i e hi he) hn hb (by simp[A7.AB,e2])):P:=h
theorem lS{P:Prop}(h:P:=by
 exact hR.A9 i j e e' b (hold i e hi h1) (hold j e' hj h2) (hfold i e b (hold i e hi h1) h3).1 (hfold j e' b (hold j e' hj h2) h4).1):P:=h
theorem lT{P:Prop}(h:P:=by
 intro hl;have h2:=ih x (hl x dZ) (zv hf (hl x dZ)) (AR f.kind b);have h3:=ihl fun y hy=>hl y ei;simp only[ZJ,ZW,bJ,Z1,yy,aM];omega):P:=h
theorem lU{P:Prop}(h:P:=by
 rw[e2];exact⟨hF.size,hF.defers,fun t c hc=>let ⟨v,h1,h2⟩:=hF.vals t c hc;⟨v,h1,h2.drew.more (fun n hn=>Or.inl hn)⟩⟩):P:=h
theorem lV{P:Prop}(h:P:=by
 exact hv.mono (fun _=>ZB _) (fun _ _ _=>rfl) (fun n h=>absurd h (ck n)) (fun n h=>absurd h (ck n)) (fun n h=>absurd h (ck n))):P:=h
theorem lW{P:Prop}(h:P:=by
 rw[RG hn,dV];refine vz rfl fun j u hj hnu=> ?_;rw[aq];refine hsame j fun e=>hn ?_;subst e;rw[hpi] at hj;cases hj;exact hnu):P:=h
theorem lX{P:Prop}(h:P:=by
 exact ⟨⟨0,fC⟩,(M.W Ay)⟩):P:=h
theorem lY{P:Prop}(h:P:=by
 rw[he,L2 hm hP hx];(repeat' first|refine M.w1 @hc ?_|refine M.cs ?_ ?_<;>intro h|fail)
 .rfl
 .exfalso;simp at h;exact hx h):P:=h
theorem lZ{P:Prop}(h:P:=by
 refine ⟨ei,rfl,fun t c hc=> ?_⟩;obtain⟨_,h1⟩:=Ux hc;simp only[dK] at h1;obtain⟨v,hv⟩:=Ax hl.symm h1
 grind):P:=h
theorem l5{P:Prop}(h:P:=by
 refine M.F Tryz.func292 ?_;refine M.v0 ?_
 rfl):P:=h
theorem l6{P:Prop}(h:P:=by
 cases hF;exact I4 T.h0 n):P:=h
theorem l7{P:Prop}(h:P:=by
 obtain⟨⟨nd0,a1,a2⟩,_⟩:=(Pf.Bt p).1 hs;rw[e] at a1;simp[BZ] at a1;rw[<-a1] at a2;simp at a2;simp[a2] at h0):P:=h
theorem l8{P:Prop}(h:P:=by
 intro l w;induction l with
 |nil=>intro _;simp[Pf.AO]
 |cons x l ihl=>
  intro hx;simp only[Pf.AO,az,ZR,ZJ,ZW]
  grind):P:=h
theorem l9{P:Prop}(h:P:=by
 simp only[Cy] at h0 ⊢;grind):P:=h
theorem mc{P:Prop}(h:P:=by
 obtain⟨v,g2,h1,h2,h3,h4⟩:=I8.done hq hrs hR1 hF1;exact⟨hF1.defers,v,h1,v,g2,rfl,h2,h3,hx1.trans h4⟩):P:=h
theorem me{P:Prop}(h:P:=by
 first
  |exact Ai.refl _
  |(refine Ai.of_eq ?_;simp[zh];rfl)):P:=h
theorem mg{P:Prop}(h:P:=by
 intro j;by_cases hji:j=i
 .subst hji;simp[ZV,ag,hil]
 .have:¬i=j:=fun e=>hji e.symm;simp[ZV,ag,hji,this]):P:=h
theorem mj{P:Prop}(h:P:=by
 obtain ⟨l,hl,hb⟩:=aX.1 hb;obtain⟨m,hm,rfl⟩:=aa hl;rw[vk] at hm;rw[uj _ _ _ _ _ hm] at hb
 grind):P:=h
theorem mo{P:Prop}(h:P:=by
 have h2:=hold i e hi he;exact .inl ⟨h2,fun b hb'=>⟨heap_alloc_old w _ b (hR.BB h2 hb'),rfl⟩⟩):P:=h
theorem mq{P:Prop}(h:P:=by
 obtain ⟨t,ht,rfl⟩:=ZQ.1 hb;exact ZH.2 fun q hq=>ei):P:=h
theorem mu{P:Prop}(h:P:=by
 exact absurd (of_decide_eq_false h) dY):P:=h
theorem mw{P:Prop}(h:P:=by
 intro hP;simp only[ZF];skip
 (exact M.n2 Ay (h8:=eM))):P:=h
theorem mA{P:Prop}(h:P:=by
 intro m hm _;refine M.w0 ?_;refine⟨rfl,trivial,?_⟩;simp only[YP hm];rw[<-vx];exact(M.W Ay)):P:=h
theorem mB{P:Prop}(h:P:=by
 rw[if_neg hz];simp only[Sem.run_bind,Tn h2 h5,Result.andThen_ok,Sem.run_pure];rw[key _ dZ]
 rfl):P:=h
theorem mC{P:Prop}(h:P:=by
 have:DL k=none:=by simp at h;simp only[DL];(repeat' rw[if_neg dY])
 simp[this,zh,V.wk,V.An,za]):P:=h
theorem mD{P:Prop}(h:P:=by
 simp only[uf] at hq ⊢;cases hb:Nat.beq id C with
 |true=>grind
 |false=>rw[hb] at hq;exact hq):P:=h
theorem mE{P:Prop}(h:P:=by
 intro hP;have:x=y:=heq.2 ⟨h1,h2,h3,u5 hl hP⟩;refine M.w0 ?_;simp[this,zh,za,V.wk,V.An]):P:=h
theorem mF{P:Prop}(h:P:=by
 exact PK (hrs 0 dY) (n6 trivial) hc):P:=h
theorem mG{P:Prop}(h:P:=by
 intro hP;refine M.w0 ?_
 (exact M.n2 EV (h8:=iP))):P:=h
theorem mH{P:Prop}(h:P:=by
 rw[zm,if_pos rfl] at h;grind):P:=h
theorem mI{P:Prop}(h:P:=by
 rw[if_pos hz];simp only[Sem.run_bind,Sem.run_pure,Result.andThen_ok];rw[key _ dZ]
 rfl):P:=h
theorem mJ{P:Prop}(h:P:=by
 intro hP;have:x=y:=heq.2 ⟨hk,u5 hl hP⟩;refine M.w0 ?_;simp[this,zh,za,V.wk,V.An]):P:=h
theorem mK{P:Prop}(h:P:=by
 intro _;simp only[ZF];refine M.w0 ?_;rw[he]
 rfl):P:=h
theorem mL{P:Prop}(h:P:=by
 obtain ⟨t,ht,rfl⟩:=ZQ.1 hy;exact N4 0 hs (s4 t ht) dY dY (fun p hp=>Jj t 0 p hp)):P:=h
theorem mM{P:Prop}(h:P:=by
 intro l;induction l<;>grind):P:=h
theorem mN{P:Prop}(h:P:=by
 rw[ZY,ZE csA];refine bM.trans (List.Perm.cons _ ?_);rw[<-ZE y0 yA];exact Yh _ _ _):P:=h
theorem mO{P:Prop}(h:P:=by
 intro _;simp only[ZF];refine M.w0 ?_;rw[he];simp[zh,V.wk,V.An,za,Ty.view,Tm.view]):P:=h
theorem mP{P:Prop}(h:P:=by
 exact Qw (hrs 0 dY) (hrs 1 dY) hc):P:=h
theorem mQ{P:Prop}(h:P:=by
 rintro m a σ y ⟨_,rfl,_⟩;rfl):P:=h
theorem mR{P:Prop}(h:P:=by
 have k1:p.kind≠1:=fun e=>fJ
 have k2:p.kind≠2:=fun e=>fJ
 simp[DK,Cs,CL,CO,k1,k2]):P:=h
theorem mS{P:Prop}(h:P:=by
 have hk:t.kind=1:=ek
 (exact M.n2 EV (h8:=iR))):P:=h
theorem mT{P:Prop}(h:P:=by
 generalize hv:act.eval s=v at hvs;cases hvs with
 |data h=>cases h
 |nilS _ h=>rfl):P:=h
theorem mU{P:Prop}(h:P:=by
 have k1:p.kind≠1:=fun e=>fJ
 have k2:p.kind≠2:=fun e=>fJ
 simp[DK,Cs,CL,k1,k2]):P:=h
theorem mV{P:Prop}(h:P:=by
 have hname':¬fn.name= "runtime.NumGoroutine" :=ei
 simp[callFunc,hf,hname',hb]):P:=h
theorem mW{P:Prop}(h:P:=by
 intro n g a b _ _ ha hb;exact ws (k:=3) rfl rfl (ws (k:=3) rfl rfl rfl ha) hb):P:=h
theorem mX{P:Prop}(h:P:=by
 exact ⟨⟨2,fC⟩,(M.W Ay)⟩):P:=h
theorem mY{P:Prop}(h:P:=by
 have hx:¬a[m]=b[m]:=ek
 have e:¬a=b:=uu hm hm' hx;rw[decide_eq_false e];rfl):P:=h
theorem mZ{P:Prop}(h:P:=by
 first
  |exact Ai.refl _
  |(refine Ai.of_eq ?_;simp[zh,Ty.view,Tm.view];rfl)):P:=h
theorem m6{P:Prop}(h:P:=by
 intro c hc;simp only[Z4,aP,or_false] at hc;rcases hc with rfl|rfl<;>omega):P:=h
theorem m7{P:Prop}(h:P:=by
 cases hF;exact Ls (c:= .tm) Tm.wf T.h7 T.h8 ej n fun m _=>Za T.toDataT m):P:=h
theorem m8{P:Prop}(h:P:=by
 intro n g t s a b _ hs h1 _ ht ha hb;exact Sd rfl rfl (ws rfl rfl ha hb)):P:=h
theorem m9{P:Prop}(h:P:=by
 simp[execOp,ho,resolve,invoke,builtin,h]):P:=h
theorem ng{P:Prop}(h:P:=by
 rw[NX (a+v) s t hs 0 (s4 t ht),cast];rfl):P:=h
theorem ni{P:Prop}(h:P:=by
 simp only[DS] at h ⊢;rw[Od (hx x dZ)];simp only[ZL,ZG] at h ⊢
 grind):P:=h
theorem nj{P:Prop}(h:P:=by
 by_cases hi:i=n
 .subst hi;rw[hnew e h2] at h3;exact⟨_,hn,h3⟩
 grind):P:=h
theorem nq{P:Prop}(h:P:=by
 intro p hp;refine hf p ?_;simp[Bd,Tm.vars,Tm.CJ,up] at hp ⊢
 grind):P:=h
theorem nr{P:Prop}(h:P:=by
 refine M.F Tryz.func207 ?_;refine M.w0 ?_
 (exact M.n2 Ay (h8:=eM))):P:=h
theorem nv{P:Prop}(h:P:=by
 simp only[Fm.head,Fm.AA,Fm.Bk,Fm.AE,Fm.Ag,aI] at h1 ⊢;exact h1):P:=h
theorem dY{P:Prop}(h:P:=by omega):P:=h
theorem dZ{P:Prop}(h:P:=by simp):P:=h
theorem ei{P:Prop}(h:P:=by grind):P:=h
theorem ej{P:Prop}(h:P:=by decide):P:=h
theorem ek{P:Prop}(h:P:=by simpa using h):P:=h
theorem ew{P:Prop}(h:P:=by kernel_rfl):P:=h
theorem ez{P:Prop}(h:P:=by split<;>omega):P:=h
theorem eA{P:Prop}(h:P:=by simp[Op.operands,Call.operands]):P:=h
theorem eB{P:Prop}(h:P:=by simp;omega):P:=h
theorem eC{P:Prop}(h:P:=by rfl):P:=h
theorem eE{P:Prop}(h:P:=by cases h):P:=h
theorem eF{P:Prop}(h:P:=by with_unfolding_all rfl):P:=h
theorem eG{P:Prop}(h:P:=by simp[zh,V.wk,V.An,za,Ty.view,Tm.view,Pf.view]):P:=h
theorem eL{P:Prop}(h:P:=by simp[Aj.Aw,zp _ _ _ hm]):P:=h
theorem eM{P:Prop}(h:P:=by simp[zh,V.wk,V.An,za,Ty.view,Tm.view,V.B1]):P:=h
theorem eN{P:Prop}(h:P:=by decide+kernel):P:=h
theorem eO{P:Prop}(h:P:=by simp[Aj.Aw,ZM]):P:=h
theorem eP{P:Prop}(h:P:=by simp only[up];split<;>omega):P:=h
theorem eR{P:Prop}(h:P:=by intro j hj h;omega):P:=h
theorem eS{P:Prop}(h:P:=by simp_all):P:=h
theorem eT{P:Prop}(h:P:=by unfold Ap;split<;>(try split)<;>omega):P:=h
theorem eU{P:Prop}(h:P:=by simp at h;omega):P:=h
theorem eV{P:Prop}(h:P:=by unfold Ar;split<;>omega):P:=h
theorem eW{P:Prop}(h:P:=by unfold Au;split<;>omega):P:=h
theorem eY{P:Prop}(h:P:=by simp[zh,V.wk,V.An,za,Ty.view,Tm.view,Pf.view,BH]):P:=h
theorem eZ{P:Prop}(h:P:=by rw[hbe];simp[vq,<-hv]):P:=h
theorem fk{P:Prop}(h:P:=by unfold Dq;rw[n1]):P:=h
theorem fA{P:Prop}(h:P:=by assumption):P:=h
theorem fB{P:Prop}(h:P:=by simp[zh,V.wk,V.An,za,Ty.view,Tm.view,hc]):P:=h
theorem fC{P:Prop}(h:P:=by simp at h;simp[Ex,h]):P:=h
theorem fD{P:Prop}(h:P:=by simp[Aj.Aw,aA,aY]):P:=h
theorem fE{P:Prop}(h:P:=by rw[heq];simp_all):P:=h
theorem fF{P:Prop}(h:P:=by cases p;rfl):P:=h
theorem fG{P:Prop}(h:P:=by simpa using hj):P:=h
theorem fH{P:Prop}(h:P:=by rw[e];rfl):P:=h
theorem fI{P:Prop}(h:P:=by first|assumption|omega|(simp only[Ty.Ag,Tm.Ag,ZO,Z7,ZN,Z0];omega)|(simp at*;omega)|(simp;done)|contradiction):P:=h
theorem fJ{P:Prop}(h:P:=by rw[e] at n1;simp[BZ] at n1;rw[<-n1] at hi;cases hi):P:=h
theorem fK{P:Prop}(h:P:=by simp[zh,V.wk,V.An,za,Ty.view,Tm.view,hX1,ZE]):P:=h
theorem fL{P:Prop}(h:P:=by simp[zh,V.wk,V.An,za,Ty.view,Tm.view,hre]):P:=h
theorem fM{P:Prop}(h:P:=by simp only[AR];split<;>omega):P:=h
theorem fN{P:Prop}(h:P:=by simp[Aj.Aw,zp _ _ _ hm,ZE]):P:=h
theorem fO{P:Prop}(h:P:=by simp[Aj.Aw,ZX,Z2,ZY]):P:=h
theorem fP{P:Prop}(h:P:=by simp[Aj.Aw,ZX,Z5,ZY]):P:=h
theorem fQ{P:Prop}(h:P:=by simp[xn]):P:=h
theorem fS{P:Prop}(h:P:=by rw[HO] at hn;simp[uo,Tm.arg] at hn):P:=h
theorem fT{P:Prop}(h:P:=by simp only;omega):P:=h
theorem fU{P:Prop}(h:P:=by rw[wy,HM];grind):P:=h
theorem fV{P:Prop}(h:P:=by simpa using h0):P:=h
theorem fW{P:Prop}(h:P:=by simp[Gh.AK]):P:=h
theorem fX{P:Prop}(h:P:=by simp[Dj]):P:=h
theorem fY{P:Prop}(h:P:=by simp[he]):P:=h
theorem fZ{P:Prop}(h:P:=by simp[CU]):P:=h
theorem ga{P:Prop}(h:P:=by simp[zh,V.wk,V.An,za,Ty.view,Tm.view,ZE]):P:=h
theorem gh{P:Prop}(h:P:=by simp[Cf,Tm.full,Tm.Av];omega):P:=h
theorem gi{P:Prop}(h:P:=by simp[Tm.size,Tm.sizes];omega):P:=h
theorem gj{P:Prop}(h:P:=by rintro rfl;simp at h):P:=h
theorem gm{P:Prop}(h:P:=by rw[hcs.len];exact hl):P:=h
theorem gp{P:Prop}(h:P:=by simp only[bg];omega):P:=h
theorem gq{P:Prop}(h:P:=by simp[Tm.AD];omega):P:=h
theorem gr{P:Prop}(h:P:=by simp[ev,AF.get]):P:=h
theorem gu{P:Prop}(h:P:=by rw[Fm.AY];grind):P:=h
theorem gv{P:Prop}(h:P:=by simpa using ht):P:=h
theorem gz{P:Prop}(h:P:=by exact(M.W CI)):P:=h
theorem gA{P:Prop}(h:P:=by cases t;rfl):P:=h
theorem gB{P:Prop}(h:P:=by simp[zh,V.wk,V.An,za,Ty.view,Tm.view,Pf.view,x8]):P:=h
theorem gC{P:Prop}(h:P:=by simp[zh,V.wk,V.An,za,Ty.view,Tm.view,e,nT]):P:=h
theorem gD{P:Prop}(h:P:=by rw[hv];exact aD _ (ZZ.2 ⟨_,ZA hm,hp⟩)):P:=h
theorem gF{P:Prop}(h:P:=by simp only[ZX,bP,Z5,xl];exact(M.W AQ)):P:=h
theorem gG{P:Prop}(h:P:=by simpa[Ck.below] using hr.2):P:=h
theorem gH{P:Prop}(h:P:=by have:=Ll es;omega):P:=h
theorem gI{P:Prop}(h:P:=by simpa using h1):P:=h
theorem gJ{P:Prop}(h:P:=by cases c<;>rfl):P:=h
theorem gK{P:Prop}(h:P:=by simp[hb]):P:=h
theorem gL{P:Prop}(h:P:=by simp[t0]):P:=h
theorem gM{P:Prop}(h:P:=by simp[e]):P:=h
theorem gN{P:Prop}(h:P:=by simpa using hix (t.index,bl) (by rw[hv];simp[h])):P:=h
theorem gP{P:Prop}(h:P:=by simp[zh,V.wk,V.An,za,Ty.view,Tm.view,BK,Fm.view]):P:=h
theorem gQ{P:Prop}(h:P:=by rw[htm];exact aU _ (ZQ.2 ⟨_,ZA hm,rfl⟩)):P:=h
theorem gT{P:Prop}(h:P:=by simp[zh,V.wk,V.An,za,Ty.view,Tm.view,hs]):P:=h
theorem gU{P:Prop}(h:P:=by simp[zh,V.wk,V.An,za,Ty.view,Tm.view,e]):P:=h
theorem gV{P:Prop}(h:P:=by simp only[xn,Ty.size,Ty.sizes];omega):P:=h
theorem gW{P:Prop}(h:P:=by first|omega|(simp;omega)):P:=h
theorem gX{P:Prop}(h:P:=by simp only[SL.len];omega):P:=h
theorem gY{P:Prop}(h:P:=by simp only at hAok;omega):P:=h
theorem gZ{P:Prop}(h:P:=by simp[Ck.below];omega):P:=h
theorem g8{P:Prop}(h:P:=by simp at h ⊢;omega):P:=h
theorem g9{P:Prop}(h:P:=by simp[Fm.err,hs,hz]):P:=h
theorem hO{P:Prop}(h:P:=by simp[uo,Tm.arg,h4]):P:=h
theorem ic{P:Prop}(h:P:=by rw[hX1,hno rfl,ZY]):P:=h
theorem ig{P:Prop}(h:P:=by simp[Aj.Aw,hX1,ZE]):P:=h
theorem ij{P:Prop}(h:P:=by simp[Op.operands]):P:=h
theorem iq{P:Prop}(h:P:=by rw[aS];simp;omega):P:=h
theorem ir{P:Prop}(h:P:=by simp[Fm.AD];omega):P:=h
theorem iw{P:Prop}(h:P:=by have:=ss.2;omega):P:=h
theorem iy{P:Prop}(h:P:=by have:=s.Ac;omega):P:=h
theorem iz{P:Prop}(h:P:=by dsimp only;omega):P:=h
theorem iA{P:Prop}(h:P:=by unfold Au;omega):P:=h
theorem iB{P:Prop}(h:P:=by unfold Ap;omega):P:=h
theorem iC{P:Prop}(h:P:=by simp[Aj.Aw,ZE]):P:=h
theorem iD{P:Prop}(h:P:=by simp[A7.AB,e]):P:=h
theorem iE{P:Prop}(h:P:=by simp[Aj.Aw,e]):P:=h
theorem iF{P:Prop}(h:P:=by rw[vf];omega):P:=h
theorem iG{P:Prop}(h:P:=by simp[AR,hqk]):P:=h
theorem iH{P:Prop}(h:P:=by have:=(hq.map Prod.fst).nodup hnd0.2;rw[ZJ,aR] at this;exact this.2):P:=h
theorem iI{P:Prop}(h:P:=by have:=(hq.map Prod.fst).nodup hnd;rw[ZJ,aR] at this;exact this.2):P:=h
theorem iJ{P:Prop}(h:P:=by simp[Tm.full,Tm.Av,Ty.size,Ty.sizes,vT,zT,Dy,C6,FW,Bd,Lj]):P:=h
theorem iK{P:Prop}(h:P:=by simp[zh,V.wk,V.An,za,Ty.view,Tm.view,e,Dk.cells]):P:=h
theorem iL{P:Prop}(h:P:=by simp[zh,V.wk,V.An,za,Ty.view,Tm.view,Bv,Fm.view]):P:=h
theorem iM{P:Prop}(h:P:=by simp[zh,V.wk,V.An,za,Ty.view,Tm.view,CU,Fm.view]):P:=h
theorem iN{P:Prop}(h:P:=by first|exact vi .tm _|exact yk .tm _|exact QT _ _):P:=h
theorem iO{P:Prop}(h:P:=by first|exact vi .fm _|exact yk .fm _|exact Rl _ _):P:=h
theorem iP{P:Prop}(h:P:=by simp[zh,V.wk,V.An,za,Ty.view,Tm.view,hre,hk1']):P:=h
theorem iQ{P:Prop}(h:P:=by simp[Bd,Tm.full,Tm.Av,Ty.size,Ty.sizes];omega):P:=h
theorem iR{P:Prop}(h:P:=by simp[zh,V.wk,V.An,za,Ty.view,Tm.view,hre,hk]):P:=h
theorem iS{P:Prop}(h:P:=by rw[htm];exact aD _ (ZZ.2 ⟨_,ZA hm,hp⟩)):P:=h
theorem iT{P:Prop}(h:P:=by simp[zh,V.wk,V.An,za,Ty.view,Tm.view,htm]):P:=h
theorem iU{P:Prop}(h:P:=by simp[zh,V.wk,V.An,za,Ty.view,Tm.view,hv]):P:=h
theorem iV{P:Prop}(h:P:=by simp[vT,Tm.full,Tm.Av,Ty.size,Ty.sizes]):P:=h
theorem iW{P:Prop}(h:P:=by simp[Tm.full,Tm.Av,Ty.size,Ty.sizes]):P:=h
theorem iX{P:Prop}(h:P:=by have:=((Fm.Ad _).1 ex).2;omega):P:=h
theorem iY{P:Prop}(h:P:=by rw[hkd,kI];split<;>omega):P:=h
theorem iZ{P:Prop}(h:P:=by simp[Aj.Aw,e,Dk.cells]):P:=h
theorem ja{P:Prop}(h:P:=by rw[hl,h2.len,<-yp h1]):P:=h
theorem jb{P:Prop}(h:P:=by simp only[up];omega):P:=h
theorem jc{P:Prop}(h:P:=by rw[zm,if_pos rfl]):P:=h
theorem jd{P:Prop}(h:P:=by simp[Aj.Aw,up, *]):P:=h
theorem je{P:Prop}(h:P:=by have:=ht.2;omega):P:=h
theorem jf{P:Prop}(h:P:=by simp[Aj.Aw,e,Bd]):P:=h
theorem jg{P:Prop}(h:P:=by simp[Aj.Aw,e,nT]):P:=h
theorem jh{P:Prop}(h:P:=by have:=OC (Xs++p.terms.map ((A6 a) v)++p.Aa.map ((A8 a) (v+Au p.kind))) (Pf.AN (A6 a) (A8 a) v (Ap p.kind) p.args) m (by rw[Jb];exact hm);rw[Jr _ _ _ _ _ _ hm] at this;simpa only[ZE] using this):P:=h
theorem ji{P:Prop}(h:P:=by have:=PO (Xs++p.terms.map ((A6 a) v)) ((Pf.AN (A6 a) (A8 a) v (Ap p.kind) p.args).flatten) p.Aa ((A8 a) (v+Au p.kind)) m hm;simpa only[ZE] using this):P:=h
theorem jj{P:Prop}(h:P:=by have:=PO Xs (p.Aa.map ((A8 a) (v+Au p.kind))++(Pf.AN (A6 a) (A8 a) v (Ap p.kind) p.args).flatten) p.terms ((A6 a) v) m hm;simpa only[ZE] using this):P:=h
theorem jk{P:Prop}(h:P:=by have h9:=(OC X1 (Pf.AO (Cs a) y (Ar p.kind) p.args) m (by rw[vk];exact hm)).length_le;rw[uj _ _ _ _ _ hm] at h9;rw[hX1] at h9 ⊢;omega):P:=h
theorem jl{P:Prop}(h:P:=by simp only[execOp,h7,hrun,Sem.run_bind,Result.andThen_ok,Sem.run_pure,Sem.run_map]):P:=h
theorem jm{P:Prop}(h:P:=by rw[ZE,KP (fun(_:Int) (t:Tm)=>t.near) (fun(_:Int) (f:Fm)=>f.near) hm]):P:=h
theorem jo{P:Prop}(h:P:=by simp only[hsh,hn,hn',un Ty.shape t.args fun j hj=>hP j hj hj];simp):P:=h
theorem jq{P:Prop}(h:P:=by simp only[hsh,hd,un Tm.shape t.args fun j hj=>hP j hj hj];simp):P:=h
theorem jr{P:Prop}(h:P:=by rw[Tm.Ak,ZC] at hs;have:=hs.1;simp[Tm.head,wl] at this;grind):P:=h
theorem js{P:Prop}(h:P:=by simp[Tm.full,Tm.Av,Ty.size,Ty.sizes,vT,zT,Dy,C6,FW,Bd]):P:=h
theorem jt{P:Prop}(h:P:=by simp[Tm.full,Tm.Av,Ty.size,Ty.sizes,vT,sT,Dy,Jo,FW]):P:=h
theorem ju{P:Prop}(h:P:=by simp[execOp,ho,Instr.loadAt,Instr.sureAddr,hv,h2]):P:=h
theorem jv{P:Prop}(h:P:=by obtain⟨t,ht,rfl⟩:=ZQ.1 hq;simp only[A6];omega):P:=h
theorem jw{P:Prop}(h:P:=by obtain⟨t,ht,rfl⟩:=ZQ.1 hq;simp only[A8];omega):P:=h
theorem jx{P:Prop}(h:P:=by rw[show(f0,u0,(0:Int)).1=f0 from rfl,e];simp[BK]):P:=h
theorem jy{P:Prop}(h:P:=by simp[zh,V.wk,V.An,za,Ty.view,Tm.view,xt,h',h0']):P:=h
theorem jz{P:Prop}(h:P:=by simp[zh,V.wk,V.An,za,Ty.view,Tm.view,aH,bE,h1]):P:=h
theorem jA{P:Prop}(h:P:=by intro x hx;simp[Op.operands,Call.operands,hx]):P:=h
theorem jB{P:Prop}(h:P:=by simp[zh,V.wk,V.An,za,Ty.view,Tm.view,J2,this]):P:=h
theorem jC{P:Prop}(h:P:=by simp[Tm.full,Tm.Av,Ty.size,Ty.sizes,vT,sT,Dy]):P:=h
theorem jD{P:Prop}(h:P:=by simp[nT,Tm.full,Tm.Av,Ty.size,Ty.sizes];omega):P:=h
theorem jE{P:Prop}(h:P:=by simp[zh,V.wk,V.An,za,Ty.view,Tm.view,Fm.view]):P:=h
theorem jF{P:Prop}(h:P:=by simp[zh,V.wk,V.An,za,Ty.view,Tm.view,z8,h']):P:=h
theorem jG{P:Prop}(h:P:=by rw[htm];exact aD _ (ZZ.2 ⟨_,ZA hm,hp'⟩)):P:=h
theorem jH{P:Prop}(h:P:=by simp[zh,V.wk,V.An,za,Ty.view,Tm.view,IY,h']):P:=h
theorem jI{P:Prop}(h:P:=by simp[zh,V.wk,V.An,za,Ty.view,Tm.view,aH,bE]):P:=h
theorem jJ{P:Prop}(h:P:=by intro p hp;simp only[Op.operands,ZQ];grind):P:=h
theorem jK{P:Prop}(h:P:=by first|exact trivial|exact⟨rfl,trivial⟩):P:=h
theorem jL{P:Prop}(h:P:=by simp[zh,V.wk,V.An,za,Ty.view,Tm.view,FE,h]):P:=h
theorem jM{P:Prop}(h:P:=by simp[Tm.full,Tm.Av,Ty.size,Ty.sizes,vT,sT]):P:=h
theorem jN{P:Prop}(h:P:=by simp[zh,V.wk,V.An,za,Ty.view,Tm.view,e,Bd]):P:=h
theorem jO{P:Prop}(h:P:=by simp[zh,V.wk,V.An,za,Ty.view,Tm.view,OX,h]):P:=h
theorem jP{P:Prop}(h:P:=by simp[execOp,ho,eqGuard,hvx,hvy,binOp,he]):P:=h
theorem jQ{P:Prop}(h:P:=by simp[zh,V.wk,V.An,za,Ty.view,Tm.view,h1]):P:=h
theorem jR{P:Prop}(h:P:=by simp[zh,V.wk,V.An,za,Ty.view,Tm.view,Z7]):P:=h
theorem jS{P:Prop}(h:P:=by simp[zh,V.wk,V.An,za,Ty.view,Tm.view,vx]):P:=h
theorem jT{P:Prop}(h:P:=by simp[zh,V.wk,V.An,za,Ty.view,Tm.view,xl]):P:=h
theorem jU{P:Prop}(h:P:=by unfold Pf.Hr;rw[hnd];simp only[hty];rfl):P:=h
theorem jV{P:Prop}(h:P:=by simp[execOp,ho,eqGuard,h1,h2,binOp,he]):P:=h
theorem jW{P:Prop}(h:P:=by intro x hx;simpa[Op.operands] using hx):P:=h
theorem jX{P:Prop}(h:P:=by show(l[q/c.cells]?).map c.view=_;grind):P:=h
inductive Ty where
 |mk (kind:Int) (args:List Ty)
def Ty.kind:Ty->Int| .mk k _=>k
def Ty.args:Ty->List Ty| .mk _ as=>as
inductive Tm where
 |mk (kind index:Int) (ty:Ty) (args:List Tm)
def Tm.kind:Tm->Int| .mk k _ _ _=>k
def Tm.index:Tm->Int| .mk _ i _ _=>i
def Tm.ty:Tm->Ty| .mk _ _ t _=>t
def Tm.args:Tm->List Tm| .mk _ _ _ as=>as
inductive Vl where
 |mk (kind num:Int) (list:List Int) (args:List Vl)
def Vl.kind:Vl->Int| .mk k _ _ _=>k
def Vl.num:Vl->Int| .mk _ n _ _=>n
def Vl.list:Vl->List Int| .mk _ _ l _=>l
def Vl.args:Vl->List Vl| .mk _ _ _ as=>as
inductive Fm where
 |mk (kind:Int) (ty:Ty) (terms:List Tm) (args:List Fm)
def Fm.kind:Fm->Int| .mk k _ _ _=>k
def Fm.ty:Fm->Ty| .mk _ t _ _=>t
def Fm.terms:Fm->List Tm| .mk _ _ ts _=>ts
def Fm.args:Fm->List Fm| .mk _ _ _ as=>as
inductive Pf where
 |mk (kind index:Int) (ty:Ty) (terms:List Tm) (Aa:List Fm) (args:List Pf)
def Pf.kind:Pf->Int| .mk k _ _ _ _ _=>k
def Pf.index:Pf->Int| .mk _ i _ _ _ _=>i
def Pf.ty:Pf->Ty| .mk _ _ t _ _ _=>t
def Pf.terms:Pf->List Tm| .mk _ _ _ ts _ _=>ts
def Pf.Aa:Pf->List Fm| .mk _ _ _ _ fs _=>fs
def Pf.args:Pf->List Pf| .mk _ _ _ _ _ as=>as
structure Sq where
 types:List Ty
 hyps:List Fm
structure Gl where
 sq:Sq
 fm:Fm
structure St where
 kind:Int
 index:Int
 terms:List Tm
 Aa:List Fm
structure Sz where
 ty:Ty
 nodes:Int
inductive E8 where
 |mk (num:Int) (list:List Int) (pair:List E8) (body:Tm) (env:List E8)
def E8.num:E8->Int| .mk n _ _ _ _=>n
def E8.list:E8->List Int| .mk _ l _ _ _=>l
def E8.pair:E8->List E8| .mk _ _ p _ _=>p
def E8.body:E8->Tm| .mk _ _ _ b _=>b
def E8.env:E8->List E8| .mk _ _ _ _ e=>e
structure Tk where
 kind:Int
 num:Int
 pos:Int
 text:ByteArray
inductive EC where
 |int|u8|str|ty|tm|vl|fm|pf|gl|st|sz|tk|tys|AZ|bl|rs
 deriving DecidableEq
abbrev EC.sem:EC->Type
 | .int=>Int| .u8=>Int| .str=>ByteArray| .ty=>Ty| .tm=>Tm| .vl=>Vl| .fm=>Fm| .pf=>Pf| .gl=>Gl| .st=>St| .sz=>Sz| .tk=>Tk
 | .tys=>List Ty| .AZ=>List Tm| .bl=>Bool| .rs=>E8
def EC.cells:EC->Nat
 | .int=>1| .u8=>1| .str=>1| .ty=>2| .tm=>5| .vl=>4| .fm=>5| .pf=>7| .gl=>7| .st=>4| .sz=>3| .tk=>4
 | .tys=>1| .AZ=>1| .bl=>1| .rs=>9
inductive Sp where
 |any|full|nil|own (r:Nat)
inductive SL (V:Type) where
 |t (c:EC) (xs:List c.sem)
 |u (sz:Nat) (xs:List (List V))
inductive V where
 |int (k:IntKind) (n:Int)
 |bool (b:Bool)
 |str (s:ByteArray)
 |agg (cs:List V)
 |AM (vs:List V)
 |nil
 |slice (sp:Sp) (l:SL V)
 |addr (cs:List V)
 |ptr (n off:Nat)
 |arr (n len sz:Nat)
 |mp (n:Nat)
 |nilp
 |fn (f:Fn) (fi caps:List V)
 |nilf
 |raw (v:Value)
 |ifc (t:TypeId) (cs:List V)
instance:Inhabited V:=⟨.nilf⟩
abbrev V.i(n:Int):V:= .int .i64 n
abbrev V.s(c:EC)(xs:List c.sem):V:= .slice .any (.t c xs)
def Ty.view(t:Ty):List V:=[.i t.kind,.s .ty t.args]
def Tm.view(t:Tm):List V:=[.i t.kind,.i t.index,.i t.ty.kind,.s .ty t.ty.args,.s .tm t.args]
def Vl.view(v:Vl):List V:=[.i v.kind,.i v.num,.s .int v.list,.s .vl v.args]
def Fm.view(f:Fm):List V:=[.i f.kind,.i f.ty.kind,.s .ty f.ty.args,.s .tm f.terms,.s .fm f.args]
def Pf.view(p:Pf):List V:=[.i p.kind,.i p.index,.i p.ty.kind,.s .ty p.ty.args,.s .tm p.terms,.s .fm p.Aa,.s .pf p.args]
def Gl.view(g:Gl):List V:=[.s .ty g.sq.types,.s .fm g.sq.hyps,.i g.fm.kind,.i g.fm.ty.kind,.s .ty g.fm.ty.args,.s .tm g.fm.terms,.s .fm g.fm.args]
def St.view(s:St):List V:=[.i s.kind,.i s.index,.s .tm s.terms,.s .fm s.Aa]
def Sz.view(s:Sz):List V:=[.i s.ty.kind,.s .ty s.ty.args,.i s.nodes]
def Tk.view(t:Tk):List V:=[.i t.kind,.i t.num,.i t.pos,.str t.text]
def E8.view(r:E8):List V:=[.i r.num,.s .int r.list,.s .rs r.pair,.i r.body.kind,.i r.body.index,.i r.body.ty.kind,.s .ty r.body.ty.args,.s .tm r.body.args,.s .rs r.env]
def EC.view:(c:EC)->c.sem->List V
 | .int,n=>[.i n]| .u8,n=>[.int .u8 n]| .str,s=>[.str s]| .ty,t=>Ty.view t| .tm,t=>Tm.view t| .vl,v=>Vl.view v| .fm,f=>Fm.view f| .pf,p=>Pf.view p
 | .gl,g=>Gl.view g| .st,s=>St.view s| .sz,s=>Sz.view s| .tk,t=>Tk.view t
 | .tys,l=>[.s .ty l]| .AZ,l=>[.s .tm l]| .bl,b=>[.bool b]| .rs,r=>E8.view r
theorem EC.Bg(c:EC)(x:c.sem):(c.view x).length=c.cells:=gJ
def Ho(c:EC)(x:c.sem):V:=match c.view x with|[v]=>v|cs=> .agg cs
def EC.fold:(c:EC)->List V->Option c.sem
 | .int,[.int .i64 n]=>some n
 | .u8,[.int .u8 n]=>some n
 | .str,[.str s]=>some s
 | .ty,[.int .i64 k,.slice _ (.t .ty as)]=>some (Ty.mk k as)
 | .tm,[.int .i64 k,.int .i64 i,.int .i64 hk,.slice _ (.t .ty hs),.slice _ (.t .tm as)]=>some (Tm.mk k i (.mk hk hs) as)
 | .vl,[.int .i64 k,.int .i64 n,.slice _ (.t .int l),.slice _ (.t .vl as)]=>some (Vl.mk k n l as)
 | .fm,[.int .i64 k,.int .i64 hk,.slice _ (.t .ty hs),.slice _ (.t .tm ts),.slice _ (.t .fm as)]=>some (Fm.mk k (.mk hk hs) ts as)
 | .pf,[.int .i64 k,.int .i64 i,.int .i64 hk,.slice _ (.t .ty hs),.slice _ (.t .tm ts),.slice _ (.t .fm fs),.slice _ (.t .pf as)]=>some (Pf.mk k i (.mk hk hs) ts fs as)
 | .gl,[.slice _ (.t .ty ts),.slice _ (.t .fm fs),.int .i64 k,.int .i64 hk,.slice _ (.t .ty hs),.slice _ (.t .tm us),.slice _ (.t .fm as)]=>some ⟨⟨ts,fs⟩,Fm.mk k (.mk hk hs) us as⟩
 | .st,[.int .i64 k,.int .i64 i,.slice _ (.t .tm ts),.slice _ (.t .fm fs)]=>some ⟨k,i,ts,fs⟩
 | .sz,[.int .i64 k,.slice _ (.t .ty as),.int .i64 n]=>some ⟨Ty.mk k as,n⟩
 | .tk,[.int .i64 k,.int .i64 n,.int .i64 p,.str s]=>some ⟨k,n,p,s⟩
 | .tys,[.slice _ (.t .ty l)]=>some l
 | .AZ,[.slice _ (.t .tm l)]=>some l
 | .bl,[.bool b]=>some b
 | .rs,[.int .i64 n,.slice _ (.t .int l),.slice _ (.t .rs ps),.int .i64 k,.int .i64 i,.int .i64 hk,.slice _ (.t .ty hs),.slice _ (.t .tm as),.slice _ (.t .rs es)]=>some (E8.mk n l ps (Tm.mk k i (.mk hk hs) as) es)
 |_,_=>none
def V.weak:V->V
 | .slice _ l=> .slice .any l
 |v=>v
theorem EC.Hy(c:EC)(cs:List V)(x:c.sem)(h:c.fold cs=some x):c.view x=cs.map V.weak:=by
 unfold EC.fold at h;split at h<;>first|(cases h;rfl)|cases h
def SL.len{V:Type}:SL V->Nat| .t _ xs=>xs.length| .u _ xs=>xs.length
def SL.cells{V:Type}:SL V->Nat| .t c _=>c.cells| .u s _=>s
def SL.get(l:SL V)(i:Nat):Option (List V):=match l with| .t c xs=>(xs[i]?).map c.view| .u _ xs=>xs[i]?
end Go.Ab
namespace Go.Ab
open Go
set_option linter.unusedSimpArgs false
set_option linter.unusedVariables false
structure EL where
 b:Nat
 len:Nat
 cap:Nat
 sz:Nat
 off:Nat
structure Gh where
 blk:Nat->Nat
 row:Nat->Option EL
 m:Nat->Nat
inductive A4 (m:Nat->Nat) (w:World):Value->V->Prop
 |int (k n):A4 m w (.int k n) (.int k n)
 |bool (b):A4 m w (.bool b) (.bool b)
 |str (s):A4 m w (.string s) (.str s)
 |nilS (l:SL V) (h:l.len=0):A4 m w (.slice none 0 0) (.slice .any l)
 |emp (l:SL V) (h:l.len=0) (a:Addr) (cap:Nat):A4 m w (.slice (some a) 0 cap) (.slice .any l)
 |slice (l:SL V) (b off cap:Nat) (f:Nat->Nat->Value) (hm:off+l.len*l.cells<=m b) (hcap:l.len<=cap)
  (hl:∀i,i<l.len->∃cs,l.get i=some cs/\cs.length=l.cells)
  (hc:∀i j,i<l.len->j<l.cells->w.cell? ⟨b,off+(i*l.cells+j),none⟩=some (f i j))
  (hr:∀i j cs c,i<l.len->l.get i=some cs->cs[j]? =some c->A4 m w (f i j) c):
  A4 m w (.slice (some ⟨b,off,none⟩) l.len cap) (.slice .any l)
 |ifc (t:TypeId) (vs:List Value) (cs:List V) (hl:vs.length=cs.length) (h1:∀v∈vs,v.oneCell'=true)
  (h:∀(i:Nat) v c,vs[i]? =some v->cs[i]? =some c->A4 m w v c):A4 m w (.iface t (.agg vs.toArray)) (.ifc t cs)
def Qr:Option EL->Nat->Nat->Value->Prop
 |none,n,_,v=>(v= .slice none 0 0\/∃a,v= .slice (some a) 0 0)/\n=0
 |some ρ,n,sz,v=>v= .slice (some ⟨ρ.b,ρ.off,none⟩) ρ.len ρ.cap/\n=ρ.len/\sz=ρ.sz
inductive Al (g:Gh) (D:Nat->Prop) (w:World):Value->V->Prop
 |data {v c} (h:A4 g.m w v c):Al g D w v c
 |agg (vs:List Value) (cs:List V) (hl:vs.length=cs.length) (h1:∀v∈vs,v.oneCell'=true)
  (h:∀(i:Nat) v c,vs[i]? =some v->cs[i]? =some c->Al g D w v c):Al g D w (.agg vs.toArray) (.agg cs)
 |AM (vs:List Value) (cs:List V) (hl:vs.length=cs.length)
  (h:∀(i:Nat) v c,vs[i]? =some v->cs[i]? =some c->Al g D w v c):Al g D w (.tuple vs.toArray) (.AM cs)
 |nil:Al g D w (.slice none 0 0) .nil
 |fullNil (l:SL V) (h:l.len=0):Al g D w (.slice none 0 0) (.slice .full l)
 |nilS (l:SL V) (h:l.len=0):Al g D w (.slice none 0 0) (.slice .nil l)
 |full (a:Addr) (n:Nat) (l:SL V) (h:A4 g.m w (.slice (some a) n n) (.slice .any l)):Al g D w (.slice (some a) n n) (.slice .full l)
 |own (r:Nat) (hr:D r) (v:Value) (l:SL V) (h:Qr (g.row r) l.len l.cells v) (hd:A4 g.m w v (.slice .any l)):Al g D w v (.slice (.own r) l)
 |addr (b off:Nat) (cs:List V) (f:Nat->Value) (hm:off+cs.length<=g.m b)
  (hc:∀j,j<cs.length->w.cell? ⟨b,off+j,none⟩=some (f j)) (hr:∀(j:Nat) c,cs[j]? =some c->A4 g.m w (f j) c):
  Al g D w (.pointer (some ⟨b,off,none⟩)) (.addr cs)
 |ptr (n off:Nat) (hn:D n):Al g D w (.pointer (some ⟨g.blk n,off,none⟩)) (.ptr n off)
 |arr (n len sz cap:Nat) (hn:D n) (hcap:len<=cap) (hrow:g.row n=some ⟨g.blk n,0,cap,sz,0⟩):Al g D w (.slice (some ⟨g.blk n,0,none⟩) len cap) (.arr n len sz)
 |mp (n:Nat) (hn:D n):Al g D w (.map (some (g.blk n))) (.mp n)
 |nilp:Al g D w (.pointer none) .nilp
 |fn (f:Fn) (fi caps:List Value) (fi' caps':List V) (hl:fi.length=fi'.length) (hl':caps.length=caps'.length)
  (h:∀(i:Nat) v c,fi[i]? =some v->fi'[i]? =some c->Al g D w v c)
  (h':∀(i:Nat) v c,caps[i]? =some v->caps'[i]? =some c->Al g D w v c):Al g D w (.func f fi.toArray caps.toArray) (.fn f fi' caps')
 |nilf:Al g D w .nilFunc .nilf
 |raw (v:Value):Al g D w v (.raw v)
inductive A7 where
 |var (cs:List V)
 |map (c:EC) (ks:List Int) (xs:List c.sem)
 |row
 |gone
abbrev Es:=List (Nat×A7)
def zg:Es->Nat->Option A7
 |[],_=>none
 |p::l,n=>bif Nat.beq p.1 n then some p.2 else zg l n
theorem Q0{n n':Nat}(h:¬n=n'):Nat.beq n n'=false:=by
 cases hb:Nat.beq n n'<;>simp_all
theorem zm(m:Nat)(e:A7)(es:Es)(n:Nat):zg ((m,e)::es) n=if m=n then some e else zg es n:=by
 show(bif Nat.beq m n then some e else zg es n)=_;simp
def A7.AB(g:Gh)(n:Nat):A7->Option Nat
 | .var _=>some (g.blk n)
 | .map _ _ _=>some (g.blk n)
 | .row=>(g.row n).map EL.b
 | .gone=>none
def Aq(g:Gh)(es:Es)(b:Nat):Prop:=∃n e,zg es n=some e/\e.AB g n=some b
def Ea(es:List MapEntry)(clock:Nat):Prop:=(∀x∈es,x.born<clock)/\(es.map (·.born)).Nodup
def GC(g:Gh)(D:Nat->Prop)(w:World)(n:Nat):A7->Prop
 | .var cs=>g.m (g.blk n)=0/\∃(vs:List Value) (t:TypeId),w.heap[g.blk n]? =some (.cells vs.toArray t (0,0))/\cs.length<=vs.length/\
  (∀v∈vs,v.oneCell'=true)/\(∀(i:Nat) v c,vs[i]? =some v->cs[i]? =some c->Al g D w v c)/\∀ρ,g.row n=some ρ->vs.length=ρ.cap*ρ.sz
 | .map c ks xs=>g.m (g.blk n)=0/\∃(es:List MapEntry) (clock:Nat),w.heap[g.blk n]? =some (.map es.toArray clock)/\(es.length=xs.length/\Ea es clock)/\ks.length=xs.length/\
  (∀(i:Nat) e k,es[i]? =some e->ks[i]? =some k->e.key= .int .i64 k)/\∀(i:Nat) e x,es[i]? =some e->xs[i]? =some x->Al g D w e.val (Ho c x)
 | .row=>∀ρ,g.row n=some ρ->∃(cur:Array Value) (t:TypeId),w.heap[ρ.b]? =some (.cells cur t (0,0))/\cur.size=ρ.off+ρ.cap*ρ.sz/\g.m ρ.b=ρ.off+ρ.len*ρ.sz/\ρ.len<=ρ.cap
 | .gone=>True
abbrev DR:=List (Nat×List V)
structure R (G:DR) (g:Gh) (D:Nat->Prop) (es:Es) (w:World):Prop where
 lt:∀n e,zg es n=some e->D n
 A9:∀n n' e e' b,zg es n=some e->zg es n'=some e'->e.AB g n=some b->e'.AB g n'=some b->n=n'
 BT:∀n e,zg es n=some e->GC g D w n e
 fresh:∀b,w.heap.size<=b->g.m b=0
 Fp:∀p∈G,p.2.length<=g.m p.1/\∀(j:Nat) c,p.2[j]? =some c->∃v,w.cell? ⟨p.1,j,none⟩=some v/\A4 g.m w v c
structure Ext (D:Nat->Prop) (g:Gh) (F:Nat->Prop) (w:World) (g':Gh) (F':Nat->Prop) (w':World):Prop where
 os:w'.os=w.os
 tape:w'.tape=w.tape
 output:w'.output=w.output
 size:w.heap.size<=w'.heap.size
 cells:∀b o,o<g.m b->w'.cell? ⟨b,o,none⟩=w.cell? ⟨b,o,none⟩
 mark:∀b,g.m b<=g'.m b
 blk:∀n,D n->g'.blk n=g.blk n
 row:∀n,D n->g'.row n=g.row n
 frame:∀b,b<w.heap.size->¬F b->w'.heap[b]? =w.heap[b]? /\g'.m b=g.m b
 CM:∀b,F' b->F b\/w.heap.size<=b
theorem Ext.refl(D:Nat->Prop)(g:Gh)(F:Nat->Prop)(w:World):Ext D g F w g F w:=
 ⟨rfl,rfl,rfl,ZB _,fun _ _ _=>rfl,fun _=>ZB _,fun _ _=>rfl,fun _ _=>rfl,fun _ _ _=>⟨rfl,rfl⟩,fun _ h=> .inl h⟩
theorem Ext.trans{D:Nat->Prop}{g g' g'':Gh}{F F' F'':Nat->Prop}{w w' w'':World}(h:Ext D g F w g' F' w')(h':Ext D g' F' w' g'' F'' w''):Ext D g F w g'' F'' w'' where
 os:=h'.os.trans h.os
 tape:=h'.tape.trans h.tape
 output:=h'.output.trans h.output
 size:=ay h.size h'.size
 cells b o ho:=(h'.cells b o (bQ ho (h.mark b))).trans (h.cells b o ho)
 mark b:=ay (h.mark b) (h'.mark b)
 blk n hn:=(h'.blk n hn).trans (h.blk n hn)
 row n hn:=(h'.row n hn).trans (h.row n hn)
 frame b hb hF:=by
  have h1:=h.frame b hb hF;have h2:=h'.frame b (bQ hb h.size) (fun hm=>by
   rcases h.CM b hm with hf|hf;all_goals grind)
  grind
 CM b hb:=by
  rcases h'.CM b hb with hf|hf
  .exact h.CM b hf
  .exact .inr (ay h.size hf)
theorem Ext.mono{D D':Nat->Prop}{g g':Gh}{F F':Nat->Prop}{w w':World}(h:Ext D g F w g' F' w')(hk:∀n,D' n->D n):Ext D' g F w g' F' w':=
 {h with blk:=fun n hn=>h.blk n (hk n hn),row:=fun n hn=>h.row n (hk n hn)}
theorem Ext.wider{D:Nat->Prop}{g g':Gh}{F F' F1 F1':Nat->Prop}{w w':World}(h:Ext D g F w g' F' w')(hF:∀b,F b->F1 b)(hF':∀b,F1' b->F' b\/F1 b):Ext D g F1 w g' F1' w':=
 {h with
  frame:=fun b hb hn=>h.frame b hb (fun hm=>hn (hF b hm))
  CM:=fun b hb=>by
   rcases hF' b hb with h1|h1
   .exact (h.CM b h1).imp (hF b) id
   grind}
theorem NM{i n j c:Nat}(hi:i<n)(hj:j<c):i*c+j<n*c:=
 calc i*c+j<i*c+c:=dY
  _=(i+1)*c:=ei
  _<=n*c:=aL _ hi
theorem A4.mono{m m':Nat->Nat}{w w':World}{v:Value}{c:V}(h:A4 m w v c)(hm:∀b,m b<=m' b)
 (hw:∀b o,o<m b->w'.cell? ⟨b,o,none⟩=w.cell? ⟨b,o,none⟩):A4 m' w' v c:=by
 induction h with
 |int k n=>exact .int k n
 |bool b=>exact .bool b
 |str s=>exact .str s
 |nilS l h=>exact .nilS l h
 |emp l h a cap=>exact .emp l h a cap
 |slice l b off cap f hm1 hcap hl hc _ ih=>
  exact .slice l b off cap f (ay hm1 (hm b)) hcap hl
   (fun i j hi hj=>(hw b _ (by have:=NM hi hj;omega)).trans (hc i j hi hj)) ih
 |ifc t vs cs hl h1 _ ih=>exact .ifc t vs cs hl h1 ih
theorem Al.mono{g g':Gh}{D D':Nat->Prop}{w w':World}{v:Value}{c:V}(h:Al g D w v c)(hm:∀b,g.m b<=g'.m b)
 (hw:∀b o,o<g.m b->w'.cell? ⟨b,o,none⟩=w.cell? ⟨b,o,none⟩) (hn:∀n,D n->D' n) (hb:∀n,D n->g'.blk n=g.blk n)
 (hr:∀n,D n->g'.row n=g.row n):Al g' D' w' v c:=by
 induction h with
 |data h=>exact .data (h.mono hm hw)
 |agg vs cs hl h1 _ ih=>exact .agg vs cs hl h1 ih
 |AM vs cs hl _ ih=>exact .AM vs cs hl ih
 |nil=>exact .nil
 |fullNil l h=>exact .fullNil l h
 |nilS l h=>exact .nilS l h
 |full a n l h=>exact .full a n l (h.mono hm hw)
 |own r hr' v l h hd=>exact .own r (hn r hr') v l ei (hd.mono hm hw)
 |addr b off cs f h1 hc h2=>
  exact .addr b off cs f (ay h1 (hm b)) (fun j hj=>(hw b _ dY).trans (hc j hj)) (fun j c hj=>(h2 j c hj).mono hm hw)
 |ptr n off h=>rw[<-hb n h];exact .ptr n off (hn n h)
 |arr n len sz cap h hc hr'=>rw[<-hb n h];exact .arr n len sz cap (hn n h) hc ei
 |mp n h=>rw[<-hb n h];exact .mp n (hn n h)
 |nilp=>exact .nilp
 |fn f fi caps fi' caps' hl hl' _ _ ih ih'=>exact .fn f fi caps fi' caps' hl hl' ih ih'
 |nilf=>exact .nilf
 |raw v=>exact .raw v
theorem Al.ext{D D':Nat->Prop}{g g':Gh}{F F':Nat->Prop}{w w':World}{v:Value}{c:V}(h:Al g D w v c)(e:Ext D g F w g' F' w')(hn:∀n,D n->D' n):Al g' D' w' v c:=
 h.mono e.mark e.cells hn e.blk e.row
def Dz:List (Option Nat)->Nat->Option (Option Nat)
 |[],_=>none
 |x::_,0=>some x
 |_::l,n+1=>Dz l n
theorem ut{ρ:List (Option Nat)}:∀{n x},Dz ρ n=some x->n<ρ.length:=by
 induction ρ with
 |nil=>intro n x h;cases h
 |cons y l ih=>
  intro n x h;cases n with
  |zero=>simp
  |succ n=>have:=ih h;grind
def CF(ρ:List (Option Nat))(n:Nat):Option Nat:=match Dz ρ n with|some (some m)=>some m|_=>none
theorem uh{ρ:List (Option Nat)}{n m:Nat}(h:CF ρ n=some m):Dz ρ n=some (some m):=by
 unfold CF at h;grind
mutual
def ww(ρ:List (Option Nat)):V->Option V
 | .int k n=>some (.int k n)
 | .bool b=>some (.bool b)
 | .str s=>some (.str s)
 | .agg cs=>(xu ρ cs).map .agg
 | .AM cs=>(xu ρ cs).map .AM
 | .nil=>some .nil
 | .slice sp l=>match sp with
   | .any=>some (.slice .any l)
   | .full=>some (.slice .full l)
   | .nil=>some (.slice .nil l)
   | .own r=>match Dz ρ r with
     |some (some r')=>some (.slice (.own r') l)
     |some none=>some (.slice .nil l)
     |none=>none
 | .addr cs=>some (.addr cs)
 | .ptr n off=>(CF ρ n).map fun n'=> .ptr n' off
 | .arr n len sz=>(CF ρ n).map fun n'=> .arr n' len sz
 | .mp n=>(CF ρ n).map .mp
 | .nilp=>some .nilp
 | .fn f fi caps=>(xu ρ fi).bind fun fi'=>(xu ρ caps).map fun caps'=> .fn f fi' caps'
 | .nilf=>some .nilf
 | .raw v=>some (.raw v)
 | .ifc t cs=>some (.ifc t cs)
def xu(ρ:List (Option Nat)):List V->Option (List V)
 |[]=>some []
 |c::cs=>(ww ρ c).bind fun c'=>(xu ρ cs).map fun cs'=>c'::cs'
end
theorem ux{w:World}{b:Nat}{vs:Array Value}{t:TypeId}{fr:Nat×Nat}(h:w.heap[b]? =some (.cells vs t fr))(j:Nat):w.cell? ⟨b,j,none⟩=vs[j]? :=
 cell_of_row w b j vs t fr h
theorem yp{ρ:List (Option Nat)}:∀{cs' cs:List V},xu ρ cs'=some cs->cs'.length=cs.length:=by
 intro cs';induction cs' with
 |nil=>intro cs h;simp[xu] at h;grind
 |cons c l ih=>
  intro cs h;simp only[xu,ZL,ZG] at h
  grind
theorem wj{ρ:List (Option Nat)}:∀{cs' cs:List V},xu ρ cs'=some cs->∀(i:Nat) c' c,cs'[i]? =some c'->cs[i]? =some c->ww ρ c'=some c:=by
 intro cs';induction cs' with
 |nil=>simp
 |cons x l ih=>
  intro cs h i c' c h1 h2;simp only[xu,ZL,ZG] at h
  grind
theorem Ax{α β:Type}{l:List α}{l':List β}(h:l.length=l'.length){i:Nat}{x:α}(hx:l[i]? =some x):∃y,l'[i]? =some y:=by
 have:=(ZT.1 hx).1;simp_all
theorem Vs{ρ:List (Option Nat)}{sp:Sp}{l:SL V}{c:V}(h:ww ρ (.slice sp l)=some c):
 (sp= .any/\c= .slice .any l)\/(sp= .full/\c= .slice .full l)\/(sp= .nil/\c= .slice .nil l)\/
 (∃r r',sp= .own r/\Dz ρ r=some (some r')/\c= .slice (.own r') l)\/(∃r,sp= .own r/\Dz ρ r=some none/\c= .slice .nil l):=by
 cases sp with
 |any=>simp only[ww,ZI] at h;grind
 |full=>simp only[ww,ZI] at h;grind
 |nil=>simp only[ww,ZI] at h;grind
 |own r=>
  simp only[ww] at h
  grind
theorem Al.FN{ρ:List (Option Nat)}{g g2:Gh}{D:Nat->Prop}{w:World}{v:Value}{c:V}(h:Al g D w v c)(hm:g2.m=g.m)
 (hb:∀n n',CF ρ n=some n'->g2.blk n=g.blk n') (hr:∀n n',CF ρ n=some n'->g2.row n=g.row n') (hn:∀n,Dz ρ n=some none->g2.row n=none):
 ∀c',ww ρ c'=some c->Al g2 (·<ρ.length) w v c':=by
 have hlt:∀{n n'},CF ρ n=some n'->n<ρ.length:=fun {n n'} h=>ut (uh h);have hs:∀{v c},Al g D w v c->∀sp l,ww ρ (.slice sp l)=some c->Al g2 (·<ρ.length) w v (.slice sp l):=by
  intro v c h sp l hc;rcases Vs hc with⟨rfl,rfl⟩|⟨rfl,rfl⟩|⟨rfl,rfl⟩|⟨r,r',rfl,h2,rfl⟩|⟨r,rfl,h2,rfl⟩
  .cases h with|data h=>exact .data (hm▸h)
  .cases h with
   |data h=>cases h
   |fullNil _ h=>exact .fullNil _ h
   |full a n _ h=>exact .full a n _ (hm▸h)
  .cases h with
   |data h=>cases h
   |nilS _ h=>exact .nilS _ h
  .cases h with
   |data h=>cases h
   |own _ hr' _ _ h hd=>
    refine Al.own (D:=fun x=>x<ρ.length) r (ut h2) v _ ?_ (hm▸hd);rw[hr r r' (by simp[CF,h2])];exact h
  .cases h with
   |data h=>cases h
   |nilS _ h=>
    refine Al.own (D:=fun x=>x<ρ.length) r (ut h2) _ _ ?_ (.nilS _ h);rw[hn r h2];exact⟨.inl rfl,h⟩
 induction h with
 |data h=>
  intro c' hc;have hd:=h;cases h<;>cases c';all_goals first
   |exact hs (.data hd) _ _ hc
   |(simp only[ww,ZG,ZL,ZI,reduceCtorEq,and_false,exists_false,exists_const,false_and] at hc;done)
   |(simp only[ww,ZG,ZL,ZI,reduceCtorEq,and_false,exists_false,exists_const,false_and] at hc;cases hc;exact .data (hm▸hd))
 |agg vs cs hl h1 h ih=>
  intro c' hc;cases c';case slice sp l'=>exact hs (.agg vs cs hl h1 h) sp l' hc
  all_goals simp only[ww,ZG,ZL,ZI,reduceCtorEq,and_false,exists_false,exists_const,false_and,V.agg.injEq,exists_eq_right] at hc
  case agg cs'=>
   have hll:=yp hc;refine .agg vs cs' dY h1 fun i v c' hv hc'=> ?_;obtain⟨y,hy⟩:=Ax hll hc';exact ih i v y hv hy c' (wj hc i c' y hc' hy)
 |AM vs cs hl h ih=>
  intro c' hc;cases c';case slice sp l'=>exact hs (.AM vs cs hl h) sp l' hc
  all_goals simp only[ww,ZG,ZL,ZI,reduceCtorEq,and_false,exists_false,exists_const,false_and,V.AM.injEq,exists_eq_right] at hc
  case AM cs'=>
   have hll:=yp hc;refine .AM vs cs' dY fun i v c' hv hc'=> ?_;obtain⟨y,hy⟩:=Ax hll hc';exact ih i v y hv hy c' (wj hc i c' y hc' hy)
 |nil=>
  intro c' hc;cases c';case slice sp l'=>exact hs (.nil) sp l' hc
  all_goals simp only[ww,ZG,ZL,ZI,reduceCtorEq,and_false,exists_false,exists_const,false_and] at hc
  case nil=>exact .nil
 |fullNil l h=>
  intro c' hc;cases c';case slice sp l'=>exact hs (.fullNil l h) sp l' hc
  all_goals simp only[ww,ZG,ZL,ZI,reduceCtorEq,and_false,exists_false,exists_const,false_and] at hc
 |nilS l h=>
  intro c' hc;cases c';case slice sp l'=>exact hs (.nilS l h) sp l' hc
  all_goals simp only[ww,ZG,ZL,ZI,reduceCtorEq,and_false,exists_false,exists_const,false_and] at hc
 |full a n l h=>
  intro c' hc;cases c';case slice sp l'=>exact hs (.full a n l h) sp l' hc
  all_goals simp only[ww,ZG,ZL,ZI,reduceCtorEq,and_false,exists_false,exists_const,false_and] at hc
 |own r hr' v l h hd=>
  intro c' hc;cases c';case slice sp l'=>exact hs (Al.own r hr' v l h hd) sp l' hc
  all_goals simp only[ww,ZG,ZL,ZI,reduceCtorEq,and_false,exists_false,exists_const,false_and] at hc
 |addr b off cs f h1 hc1 h2=>
  intro c' hc;cases c';case slice sp l'=>exact hs (.addr b off cs f h1 hc1 h2) sp l' hc
  all_goals simp only[ww,ZG,ZL,ZI,reduceCtorEq,and_false,exists_false,exists_const,false_and,V.addr.injEq] at hc
  case addr cs'=>subst hc;exact .addr b off cs' f ei hc1 (fun j c hj=>ei)
 |ptr n off hn=>
  intro c' hc;cases c';case slice sp l'=>exact hs (.ptr n off hn) sp l' hc
  all_goals simp only[ww,ZG,ZL,ZI,reduceCtorEq,and_false,exists_false,exists_const,false_and,V.ptr.injEq] at hc
  case ptr n' off'=>
   obtain⟨x,hx,rfl,rfl⟩:=hc;rw[<-hb _ _ hx];exact .ptr _ _ (hlt hx)
 |arr n len sz cap hn hcap hrw=>
  intro c' hc;cases c';case slice sp l'=>exact hs (.arr n len sz cap hn hcap hrw) sp l' hc
  all_goals simp only[ww,ZG,ZL,ZI,reduceCtorEq,and_false,exists_false,exists_const,false_and,V.arr.injEq] at hc
  case arr n' len' sz'=>
   obtain⟨x,hx,rfl,rfl,rfl⟩:=hc;rw[<-hb _ _ hx];exact .arr _ _ _ _ (hlt hx) hcap ei
 |mp n hn=>
  intro c' hc;cases c';case slice sp l'=>exact hs (.mp n hn) sp l' hc
  all_goals simp only[ww,ZG,ZL,ZI,reduceCtorEq,and_false,exists_false,exists_const,false_and,V.mp.injEq] at hc
  case mp n'=>
   obtain⟨x,hx,rfl⟩:=hc;rw[<-hb _ _ hx];exact .mp _ (hlt hx)
 |nilp=>
  intro c' hc;cases c';case slice sp l'=>exact hs (.nilp) sp l' hc
  all_goals simp only[ww,ZG,ZL,ZI,reduceCtorEq,and_false,exists_false,exists_const,false_and] at hc
  case nilp=>exact .nilp
 |fn f fi caps fi' caps' hl hl' h h' ih ih'=>
  intro c' hc;cases c';case slice sp l'=>exact hs (Al.fn f fi caps fi' caps' hl hl' h h') sp l' hc
  all_goals simp only[ww,ZG,ZL,ZI,reduceCtorEq,and_false,exists_false,exists_const,false_and,V.fn.injEq] at hc
  case fn f1 fi1 caps1=>
   obtain⟨x,hx,y,hy,rfl,rfl,rfl⟩:=hc;have l1:=yp hx;have l2:=yp hy;refine .fn f1 fi caps fi1 caps1 dY dY (fun i v c' hv hc'=> ?_) (fun i v c' hv hc'=> ?_)
   .obtain ⟨z,hz⟩:=Ax l1 hc';exact ih i v z hv hz c' (wj hx i c' z hc' hz)
   .obtain ⟨z,hz⟩:=Ax l2 hc';exact ih' i v z hv hz c' (wj hy i c' z hc' hz)
 |nilf=>
  intro c' hc;cases c';case slice sp l'=>exact hs (.nilf) sp l' hc
  all_goals simp only[ww,ZG,ZL,ZI,reduceCtorEq,and_false,exists_false,exists_const,false_and] at hc
  case nilf=>exact .nilf
 |raw v=>
  intro c' hc;cases c';case slice sp l'=>exact hs (.raw v) sp l' hc
  all_goals simp only[ww,ZG,ZL,ZI,reduceCtorEq,and_false,exists_false,exists_const,false_and,V.raw.injEq] at hc
  case raw v'=>subst hc;exact .raw _
theorem Al.Hz{ρ:List (Option Nat)}{g g2:Gh}{D D2:Nat->Prop}{w:World}{v:Value}{c':V}(h:Al g2 D2 w v c')(hm:g2.m=g.m)
 (hb:∀n n',CF ρ n=some n'->g2.blk n=g.blk n'/\D n') (hr:∀n n',CF ρ n=some n'->g2.row n=g.row n') (hall:∀n,Dz ρ n≠some none):
 ∀c,ww ρ c'=some c->Al g D w v c:=by
 induction h with
 |data h=>
  intro c hc;have hd:=h;cases h<;>simp only[ww,ZI] at hc<;>subst hc<;>exact .data (hm▸hd)
 |agg vs cs hl h1 _ ih=>
  intro c hc;simp only[ww,ZG] at hc;obtain⟨cs2,hc,rfl⟩:=hc;have hll:=yp hc;refine .agg vs cs2 dY h1 fun i v c hv hc'=> ?_;obtain⟨y,hy⟩:=Ax hll.symm hc';exact ih i v y hv hy c (wj hc i y c hy hc')
 |AM vs cs hl _ ih=>
  intro c hc;simp only[ww,ZG] at hc;obtain⟨cs2,hc,rfl⟩:=hc;have hll:=yp hc;refine .AM vs cs2 dY fun i v c hv hc'=> ?_;obtain⟨y,hy⟩:=Ax hll.symm hc';exact ih i v y hv hy c (wj hc i y c hy hc')
 |nil=>intro c hc;simp only[ww,ZI] at hc;subst hc;exact .nil
 |fullNil l h=>intro c hc;simp only[ww,ZI] at hc;subst hc;exact .fullNil l h
 |nilS l h=>intro c hc;simp only[ww,ZI] at hc;subst hc;exact .nilS l h
 |full a n l h=>intro c hc;simp only[ww,ZI] at hc;subst hc;exact .full a n l (hm▸h)
 |own r hr' v l h hd=>
  intro c hc;rcases Vs hc with⟨h1,_⟩|⟨h1,_⟩|⟨h1,_⟩|⟨r1,r',h1,h2,rfl⟩|⟨r1,h1,h2,rfl⟩
  .cases h1
  .cases h1
  .cases h1
  .cases h1;have hx:CF ρ r=some r':=by simp[CF,h2]
   exact .own _ (hb _ _ hx).2 v l ei (hm▸hd)
  grind
 |addr b off cs f h1 hc1 h2=>
  intro c hc;simp only[ww,ZI] at hc;subst hc;exact .addr b off cs f ei hc1 (fun j c hj=>ei)
 |ptr n off hn=>
  intro c hc;simp only[ww,ZG] at hc;obtain⟨x,hx,rfl⟩:=hc;rw[(hb _ _ hx).1];exact .ptr _ _ (hb _ _ hx).2
 |arr n len sz cap hn hcap hrw=>
  intro c hc;simp only[ww,ZG] at hc;obtain⟨x,hx,rfl⟩:=hc;rw[(hb _ _ hx).1];exact .arr _ _ _ _ (hb _ _ hx).2 hcap ei
 |mp n hn=>
  intro c hc;simp only[ww,ZG] at hc;obtain⟨x,hx,rfl⟩:=hc;rw[(hb _ _ hx).1];exact .mp _ (hb _ _ hx).2
 |nilp=>intro c hc;simp only[ww,ZI] at hc;subst hc;exact .nilp
 |fn f fi caps fi' caps' hl hl' _ _ ih ih'=>
  intro c hc;simp only[ww,ZL,ZG] at hc;obtain⟨x,hx,y,hy,rfl⟩:=hc;have l1:=yp hx;have l2:=yp hy;refine .fn f fi caps x y dY dY (fun i v c hv hc'=> ?_) (fun i v c hv hc'=> ?_)
  .obtain ⟨z,hz⟩:=Ax l1.symm hc';exact ih i v z hv hz c (wj hx i z c hz hc')
  .obtain ⟨z,hz⟩:=Ax l2.symm hc';exact ih' i v z hv hz c (wj hy i z c hz hc')
 |nilf=>intro c hc;simp only[ww,ZI] at hc;subst hc;exact .nilf
 |raw v=>intro c hc;simp only[ww,ZI] at hc;subst hc;exact .raw _
abbrev AF:=List (Nat×V)
def AF.get:AF->Nat->Option V
 |[],_=>none
 |p::l,n=>bif Nat.beq p.1 n then some p.2 else AF.get l n
def AF.put(a:AF)(d:Option Nat)(v:V):AF:=match d with|some d=>(d,v)::a|none=>a
theorem AF.Bj(m:Nat)(e:V)(es:AF)(n:Nat):AF.get ((m,e)::es) n=if m=n then some e else AF.get es n:=by
 show(bif Nat.beq m n then some e else AF.get es n)=_;simp
inductive TD where
 |int (k:IntKind)|bool|str|other
 |strct (fs:List (Nat×Nat×Bool))
 |arr (n esz:Nat) (eagg:Bool)
 |slc (c:Option EC) (esz bytes:Nat)
structure TI where
 size:Nat
 zero:List V
 desc:TD
def J0:List Value->List V->Bool
 |[],[]=>true
 |v::vs,c::cs=>(match v,c with
  | .int k n,.int k' n'=>decide (k=k')&&decide (n=n')
  | .bool b,.bool b'=>decide (b=b')
  | .string s,.str s'=>decide (s=s')
  | .slice none 0 0,.slice .nil l=>Nat.beq l.len 0
  | .pointer none,.nilp=>true
  | .nilFunc,.nilf=>true
  | .map none,.raw (.map none)=>true
  | .nilIface,.raw .nilIface=>true
  |_,_=>false)&&J0 vs cs
 |_,_=>false
def N5(P:Program)(t:TypeId):Option Bool:=
 match P.underlying t with
 |some (.struct _)|some (.array _ _)=>some true
 |some _=>some false
 |none=>none
def L7(P:Program)(t:TypeId)(n:Nat):Bool:=match P.info? t with|some i=>Nat.beq i.size n|none=>false
def Ig(P:Program):List Field->List (Nat×Nat×Bool)->Bool
 |[],[]=>true
 |f::fs,g::gs=>Nat.beq f.offset g.1&&L7 P f.type g.2.1&&Nat.blt 0 g.2.1&&(match N5 P f.type with|some b=>decide (b=g.2.2)|none=>false)&&Ig P fs gs
 |_,_=>false
def Uf(P:Program)(e:TypeId)(esz bytes:Nat):Bool:=
 match P.info? e with
 |some i=>Nat.beq i.size esz&&Nat.beq i.bytes bytes&&(match i.zero with|some z=>Nat.beq z.cells.size esz|none=>false)
 |none=>false
def NJ(c:Option EC)(sz:Nat):Bool:=match c with|some c=>Nat.beq c.cells sz|none=>true
def MI(P:Program)(t:TypeId)(i:TI):Bool:=
 (match P.info? t with
  |some inf=>Nat.beq inf.size i.size&&(match inf.zero with|some z=>J0 z.cells.toList i.zero|none=>false)
  |none=>false)&&
 (match P.underlying t,i.desc with
  |some (.int k),.int k'=>decide (k=k')
  |some .bool,.bool=>true
  |some .string,.str=>true
  |some (.struct fs),.strct gs=>Ig P fs.toList gs
  |some (.array n e),.arr n' esz eagg=>Nat.beq n n'&&L7 P e esz&&Nat.blt 0 esz&&(match N5 P e with|some b=>decide (b=eagg)|none=>false)
  |some (.slice e),.slc c esz bytes=>Uf P e esz bytes&&Nat.blt 0 esz&&NJ c esz
  |some d,.other=>(match d with| .struct _| .array _ _| .slice _=>false|_=>true)
  |_,_=>false)
def Qt:List (TypeId×TI)->TypeId->Option TI
 |[],_=>none
 |p::l,t=>bif Nat.beq p.1 t then some p.2 else Qt l t
abbrev Ys:=List (Nat×Nat×List V)
def D3(y:Ys)(g:Gh)(F:Nat->Prop)(w:World):Prop:=
 ∀p∈y,g.m p.1=0/\¬F p.1/\∃(vs:List Value) (t:TypeId),w.heap[p.1]? =some (.cells vs.toArray t (0,0))/\vs.length=p.2.1/\p.2.2.length<=p.2.1/\(∀v∈vs,v.oneCell'=true)/\
  ∀(i:Nat) v c,vs[i]? =some v->p.2.2[i]? =some c->Al g (fun _=>False) w v c
theorem D3.ext{y:Ys}{D:Nat->Prop}{g g':Gh}{F F':Nat->Prop}{w w':World}(h:D3 y g F w)(x:Ext D g F w g' F' w'):D3 y g' F' w':=by
 intro p hp;obtain⟨h1,h2,vs,t,h3,h4,h4',h5,h6⟩:=h p hp;have hb:p.1<w.heap.size:=(au.1 h3).1;obtain⟨h7,h8⟩:=x.frame p.1 hb h2;refine⟨h8.trans h1,fun hf=> ?_,vs,t,h7.trans h3,h4,h4',h5,fun i v c hv hc=>(h6 i v c hv hc).mono x.mark x.cells (fun _ h=>h) (fun _ h=>h.elim) (fun _ h=>h.elim)⟩;rcases x.CM _ hf with h9|h9;all_goals grind
theorem D3.nil{g:Gh}{F:Nat->Prop}{w:World}:D3 [] g F w:=fun _ h=>eE
structure Env where
 P:Program
 G:DR
 MH:List (TypeId×TI)
 ok:MH.all (fun p=>MI P p.1 p.2)=true
 Y:Ys
theorem D3.none{y:Ys}(hy:y=[]){g:Gh}{F:Nat->Prop}{w:World}:D3 y g F w:=hy▸ .nil
def Env.ti(E:Env)(t:TypeId):Option TI:=Qt E.MH t
theorem Zyv{l:List (TypeId×TI)}{t:TypeId}{i:TI}(h:Qt l t=some i):(t,i)∈l:=by
 induction l with
 |nil=>cases h
 |cons p l ih=>
  simp only[Qt] at h;cases hb:Nat.beq p.1 t<;>simp_all<;>grind
theorem Env.Kc{E:Env}{t:TypeId}{i:TI}(h:E.ti t=some i):MI E.P t i=true:=
 ZH.1 E.ok _ (Zyv h)
def za(E:Env)(T:TypeId):Value->V
 | .int k n=> .int k n
 | .bool b=> .bool b
 | .string s=> .str s
 | .slice none 0 0=>match E.ti T with
   |some ⟨_,_,.slc (some c) _ _⟩=> .slice .nil (.t c [])
   |some ⟨_,_,.slc none sz _⟩=> .slice .nil (.u sz [])
   |_=> .nil
 | .pointer none=> .nilp
 | .nilFunc=> .nilf
 |v=> .raw v
def OT:DR->Nat->Option (List V)
 |[],_=>none
 |p::l,n=>bif Nat.beq p.1 n then some p.2 else OT l n
def ev(E:Env)(T:TypeId)(a:AF):Operand->Option V
 | .tmp t=>a.get t
 | .const v=>some (za E T v)
 | .global n=>(OT E.G n).map .addr
 | .func f=>some (.fn (.func f) [] [])
structure Ba (g:Gh) (D:Nat->Prop) (w:World) (N:Nat) (act:Act) (a:AF):Prop where
 size:act.tmps.size=N
 defers:act.defers=[]
 vals:∀t c,a.get t=some c->∃v,act.tmps[t]? =some v/\Al g D w v c
theorem Ba.ext{D D':Nat->Prop}{g g':Gh}{F F':Nat->Prop}{w w':World}{N:Nat}{act:Act}{a:AF}(h:Ba g D w N act a)(e:Ext D g F w g' F' w')(hn:∀n,D n->D' n):Ba g' D' w' N act a:=
 ⟨h.size,h.defers,fun t c hc=>let ⟨v,h1,h2⟩:=h.vals t c hc;⟨v,h1,h2.ext e hn⟩⟩
theorem Ba.put{g:Gh}{D:Nat->Prop}{w:World}{N:Nat}{act:Act}{a:AF}(h:Ba g D w N act a){d:Option Nat}(hd:∀t,d=some t->t<N){v:Value}{c:V}(hv:Al g D w v c):
 Ba g D w N (act.put d v) (a.put d c):=by
 cases d with
 |none=>exact h
 |some d=>
  have hd:=hd d rfl;refine⟨by simp[Act.put,h.size],h.defers,fun t c' hc=> ?_⟩;simp only[AF.put,AF.Bj] at hc;by_cases ht:d=t
  .subst ht;simp only[if_true,ZI] at hc;subst hc;refine⟨v,?_,hv⟩;simp[Act.put,ag,h.size,hd]
  .simp only[ht,if_false] at hc;obtain⟨v',h1,h2⟩:=h.vals t c' hc;exact⟨v',by simp[Act.put,ag,ht,h1],h2⟩
theorem Zs1(E:Env)(T:TypeId)(v:Value)(g:Gh)(D:Nat->Prop)(w:World):Al g D w v (za E T v):=by
 unfold za;split
 .exact .data (.int _ _)
 .exact .data (.bool _)
 .exact .data (.str _)
 .split
  .exact .nilS _ rfl
  .exact .nilS _ rfl
  .exact .nil
 .exact .nilp
 .exact .nilf
 .exact .raw _
theorem Zxf{l:DR}{t:Nat}{i:List V}(h:OT l t=some i):(t,i)∈l:=by
 induction l with
 |nil=>cases h
 |cons p l ih=>
  simp only[OT] at h;cases hb:Nat.beq p.1 t<;>simp_all<;>grind
theorem z6{E:Env}{T:TypeId}{a:AF}{x:Operand}{c:V}(h:ev E T a x=some c){g:Gh}{D:Nat->Prop}{es:Es}{w:World}{N:Nat}{act:Act}
 (hR:R E.G g D es w) (hF:Ba g D w N act a):Al g D w (act.eval x) c:=by
 cases x with
 |tmp t=>
  obtain⟨v,h1,h2⟩:=hF.vals t c h;have:act.eval (.tmp t)=v:=by simp[Act.eval,ZV,h1]
  grind
 |const v=>cases h;exact Zs1 ..
 |global n=>
  simp only[ev,ZG] at h;obtain⟨cs,h1,rfl⟩:=h;obtain⟨h2,h3⟩:=hR.Fp _ (Zxf h1);have h4:∀j,∃v,∀c,cs[j]? =some c->w.cell? ⟨n,j,none⟩=some v/\A4 g.m w v c:=by
   intro j;cases hj:cs[j]?<;>simp_all
  obtain⟨f,hf⟩:=Classical.axiomOfChoice h4;refine .addr n 0 cs f ei (fun j hj=> ?_) (fun j c hj=>(hf j c hj).2);simp_all
 |func f=>cases h;exact .fn (.func f) [] [] [] [] rfl rfl (fun i v c h=>dZ) (fun i v c h=>dZ)
structure Aj where
 nx:Nat
 es:Es
def Post(E:Env)(N k:Nat)(g:Gh)(F:Nat->Prop)(w:World)(Q:Exit->AF->Aj->Prop)(e:Exit)(act':Act)(w':World):Prop:=
 ∃g' a' σ',Q e a' σ'/\k<=σ'.nx/\R E.G g' (·<σ'.nx) σ'.es w'/\Ba g' (·<σ'.nx) w' N act' a'/\Ext (·<k) g F w g' (Aq g' σ'.es) w'
structure AW (E:Env) (N k:Nat) (c:Code) (a:AF) (σ:Aj) (Q:Exit->AF->Aj->Prop):Prop where
 run:k<=σ.nx->∀g w act,R E.G g (·<σ.nx) σ.es w->Ba g (·<σ.nx) w N act a->D3 E.Y g (Aq g σ.es) w->c.wp E.P (Post E N k g (Aq g σ.es) w Q) act w
def JU(E:Env)(N k:Nat)(y:Code)(Q:Exit->AF->Aj->Prop):Exit->AF->Aj->Prop
 | .normal,a,σ=>AW E N k y a σ Q
 |e,a,σ=>Q e a σ
def uf(id:Nat)(Q:Exit->AF->Aj->Prop):Exit->AF->Aj->Prop
 | .exit id',a,σ=>bif Nat.beq id' id then Q .normal a σ else Q (.exit id') a σ
 |e,a,σ=>Q e a σ
section
variable {E:Env} {N k:Nat} {a:AF} {σ:Aj} {Q:Exit->AF->Aj->Prop}
theorem Post.later{g g':Gh}{F F':Nat->Prop}{w w':World}{e:Exit}{act:Act}{w'':World}(h:Post E N k g' F' w' Q e act w'')(x:Ext (·<k) g F w g' F' w'):Post E N k g F w Q e act w'':=
 let ⟨g2,a2,σ2,h1,h2,h3,h4,h5⟩:=h;⟨g2,a2,σ2,h1,h2,h3,h4,x.trans h5⟩
theorem AW.seq{x y:Code}(h:AW E N k x a σ (JU E N k y Q)):AW E N k (.seq x y) a σ Q:=by
 constructor;intro hk g w act hR hF hY;refine wp_seq (wp_mono (h.run hk g w act hR hF hY) ?_);rintro e act1 w1 ⟨g1,a1,σ1,hq,hk1,hR1,hF1,hx⟩;cases e with
 |normal=>exact wp_mono (AW.run hq hk1 g1 w1 act1 hR1 hF1 (hY.ext hx)) (fun e act2 w2 hp=>hp.later hx)
 |exit id=>exact⟨g1,a1,σ1,hq,hk1,hR1,hF1,hx⟩
 |goto l=>exact⟨g1,a1,σ1,hq,hk1,hR1,hF1,hx⟩
 |ret=>exact⟨g1,a1,σ1,hq,hk1,hR1,hF1,hx⟩
 |panic ch=>exact⟨g1,a1,σ1,hq,hk1,hR1,hF1,hx⟩
 |outgrown=>exact⟨g1,a1,σ1,hq,hk1,hR1,hF1,hx⟩
theorem AW.mono{c:Code}{Q':Exit->AF->Aj->Prop}(h:AW E N k c a σ Q)(hq:∀e a σ,Q e a σ->Q' e a σ):AW E N k c a σ Q':=by
 constructor;intro hk g w act hR hF hY;refine wp_mono (h.run hk g w act hR hF hY) ?_;rintro e act1 w1 ⟨g1,a1,σ1,h1,h2⟩;exact⟨g1,a1,σ1,hq _ _ _ h1,h2⟩
theorem AW.skip(h:Q .normal a σ):AW E N k .skip a σ Q:=
 ⟨fun hk g w act hR hF hY=>wp_skip ⟨g,a,σ,h,hk,hR,hF,.refl ..⟩⟩
theorem AW.ret(h:Q .ret a σ):AW E N k .ret a σ Q:=
 ⟨fun hk g w act hR hF hY=>wp_ret ⟨g,a,σ,h,hk,hR,hF,.refl ..⟩⟩
theorem AW.exit{id:Nat}(h:Q (.exit id) a σ):AW E N k (.exit id) a σ Q:=
 ⟨fun hk g w act hR hF hY=>wp_exit ⟨g,a,σ,h,hk,hR,hF,.refl ..⟩⟩
theorem AW.block{id:Nat}{c:Code}(h:AW E N k c a σ (uf id Q)):AW E N k (.block id c) a σ Q:=by
 constructor;intro hk g w act hR hF hY;refine wp_block (wp_mono (h.run hk g w act hR hF hY) ?_);rintro e act1 w1 ⟨g1,a1,σ1,hq,h2⟩;cases e with
 |exit id'=>
  simp only[Exit.inBlock];by_cases hi:id'=id
  .subst hi;simp only[uf,cI,cond_true] at hq;rw[if_pos rfl];exact⟨g1,a1,σ1,hq,h2⟩
  .simp only[uf,Q0 hi,cond_false] at hq;rw[if_neg hi];exact⟨g1,a1,σ1,hq,h2⟩
 |normal=>exact⟨g1,a1,σ1,hq,h2⟩
 |goto l=>exact⟨g1,a1,σ1,hq,h2⟩
 |ret=>exact⟨g1,a1,σ1,hq,h2⟩
 |panic ch=>exact⟨g1,a1,σ1,hq,h2⟩
 |outgrown=>exact⟨g1,a1,σ1,hq,h2⟩
theorem AW.cond{c:Operand}{x y:Code}{b:Bool}(hc:ev E 0 a c=some (.bool b))(ht:b=true->AW E N k x a σ Q)(hf:b=false->AW E N k y a σ Q):AW E N k (.cond c x y) a σ Q:=by
 constructor;intro hk g w act hR hF hY;have hv:=z6 hc hR hF;have hb:act.eval c= .bool b:=by
  generalize act.eval c=v at hv;cases hv with
  |data h=>cases h;rfl
 exact wp_cond_split hb (fun h=>(ht h).run hk g w act hR hF hY) (fun h=>(hf h).run hk g w act hR hF hY)
theorem AW.Ct{c:Operand}{x y:Code}(hc:ev E 0 a c=some (.bool true))(ht:AW E N k x a σ Q):AW E N k (.cond c x y) a σ Q:=
 .cond hc (fun _=>ht) (fun h=>eE)
theorem AW.Cu{c:Operand}{x y:Code}(hc:ev E 0 a c=some (.bool false))(hf:AW E N k y a σ Q):AW E N k (.cond c x y) a σ Q:=
 .cond hc (fun h=>eE) (fun _=>hf)
def Bc(E:Env)(N k:Nat)(a:AF)(σ:Aj)(a2:AF)(σ2:Aj):Prop:=
 k<=σ.nx->k<=σ2.nx/\∀g w act,R E.G g (·<σ.nx) σ.es w->Ba g (·<σ.nx) w N act a->
  ∃g2,R E.G g2 (·<σ2.nx) σ2.es w/\Ba g2 (·<σ2.nx) w N act a2/\Ext (·<k) g (Aq g σ.es) w g2 (Aq g2 σ2.es) w
theorem Bc.refl:Bc E N k a σ a σ:=fun hk=>⟨hk,fun g w act hR hF=>⟨g,hR,hF,.refl ..⟩⟩
theorem AW.weak{a2:AF}{σ2:Aj}{c:Code}(h:Bc E N k a σ a2 σ2)(h2:AW E N k c a2 σ2 Q):AW E N k c a σ Q:=by
 constructor;intro hk g w act hR hF hY;obtain⟨hk2,hw⟩:=h hk;obtain⟨g2,hR2,hF2,hx⟩:=hw g w act hR hF;exact wp_mono (h2.run hk2 g2 w act hR2 hF2 (hY.ext hx)) (fun e act2 w2 hp=>hp.later hx)
def NF(E:Env)(N k:Nat){ι:Type}(J:ι->AF×Aj)(μ:ι->Nat)(i:ι)(Q:Exit->AF->Aj->Prop):Exit->AF->Aj->Prop
 | .normal,a,σ=>∃j,μ j<μ i/\Bc E N k a σ (J j).1 (J j).2
 |e,a,σ=>Q e a σ
theorem AW.loop{ι:Type}{c:Code}(J:ι->AF×Aj)(μ:ι->Nat)(i₀:ι)(h₀:Bc E N k a σ (J i₀).1 (J i₀).2)
 (h:∀i,AW E N k c (J i).1 (J i).2 (NF E N k J μ i Q)):AW E N k (.loop c) a σ Q:=by
 refine AW.weak h₀ ?_;constructor;intro hk g w act hR hF hY;refine wp_loop_ghost (fun n act' w'=>∃i g',μ i=n/\k<=(J i).2.nx/\R E.G g' (·<(J i).2.nx) (J i).2.es w'/\Ba g' (·<(J i).2.nx) w' N act' (J i).1/\Ext (·<k) g (Aq g (J i₀).2.es) w g' (Aq g' (J i).2.es) w')
  (μ i₀) ⟨i₀,g,rfl,hk,hR,hF,.refl ..⟩ ?_
 rintro n act1 w1 ⟨i,g1,rfl,hk1,hR1,hF1,hx1⟩;refine wp_mono ((h i).run hk1 g1 w1 act1 hR1 hF1 (hY.ext hx1)) ?_;rintro e act2 w2 ⟨g2,a2,σ2,hq,hk2,hR2,hF2,hx2⟩;cases e with
 |normal=>
  obtain⟨j,hj,hJ⟩:=hq;obtain⟨hk3,hJ⟩:=hJ hk2;obtain⟨g3,hR3,hF3,hx3⟩:=hJ g2 w2 act2 hR2 hF2;exact⟨μ j,hj,j,g3,rfl,hk3,hR3,hF3,(hx1.trans hx2).trans hx3⟩
 |exit id=>exact⟨g2,a2,σ2,hq,hk2,hR2,hF2,hx1.trans hx2⟩
 |goto l=>exact⟨g2,a2,σ2,hq,hk2,hR2,hF2,hx1.trans hx2⟩
 |ret=>exact⟨g2,a2,σ2,hq,hk2,hR2,hF2,hx1.trans hx2⟩
 |panic ch=>exact⟨g2,a2,σ2,hq,hk2,hR2,hF2,hx1.trans hx2⟩
 |outgrown=>exact⟨g2,a2,σ2,hq,hk2,hR2,hF2,hx1.trans hx2⟩
end
def Ai(c c':V):Prop:=∀g D w v,Al g D w v c->Al g D w v c'
theorem Ai.refl(c:V):Ai c c:=fun _ _ _ _ h=>h
theorem Ai.of_eq{c c':V}(h:c=c'):Ai c c':=h▸ .refl c
theorem Ai.any(sp:Sp)(l:SL V):Ai (.slice sp l) (.slice .any l):=by
 intro g D w v h;cases h with
 |data h=>cases h with
  |nilS _ h=>exact .data (.nilS _ h)
  |emp _ h a cap=>exact .data (.emp _ h a cap)
  |slice _ b off cap f h1 h2 h3 h4 h5=>exact .data (.slice _ b off cap f h1 h2 h3 h4 h5)
 |fullNil _ h=>exact .data (.nilS _ h)
 |nilS _ h=>exact .data (.nilS _ h)
 |full a n _ h=>exact .data h
 |own r hr _ _ h hd=>exact .data hd
def Bb:List V->List V->Prop
 |[],[]=>True
 |c::cs,c'::cs'=>Ai c c'/\Bb cs cs'
 |_,_=>False
theorem Bb.len:∀{cs cs':List V},Bb cs cs'->cs.length=cs'.length:=by
 intro cs;induction cs with
 |nil=>intro cs' h;cases cs' with|nil=>rfl|cons=>exact h.elim
 |cons c l ih=>intro cs' h;cases cs' with|nil=>exact h.elim|cons c' l'=>simp[ih h.2]
theorem Bb.nth:∀{cs cs':List V},Bb cs cs'->∀(i:Nat) c',cs'[i]? =some c'->∃c,cs[i]? =some c/\Ai c c':=by
 intro cs;induction cs with
 |nil=>intro cs' h i c' hc;cases cs' with|nil=>grind|cons=>exact h.elim
 |cons c l ih=>
  intro cs' h i c' hc;cases cs' with
  |nil=>grind
  |cons d l'=>
   cases i with
   |zero=>simp at hc;subst hc;exact⟨c,rfl,h.1⟩
   |succ i=>simp at hc;exact ih h.2 i c' hc
theorem Bb.refl:∀cs:List V,Bb cs cs
 |[]=>trivial
 |c::cs=>⟨.refl c,Bb.refl cs⟩
theorem Ai.agg{cs cs':List V}(h:Bb cs cs'):Ai (.agg cs) (.agg cs'):=by
 intro g D w v hv;cases hv with
 |data h=>cases h
 |agg vs _ hl h1 hr=>
  refine .agg vs cs' (hl.trans h.len) h1 fun i v c' hv hc=> ?_;obtain⟨c,hc1,hc2⟩:=h.nth i c' hc;exact hc2 _ _ _ _ (hr i v c hv hc1)
theorem Ai.AM{cs cs':List V}(h:Bb cs cs'):Ai (.AM cs) (.AM cs'):=by
 intro g D w v hv;cases hv with
 |data h=>cases h
 |AM vs _ hl hr=>
  refine .AM vs cs' (hl.trans h.len) fun i v c' hv hc=> ?_;obtain⟨c,hc1,hc2⟩:=h.nth i c' hc;exact hc2 _ _ _ _ (hr i v c hv hc1)
theorem QO(ρ:List (Option Nat))(c:EC)(x:c.sem):ww ρ (Ho c x)=some (Ho c x):=gJ
def M9(ρ:List (Option Nat))(a:AF):AF->Prop
 |[]=>True
 |p::l=>(∃c,ww ρ p.2=some c/\∃c0,a.get p.1=some c0/\Ai c0 c)/\M9 ρ a l
def D8(ρ:List (Option Nat))(es:Es):Es->Prop
 |[]=>True
 |p::l=>(match p.2 with
  | .var cs=>∃m,CF ρ p.1=some m/\∃cs1,xu ρ cs=some cs1/\∃cs0,zg es m=some (.var cs0)/\Bb cs0 cs1
  | .map c ks xs=>∃m,CF ρ p.1=some m/\∃ks0 xs0,zg es m=some (.map c ks0 xs0)/\ks0=ks/\xs0=xs
  | .row=>Dz ρ p.1=some none\/∃m,CF ρ p.1=some m/\zg es m=some .row
  | .gone=>Nat.blt p.1 ρ.length=true)/\D8 ρ es l
def Hs:Nat->Nat->List (Option Nat)->Bool
 |_,0,_=>true
 |i,n+1,some m::l=>Nat.beq m i&&Hs (i+1) n l
 |_,_,_=>false
def yb:List (Option Nat)->Bool
 |[]=>true
 |none::l=>yb l
 |some m::l=>(l.all fun x=>match x with|some m'=> !Nat.beq m m'|none=>true)&&yb l
def below(nx:Nat)(ρ:List (Option Nat)):Bool:=ρ.all fun x=>match x with|some m=>Nat.blt m nx|none=>true
theorem Q1:∀(n i:Nat) (ρ:List (Option Nat)),Hs i n ρ=true->∀j,j<n->Dz ρ j=some (some (i+j)):=by
 intro n;induction n with
 |zero=>omega
 |succ n ih=>
  intro i ρ h j hj;cases ρ with
  |nil=>simp[Hs] at h
  |cons x l=>
   cases x with
   |none=>simp[Hs] at h
   |some m=>
    simp only[Hs,ZC] at h;have hm:=Z9 h.1;cases j with
    |zero=>simp[Dz,hm]
    |succ j=>
     have:=ih (i+1) l h.2 j dY;simp only[Dz]
     grind
theorem Zr:∀{ρ:List (Option Nat)} {n x},Dz ρ n=some x->x∈ρ:=by
 intro ρ;induction ρ with
 |nil=>intro n x h;cases h
 |cons y l ih=>
  intro n x h;cases n with
  |zero=>simp[Dz] at h;grind
  |succ n=>exact cq _ (ih h)
theorem Xj:∀{ρ:List (Option Nat)},yb ρ=true->∀n n' m,Dz ρ n=some (some m)->Dz ρ n'=some (some m)->n=n':=by
 intro ρ;induction ρ with
 |nil=>intro _ n n' m h;cases h
 |cons y l ih=>
  intro h n n' m h1 h2;have hd:yb l=true:=by
   cases y with
   |none=>simpa[yb] using h
   |some z=>simp only[yb,ZC] at h;grind
  have hne:∀z,y=some z->∀j,Dz l j≠some (some z):=by
   intro z hz j hj;subst hz;simp only[yb,ZC,ZH] at h;have:=h.1 _ (Zr hj);simp_all
  cases n with
  |zero=>
   simp only[Dz,ZI] at h1;cases n' with
   |zero=>rfl
   |succ n'=>exact absurd h2 (hne m h1 n')
  |succ n=>
   cases n' with
   |zero=>
    simp only[Dz,ZI] at h2;exact absurd h1 (hne m h2 n)
   |succ n'=>exact congrArg (·+1) (ih hd n n' m h1 h2)
theorem Ztx{nx:Nat}{ρ:List (Option Nat)}(h:below nx ρ=true){n m:Nat}(hn:Dz ρ n=some (some m)):m<nx:=by
 have:=ZH.1 h _ (Zr hn);simp_all
theorem M9.get{ρ:List (Option Nat)}{a:AF}:∀{a2:AF},M9 ρ a a2->∀t c2,a2.get t=some c2->∃c,ww ρ c2=some c/\∃c0,a.get t=some c0/\Ai c0 c:=by
 intro a2;induction a2 with
 |nil=>intro _ t c2 h;cases h
 |cons p l ih=>
  intro h t c2 hc;obtain⟨m,e⟩:=p;rw[AF.Bj] at hc;by_cases ht:m=t
  .subst ht;simp only[if_true,ZI] at hc;subst hc;exact h.1
  .simp only[ht,if_false] at hc;exact ih h.2 t c2 hc
theorem D8.get{ρ:List (Option Nat)}{es:Es}:∀{es2:Es},D8 ρ es es2->∀n e2,zg es2 n=some e2->(match e2 with
 | .var cs=>∃m,CF ρ n=some m/\∃cs1,xu ρ cs=some cs1/\∃cs0,zg es m=some (.var cs0)/\Bb cs0 cs1
 | .map c ks xs=>∃m,CF ρ n=some m/\∃ks0 xs0,zg es m=some (.map c ks0 xs0)/\ks0=ks/\xs0=xs
 | .row=>Dz ρ n=some none\/∃m,CF ρ n=some m/\zg es m=some .row
 | .gone=>Nat.blt n ρ.length=true):=by
 intro es2;induction es2 with
 |nil=>intro _ t c2 h;cases h
 |cons p l ih=>
  intro h n e2 hc;obtain⟨m,e⟩:=p;rw[zm] at hc;by_cases ht:m=n
  .subst ht;simp only[if_true,ZI] at hc;subst hc;exact h.1
  .simp only[ht,if_false] at hc;exact ih h.2 n e2 hc
theorem Bc.mk{E:Env}{N k:Nat}{a:AF}{σ:Aj}(ρ:List (Option Nat))(a2:AF)(es2:Es)(nx2:Nat)(hnx:nx2=ρ.length)(hid:Hs 0 k ρ=true)(hd:yb ρ=true)(hb:below σ.nx ρ=true)
 (hf:M9 ρ a a2) (he:D8 ρ σ.es es2):Bc E N k a σ a2 ⟨nx2,es2⟩:=by
 subst hnx;intro hk;have hidk:∀n,n<k->Dz ρ n=some (some n):=fun n hn=>by simpa using Q1 k 0 ρ hid n hn
 refine⟨?_,fun g w act hR hF=> ?_⟩
 .show k<=ρ.length;rcases bA k with h|h
  .omega
  .have:=ut (hidk (k-1) dY);omega
 let g2:Gh:={blk:=fun n=>g.blk ((CF ρ n).getD n),row:=fun n=>match CF ρ n with|some m=>g.row m|none=>none,m:=g.m}
 have hblk:∀n n',CF ρ n=some n'->g2.blk n=g.blk n':=fun n n' h=>ei
 have hrow:∀n n',CF ρ n=some n'->g2.row n=g.row n':=fun n n' h=>ei
 have hnone:∀n,Dz ρ n=some none->g2.row n=none:=fun n h=>by simp[g2,CF,h]
 have hun:∀{v c c2},Al g (·<σ.nx) w v c->ww ρ c2=some c->Al g2 (·<ρ.length) w v c2:=fun {v c c2} h hc=>Al.FN (g2:=g2) h rfl hblk hrow hnone c2 hc;have hfoot:∀n e2 b,zg es2 n=some e2->e2.AB g2 n=some b->∃m e,CF ρ n=some m/\zg σ.es m=some e/\e.AB g m=some b:=by
  intro n e2 b h1 h2;have h3:=he.get n e2 h1;cases e2 with
  |var cs=>
   obtain⟨m,hm,cs1,_,cs0,h4,_⟩:=h3;refine⟨m,_,hm,h4,?_⟩;simp only[A7.AB,hblk n m hm] at h2 ⊢;exact h2
  |map c ks xs=>
   obtain⟨m,hm,ks0,xs0,h4,_⟩:=h3;refine⟨m,_,hm,h4,?_⟩;simp only[A7.AB,hblk n m hm] at h2 ⊢;exact h2
  |row=>
   rcases h3 with h3|⟨m,hm,h4⟩
   .simp[A7.AB,hnone n h3] at h2
   .refine ⟨m,_,hm,h4,?_⟩;simp only[A7.AB,hrow n m hm] at h2 ⊢;exact h2
  |gone=>cases h2
 refine⟨g2,⟨?_,?_,?_,hR.fresh,hR.Fp⟩,⟨hF.size,hF.defers,?_⟩,?_⟩
 .exact kO
 .intro n n' e e' b h1 h2 h3 h4;obtain⟨m,d,hm,h5,h6⟩:=hfoot n e b h1 h3;obtain⟨m',d',hm',h7,h8⟩:=hfoot n' e' b h2 h4;have:=hR.A9 m m' d d' b h5 h7 h6 h8;subst this;exact Xj hd n n' m (uh hm) (uh hm')
 .intro n e h;have h3:=he.get n e h;cases e with
  |var cs=>
   obtain⟨m,hm,cs1,hc1,cs0,h4,h5⟩:=h3;obtain⟨h6,vs,t,h7,h8,h9,h10,h11⟩:=hR.BT m _ h4;refine⟨ei,vs,t,ei,?_,h9,?_,ei⟩
   .have e1:=h5.len;have e2:=yp hc1;omega
   .exact lG
  |map c ks xs=>
   obtain⟨m,hm,ks0,xs0,h4,rfl,rfl⟩:=h3;obtain⟨h6,vs,t,h7,h8,h9,h9',h10⟩:=hR.BT m _ h4;refine⟨ei,vs,t,ei,h8,h9,h9',?_⟩;intro i v x hv hx;exact hun (h10 i v x hv hx) (QO ρ c x)
  |row=>
   intro ρ' hρ';rcases h3 with h3|⟨m,hm,h4⟩
   .grind
   .rw[hrow n m hm] at hρ';exact hR.BT m _ h4 ρ' hρ'
  |gone=>trivial
 .intro t c2 hc;obtain⟨c,h1,c0,h2,h3⟩:=hf.get t c2 hc;obtain⟨v,hv,hv2⟩:=hF.vals t c0 h2;exact⟨v,hv,hun (h3 _ _ _ _ hv2) h1⟩
 .have hrk:∀n,n<k->CF ρ n=some n:=fun n hn=>by simp[CF,hidk n hn]
  refine⟨rfl,rfl,rfl,ZB _,fun _ _ _=>rfl,fun _=>ZB _,fun n hn=>hblk n n (hrk n hn),fun n hn=>hrow n n (hrk n hn),fun _ _ _=>⟨rfl,rfl⟩,?_⟩;rintro b ⟨n,e,h1,h2⟩;obtain⟨m,e',_,h3,h4⟩:=hfoot n e b h1 h2;exact .inl ⟨m,e',h3,h4⟩
theorem GC.mono{g g':Gh}{D D':Nat->Prop}{w w':World}{n:Nat}{e:A7}(h:GC g D w n e)(hn:D n)(hm:∀b,g.m b<=g'.m b)
 (hw:∀b o,o<g.m b->w'.cell? ⟨b,o,none⟩=w.cell? ⟨b,o,none⟩) (hD:∀n,D n->D' n) (hb:∀n,D n->g'.blk n=g.blk n)
 (hr:∀n,D n->g'.row n=g.row n) (hf:∀b,e.AB g n=some b->w'.heap[b]? =w.heap[b]? /\g'.m b=g.m b):GC g' D' w' n e:=by
 cases e with
 |var cs=>
  obtain⟨h1,vs,t,h2,h3,h4,h5,h7⟩:=h;have h6:=hf _ rfl;refine⟨ei,vs,t,ei,h3,h4,fun i v c hv hc=>(h5 i v c hv hc).mono hm hw hD hb hr,ei⟩
 |map c ks xs=>
  obtain⟨h1,vs,t,h2,h3,h4,h4',h5⟩:=h;have h6:=hf _ rfl;exact⟨ei,vs,t,ei,h3,h4,h4',fun i v c hv hc=>(h5 i v c hv hc).mono hm hw hD hb hr⟩
 |row=>
  intro ρ hρ;rw[hr n hn] at hρ;obtain⟨cur,t,h1,h2,h3,h4⟩:=h ρ hρ;have h6:=hf ρ.b (by simp[A7.AB,hρ])
  grind
 |gone=>trivial
theorem R.step{G:DR}{g g':Gh}{D D':Nat->Prop}{es es':Es}{w w':World}(hR:R G g D es w)(hm:∀b,g.m b<=g'.m b)
 (hw:∀b o,o<g.m b->w'.cell? ⟨b,o,none⟩=w.cell? ⟨b,o,none⟩) (hD:∀n,D n->D' n) (hb:∀n,D n->g'.blk n=g.blk n)
 (hr:∀n,D n->g'.row n=g.row n)
 (hents:∀n e,zg es' n=some e->(zg es n=some e/\∀b,e.AB g n=some b->w'.heap[b]? =w.heap[b]? /\g'.m b=g.m b)\/(D' n/\GC g' D' w' n e))
 (hfoots:∀n n' e e' b,zg es' n=some e->zg es' n'=some e'->e.AB g' n=some b->e'.AB g' n'=some b->n=n')
 (hfresh:∀b,w'.heap.size<=b->g'.m b=0):R G g' D' es' w' where
 lt n e h:=by
  rcases hents n e h with h1|h1
  .exact hD n (hR.lt n e h1.1)
  grind
 A9:=hfoots
 BT n e h:=by
  rcases hents n e h with h1|h1
  .exact (hR.BT n e h1.1).mono (hR.lt n e h1.1) hm hw hD hb hr h1.2
  grind
 fresh:=hfresh
 Fp p hp:=by
  obtain⟨h1,h2⟩:=hR.Fp p hp;refine⟨ay h1 (hm _),fun j c hc=> ?_⟩;obtain⟨v,h3,h4⟩:=h2 j c hc;exact⟨v,(hw _ _ ei).trans h3,h4.mono hm hw⟩
theorem R.BB{G:DR}{g:Gh}{D:Nat->Prop}{es:Es}{w:World}(hR:R G g D es w){n:Nat}{e:A7}{b:Nat}(h:zg es n=some e)(hf:e.AB g n=some b):b<w.heap.size:=by
 have he:=hR.BT n e h;cases e with
 |var cs=>
  obtain⟨_,vs,t,h2,_⟩:=he;simp only[A7.AB,ZI] at hf
  grind
 |map c ks xs=>
  obtain⟨_,vs,t,h2,_⟩:=he;simp only[A7.AB,ZI] at hf
  grind
 |row=>
  simp only[A7.AB,ZG] at hf;obtain⟨ρ,hρ,rfl⟩:=hf;obtain⟨cur,t,h1,_⟩:=he ρ hρ
  grind
 |gone=>cases hf
theorem A7.Cd{g g':Gh}{D:Nat->Prop}{n:Nat}{e:A7}(hn:D n)(hb:∀n,D n->g'.blk n=g.blk n)(hr:∀n,D n->g'.row n=g.row n):e.AB g' n=e.AB g n:=by
 cases e with
 |var cs=>simp[A7.AB,hb n hn]
 |map c ks xs=>simp[A7.AB,hb n hn]
 |row=>simp[A7.AB,hr n hn]
 |gone=>rfl
theorem Sv(w:World)(o:Obj)(b j:Nat)(h:b<w.heap.size):(w.alloc o).cell? ⟨b,j,none⟩=w.cell? ⟨b,j,none⟩:=World.cell?_alloc_lt (w:=w) (o:=o) (a:=⟨b,j,none⟩) h
def Gh.name(g:Gh)(n b:Nat):Gh:={g with blk:=fun i=>if i=n then b else g.blk i}
def Gh.AK(g:Gh)(n b:Nat)(ρ:Option EL):Gh:={g with blk:=fun i=>if i=n then b else g.blk i,row:=fun i=>if i=n then ρ else g.row i}
theorem R.Hx{G:DR}{g:Gh}{D:Nat->Prop}{es:Es}{w:World}(hR:R G g D es w){n:Nat}(hn:¬D n)(ρ:Option EL){vs:List Value}{cs:List V}(t:TypeId)(hl:cs.length<=vs.length)
 (h1:∀v∈vs,v.oneCell'=true) (h:∀(i:Nat) v c,vs[i]? =some v->cs[i]? =some c->Al g D w v c) (hρ:∀r,ρ=some r->vs.length=r.cap*r.sz):
 R G (g.AK n w.heap.size ρ) (fun i=>D i\/i=n) ((n,.var cs)::es) (w.alloc (.cells vs.toArray t))/\
 Ext D g (Aq g es) w (g.AK n w.heap.size ρ) (Aq (g.AK n w.heap.size ρ) ((n,.var cs)::es)) (w.alloc (.cells vs.toArray t)):=by
 have hb:∀i,D i->(g.AK n w.heap.size ρ).blk i=g.blk i:=fun i hi=>by
  have:i≠n:=fun e=>hn (e▸hi);simp[Gh.AK,this]
 have hr:∀i,D i->(g.AK n w.heap.size ρ).row i=g.row i:=fun i hi=>by
  have:i≠n:=fun e=>hn (e▸hi);simp[Gh.AK,this]
 have hcell:∀b o,o<g.m b->(w.alloc (.cells vs.toArray t)).cell? ⟨b,o,none⟩=w.cell? ⟨b,o,none⟩:=fun b o ho=>by
  exact lq
 have hm0:g.m w.heap.size=0:=hR.fresh _ (ZB _);have hold:∀i e,i≠n->zg ((n,A7.var cs)::es) i=some e->zg es i=some e:=fun i e hi h=>by
  exact lM
 have hfold:∀i e b,zg es i=some e->e.AB (g.AK n w.heap.size ρ) i=some b->e.AB g i=some b/\b<w.heap.size:=fun i e b h1 h2=>by
  rw[A7.Cd (hR.lt i e h1) hb hr] at h2;exact⟨h2,hR.BB h1 h2⟩
 have hnew:∀e,zg ((n,A7.var cs)::es) n=some e->e= .var cs:=fun e h=>by
  exact mH
 refine⟨hR.step (fun _=>ZB _) hcell (fun i hi=> .inl hi) hb hr ?_ ?_ ?_,?_⟩
 .intro i e he;by_cases hi:i=n
  .subst hi;rw[hnew e he];refine .inr ⟨.inr rfl,by simp[Gh.AK,hm0],vs,t,by rw[show(g.AK i w.heap.size ρ).blk i=w.heap.size from fW];exact heap_alloc_new w _,hl,h1,fun j v c hv hc=> ?_,fun r hr'=>hρ r (by simpa[Gh.AK] using hr')⟩;exact(h j v c hv hc).mono (fun _=>ZB _) hcell (fun i hi=> .inl hi) hb hr
  .exact mo
 .intro i j e e' b h1 h2 h3 h4;by_cases hi:i=n
  .by_cases hj:j=n
   .omega
   .subst hi;rw[hnew e h1] at h3;simp[A7.AB,Gh.AK] at h3
    grind
  .by_cases hj:j=n
   .subst hj;rw[hnew e' h2] at h4;simp[A7.AB,Gh.AK] at h4
    grind
   .exact lS
 .intro b hb';simp at hb';exact hR.fresh b dY
 .refine ⟨rfl,rfl,rfl,dZ,hcell,fun _=>ZB _,hb,hr,fun b hb' _=>⟨heap_alloc_old w _ b hb',rfl⟩,?_⟩;rintro b ⟨i,e,h2,h3⟩;by_cases hi:i=n
  .subst hi;rw[hnew e h2] at h3;simp[A7.AB,Gh.AK] at h3;omega
  .exact .inl ⟨i,e,hold i e hi h2,(hfold i e b (hold i e hi h2) h3).1⟩
theorem R.box{G:DR}{g:Gh}{D:Nat->Prop}{es:Es}{w:World}(hR:R G g D es w){n:Nat}(hn:¬D n){vs:List Value}{cs:List V}(t:TypeId)(hl:cs.length<=vs.length)
 (h1:∀v∈vs,v.oneCell'=true) (h:∀(i:Nat) v c,vs[i]? =some v->cs[i]? =some c->Al g D w v c):
 R G (g.AK n w.heap.size none) (fun i=>D i\/i=n) ((n,.var cs)::es) (w.alloc (.cells vs.toArray t))/\
 Ext D g (Aq g es) w (g.AK n w.heap.size none) (Aq (g.AK n w.heap.size none) ((n,.var cs)::es)) (w.alloc (.cells vs.toArray t)):=
 hR.Hx hn none t hl h1 h (fun r h=>eE)
def Gh.share(g:Gh)(b n:Nat):Gh:={g with m:=fun i=>if i=b then n else g.m i}
theorem R.share{G:DR}{g:Gh}{D:Nat->Prop}{es:Es}{w:World}(hR:R G g D es w)(vs:Array Value)(t:TypeId)(n:Nat)(hn:n<=vs.size):
 R G (g.share w.heap.size n) D es (w.alloc (.cells vs t))/\
 Ext D g (Aq g es) w (g.share w.heap.size n) (Aq (g.share w.heap.size n) es) (w.alloc (.cells vs t)):=by
 have hm0:g.m w.heap.size=0:=hR.fresh _ (ZB _);have hm:∀b,g.m b<=(g.share w.heap.size n).m b:=fun b=>by
  by_cases h:b=w.heap.size
  .grind
  .simp[Gh.share,h]
 have hcell:∀b o,o<g.m b->(w.alloc (.cells vs t)).cell? ⟨b,o,none⟩=w.cell? ⟨b,o,none⟩:=fun b o ho=>by
  exact lq
 have hsame:∀b,b<w.heap.size->(w.alloc (.cells vs t)).heap[b]? =w.heap[b]? /\(g.share w.heap.size n).m b=g.m b:=fun b hb=>
  ⟨heap_alloc_old w _ b hb,by simp[Gh.share,Nat.ne_of_lt hb]⟩
 refine⟨hR.step hm hcell (fun i hi=>hi) (fun _ _=>rfl) (fun _ _=>rfl) (fun i e he=> .inl ⟨he,fun b hb=>hsame b (hR.BB he hb)⟩) hR.A9 ?_,?_⟩
 .intro b hb;simp at hb;have:b≠w.heap.size:=dY
  simp[Gh.share,this];exact hR.fresh b dY
 .exact ⟨rfl,rfl,rfl,dZ,hcell,hm,fun _ _=>rfl,fun _ _=>rfl,fun b hb _=>hsame b hb,fun b h=> .inl h⟩
theorem Wq(w:World)(b:Nat)(vs:Array Value)(b' o:Nat)(h:b'≠b):(w.setRow b vs).cell? ⟨b',o,none⟩=w.cell? ⟨b',o,none⟩:=
 World.cell?_of_block (a:=⟨b',o,none⟩) (setRow_other w b b' vs h)
theorem R.store{G:DR}{g:Gh}{D:Nat->Prop}{es:Es}{w:World}(hR:R G g D es w){n:Nat}{cs cs':List V}(hn:zg es n=some (.var cs))
 {vs:List Value} {vs':List Value} {t:TypeId} (hh:w.heap[g.blk n]? =some (.cells vs.toArray t (0,0))) (hl:cs'.length<=vs'.length) (hlv:vs'.length=vs.length)
 (h1:∀v∈vs',v.oneCell'=true) (h:∀(i:Nat) v c,vs'[i]? =some v->cs'[i]? =some c->Al g D w v c):
 R G g D ((n,.var cs')::es) (w.setRow (g.blk n) vs'.toArray)/\
 Ext D g (Aq g es) w g (Aq g ((n,.var cs')::es)) (w.setRow (g.blk n) vs'.toArray):=by
 have hm0:g.m (g.blk n)=0:=(hR.BT n _ hn).1;have hrw:∀r,g.row n=some r->vs.length=r.cap*r.sz:=fun r hr=>by
  obtain⟨_,us,t',q1,_,_,_,q2⟩:=hR.BT n _ hn
  grind
 have hne:∀b o,o<g.m b->b≠g.blk n:=fun b o ho e=>ei
 have hcell:∀b o,o<g.m b->(w.setRow (g.blk n) vs'.toArray).cell? ⟨b,o,none⟩=w.cell? ⟨b,o,none⟩:=fun b o ho=>
  Wq w _ _ b o (hne b o ho)
 have hold:∀i e,i≠n->zg ((n,A7.var cs')::es) i=some e->zg es i=some e:=fun i e hi h=>by
  exact lM
 have hnew:∀e,zg ((n,A7.var cs')::es) n=some e->e= .var cs':=fun e h=>by
  exact mH
 have hfoot:∀i e b,zg ((n,A7.var cs')::es) i=some e->e.AB g i=some b->∃e',zg es i=some e'/\e'.AB g i=some b:=fun i e b h2 h3=>by
  exact nj
 have hother:∀b,b≠g.blk n->(w.setRow (g.blk n) vs'.toArray).heap[b]? =w.heap[b]? :=fun b hb=>setRow_other w _ b _ hb;refine⟨hR.step (fun _=>ZB _) hcell (fun i hi=>hi) (fun _ _=>rfl) (fun _ _=>rfl) ?_ ?_ ?_,?_⟩
 .intro i e he;by_cases hi:i=n
  .subst hi;rw[hnew e he];exact .inr ⟨hR.lt _ _ hn,hm0,vs',t,setRow_heap w _ _ _ t _ hh,hl,h1,fun j v c hv hc=>
    (h j v c hv hc).mono (fun _=>ZB _) hcell (fun i hi=>hi) (fun _ _=>rfl) (fun _ _=>rfl),fun r hr=>hlv.trans (hrw r hr)⟩
  .exact lQ
 .exact lP
 .intro b hb;simp at hb;exact hR.fresh b hb
 .refine ⟨rfl,rfl,rfl,dZ,hcell,fun _=>ZB _,fun _ _=>rfl,fun _ _=>rfl,fun b hb hf=>⟨hother b (fun e=>hf ⟨n,_,hn,iD⟩),rfl⟩,?_⟩;rintro b ⟨i,e,h2,h3⟩;obtain⟨d,h6,h7⟩:=hfoot i e b h2 h3;exact .inl ⟨i,d,h6,h7⟩
theorem Al.drew{g:Gh}{D:Nat->Prop}{w:World}{v:Value}{c:V}(h:Al g D w v c):Al g D w.drew v c:=
 h.mono (fun _=>ZB _) (fun _ _ _=>rfl) (fun _ h=>h) (fun _ _=>rfl) (fun _ _=>rfl)
theorem R.drew{G:DR}{g:Gh}{D:Nat->Prop}{es:Es}{w:World}(hR:R G g D es w):R G g D es w.drew:=
 hR.step (fun _=>ZB _) (fun _ _ _=>rfl) (fun _ h=>h) (fun _ _=>rfl) (fun _ _=>rfl) (fun n e h=> .inl ⟨h,fun _ _=>⟨rfl,rfl⟩⟩) hR.A9 hR.fresh
theorem Ext.drew{D:Nat->Prop}{g:Gh}{F:Nat->Prop}{w:World}:Ext D g F w g F w.drew:=
 ⟨rfl,rfl,rfl,ZB _,fun _ _ _=>rfl,fun _=>ZB _,fun _ _=>rfl,fun _ _=>rfl,fun _ _ _=>⟨rfl,rfl⟩,fun _ h=> .inl h⟩
theorem R.more{G:DR}{g:Gh}{D D':Nat->Prop}{es:Es}{w:World}(hR:R G g D es w)(hD:∀n,D n->D' n):R G g D' es w:=
 hR.step (fun _=>ZB _) (fun _ _ _=>rfl) hD (fun _ _=>rfl) (fun _ _=>rfl) (fun n e h=> .inl ⟨h,fun _ _=>⟨rfl,rfl⟩⟩) hR.A9 hR.fresh
theorem Al.more{g:Gh}{D D':Nat->Prop}{w:World}{v:Value}{c:V}(h:Al g D w v c)(hD:∀n,D n->D' n):Al g D' w v c:=
 h.mono (fun _=>ZB _) (fun _ _ _=>rfl) hD (fun _ _=>rfl) (fun _ _=>rfl)
theorem Nf{es:Es}{r i:Nat}{e:A7}(h:zg ((r,A7.gone)::es) i=some e):(i=r/\e= .gone)\/(i≠r/\zg es i=some e):=by
 rw[zm] at h
 grind
theorem R.gone{G:DR}{g:Gh}{D:Nat->Prop}{es:Es}{w:World}(hR:R G g D es w){r:Nat}{e:A7}(hr:zg es r=some e):
 R G g D ((r,.gone)::es) w/\Ext D g (Aq g es) w g (Aq g ((r,.gone)::es)) w:=by
 refine⟨hR.step (fun _=>ZB _) (fun _ _ _=>rfl) (fun _ h=>h) (fun _ _=>rfl) (fun _ _=>rfl) ?_ ?_ hR.fresh,?_⟩
 .intro n e h;rcases Nf h with⟨rfl,rfl⟩|⟨_,h2⟩
  .exact .inr ⟨hR.lt _ _ hr,trivial⟩
  grind
 .intro n n' e e' b h1 h2 h3 h4;rcases Nf h1 with⟨rfl,rfl⟩|⟨_,h1⟩
  .cases h3
  .rcases Nf h2 with⟨rfl,rfl⟩|⟨_,h2⟩
   .cases h4
   .exact hR.A9 n n' e e' b h1 h2 h3 h4
 .refine {Ext.refl D g (Aq g es) w with CM:= ?_};rintro b ⟨n,e,h1,h2⟩;rcases Nf h1 with⟨rfl,rfl⟩|⟨_,h1⟩
  .cases h2
  .exact .inl ⟨n,e,h1,h2⟩
def Gh.BU(g:Gh)(n:Nat)(ρ:Option EL):Gh:={g with row:=fun i=>if i=n then ρ else g.row i}
theorem yg{es:Es}{n i:Nat}{d e:A7}(hi:i≠n)(h:zg ((n,d)::es) i=some e):zg es i=some e:=by
 exact lM
theorem w7{es:Es}{n:Nat}{d e:A7}(h:zg ((n,d)::es) n=some e):e=d:=by
 exact mH
theorem R.Lm{G:DR}{g:Gh}{D:Nat->Prop}{es:Es}{w:World}(hR:R G g D es w){n:Nat}(hn:¬D n)(vs:Array Value)(t:TypeId)(len cap sz:Nat)(hs:vs.size=cap*sz)(hc:len<=cap):
 R G ((g.share w.heap.size (len*sz)).BU n (some ⟨w.heap.size,len,cap,sz,0⟩)) (fun i=>D i\/i=n) ((n,.row)::es) (w.alloc (.cells vs t))/\
 Ext D g (Aq g es) w ((g.share w.heap.size (len*sz)).BU n (some ⟨w.heap.size,len,cap,sz,0⟩)) (Aq ((g.share w.heap.size (len*sz)).BU n (some ⟨w.heap.size,len,cap,sz,0⟩)) ((n,.row)::es)) (w.alloc (.cells vs t)):=by
 obtain⟨h1,h2⟩:=hR.share vs t (len*sz) (by rw[hs];exact aL _ hc);have hrow:∀i,D i->((g.share w.heap.size (len*sz)).BU n (some ⟨w.heap.size,len,cap,sz,0⟩)).row i=(g.share w.heap.size (len*sz)).row i:=fun i hi=>by
  have:i≠n:=fun e=>hn (e▸hi);simp[Gh.BU,this]
 have hnew:((g.share w.heap.size (len*sz)).BU n (some ⟨w.heap.size,len,cap,sz,0⟩)).row n=some ⟨w.heap.size,len,cap,sz,0⟩:=by simp[Gh.BU]
 have hfold:∀i e b,zg es i=some e->e.AB ((g.share w.heap.size (len*sz)).BU n (some ⟨w.heap.size,len,cap,sz,0⟩)) i=some b->e.AB g i=some b/\b<w.heap.size:=fun i e b h1 h2=>by
  have h2:=(A7.Cd (g:=g) (g':=(g.share w.heap.size (len*sz)).BU n (some ⟨w.heap.size,len,cap,sz,0⟩)) (e:=e) (hR.lt i e h1) (fun _ _=>rfl) hrow).symm.trans h2;exact⟨h2,hR.BB h1 h2⟩
 refine⟨h1.step (fun _=>ZB _) (fun _ _ _=>rfl) (fun i hi=> .inl hi) (fun _ _=>rfl) hrow ?_ ?_ h1.fresh,?_⟩
 .intro i e he;by_cases hi:i=n
  .subst hi;rw[w7 he];refine .inr ⟨.inr rfl,fun ρ hρ=> ?_⟩;rw[hnew] at hρ;cases hρ;exact⟨vs,t,heap_alloc_new w _,ei,by simp[Gh.share,Gh.BU],hc⟩
  .exact .inl ⟨yg hi he,fun b hb=>⟨rfl,rfl⟩⟩
 .intro i j e e' b h3 h4 h5 h6;by_cases hi:i=n
  .by_cases hj:j=n
   .omega
   .subst hi;rw[w7 h3] at h5;simp[A7.AB,hnew] at h5;have:=hfold j e' b (yg hj h4) h6;omega
  .by_cases hj:j=n
   .subst hj;rw[w7 h4] at h6;simp[A7.AB,hnew] at h6;have:=hfold i e b (yg hi h3) h5;omega
   .exact hR.A9 i j e e' b (yg hi h3) (yg hj h4) (hfold i e b (yg hi h3) h5).1 (hfold j e' b (yg hj h4) h6).1
 .refine ⟨rfl,rfl,rfl,h2.size,h2.cells,h2.mark,fun _ _=>rfl,hrow,h2.frame,?_⟩;rintro b ⟨i,e,h3,h4⟩;by_cases hi:i=n
  .subst hi;rw[w7 h3] at h4;simp[A7.AB,hnew] at h4;omega
  .exact .inl ⟨i,e,yg hi h3,(hfold i e b (yg hi h3) h4).1⟩
theorem R.KS{G:DR}{g:Gh}{D:Nat->Prop}{es:Es}{w:World}(hR:R G g D es w){n:Nat}(hn:¬D n):
 R G (g.BU n none) (fun i=>D i\/i=n) ((n,.row)::es) w/\Ext D g (Aq g es) w (g.BU n none) (Aq (g.BU n none) ((n,.row)::es)) w:=by
 have hrow:∀i,D i->(g.BU n none).row i=g.row i:=fun i hi=>by
  have:i≠n:=fun e=>hn (e▸hi);simp[Gh.BU,this]
 have hnew:(g.BU n none).row n=none:=by simp[Gh.BU]
 have hfold:∀i e b,zg es i=some e->e.AB (g.BU n none) i=some b->e.AB g i=some b:=fun i e b h1 h2=>by
  exact(A7.Cd (g:=g) (g':=g.BU n none) (e:=e) (hR.lt i e h1) (fun _ _=>rfl) hrow).symm.trans h2
 refine⟨hR.step (fun _=>ZB _) (fun _ _ _=>rfl) (fun i hi=> .inl hi) (fun _ _=>rfl) hrow ?_ ?_ hR.fresh,?_⟩
 .intro i e he;by_cases hi:i=n
  .subst hi;rw[w7 he];exact .inr ⟨.inr rfl,fun ρ hρ=>ei⟩
  .exact .inl ⟨yg hi he,fun b hb=>⟨rfl,rfl⟩⟩
 .intro i j e e' b h3 h4 h5 h6;by_cases hi:i=n
  .subst hi;rw[w7 h3] at h5;simp[A7.AB,hnew] at h5
  .by_cases hj:j=n
   .subst hj;rw[w7 h4] at h6;simp[A7.AB,hnew] at h6
   .exact hR.A9 i j e e' b (yg hi h3) (yg hj h4) (hfold i e b (yg hi h3) h5) (hfold j e' b (yg hj h4) h6)
 .refine {Ext.refl D g (Aq g es) w with row:=hrow,CM:= ?_};rintro b ⟨i,e,h3,h4⟩;by_cases hi:i=n
  .subst hi;rw[w7 h3] at h4;simp[A7.AB,hnew] at h4
  .exact .inl ⟨i,e,yg hi h3,hfold i e b (yg hi h3) h4⟩
theorem R.grow{G:DR}{g:Gh}{D:Nat->Prop}{es:Es}{w:World}(hR:R G g D es w){n r:Nat}(hn:¬D n)(hr:zg es r=some .row){ρ:EL}(hρ:g.row r=some ρ)
 {cur:Array Value} {t:TypeId} (hh:w.heap[ρ.b]? =some (.cells cur t (0,0))) (cur':Array Value) (hsz:cur'.size=cur.size) (hsame:∀o,o<ρ.off+ρ.len*ρ.sz->cur'[o]? =cur[o]?) (len:Nat)
 (hlen:ρ.len<=len) (hcap:len<=ρ.cap):
 R G (({g with m:=fun i=>if i=ρ.b then ρ.off+len*ρ.sz else g.m i}:Gh).BU n (some ⟨ρ.b,len,ρ.cap,ρ.sz,ρ.off⟩)) (fun i=>D i\/i=n) ((n,.row)::(r,.gone)::es) (w.setRow ρ.b cur')/\
 Ext D g (Aq g es) w (({g with m:=fun i=>if i=ρ.b then ρ.off+len*ρ.sz else g.m i}:Gh).BU n (some ⟨ρ.b,len,ρ.cap,ρ.sz,ρ.off⟩))
  (Aq (({g with m:=fun i=>if i=ρ.b then ρ.off+len*ρ.sz else g.m i}:Gh).BU n (some ⟨ρ.b,len,ρ.cap,ρ.sz,ρ.off⟩)) ((n,.row)::(r,.gone)::es)) (w.setRow ρ.b cur'):=by
 obtain⟨cur0,t0,h1,h2,h3,h4⟩:=hR.BT r _ hr ρ hρ;rw[hh] at h1;cases h1;generalize hg':(({g with m:=fun i=>if i=ρ.b then ρ.off+len*ρ.sz else g.m i}:Gh).BU n (some ⟨ρ.b,len,ρ.cap,ρ.sz,ρ.off⟩))=g';have hblk:∀i,g'.blk i=g.blk i:=fun i=>by subst hg';rfl
 have hrow:∀i,D i->g'.row i=g.row i:=fun i hi=>by
  have:i≠n:=fun e=>hn (e▸hi);subst hg';simp[Gh.BU,this]
 have hnew:g'.row n=some ⟨ρ.b,len,ρ.cap,ρ.sz,ρ.off⟩:=by subst hg';simp[Gh.BU]
 have hmb:g'.m ρ.b=ρ.off+len*ρ.sz:=by subst hg';simp[Gh.BU]
 have hmo:∀b,b≠ρ.b->g'.m b=g.m b:=fun b hb=>by subst hg';simp[Gh.BU,hb]
 have hm:∀b,g.m b<=g'.m b:=fun b=>by
  by_cases hb:b=ρ.b
  .subst hb;rw[hmb,h3];exact Nat.add_le_add_left (aL _ hlen) _
  grind
 have hheap:(w.setRow ρ.b cur').heap[ρ.b]? =some (.cells cur' t (0,0)):=setRow_heap w _ _ _ t _ hh;have hother:∀b,b≠ρ.b->(w.setRow ρ.b cur').heap[b]? =w.heap[b]? :=fun b hb=>setRow_other w _ b _ hb;have hcell:∀b o,o<g.m b->(w.setRow ρ.b cur').cell? ⟨b,o,none⟩=w.cell? ⟨b,o,none⟩:=fun b o ho=>by
  by_cases hb:b=ρ.b
  .subst hb;rw[ux hheap,ux hh]
   grind
  .exact Wq w _ _ b o hb
 have hDr:D r:=hR.lt r _ hr;have hnr:r≠n:=fun e=>hn (e▸hDr);have hent:∀i e,zg ((n,A7.row)::(r,A7.gone)::es) i=some e->(i=n/\e= .row)\/(i=r/\e= .gone)\/(i≠n/\i≠r/\zg es i=some e):=fun i e h=>by
  by_cases hi:i=n
  .subst hi;exact .inl ⟨rfl,w7 h⟩
  .rcases Nf (yg hi h) with⟨h5,h6⟩|⟨h5,h6⟩;all_goals grind
 have hfold:∀i e b,zg es i=some e->e.AB g' i=some b->e.AB g i=some b:=fun i e b h1 h2=>by
  rw[A7.Cd (hR.lt i e h1) (g:=g) (fun i _=>hblk i) hrow] at h2;exact h2
 have hrb:(A7.row).AB g r=some ρ.b:=by simp[A7.AB,hρ]
 have hne:∀i e b,i≠r->zg es i=some e->e.AB g i=some b->b≠ρ.b:=fun i e b hi h5 h6 e2=>by
  subst e2;exact hi (hR.A9 i r e _ _ h5 hr h6 hrb)
 have hnf:∀b,(A7.row).AB g' n=some b->b=ρ.b:=fun b h=>by simp[A7.AB,hnew] at h;omega
 refine⟨hR.step hm hcell (fun i hi=> .inl hi) (fun i _=>hblk i) hrow ?_ ?_ ?_,?_⟩
 .intro i e he;rcases hent i e he with⟨rfl,rfl⟩|⟨rfl,rfl⟩|⟨h5,h6,h7⟩
  .refine .inr ⟨.inr rfl,fun ρ' hρ'=> ?_⟩
   grind
  .exact .inr ⟨.inl hDr,trivial⟩
  grind
 .intro i j e e' b h5 h6 h7 h8;rcases hent i e h5 with⟨rfl,rfl⟩|⟨rfl,rfl⟩|⟨h9,h10,h11⟩
  .rcases hent j e' h6 with⟨rfl,rfl⟩|⟨rfl,rfl⟩|⟨h12,h13,h14⟩
   .rfl
   .cases h8
   grind
  .cases h7
  .rcases hent j e' h6 with⟨rfl,rfl⟩|⟨rfl,rfl⟩|⟨h12,h13,h14⟩
   .grind
   .cases h8
   .exact hR.A9 i j e e' b h11 h14 (hfold i e b h11 h7) (hfold j e' b h14 h8)
 .intro b hb;simp at hb;have h5:ρ.b<w.heap.size:=(au.1 hh).1;rw[hmo b dY];exact hR.fresh b hb
 .refine ⟨rfl,rfl,rfl,dZ,hcell,hm,fun i _=>hblk i,hrow,fun b hb hf=> ?_,?_⟩
  .have:b≠ρ.b:=fun e=>hf ⟨r,_,hr,ei⟩
   grind
  .rintro b ⟨i,e,h5,h6⟩;rcases hent i e h5 with⟨rfl,rfl⟩|⟨rfl,rfl⟩|⟨h9,h10,h11⟩
   .exact .inl ⟨r,_,hr,ei⟩
   .cases h6
   .exact .inl ⟨i,e,h11,hfold i e b h11 h6⟩
def OS(E:Env)(N:Nat)(o:Oper)(a:AF)(pre:Es)(v:V)(news:List Nat)(post:Es):Prop:=
 ∀g D es w act,R E.G g D es w->(∀p∈pre,zg es p.1=some p.2)->(∀n∈news,¬D n)->Ba g D w N act a->∀(K:Act->World->Prop) (Q:Exit->Act->World->Prop),
  (∀g' v' w',R E.G g' (fun n=>D n\/n∈news) (post++es) w'->Al g' (fun n=>D n\/n∈news) w' v' v->Ext D g (Aq g es) w g' (Aq g' (post++es)) w'->K (act.put o.dst v') w')->o.wp E.P act w K Q
def HK(E:Env)(N:Nat)(o:Oper)(a:AF)(pre:Es)(v:V)(news:List Nat)(post:Es):Prop:=
 ∀g D es w act,R E.G g D es w->D3 E.Y g (Aq g es) w->(∀p∈pre,zg es p.1=some p.2)->(∀n∈news,¬D n)->Ba g D w N act a->∀(K:Act->World->Prop) (Q:Exit->Act->World->Prop),
  (∀g' v' w',R E.G g' (fun n=>D n\/n∈news) (post++es) w'->Al g' (fun n=>D n\/n∈news) w' v' v->Ext D g (Aq g es) w g' (Aq g' (post++es)) w'->K (act.put o.dst v') w')->o.wp E.P act w K Q
theorem OS.y{E:Env}{N:Nat}{o:Oper}{a:AF}{pre:Es}{v:V}{news:List Nat}{post:Es}(h:OS E N o a pre v news post):HK E N o a pre v news post:=
 fun g D es w act hR _=>h g D es w act hR
section
variable {E:Env} {N:Nat} {o:Oper} {a:AF}
theorem OS.of_run{pre:Es}{v:V}{news:List Nat}{post:Es}
 (h:∀g D es w act,R E.G g D es w->(∀p∈pre,zg es p.1=some p.2)->(∀n∈news,¬D n)->Ba g D w N act a->
  ∃g' v' w',(execOp act.eval o).run E.P w= .ok (.value v') w'/\R E.G g' (fun n=>D n\/n∈news) (post++es) w'/\Al g' (fun n=>D n\/n∈news) w' v' v/\Ext D g (Aq g es) w g' (Aq g' (post++es)) w'):
 OS E N o a pre v news post:=by
 intro g D es w act hR hp hn hF K Q hK;obtain⟨g',v',w',h1,h2,h3,h4⟩:=h g D es w act hR hp hn hF;unfold Oper.wp;rw[h1];exact hK g' v' w' h2 h3 h4
theorem OS.GR{pre:Es}{post:Es}
 (h:∀g D es w act,R E.G g D es w->(∀p∈pre,zg es p.1=some p.2)->Ba g D w N act a->
  ∃w',(execOp act.eval o).run E.P w= .ok .skip w'/\R E.G g D (post++es) w'/\Ext D g (Aq g es) w g (Aq g (post++es)) w'):
 OS E N o a pre (.AM []) [] post:=by
 intro g D es w act hR hp hn hF K Q hK;obtain⟨w',h1,h2,h4⟩:=h g D es w act hR hp hF;unfold Oper.wp;rw[h1];exact hK g undef w' (h2.more fun n h=> .inl h) (.AM [] [] rfl (fun i v c h=>dZ)) h4
theorem OS.pure{pre:Es}{v:V}
 (h:∀g D es w act,R E.G g D es w->(∀p∈pre,zg es p.1=some p.2)->Ba g D w N act a->∃v',(execOp act.eval o).run E.P w= .ok (.value v') w/\Al g D w v' v):
 OS E N o a pre v [] []:=
 .of_run fun g D es w act hR hp _ hF=>
  let ⟨v',h1,h2⟩:=h g D es w act hR hp hF
  ⟨g,v',w,h1,hR.more fun n h=> .inl h,h2.more fun n h=> .inl h,.refl ..⟩
theorem Al.BA{g:Gh}{D:Nat->Prop}{w:World}{v:Value}{k:IntKind}{n:Int}(h:Al g D w v (.int k n)):v= .int k n:=by
 cases h with|data h=>cases h;rfl
theorem Al.CQ{g:Gh}{D:Nat->Prop}{w:World}{v:Value}{b:Bool}(h:Al g D w v (.bool b)):v= .bool b:=by
 cases h with|data h=>cases h;rfl
theorem Al.Js{g:Gh}{D:Nat->Prop}{w:World}{v:Value}{cs:List V}(h:Al g D w v (.agg cs)):
 ∃vs:List Value,v= .agg vs.toArray/\vs.length=cs.length/\(∀v∈vs,v.oneCell'=true)/\∀(i:Nat) v c,vs[i]? =some v->cs[i]? =some c->Al g D w v c:=by
 cases h with
 |data h=>cases h
 |agg vs _ hl h1 h=>grind
theorem Al.Jv{g:Gh}{D:Nat->Prop}{w:World}{v:Value}{cs:List V}(h:Al g D w v (.AM cs)):
 ∃vs:List Value,v= .tuple vs.toArray/\vs.length=cs.length/\∀(i:Nat) v c,vs[i]? =some v->cs[i]? =some c->Al g D w v c:=by
 cases h with
 |data h=>cases h
 |AM vs _ hl h=>grind
theorem Al.Bu{g:Gh}{D:Nat->Prop}{w:World}{v:Value}{sp:Sp}{l:SL V}(h:Al g D w v (.slice sp l)):A4 g.m w v (.slice .any l):=by
 have:=Ai.any sp l g D w v h;cases this<;>simp_all
theorem Al.HX{g:Gh}{D:Nat->Prop}{w:World}{v:Value}{f:Fn}{fi caps:List V}(h:Al g D w v (.fn f fi caps)):
 ∃vs vs':List Value,v= .func f vs.toArray vs'.toArray/\vs.length=fi.length/\vs'.length=caps.length/\(∀(i:Nat) v c,vs[i]? =some v->fi[i]? =some c->Al g D w v c)/\
  ∀(i:Nat) v c,vs'[i]? =some v->caps[i]? =some c->Al g D w v c:=by
 cases h with
 |data h=>cases h
 |fn _ vs vs' _ _ h1 h2 h3 h4=>grind
theorem A4.Bu{m:Nat->Nat}{w:World}{v:Value}{l:SL V}(h:A4 m w v (.slice .any l)):∃b cap,v= .slice b l.len cap:=by
 cases h<;>simp_all
theorem Jf{t:TypeId}{i:TI}(h:E.ti t=some i):∃inf,E.P.info? t=some inf/\inf.size=i.size/\∃z,inf.zero=some z/\J0 z.cells.toList i.zero=true:=by
 have:=Env.Kc h;unfold MI at this;rw[ZC] at this;have h1:=this.1;split at h1
 .rename_i inf hi;rw[ZC] at h1;have h2:=h1.2;split at h2;all_goals simp_all
 grind
theorem Kf{t:TypeId}{i:TI}(h:E.ti t=some i):∃d,E.P.underlying t=some d/\(match d,i.desc with
 |(.int k),.int k'=>decide (k=k')
 | .bool,.bool=>true
 | .string,.str=>true
 |(.struct fs),.strct gs=>Ig E.P fs.toList gs
 |(.array n e),.arr n' esz eagg=>Nat.beq n n'&&L7 E.P e esz&&Nat.blt 0 esz&&(match N5 E.P e with|some b=>decide (b=eagg)|none=>false)
 |(.slice e),.slc c esz bytes=>Uf E.P e esz bytes&&Nat.blt 0 esz&&NJ c esz
 |d,.other=>(match d with| .struct _| .array _ _| .slice _=>false|_=>true)
 |_,_=>false)=true:=by
 have:=Env.Kc h;unfold MI at this
 grind
theorem Tn{t:TypeId}{inf:TypeInfo}{z:Value}{w:World}(h:E.P.info? t=some inf)(hz:inf.zero=some z):(zeroValue t).run E.P w= .ok z w:=by
 simp[zeroValue,typeInfo,h,hz]
theorem wc{t:TypeId}{inf:TypeInfo}{w:World}(h:E.P.info? t=some inf):(sizeOf t).run E.P w= .ok inf.size w:=by
 simp[sizeOf,typeInfo,h]
theorem xg{t:TypeId}{d:TypeDesc}{w:World}(h:E.P.underlying t=some d):(underlying t).run E.P w= .ok d w:=by
 simp[underlying,h]
def TD.agg:TD->Bool| .strct _| .arr _ _ _=>true|_=>false
theorem Zx0{t:TypeId}{i:TI}{w:World}(h:E.ti t=some i):(isAgg t).run E.P w= .ok i.desc.agg w:=by
 obtain⟨d,h1,h2⟩:=Kf h;unfold isAgg;simp only[Sem.run_bind,xg h1,Result.andThen_ok];revert h2;cases d<;>cases i.desc<;>simp[TD.agg]
theorem v8:∀{vs:List Value} {cs:List V},J0 vs cs=true->vs.length=cs.length/\(∀v∈vs,v.oneCell'=true)/\
 ∀(g:Gh) (D:Nat->Prop) (w:World) (i:Nat) v c,vs[i]? =some v->cs[i]? =some c->Al g D w v c:=by
 intro vs;induction vs with
 |nil=>intro cs h;cases cs with|nil=>simp|cons=>simp[J0] at h
 |cons v l ih=>
  intro cs h;cases cs with
  |nil=>simp[J0] at h
  |cons c l'=>
   simp only[J0,ZC] at h;obtain⟨h1,h2⟩:=h;obtain⟨h3,h4,h5⟩:=ih h2;have hv:v.oneCell'=true/\∀(g:Gh) (D:Nat->Prop) (w:World),Al g D w v c:=by
    split at h1
    .simp only[ZC,decide_eq_true_eq] at h1;obtain⟨rfl,rfl⟩:=h1;exact⟨rfl,fun _ _ _=> .data (.int _ _)⟩
    .simp only[decide_eq_true_eq] at h1;subst h1;exact⟨rfl,fun _ _ _=> .data (.bool _)⟩
    .simp only[decide_eq_true_eq] at h1;subst h1;exact⟨rfl,fun _ _ _=> .data (.str _)⟩
    .exact ⟨rfl,fun _ _ _=> .nilS _ (Z9 h1)⟩
    .exact ⟨rfl,fun _ _ _=> .nilp⟩
    .exact ⟨rfl,fun _ _ _=> .nilf⟩
    .exact ⟨rfl,fun _ _ _=> .raw _⟩
    .exact ⟨rfl,fun _ _ _=> .raw _⟩
    grind
   grind
theorem OS.move{x:Operand}{v:V}(ho:o.op= .move x\/o.op= .assign x)(h:ev E o.type a x=some v):OS E N o a [] v [] []:=
 .pure fun g D es w act hR _ hF=>⟨_,by rcases ho with ho|ho<;>simp[execOp,ho],z6 h hR hF⟩
theorem OS.pick{c x y:Operand}{b:Bool}{v:V}(ho:o.op= .pick c x y)(hc:ev E 0 a c=some (.bool b))(h:ev E o.type a (if b then x else y)=some v):OS E N o a [] v [] []:=
 .pure fun g D es w act hR _ hF=>by
  have h1:=(z6 hc hR hF).CQ;have h2:=z6 h hR hF;refine⟨_,?_,h2⟩;cases b<;>simp[execOp,ho,h1,asBool]
def cellsOf:V->Option (List V)
 | .agg cs=>some cs
 | .AM _=>none
 | .raw _=>none
 |v=>some [v]
theorem uz{c:V}{cs:List V}(h:cellsOf c=some cs){g:Gh}{D:Nat->Prop}{w:World}{v:Value}(hv:Al g D w v c):
 ∃vs:List Value,v.cells=vs.toArray/\vs.length=cs.length/\(∀v∈vs,v.oneCell'=true)/\∀(i:Nat) v c,vs[i]? =some v->cs[i]? =some c->Al g D w v c:=by
 have one:∀{v:Value} {c:V},Al g D w v c->v.oneCell'=true->v.cells= #[v]->∃vs:List Value,v.cells=vs.toArray/\vs.length=[c].length/\(∀v∈vs,v.oneCell'=true)/\∀(i:Nat) v c',vs[i]? =some v->[c][i]? =some c'->Al g D w v c':=by
  grind
 have hv0:=hv;cases hv with
 |data h1=>cases h1<;>(simp only[cellsOf,ZI] at h;subst h;exact one hv0 rfl rfl)
 |agg vs cs' hl h1 h2=>simp only[cellsOf,ZI] at h;subst h;exact⟨vs,rfl,hl,h1,h2⟩
 |AM=>cases h
 |raw=>cases h
 |own r hr v l h1 hd=>
  simp only[cellsOf,ZI] at h;subst h;cases hd<;>exact one hv0 rfl rfl
 |_=>simp only[cellsOf,ZI] at h;subst h;exact one hv0 rfl rfl
theorem V3(D:Nat->Prop)(g:Gh)(n:Nat)(w:World){b:Nat}{ρ:Option EL}:Al (g.AK n b ρ) (fun i=>D i\/i∈[n]) w (.pointer (some ⟨b,0,none⟩)) (.ptr n 0):=by
 have h:=Al.ptr (g:=g.AK n b ρ) (D:=fun i=>D i\/i∈[n]) (w:=w) n 0 (Or.inr (ah.2 rfl));have hb:(g.AK n b ρ).blk n=b:=fW
 grind
theorem OS.box{t:TypeId}{x:Operand}{c:V}{cs:List V}{n:Nat}(ho:o.op= .box t x)(h:ev E t a x=some c)(hc:cellsOf c=some cs):OS E N o a [] (.ptr n 0) [n] [(n,.var cs)]:=
 .of_run fun g D es w act hR _ hn hF=>by
  obtain⟨vs,h1,h2,h3,h4⟩:=uz hc (z6 h hR hF);obtain⟨hR',hx⟩:=hR.box (hn n dZ) t (dH h2.symm) h3 h4;refine⟨g.AK n w.heap.size none,.pointer (some ⟨w.heap.size,0,none⟩),w.alloc (.cells vs.toArray t),?_,hR'.more (fun i hi=>ei),?_,hx⟩
  .simp only[execOp,ho,Instr.box,newVar,newRow,Sem.run_bind,Sem.run_pure,run_newObj,Result.andThen_ok,h1,World.alloc_eq]
  .exact V3 D g n _
theorem OS.alloc{t:TypeId}{i:TI}{n:Nat}(ho:o.op= .alloc t)(h:E.ti t=some i):OS E N o a [] (.ptr n 0) [n] [(n,.var i.zero)]:=
 .of_run fun g D es w act hR _ hn hF=>by
  obtain⟨inf,h1,h2,z,h3,h4⟩:=Jf h;obtain⟨h5,h6,h7⟩:=v8 h4;obtain⟨hR',hx⟩:=hR.box (hn n dZ) t (dH h5.symm) h6 (fun i v c hv hc=>h7 g D w i v c hv hc);refine⟨g.AK n w.heap.size none,.pointer (some ⟨w.heap.size,0,none⟩),w.alloc (.cells z.cells.toList.toArray t),?_,hR'.more (fun i hi=>ei),?_,hx⟩
  .simp only[execOp,ho,Instr.alloc,newVar,newRow,Sem.run_bind,Sem.run_pure,run_newObj,Result.andThen_ok,Tn h1 h3,World.alloc_eq,Array.toArray_toList]
  .exact V3 D g n _
def G4(i:TI)(cs:List V):Option V:=
 bif i.desc.agg then(bif Nat.ble i.size cs.length then some (.agg (cs.take i.size)) else none) else cs.head?
theorem Gy(b off n:Nat):(⟨b,off,none⟩:Addr).add n=⟨b,off+n,none⟩:=by
 unfold Addr.add;simp
theorem Qi{t:TypeId}{i:TI}{b off:Nat}{cs:List V}{c:V}{g:Gh}{D:Nat->Prop}{w:World}(h:E.ti t=some i)(hc:G4 i cs=some c)(f:Nat->Value)
 (h1:∀j,j<cs.length->w.cell? ⟨b,off+j,none⟩=some (f j)) (h2:∀(j:Nat) c,cs[j]? =some c->Al g D w (f j) c/\(f j).oneCell'=true):
 ∃v,(loadVar t ⟨b,off,none⟩).run E.P w= .ok v w/\Al g D w v c:=by
 obtain⟨inf,hi,hs,_⟩:=Jf h;unfold loadVar;simp only[Sem.run_bind,Zx0 h,Result.andThen_ok];unfold G4 at hc;cases ha:i.desc.agg with
 |true=>
  rw[ha] at hc;simp only[cond_true] at hc;cases hb:Nat.ble i.size cs.length with
  |false=>grind
  |true=>
   rw[hb] at hc;simp only[cond_true,ZI] at hc;have hle:=ZP hb;have hload:=run_loadCells (P:=E.P) (w:=w) ⟨b,off,none⟩ i.size f (fun j hj=>by rw[Gy];grind);subst hc;refine⟨.agg ((List.range i.size).map f).toArray,?_,?_⟩
   .simp only[if_true,Sem.run_bind,wc hi,Result.andThen_ok,hs,hload,Sem.run_pure]
   .refine .agg _ _ ei ?_ ?_
    .intro v hv;simp only[ZQ,bS] at hv;obtain⟨j,hj,rfl⟩:=hv;exact(h2 j _ (ZD dY)).2
    grind
 |false=>
  rw[ha] at hc;simp only[cond_false] at hc;cases cs with
  |nil=>cases hc
  |cons c' l=>
   simp only[List.head?_cons,ZI] at hc;subst hc;have h3:=h1 0 dZ;simp_all
end
section
variable {E:Env} {N:Nat} {o:Oper} {a:AF}
theorem A4.one{m:Nat->Nat}{w:World}{v:Value}{c:V}(h:A4 m w v c):v.oneCell'=true:=by cases h<;>rfl
theorem OS.MC{t:TypeId}{x:Operand}{i:TI}{cs:List V}{c:V}(ho:o.op= .load t x)(ht:E.ti t=some i)(hx:ev E 0 a x=some (.addr cs))(hc:G4 i cs=some c):OS E N o a [] c [] []:=
 .pure fun g D es w act hR _ hF=>by
  have h1:=z6 hx hR hF;generalize hv:act.eval x=v at h1;cases h1 with
  |data h=>cases h
  |addr b off _ f hm hc1 hr=>
   obtain⟨v',h2,h3⟩:=Qi (E:=E) (g:=g) (D:=D) (w:=w) (b:=b) (off:=off) ht hc f hc1 (fun j c hj=>⟨.data (hr j c hj),(hr j c hj).one⟩);exact⟨v',ju,h3⟩
theorem OS.Ko{t:TypeId}{x:Operand}{i:TI}{n off:Nat}{cs:List V}{c:V}(ho:o.op= .load t x)(ht:E.ti t=some i)(hx:ev E 0 a x=some (.ptr n off))(hc:G4 i (cs.drop off)=some c):
 OS E N o a [(n,.var cs)] c [] []:=
 .pure fun g D es w act hR hp hF=>by
  have h1:=z6 hx hR hF;have hn:=hp (n,.var cs) dZ;obtain⟨_,vs,t',h4,h5,h6,h7,_⟩:=hR.BT n _ hn;generalize hv:act.eval x=v at h1;cases h1 with
  |data h=>cases h
  |ptr _ _ hD=>
   obtain⟨v',h2,h3⟩:=Qi (E:=E) (g:=g) (D:=D) (w:=w) (b:=g.blk n) (off:=off) ht hc (fun j=>vs.getD (off+j) undef)
    (fun j hj=>by
     simp only[dx] at hj;rw[ux h4]
     grind)
    (fun j c hj=>by
     grind)
   exact⟨v',ju,h3⟩
theorem YL{α:Type}(l m:List α)(o i:Nat)(ho:o+m.length<=l.length):
 (l.take o++m++l.drop (o+m.length))[i]? =if i<o then l[i]? else if i<o+m.length then m[i-o]? else l[i]? :=by
 grind
theorem OS.store{t:TypeId}{x y:Operand}{i:TI}{n off:Nat}{cs:List V}{c:V}{vc:List V}(ho:o.op= .store t x y)(ht:E.ti t=some i)(hx:ev E 0 a x=some (.ptr n off))(hy:ev E t a y=some c)
 (hc:cellsOf c=some vc) (hs:vc.length=i.size) (hb:Nat.ble (off+vc.length) cs.length=true):
 OS E N o a [(n,.var cs)] (.AM []) [] [(n,.var (cs.take off++vc++cs.drop (off+vc.length)))]:=
 .GR fun g D es w act hR hp hF=>by
  have h1:=z6 hx hR hF;have hn:=hp (n,.var cs) dZ;have hle:=ZP hb;obtain⟨_,vs,t',h4,h5,h6,h7,_⟩:=hR.BT n _ hn;obtain⟨us,h8,h9,h10,h11⟩:=uz hc (z6 hy hR hF);obtain⟨inf,h12,h13,_⟩:=Jf ht;have hl:us.length=vc.length:=h9;generalize hv:act.eval x=v at h1;cases h1 with
  |data h=>cases h
  |ptr _ _ hD=>
   have hst:=run_storeCells_at E.P (g.blk n) off t' us 0 vs.toArray w h4 ei h10;obtain⟨hR',hx'⟩:=hR.store hn h4 (vs':=vs.take off++us++vs.drop (off+us.length)) (cs':=cs.take off++vc++cs.drop (off+vc.length)) ei ei
    (fun u hu=>by
     grind)
    (fun j u d hu hd=>by
     grind)
   refine⟨w.setRow (g.blk n) (vs.take off++us++vs.drop (off+us.length)).toArray,?_,hR',hx'⟩;have h14:((act.eval y).cells.size≠inf.size)=False:=ei
   have h15:(act.eval y).cells.toList=us:=by rw[h8]
   simp only[execOp,ho,Instr.storeAt,Instr.sureAddr,hv,storeVar,Sem.run_bind,Sem.run_pure,Result.andThen_ok,wc h12,h14,if_false,h15,hst,cJ]
theorem OI:∀{fs:List Field} {gs:List (Nat×Nat×Bool)},Ig E.P fs gs=true->∀(f:Nat) p,gs[f]? =some p->
 ∃fd,fs[f]? =some fd/\fd.offset=p.1/\(∃inf,E.P.info? fd.type=some inf/\inf.size=p.2.1)/\0<p.2.1/\(∀w,(isAgg fd.type).run E.P w= .ok p.2.2 w):=by
 intro fs;induction fs with
 |nil=>intro gs h f p hp;cases gs with|nil=>grind|cons=>simp[Ig] at h
 |cons fd l ih=>
  intro gs h f p hp;cases gs with
  |nil=>grind
  |cons q l'=>
   simp only[Ig,ZC] at h;obtain⟨⟨⟨⟨h1,h2⟩,h3⟩,h4⟩,h5⟩:=h;cases f with
   |succ f=>grind
   |zero=>
    simp at hp;subst hp;refine⟨fd,rfl,Z9 h1,?_,ZP h3,?_⟩
    .unfold L7 at h2;split at h2;all_goals simp_all
    .intro w;unfold N5 at h4;unfold isAgg;cases hu:E.P.underlying fd.type with
     |none=>grind
     |some d=>
      rw[hu] at h4;simp only[Sem.run_bind,xg hu,Result.andThen_ok];cases d<;>simp at h4<;>simp[h4]
theorem NV{t:TypeId}{i:TI}{gs:List (Nat×Nat×Bool)}(h:E.ti t=some i)(hd:i.desc= .strct gs):∃fs,E.P.underlying t=some (.struct fs)/\Ig E.P fs.toList gs=true:=by
 obtain⟨d,h1,h2⟩:=Kf h
 grind
theorem SZ{fd:Field}{inf:TypeInfo}{b off:Nat}{w:World}(h:E.P.info? fd.type=some inf)(hs:0<inf.size):
 (fieldPlace ⟨b,off,none⟩ fd).run E.P w= .ok ⟨b,off+fd.offset,none⟩ w:=by
 have:¬inf.size=0:=dY
 simp[fieldPlace,wc h,this,Gy]
theorem OS.Gr{t:TypeId}{x:Operand}{i:TI}{gs:List (Nat×Nat×Bool)}{f:Nat}{p:Nat×Nat×Bool}{cs:List V}(ho:o.op= .fieldAddr t x f)(ht:E.ti t=some i)(hd:i.desc= .strct gs)
 (hf:gs[f]? =some p) (hx:ev E 0 a x=some (.addr cs)) (hb:Nat.ble p.1 cs.length=true):OS E N o a [] (.addr (cs.drop p.1)) [] []:=
 .pure fun g D es w act hR _ hF=>by
  obtain⟨fs,h1,h2⟩:=NV ht hd;obtain⟨fd,h3,h4,⟨inf,h5,h6⟩,h7,_⟩:=OI h2 f p hf;have h8:=z6 hx hR hF;have hle:=ZP hb;generalize hv:act.eval x=v at h8;cases h8 with
  |data h=>cases h
  |addr b off _ k hm hc hr=>
   have h9:fs[f]? =some fd:=ei
   refine⟨.pointer (some ⟨b,off+p.1,none⟩),?_,?_⟩
   .simp only[execOp,ho,Instr.fieldAt,xg h1,Sem.run_bind,Result.andThen_ok,h9,Instr.sureAddr,hv,Sem.run_pure,SZ (E:=E) h5 dY,h4]
   .refine .addr b (off+p.1) _ (fun j=>k (p.1+j)) ei (fun j hj=> ?_) (fun j c hj=> ?_);all_goals grind
theorem OS.ED{t:TypeId}{x:Operand}{i:TI}{gs:List (Nat×Nat×Bool)}{f:Nat}{p:Nat×Nat×Bool}{n off:Nat}(ho:o.op= .fieldAddr t x f)(ht:E.ti t=some i)(hd:i.desc= .strct gs)
 (hf:gs[f]? =some p) (hx:ev E 0 a x=some (.ptr n off)):OS E N o a [] (.ptr n (off+p.1)) [] []:=
 .pure fun g D es w act hR _ hF=>by
  obtain⟨fs,h1,h2⟩:=NV ht hd;obtain⟨fd,h3,h4,⟨inf,h5,h6⟩,h7,_⟩:=OI h2 f p hf;have h8:=z6 hx hR hF;generalize hv:act.eval x=v at h8;cases h8 with
  |data h=>cases h
  |ptr _ _ hD=>
   have h9:fs[f]? =some fd:=ei
   refine⟨.pointer (some ⟨g.blk n,off+p.1,none⟩),?_,.ptr n _ hD⟩;simp only[execOp,ho,Instr.fieldAt,xg h1,Sem.run_bind,Result.andThen_ok,h9,Instr.sureAddr,hv,Sem.run_pure,SZ (E:=E) h5 dY,h4]
theorem Al.sub{g:Gh}{D:Nat->Prop}{w:World}{vs:List Value}{cs:List V}(hl:vs.length=cs.length)(h1:∀v∈vs,v.oneCell'=true)(h:∀(i:Nat) v c,vs[i]? =some v->cs[i]? =some c->Al g D w v c)
 (off n:Nat):Al g D w (.agg ((vs.drop off).take n).toArray) (.agg ((cs.drop off).take n)):=by
 refine .agg _ _ ei (fun v hv=>h1 v (List.mem_of_mem_drop (List.mem_of_mem_take hv))) (fun i v c hv hc=> ?_)
 grind
def TN(p:Nat×Nat×Bool)(cs:List V):Option V:=bif p.2.2 then some (.agg ((cs.drop p.1).take p.2.1)) else cs[p.1]?
theorem OS.field{t:TypeId}{x:Operand}{i:TI}{gs:List (Nat×Nat×Bool)}{f:Nat}{p:Nat×Nat×Bool}{cs:List V}{c:V}(ho:o.op= .field t x f)(ht:E.ti t=some i)(hd:i.desc= .strct gs)
 (hf:gs[f]? =some p) (hx:ev E 0 a x=some (.agg cs)) (hc:TN p cs=some c):OS E N o a [] c [] []:=
 .pure fun g D es w act hR _ hF=>by
  obtain⟨fs,h1,h2⟩:=NV ht hd;obtain⟨fd,h3,h4,⟨inf,h5,h6⟩,h7,h8⟩:=OI h2 f p hf;obtain⟨vs,h9,h10,h11,h12⟩:=(z6 hx hR hF).Js;have h13:fs[f]? =some fd:=ei
  unfold TN at hc;cases hb:p.2.2 with
  |true=>
   rw[hb] at hc;simp only[cond_true,ZI] at hc;subst hc;refine⟨_,?_,Al.sub h10 h11 h12 p.1 p.2.1⟩;simp only[execOp,ho,Instr.field,xg h1,Sem.run_bind,Result.andThen_ok,h13,h9,asAgg,Sem.run_pure,part,h8,hb,if_true,wc h5,h4,h6];simp
  |false=>
   rw[hb] at hc;simp only[cond_false] at hc;have hlt:=(ZT.1 hc).1;have h14:vs[p.1]? =some (vs[p.1]' dY):=ZD _;refine⟨vs[p.1]' dY,?_,h12 _ _ c h14 hc⟩;have h15:vs.toArray[p.1]? =some (vs[p.1]' dY):=dZ
   simp only[execOp,ho,Instr.field,xg h1,Sem.run_bind,Result.andThen_ok,h13,h9,asAgg,Sem.run_pure,part,h8,hb,Bool.false_eq_true,if_false,h4,h15]
theorem OS.extract{x:Operand}{ix:Nat}{cs:List V}{c:V}(ho:o.op= .extract x ix)(hx:ev E 0 a x=some (.AM cs))(hc:cs[ix]? =some c):OS E N o a [] c [] []:=
 .pure fun g D es w act hR _ hF=>by
  obtain⟨vs,h9,h10,h12⟩:=(z6 hx hR hF).Jv;have hlt:=(ZT.1 hc).1;have h14:vs[ix]? =some (vs[ix]' dY):=ZD _;refine⟨vs[ix]' dY,?_,h12 _ _ c h14 hc⟩;have h15:vs.toArray[ix]? =some (vs[ix]' dY):=dZ
  simp only[execOp,ho,Instr.extract,h9,h15,Sem.run_bind,Result.andThen_ok,Sem.run_pure]
theorem OS.not{t:TypeId}{x:Operand}{b:Bool}(ho:o.op= .unOp .not t x)(hx:ev E 0 a x=some (.bool b)):OS E N o a [] (.bool (!b)) [] []:=
 .pure fun g D es w act hR _ hF=>⟨_,by simp[execOp,ho,(z6 hx hR hF).CQ,Op.unary],.data (.bool _)⟩
def Rq(op:BinOp)(k:IntKind)(n m:Int):Option V:=
 match op with
 | .add=>some (.int k (k.wrap (n+m)))
 | .sub=>some (.int k (k.wrap (n-m)))
 | .mul=>some (.int k (k.wrap (n*m)))
 | .eql=>some (.bool (n==m))
 | .neq=>some (.bool (n !=m))
 | .lss=>some (.bool (decide (n<m)))
 | .leq=>some (.bool (decide (n<=m)))
 | .gtr=>some (.bool (decide (n>m)))
 | .geq=>some (.bool (decide (n>=m)))
 |_=>none
theorem OS.bin{op:BinOp}{t u:TypeId}{x y:Operand}{k:IntKind}{n m:Int}{c:V}(ho:o.op= .binOp op t x y u)(hx:ev E t a x=some (.int k n))(hy:ev E t a y=some (.int k m))
 (hc:Rq op k n m=some c):OS E N o a [] c [] []:=
 .pure fun g D es w act hR _ hF=>by
  have h1:=(z6 hx hR hF).BA;have h2:=(z6 hy hR hF).BA;have hg:(eqGuard op t x y (act.eval x) (act.eval y)).run E.P w= .ok () w:=by
   rw[h1,h2];unfold eqGuard;simp
  cases op<;>simp only[Rq,ZI,reduceCtorEq] at hc<;>subst hc<;>
   (refine⟨_,by simp only[execOp,ho,hg,Sem.run_bind,Result.andThen_ok];simp only[h1,h2,binOp,ne_eq,not_true_eq_false,if_false,Op.intArith,Op.intCmp,Sem.run_pure,Result.andThen_ok];rfl,?_⟩;first|exact .data (.int _ _)|exact .data (.bool _))
theorem OS.rem{t u:TypeId}{x y:Operand}{k:IntKind}{n m:Int}(ho:o.op= .binOp .rem t x y u)(hx:ev E t a x=some (.int k n))(hy:ev E t a y=some (.int k m))(hm:m≠0):
 OS E N o a [] (.int k (n.tmod m)) [] []:=
 .pure fun g D es w act hR _ hF=>by
  have h1:=(z6 hx hR hF).BA;have h2:=(z6 hy hR hF).BA;exact⟨_,by simp[execOp,ho,eqGuard,h1,h2,binOp,Op.intDiv,hm],.data (.int _ _)⟩
theorem OS.add{t u:TypeId}{x y:Operand}{n m:Int}(ho:o.op= .binOp .add t x y u)(hx:ev E t a x=some (.i n))(hy:ev E t a y=some (.i m))(h1: -9223372036854775808<=n+m)(h2:n+m<=9223372036854775807):
 OS E N o a [] (.i (n+m)) [] []:=by
 have:=OS.bin (N:=N) (c:= .int .i64 (IntKind.i64.wrap (n+m))) ho hx hy rfl
 rwa [IntWalk.i64_in _ dY] at this
theorem OS.sub{t u:TypeId}{x y:Operand}{n m:Int}(ho:o.op= .binOp .sub t x y u)(hx:ev E t a x=some (.i n))(hy:ev E t a y=some (.i m))(h1: -9223372036854775808<=n-m)(h2:n-m<=9223372036854775807):
 OS E N o a [] (.i (n-m)) [] []:=by
 have:=OS.bin (N:=N) (c:= .int .i64 (IntKind.i64.wrap (n-m))) ho hx hy rfl
 rwa [IntWalk.i64_in _ dY] at this
theorem OS.Jy{op:BinOp}{t u:TypeId}{x y:Operand}{b d:Bool}(ho:o.op= .binOp op t x y u)(hop:op= .eql\/op= .neq)(ht:E.P.underlying t=some .bool)(hx:ev E t a x=some (.bool b))(hy:ev E t a y=some (.bool d)):
 OS E N o a [] (.bool (if op= .eql then b==d else !(b==d))) [] []:=
 .pure fun g D es w act hR _ hF=>by
  have h1:=(z6 hx hR hF).CQ;have h2:=(z6 hy hR hF).CQ;have he:(Op.equal t (.bool b) (.bool d)).run E.P w= .ok (b==d) w:=run_equalIn_bool' w _ t b d ht;rcases hop with rfl|rfl
  .exact ⟨.bool (b==d),jV,by simp;exact .data (.bool _)⟩
  .exact ⟨.bool (!(b==d)),jV,by simp;exact .data (.bool _)⟩
theorem OS.TB{t u:TypeId}{x:Operand}{sp:Sp}{l:SL V}(ho:o.op= .call {callee:= .builtin .len,args:= #[x],argTypes:= #[t]}){i:TI}(ht:E.ti t=some i){c:Option EC}{sz by_:Nat}(hd:i.desc= .slc c sz by_)
 (hx:ev E t a x=some (.slice sp l)):OS E N o a [] (.i l.len) [] []:=
 .pure fun g D es w act hR _ hF=>by
  obtain⟨b,cap,h1⟩:=(z6 hx hR hF).Bu.Bu;obtain⟨d,h2,h3⟩:=Kf ht;rw[hd] at h3;cases d with
  |slice e=>
   refine⟨_,?_,.data (.int .i64 l.len)⟩;simp[execOp,ho,resolve,invoke,builtin,Builtin.len_,h1,xg h2,goInt]
  |_=>cases h3
def Y3:V->Bool| .addr _=>true| .ptr _ _=>true|_=>false
theorem OS.nilCheck{x:Operand}{c:V}(ho:o.op= .nilCheck x)(hx:ev E 0 a x=some c)(hc:Y3 c=true):OS E N o a [] c [] []:=
 .pure fun g D es w act hR _ hF=>by
  have h1:=z6 hx hR hF;refine⟨act.eval x,?_,h1⟩;generalize hv:act.eval x=v at h1;cases h1 with
  |addr=>simp[execOp,ho,hv]
  |ptr=>simp[execOp,ho,hv]
  |data h=>cases h<;>cases hc
  |_=>cases hc
def Fc(E:Env)(T:TypeId)(a:AF):List Operand->Option (List V)
 |[]=>some []
 |x::xs=>(ev E T a x).bind fun v=>(Fc E T a xs).map fun vs=>v::vs
theorem Ox{T:TypeId}:∀{xs:List Operand} {vs:List V},Fc E T a xs=some vs->∀{g:Gh} {D:Nat->Prop} {es:Es} {w:World} {act:Act},R E.G g D es w->Ba g D w N act a->
 (xs.map act.eval).length=vs.length/\∀(i:Nat) v c,(xs.map act.eval)[i]? =some v->vs[i]? =some c->Al g D w v c:=by
 intro xs;induction xs with
 |nil=>intro vs h g D es w act hR hF;simp[Fc] at h;grind
 |cons x l ih=>
  intro vs h g D es w act hR hF;simp only[Fc,ZL,ZG] at h;obtain⟨v,h1,vs',h2,rfl⟩:=h;obtain⟨h3,h4⟩:=ih h2 hR hF;refine⟨ei,fun i u c hu hc=> ?_⟩;cases i with
  |zero=>simp at hu hc;subst hu;subst hc;exact z6 h1 hR hF
  |succ i=>grind
theorem OS.makeFunc{f:Fn}{fi caps:List Operand}{vs us:List V}(ho:o.op= .makeFunc f fi.toArray caps.toArray)(h1:Fc E 0 a fi=some vs)(h2:Fc E 0 a caps=some us):OS E N o a [] (.fn f vs us) [] []:=
 .pure fun g D es w act hR _ hF=>by
  obtain⟨h3,h4⟩:=Ox h1 hR hF;obtain⟨h5,h6⟩:=Ox h2 hR hF;refine⟨.func f (fi.map act.eval).toArray (caps.map act.eval).toArray,?_,.fn f _ _ vs us h3 h5 h4 h6⟩;simp[execOp,ho,Instr.makeFunc]
end
def Om:V->Bool
 | .int _ _=>true| .bool _=>true| .str _=>true| .slice _ _=>true| .ifc _ _=>true|_=>false
theorem Zwa{g:Gh}{D:Nat->Prop}{w:World}{v:Value}{c:V}(h:Al g D w v c)(hd:Om c=true):A4 g.m w v c.weak:=by
 cases c with
 |int k n=>cases h with|data h=>exact h
 |bool b=>cases h with|data h=>exact h
 |str s=>cases h with|data h=>exact h
 |slice sp l=>exact h.Bu
 |ifc t cs=>cases h with|data h=>exact h
 |_=>cases hd
def EU{α β:Type}(f:α->Option β):List α->Option (List β)
 |[]=>some []
 |x::l=>(f x).bind fun y=>(EU f l).map fun ys=>y::ys
theorem PZ{α β:Type}{f:α->Option β}:∀{l:List α} {ys:List β},EU f l=some ys->ys.length=l.length/\∀(i:Nat) x,l[i]? =some x->∃y,ys[i]? =some y/\f x=some y:=by
 intro l;induction l with
 |nil=>intro ys h;simp[EU] at h;grind
 |cons x l ih=>
  intro ys h;simp only[EU,ZL,ZG] at h
  grind
def JN(c:Option EC)(sz:Nat)(vcs:List (List V)):Option (SL V):=
 match c with
 |some c=>(EU c.fold vcs).map (.t c)
 |none=>bif vcs.all fun vc=>vc.all Om then some (.u sz (vcs.map fun vc=>vc.map V.weak)) else none
theorem EC.HA(c:EC)(cs:List V)(x:c.sem)(h:c.fold cs=some x):∀v∈cs,Om v=true:=by
 unfold EC.fold at h;split at h<;>first|(cases h;intro v hv;simp only[Z4,aP,or_false] at hv;rcases hv with rfl|rfl|rfl|rfl|rfl|rfl|rfl|rfl|rfl<;>rfl)|grind|grind|grind|grind|grind|grind|cases h
theorem Wr{c:Option EC}{sz:Nat}{vcs:List (List V)}{l:SL V}(h:JN c sz vcs=some l)(hc:NJ c sz=true):
 l.len=vcs.length/\l.cells=sz/\(∀(i:Nat) vc,vcs[i]? =some vc->l.get i=some (vc.map V.weak)/\∀v∈vc,Om v=true):=by
 cases c with
 |some c=>
  simp only[JN,ZG] at h;obtain⟨xs,h1,rfl⟩:=h;obtain⟨h2,h3⟩:=PZ h1;refine⟨h2,Z9 hc,fun i vc hvc=> ?_⟩;obtain⟨x,h4,h5⟩:=h3 i vc hvc;refine⟨?_,EC.HA c vc x h5⟩;simp only[SL.get,h4,ak];rw[EC.Hy c vc x h5]
 |none=>
  simp only[JN] at h;cases hb:vcs.all fun vc=>vc.all Om with
  |false=>grind
  |true=>
   rw[hb] at h;simp only[cond_true,ZI] at h;subst h;refine⟨by simp[SL.len],rfl,fun i vc hvc=>⟨by simp[SL.get,hvc],?_⟩⟩;have:=ZH.1 hb vc (bt hvc)
   grind
theorem VB{sz k:Nat}(h:0<sz)(n:Nat)(hk:k<n*sz):k/sz<n/\k%sz<sz/\k/sz*sz+k%sz=k:=by
 refine⟨(cP h).2 hk,dI _ h,?_⟩;have:=dN k sz
 grind
theorem Ycp{α:Type}{sz:Nat}:∀{vcs:List (List α)},(∀vc∈vcs,vc.length=sz)->∀(i j:Nat) vc x,vcs[i]? =some vc->vc[j]? =some x->vcs.flatten[i*sz+j]? =some x:=by
 intro vcs;induction vcs with
 |nil=>simp
 |cons v l ih=>
  intro hl i j vc x h1 h2;have hv:=hl v dZ;cases i<;>grind
theorem XY{α:Type}{sz:Nat}:∀{vcs:List (List α)},(∀vc∈vcs,vc.length=sz)->vcs.flatten.length=vcs.length*sz:=by
 intro vcs;induction vcs<;>grind
section
variable {E:Env} {N:Nat} {o:Oper} {a:AF}
theorem IJ{t:TypeId}{i:TI}{c:Option EC}{sz bytes:Nat}(h:E.ti t=some i)(hd:i.desc= .slc c sz bytes):
 ∃e inf z,E.P.underlying t=some (.slice e)/\E.P.info? e=some inf/\inf.size=sz/\inf.bytes=bytes/\inf.zero=some z/\z.cells.size=sz/\0<sz/\NJ c sz=true:=by
 obtain⟨d,h1,h2⟩:=Kf h;rw[hd] at h2;cases d with
 |slice e=>
  simp only[ZC] at h2;obtain⟨⟨h3,h4⟩,h5⟩:=h2;unfold Uf at h3;split at h3
  .rename_i inf hi;simp only[ZC] at h3;obtain⟨⟨h6,h7⟩,h8⟩:=h3;split at h8;all_goals simp_all
  grind
 |_=>cases h2
theorem WM{sz:Nat}:∀(parts:List Value) (k:Nat) (cells:Array Value),(∀v∈parts,v.cells.size=sz)->(k+parts.length)*sz<=cells.size->
 Instr.fill (fun i=>some (i*sz,sz)) cells (parts.zipIdx k|>.map fun(v,i)=>(i,v))=
  some (cells.toList.take (k*sz)++(parts.map fun v=>v.cells.toList).flatten++cells.toList.drop ((k+parts.length)*sz)).toArray:=by
 intro parts;induction parts with
 |nil=>intro k cells _ _;simp[Instr.fill]
 |cons v l ih=>
  intro k cells hs hle;have hv:=hs v dZ;simp only[ZO] at hle;have hk:(k+1)*sz<=cells.size:=ay (aL _ dY) hle;have hk1:(k+1)*sz=k*sz+sz:=ei
  have hfold:∀(us:List Value) (j:Nat) (cs:Array Value),k*sz+j+us.length<=cs.size->
   (us.zipIdx j).foldl (fun cs (x:Value×Nat)=>cs.setIfInBounds (k*sz+x.2) x.1) cs=(cs.toList.take (k*sz+j)++us++cs.toList.drop (k*sz+j+us.length)).toArray:=by
   intro us;induction us with
   |nil=>simp
   |cons u us ih2=>
    intro j cs hcs;simp only[ZO] at hcs;simp only[dy,dO];rw[ih2 (j+1) _ ei];congr 1;rw[bT];have:=list_seg_step cs.toList (k*sz+j) u us dY;omega
  have h1:v.cells.zipIdx.foldl (fun cs (x:Value×Nat)=>cs.setIfInBounds (k*sz+x.2) x.1) cells=(cells.toList.take (k*sz)++v.cells.toList++cells.toList.drop (k*sz+sz)).toArray:=by
   rw[<-Array.foldl_toList,Array.toList_zipIdx]
   grind
  simp only[dy,ZJ,Instr.fill];rw[if_neg ei];have h2:(cells.toList.take (k*sz)++v.cells.toList++cells.toList.drop (k*sz+sz)).length=cells.size:=by
   grind
  have:=ih (k+1) (cells.toList.take (k*sz)++v.cells.toList++cells.toList.drop (k*sz+sz)).toArray (fun x hx=>hs x ei) ei;show Instr.fill _ (v.cells.zipIdx.foldl (fun cs (x:Value×Nat)=>cs.setIfInBounds (k*sz+x.2) x.1) cells) _=_;rw[h1,this];congr 2;rw[show k+1+l.length=k+(l.length+1) from dY,ZO];have h3:(cells.toList.take (k*sz)++v.cells.toList).length=(k+1)*sz:=ei
  have h4:List.take ((k+1)*sz) (cells.toList.take (k*sz)++v.cells.toList++cells.toList.drop (k*sz+sz))=cells.toList.take (k*sz)++v.cells.toList:=by
   grind
  have h5:List.drop ((k+(l.length+1))*sz) (cells.toList.take (k*sz)++v.cells.toList++cells.toList.drop (k*sz+sz))=cells.toList.drop ((k+(l.length+1))*sz):=by
   have h6:(k+(l.length+1))*sz=(k+1)*sz+l.length*sz:=ei
   rw[h6,<-h3,cS,List.drop_drop,h3,hk1];simp_all
  grind
theorem VR{sz:Nat}:∀{cs:List V} {vcs:List (List V)},EU cellsOf cs=some vcs->∀{g:Gh} {D:Nat->Prop} {w:World} {vs:List Value},vs.length=cs.length->
 (∀(i:Nat) v c,vs[i]? =some v->cs[i]? =some c->Al g D w v c)->(∀vc∈vcs,vc.length=sz)->
 (∀v∈vs,v.cells.size=sz)/\(∀(i j:Nat) vc c,vcs[i]? =some vc->vc[j]? =some c->∃x,(vs.map fun v=>v.cells.toList).flatten[i*sz+j]? =some x/\Al g D w x c):=by
 intro cs vcs hm g D w vs hl hr hsz;obtain⟨h1,h2⟩:=PZ hm;have hv:∀v∈vs,v.cells.size=sz:=by
  intro v hv;obtain⟨i,hi,rfl⟩:=aa hv;have h3:cs[i]? =some (cs[i]' dY):=ZD _;obtain⟨vc,h4,h5⟩:=h2 i _ h3;obtain⟨us,h6,h7,_⟩:=uz h5 (hr i _ _ (ZD hi) h3)
  grind
 refine⟨hv,fun i j vc c h3 h4=> ?_⟩;have hi:=(ZT.1 h3).1;have h5:cs[i]? =some (cs[i]' dY):=ZD _;have h6:vs[i]? =some (vs[i]' dY):=ZD _;obtain⟨vc',h7,h8⟩:=h2 i _ h5;rw[h3] at h7;cases h7;obtain⟨us,h9,h10,_,h11⟩:=uz h8 (hr i _ _ h6 h5);obtain⟨x,hx⟩:=Ax h10.symm h4;refine⟨x,Ycp (sz:=sz) ?_ i j us x ?_ hx,h11 j x c hx h4⟩;all_goals grind
theorem Zou{G:DR}{g:Gh}{D:Nat->Prop}{es:Es}{w:World}(hR:R G g D es w){c:Option EC}{sz:Nat}{vcs:List (List V)}{l:SL V}(hf:JN c sz vcs=some l)
 (hc:NJ c sz=true) (hsz:∀vc∈vcs,vc.length=sz) (us:List Value) (hus:vcs.length*sz<=us.length)
 (hrel:∀(i j:Nat) vc c,vcs[i]? =some vc->vc[j]? =some c->∃x,us[i*sz+j]? =some x/\Al g D w x c) (t:TypeId) (cap:Nat) (hcap:vcs.length<=cap):
 A4 (g.share w.heap.size (vcs.length*sz)).m (w.alloc (.cells us.toArray t)) (.slice (some ⟨w.heap.size,0,none⟩) l.len cap) (.slice .any l):=by
 obtain⟨h1,h2,h3⟩:=Wr hf hc;obtain⟨hR',hx⟩:=hR.share us.toArray t (vcs.length*sz) dY;have hget:∀i,i<l.len->∃vc,vcs[i]? =some vc:=fun i hi=>⟨vcs[i]' dY,ZD _⟩;refine .slice l w.heap.size 0 cap (fun i j=>us.getD (i*sz+j) undef) (by rw[h1,h2];simp[Gh.share]) dY ?_ ?_ ?_
 .grind
 .intro i j hi hj;rw[h2] at hj ⊢;rw[aq,ux (heap_alloc_new w _)];have:=NM (show i<vcs.length by omega) hj
  grind
 .intro i j cs d hi hcs hd;obtain⟨vc,hvc⟩:=hget i hi;obtain⟨h4,h5⟩:=h3 i vc hvc;rw[h4] at hcs;cases hcs;rw[Z8,ZG] at hd;obtain⟨c0,h6,rfl⟩:=hd;obtain⟨x,h7,h8⟩:=hrel i j vc c0 hvc h6;rw[aB,h7];exact(Zwa h8 (h5 c0 (bt h6))).mono hx.mark hx.cells
theorem OS.buildSlice{t:TypeId}{n:Nat}{xs:List Operand}{i:TI}{c:Option EC}{sz bytes:Nat}{et:TypeId}{cs:List V}{vcs:List (List V)}{l:SL V}
 (ho:o.op= .buildSlice t n (xs.zipIdx.map fun x=>(x.2,x.1)).toArray) (hn:xs.length=n) (ht:E.ti t=some i) (hd:i.desc= .slc c sz bytes) (hev:Fc E et a xs=some cs) (hcs:EU cellsOf cs=some vcs)
 (hsz:(vcs.all fun vc=>Nat.beq vc.length sz)=true) (hf:JN c sz vcs=some l) (hb:Nat.ble (n*sz) 16777216=true):OS E N o a [] (.slice .full l) [] []:=
 .of_run fun g D es w act hR _ _ hF=>by
  obtain⟨e,inf,z,h1,h2,h3,h4,h5,h6,h7,h8⟩:=IJ ht hd;obtain⟨h9,h10⟩:=Ox hev hR hF;have hsz':∀vc∈vcs,vc.length=sz:=fun vc hvc=>Z9 (ZH.1 hsz vc hvc);obtain⟨h11,h12⟩:=VR hcs h9 h10 hsz';have hvl:=(PZ hcs).1;have hlen:(xs.map act.eval).length=n:=ei
  have hvn:vcs.length=n:=dY
  have hflat:=XY (sz:=sz) (vcs:=(xs.map act.eval).map fun v=>v.cells.toList) (fun vc hvc=>by
   grind)
  simp only[aI,hn] at hflat;have hs:=Zou hR hf h8 hsz' ((xs.map act.eval).map fun v=>v.cells.toList).flatten ei (fun i j vc c hvc hc=>h12 i j vc c hvc hc) e n dY;obtain⟨hR',hx⟩:=hR.share (((xs.map act.eval).map fun v=>v.cells.toList).flatten).toArray e (vcs.length*sz) ei;have hll:=(Wr hf h8).1;refine⟨_,.slice (some ⟨w.heap.size,0,none⟩) n n,_,?_,hR'.more (fun n h=> .inl h),?_,hx⟩
  .have hb':¬(n*sz>16777216):=eS
   have hparts:((xs.zipIdx.map fun x=>(x.2,x.1)).toArray.map fun x=>(x.1,act.eval x.2)).toList=((xs.map act.eval).zipIdx 0).map fun(v,i)=>(i,v):=by
    simp[List.zipIdx_map]
   have key:∀cells:Array Value,cells.size=n*sz->Instr.fill (fun i=>some (i*sz,sz)) cells ((xs.zipIdx.map fun x=>(x.2,x.1)).toArray.map fun x=>(x.1,act.eval x.2)).toList=
    some (((xs.map act.eval).map fun v=>v.cells.toList).flatten).toArray:=by
    intro cells hcells;rw[hparts,WM (xs.map act.eval) 0 cells h11 ei]
    grind
   simp only[execOp,ho,Instr.buildSlice,xg h1,Sem.run_bind,Result.andThen_ok,wc h2,h3,hb',if_false];by_cases hz:n*sz=0
   .exact mI
   .exact mB
  .have hln:l.len=n:=hll.trans hvn;rw[hln] at hs;have hfull:=Al.full (g:=g.share w.heap.size (vcs.length*sz)) (D:=fun k=>D k\/k∈([]:List Nat)) ⟨w.heap.size,0,none⟩ n l hs;omega
end
section
variable {E:Env} {N:Nat} {o:Oper} {a:AF}
theorem A4.Dm{m:Nat->Nat}{w:World}{v:Value}{l:SL V}(h:A4 m w v (.slice .any l)):
 ∃news:List Value,news.length=l.len*l.cells/\(∀u∈news,u.oneCell'=true)/\(∀W:World,W.heap=w.heap->∀P:Program,(Builtin.firstCells l.cells l.len v).run P W= .ok news.toArray W)/\
  (∀i j cs c,l.get i=some cs->cs[j]? =some c->i<l.len->j<l.cells->∃u,news[i*l.cells+j]? =some u/\A4 m w u c)/\(∀i,i<l.len->∃cs,l.get i=some cs/\cs.length=l.cells):=by
 cases h with
 |nilS _ h=>exact⟨[],by simp[h],dZ,fun W _ P=>eC,fun i j cs c _ _ hi=>dY,fun i hi=>dY⟩
 |emp _ h a cap=>exact⟨[],by simp[h],dZ,fun W _ P=>by simp[h,Builtin.firstCells,loadCells,loadCellsFrom],fun i j cs c _ _ hi=>dY,fun i hi=>dY⟩
 |slice _ b off cap f hm hcap hl hc hr=>
  have hmod:∀k,k<l.len*l.cells->0<l.cells:=fun k hk=>by
   grind
  refine⟨(List.range (l.len*l.cells)).map fun k=>f (k/l.cells) (k%l.cells),dZ,?_,?_,?_,hl⟩
  .intro u hu;obtain⟨k,hk,rfl⟩:=ZQ.1 hu;obtain⟨h1,h2,h3⟩:=VB (hmod k (bS.1 hk)) l.len (bS.1 hk);obtain⟨cs,h4,h5⟩:=hl _ h1;exact(hr _ _ cs _ h1 h4 (ZD dY)).one
  .intro W hW P;have:=run_firstCells_some (P:=P) W l.cells l.len ⟨b,off,none⟩ l.len cap ((List.range (l.len*l.cells)).map fun k=>f (k/l.cells) (k%l.cells)) dZ (fun k v hv=>by
    rw[Z8,ZG] at hv;obtain⟨k',hk',rfl⟩:=hv;obtain⟨h6,h7⟩:=ZT.1 hk';simp only[List.length_range] at h6;simp only[List.getElem_range] at h7;subst h7;obtain⟨h1,h2,h3⟩:=VB (hmod k h6) l.len h6;have:=hc _ _ h1 h2;rw[h3] at this;rw[Gy];have hcell:W.cell? ⟨b,off+k,none⟩=w.cell? ⟨b,off+k,none⟩:=by simp[World.cell?,hW]
    grind)
   omega
  .intro i j cs c h1 h2 hi hj;refine⟨f i j,?_,hr i j cs c hi h1 h2⟩;have hlt:=NM hi hj;rw[Z8,ZD ei];simp only[List.getElem_range,ak];congr 2
   .rw[dJ,Nat.mul_add_div dY,Nat.div_eq_of_lt hj,cJ]
   .rw[dJ,Nat.mul_add_mod,Nat.mod_eq_of_lt hj]
def SL.app:SL V->SL V->Option (SL V)
 | .t c xs,.t c' ys=>if h:c'=c then some (.t c (xs++(h▸ys))) else none
 | .u s xs,.u s' ys=>bif Nat.beq s s' then some (.u s (xs++ys)) else none
 |_,_=>none
theorem SL.FU{l l' l2:SL V}(h:l.app l'=some l2):l2.len=l.len+l'.len/\l2.cells=l.cells/\l'.cells=l.cells/\(∀i,i<l.len->l2.get i=l.get i)/\(∀i,l2.get (l.len+i)=l'.get i):=by
 cases l with
 |t c xs=>
  cases l' with
  |t c' ys=>
   simp only[SL.app] at h;split at h
   .rename_i hc;subst hc;cases h;refine⟨by simp[SL.len],rfl,rfl,fun i hi=> ?_,fun i=> ?_⟩
    .simp only[SL.len] at hi;simp[SL.get,ai hi]
    .simp[SL.get,SL.len,aj]
   grind
  |u s ys=>cases h
 |u s xs=>
  cases l' with
  |t c' ys=>cases h
  |u s' ys=>
   simp only[SL.app] at h;cases hb:Nat.beq s s' with
   |false=>grind
   |true=>
    rw[hb] at h;simp only[cond_true,ZI] at h;subst h;have:=Z9 hb;refine⟨by simp[SL.len],rfl,this.symm,fun i hi=> ?_,fun i=> ?_⟩
    .simp only[SL.len] at hi;simp[SL.get,ai hi]
    .simp[SL.get,SL.len,aj]
theorem Xo{m:Nat->Nat}{w:World}{l l' l2:SL V}(h2:l.app l'=some l2){olds news rest:List Value}(ho:olds.length=l.len*l.cells)
 (hor:∀i j cs c,l.get i=some cs->cs[j]? =some c->i<l.len->j<l.cells->∃u,olds[i*l.cells+j]? =some u/\A4 m w u c)
 (hnr:∀i j cs c,l'.get i=some cs->cs[j]? =some c->i<l'.len->j<l'.cells->∃u,news[i*l'.cells+j]? =some u/\A4 m w u c):
 ∀i j cs c,l2.get i=some cs->cs[j]? =some c->i<l2.len->j<l2.cells->∃u,(olds++news++rest)[i*l2.cells+j]? =some u/\A4 m w u c:=by
 obtain⟨h3,h4,h5,h6,h7⟩:=SL.FU h2;intro i j cs c h8 h9 hi hj;rw[h4] at hj ⊢;by_cases hil:i<l.len
 .grind
 .have hi2:l.len+(i-l.len)=i:=dY
  rw[<-hi2,h7] at h8;obtain⟨u,h10,h11⟩:=hnr (i-l.len) j cs c h8 h9 dY dY;refine⟨u,?_,h11⟩;rw[h5] at h10;have h12:=(ZT.1 h10).1;have h13:i*l.cells+j=olds.length+((i-l.len)*l.cells+j):=by
   grind
  grind
theorem A4.G6{m m':Nat->Nat}{w w':World}{l:SL V}{b off cap:Nat}{cells:List Value}{t:TypeId}{fr:Nat×Nat}(hh:w'.heap[b]? =some (.cells cells.toArray t fr))(hcap:l.len<=cap)
 (hm:off+l.len*l.cells<=m' b) (hl:∀i,i<l.len->∃cs,l.get i=some cs/\cs.length=l.cells)
 (hr:∀i j cs c,l.get i=some cs->cs[j]? =some c->i<l.len->j<l.cells->∃u,cells[off+(i*l.cells+j)]? =some u/\A4 m w u c)
 (hmm:∀b,m b<=m' b) (hw:∀b o,o<m b->w'.cell? ⟨b,o,none⟩=w.cell? ⟨b,o,none⟩):
 A4 m' w' (.slice (some ⟨b,off,none⟩) l.len cap) (.slice .any l):=by
 refine .slice l b off cap (fun i j=>cells.getD (off+(i*l.cells+j)) undef) dY hcap hl (fun i j hi hj=> ?_) (fun i j cs c hi h1 h2=> ?_)
 .obtain ⟨cs,h3,h4⟩:=hl i hi;obtain⟨u,h5,_⟩:=hr i j cs _ h3 (ZD dY) hi hj;rw[ux hh]
  grind
 .obtain ⟨cs',h3,h4⟩:=hl i hi;rw[h1] at h3;cases h3;have hj:=(ZT.1 h2).1;obtain⟨u,h5,h6⟩:=hr i j cs c h1 h2 hi dY;rw[aB,h5];exact h6.mono hmm hw
theorem A4.Gm{m m':Nat->Nat}{w w':World}{l:SL V}{b cap:Nat}{cells:List Value}{t:TypeId}{fr:Nat×Nat}(hh:w'.heap[b]? =some (.cells cells.toArray t fr))(hcap:l.len<=cap)
 (hm:l.len*l.cells<=m' b) (hl:∀i,i<l.len->∃cs,l.get i=some cs/\cs.length=l.cells)
 (hr:∀i j cs c,l.get i=some cs->cs[j]? =some c->i<l.len->j<l.cells->∃u,cells[i*l.cells+j]? =some u/\A4 m w u c)
 (hmm:∀b,m b<=m' b) (hw:∀b o,o<m b->w'.cell? ⟨b,o,none⟩=w.cell? ⟨b,o,none⟩):
 A4 m' w' (.slice (some ⟨b,0,none⟩) l.len cap) (.slice .any l):=
 A4.G6 (off:=0) hh hcap dY hl (fun i j cs c h1 h2 h3 h4=>ei) hmm hw
theorem Zn3{P:Program}{w:World}{t ty e:TypeId}{i:TypeInfo}(ht:P.underlying t=some (.slice e))(hi:P.info? e=some i){base:Option Addr}{sLen sCap:Nat}(hle:sLen<=sCap){xb:Option Addr}{xc:Nat}
 (hx:(Builtin.firstCells i.size 0 (.slice xb 0 xc)).run P w= .ok #[] w):
 (Builtin.append_ #[t,t] ty #[.slice base sLen sCap,.slice xb 0 xc]).run P w= .ok (.slice base sLen sCap) w:=by
 cases base with
 |none=>simp[Builtin.append_,run_underlying ht,sizeOf,typeInfo,hi,Builtin.lenOf,hle,hx]
 |some b=>simp[Builtin.append_,run_underlying ht,sizeOf,typeInfo,hi,Builtin.lenOf,hle,hx,storeCells]
theorem vp{P:Program}{w:World}{t ty e:TypeId}{i:TypeInfo}{z:Value}(ht:P.underlying t=some (.slice e))(hi:P.info? e=some i)(hz:i.zero=some z){base:Option Addr}{sLen sCap:Nat}{xb:Option Addr}{n xc:Nat}
 {olds news:List Value} (ho:∀W:World,W.heap=w.heap->(Builtin.firstCells i.size sLen (.slice base sLen sCap)).run P W= .ok olds.toArray W)
 (hx:∀W:World,W.heap=w.heap->(Builtin.firstCells i.size n (.slice xb n xc)).run P W= .ok news.toArray W) (hg:sCap<sLen+n) (hb:(sLen+n)*i.bytes<=140737488355328) (h63:sLen+n<=9223372036854775807):
 (Builtin.append_ #[t,t] ty #[.slice base sLen sCap,.slice xb n xc]).run P w=
  .ok (.slice (some ⟨w.heap.size,0,none⟩) (sLen+n) (grownCap w (sLen+n) sCap e))
   (w.drew.alloc (.cells (olds++news++(Builtin.zeroCells z.cells (grownCap w (sLen+n) sCap e-(sLen+n))).toList).toArray e)):=by
 have hn:¬(sLen+n<=sCap):=dY
 have h63':¬(9223372036854775807<((sLen:Int)+(n:Int))):=dY
 have h48':¬(281474976710656<Builtin.nextslicecap (sLen+n) sCap*i.bytes):=by have:=growslice_fits hg hb;omega
 have hf:=hx w.drew rfl;have hfo:=ho w.drew rfl;simp[Builtin.append_,run_underlying ht,sizeOf,typeInfo,zeroValue,hi,hz,Builtin.lenOf,hn,h63',h48',Question.forced,hf,hfo,newRow,grownCap];congr 2;simp
theorem XE{P:Program}{w:World}{t ty e:TypeId}{i:TypeInfo}(ht:P.underlying t=some (.slice e))(hi:P.info? e=some i){b off sLen sCap:Nat}{cur:Array Value}{e0:TypeId}(hh:w.heap[b]? =some (.cells cur e0 (0,0)))
 {xb:Option Addr} {n xc:Nat} {news:List Value} (hl:news.length=n*i.size) (h1:∀u∈news,u.oneCell'=true)
 (hx:(Builtin.firstCells i.size n (.slice xb n xc)).run P w= .ok news.toArray w) (hroom:sLen+n<=sCap) (hfit:off+sLen*i.size+news.length<=cur.size):
 (Builtin.append_ #[t,t] ty #[.slice (some ⟨b,off,none⟩) sLen sCap,.slice xb n xc]).run P w=
  .ok (.slice (some ⟨b,off,none⟩) (sLen+n) sCap) (w.setRow b (cur.toList.take (off+sLen*i.size)++news++cur.toList.drop (off+sLen*i.size+news.length)).toArray):=by
 have hst:=run_storeCells_at P b (off+sLen*i.size) e0 news 0 cur w hh dY h1;simp only[cJ] at hst;simp[Builtin.append_,run_underlying ht,sizeOf,typeInfo,hi,Builtin.lenOf,hroom,hx,Gy,hst]
theorem V4{P:Program}{w:World}{t ty e:TypeId}{i:TypeInfo}(ht:P.underlying t=some (.slice e))(hi:P.info? e=some i){b sLen sCap:Nat}{cur:Array Value}{e0:TypeId}(hh:w.heap[b]? =some (.cells cur e0 (0,0)))
 {xb:Option Addr} {n xc:Nat} {news:List Value} (hl:news.length=n*i.size) (h1:∀u∈news,u.oneCell'=true)
 (hx:(Builtin.firstCells i.size n (.slice xb n xc)).run P w= .ok news.toArray w) (hroom:sLen+n<=sCap) (hfit:sLen*i.size+news.length<=cur.size):
 (Builtin.append_ #[t,t] ty #[.slice (some ⟨b,0,none⟩) sLen sCap,.slice xb n xc]).run P w=
  .ok (.slice (some ⟨b,0,none⟩) (sLen+n) sCap) (w.setRow b (cur.toList.take (sLen*i.size)++news++cur.toList.drop (sLen*i.size+news.length)).toArray):=by
 have:=XE (w:=w) (ty:=ty) ht hi hh (off:=0) (sLen:=sLen) (sCap:=sCap) hl h1 hx hroom dY
 grind
def JB:Sp->Es
 | .own r=>[(r,.row)]
 |_=>[]
def J4(n:Nat):Sp->Es
 | .own r=>[(n,.row),(r,.gone)]
 |_=>[(n,.row)]
def OK:Sp->Bool| .nil=>true| .own _=>true|_=>false
theorem OS.GH{t:TypeId}{s x:Operand}{i:TI}{c:Option EC}{sz bytes n:Nat}{sp sp':Sp}{l l' l2:SL V}(ho:o.op= .call {callee:= .builtin .append,args:= #[s,x],argTypes:= #[t,t]})
 (ht:E.ti t=some i) (hd:i.desc= .slc c sz bytes) (hs:ev E t a s=some (.slice sp l)) (hx:ev E t a x=some (.slice sp' l')) (hsp:OK sp=true\/(sp= .full/\0<l'.len))
 (hl:l.app l'=some l2) (hsz:Nat.beq l.cells sz=true) (hb:(l.len+l'.len)*bytes<=140737488355328) (hb2:l.len+l'.len<=9223372036854775807):OS E N o a (JB sp) (.slice (.own n) l2) [n] (J4 n sp):=
 .of_run fun g D es w act hR hp hn hF=>by
  obtain⟨e,inf,z,h1,h2,h3,h4,h5,h6,h7,h8⟩:=IJ ht hd;have hcs:l.cells=sz:=Z9 hsz;obtain⟨h9,h10,h11,h12,h13⟩:=SL.FU hl;have hn':¬D n:=hn n dZ;have hvs:=z6 hs hR hF;have hdx:=(z6 hx hR hF).Bu;obtain⟨xb,xc,hxv⟩:=hdx.Bu;obtain⟨news,hnl,hn1,hnf,hnr,hnl2⟩:=hdx.Dm;have hsz':l'.cells=inf.size:=dY
  rw[hxv] at hnf;have hgl:∀i,i<l2.len->(∀i,i<l.len->∃cs,l.get i=some cs/\cs.length=l.cells)->∃cs,l2.get i=some cs/\cs.length=l2.cells:=fun i hi hol=>by
   by_cases h:i<l.len
   .grind
   .have:=h13 (i-l.len);rw[show l.len+(i-l.len)=i from dY] at this;rw[this,h10,<-h11];exact hnl2 _ dY
  have hDD:∀i,(D i\/i=n)->(D i\/i∈[n]):=fun i h=>h.imp id (fun h=>by simp[h]);have hnewrow:∀(es':Es) (olds:List Value) (cap0:Nat),R E.G g D es' w->Ext D g (Aq g es) w g (Aq g es') w->olds.length=l.len*l.cells->
   (∀i j cs c,l.get i=some cs->cs[j]? =some c->i<l.len->j<l.cells->∃u,olds[i*l.cells+j]? =some u/\A4 g.m w u c)->(∀i,i<l.len->∃cs,l.get i=some cs/\cs.length=l.cells)->cap0<l.len+l'.len->
   ∃g',R E.G g' (fun i=>D i\/i∈[n]) ((n,.row)::es') (w.drew.alloc (.cells (olds++news++(Builtin.zeroCells z.cells (grownCap w (l.len+l'.len) cap0 e-(l.len+l'.len))).toList).toArray e))/\
    Al g' (fun i=>D i\/i∈[n]) (w.drew.alloc (.cells (olds++news++(Builtin.zeroCells z.cells (grownCap w (l.len+l'.len) cap0 e-(l.len+l'.len))).toList).toArray e)) (.slice (some ⟨w.heap.size,0,none⟩) (l.len+l'.len) (grownCap w (l.len+l'.len) cap0 e)) (.slice (.own n) l2)/\
    Ext D g (Aq g es) w g' (Aq g' ((n,.row)::es')) (w.drew.alloc (.cells (olds++news++(Builtin.zeroCells z.cells (grownCap w (l.len+l'.len) cap0 e-(l.len+l'.len))).toList).toArray e)):=by
   intro es' olds cap0 hR' hx' hol hor hol2 hc0;have hge:=grownCap_ge w (l.len+l'.len) cap0 e;have hsize:(olds++news++(Builtin.zeroCells z.cells (grownCap w (l.len+l'.len) cap0 e-(l.len+l'.len))).toList).toArray.size=grownCap w (l.len+l'.len) cap0 e*sz:=by
    simp only[List.size_toArray,ZR,bY,size_zeroCells,hol,hnl,h6,hcs,h11];rw[<-aM,<-aM]
    grind
   obtain⟨h14,h15⟩:=hR'.drew.Lm (w:=w.drew) hn' (olds++news++(Builtin.zeroCells z.cells (grownCap w (l.len+l'.len) cap0 e-(l.len+l'.len))).toList).toArray e (l.len+l'.len) (grownCap w (l.len+l'.len) cap0 e) sz hsize hge;refine⟨_,h14.more hDD,?_,(hx'.trans Ext.drew).trans h15⟩;have hd2:A4 ((g.share w.drew.heap.size ((l.len+l'.len)*sz)).BU n (some ⟨w.drew.heap.size,l.len+l'.len,grownCap w (l.len+l'.len) cap0 e,sz,0⟩)).m _ (.slice (some ⟨w.heap.size,0,none⟩) l2.len (grownCap w (l.len+l'.len) cap0 e)) (.slice .any l2):=
    A4.Gm (m:=g.m) (w:=w) (heap_alloc_new w.drew _) dY (by simp[Gh.BU,Gh.share,h9,h10,hcs]) (fun i hi=>hgl i hi hol2)
     (fun i j cs c h16 h17 h18 h19=>Xo hl hol hor hnr i j cs c h16 h17 h18 h19) h15.mark h15.cells
   refine Al.own n (Or.inr (ah.2 rfl)) _ l2 ?_ ei;simp[Qr,Gh.BU,h9,h10,hcs]
  have hrun:∀v w',(Builtin.append_ #[t,t] o.type #[act.eval s,act.eval x]).run E.P w= .ok v w'->(execOp act.eval o).run E.P w= .ok (.value v) w':=fun v w' h=>by
   exact m9
  have hnil:∀es',R E.G g D es' w->Ext D g (Aq g es) w g (Aq g es') w->(∃base:Option Addr,act.eval s= .slice base 0 0)->l.len=0->
   ∃g' v' w',(execOp act.eval o).run E.P w= .ok (.value v') w'/\R E.G g' (fun i=>D i\/i∈[n]) ((n,.row)::es') w'/\Al g' (fun i=>D i\/i∈[n]) w' v' (.slice (.own n) l2)/\Ext D g (Aq g es) w g' (Aq g' ((n,.row)::es')) w':=by
   rintro es' hR' hx' ⟨base,hsv⟩ hl0;by_cases hm:l'.len=0
   .obtain ⟨h14,h15⟩:=hR'.KS hn';have hnews:news=[]:=ZS ei;have hf:=hnf w rfl E.P;rw[hnews,hm,hsz'] at hf;refine⟨_,.slice base 0 0,w,hrun _ _ ?_,h14.more hDD,?_,hx'.trans h15⟩
    .rw[hsv,hxv,hm];exact Zn3 h1 h2 (ZB _) hf
    .refine Al.own n (Or.inr (ah.2 rfl)) _ l2 ?_ ?_
     .have:l2.len=0:=dY
      cases base<;>simp[Qr,Gh.BU,this]
     .cases base with
      |none=>exact .nilS l2 dY
      |some a=>exact .emp l2 dY a 0
   .obtain ⟨g',h14,h15,h16⟩:=hnewrow es' [] 0 hR' hx' ei (fun i j cs c _ _ hi=>dY) (fun i hi=>dY) dY;refine⟨g',_,_,hrun _ _ ?_,h14,h15,h16⟩;rw[hsv,hxv];have:=vp (P:=E.P) (w:=w) (ty:=o.type) h1 h2 h5 (base:=base) (sLen:=0) (sCap:=0) (xb:=xb) (n:=l'.len) (xc:=xc) (olds:=[]) (news:=news) (fun W _=>by
     cases base with
     |none=>rfl
     |some ad=>exact run_firstCells_some (P:=E.P) W inf.size 0 ad 0 0 [] dZ (fun j v hv=>ei)) (fun W hW=>ei) dY ei dY
    grind
  cases sp with
  |any=>rcases hsp with hsp|⟨hsp,_⟩<;>cases hsp
  |full=>
   have hpos:0<l'.len:=by rcases hsp with hsp|⟨_,h⟩;· cases hsp
                          omega
   generalize hv:act.eval s=v at hvs;cases hvs with
   |data h=>cases h
   |fullNil _ hl0=>exact hnil es hR (.refl ..) ⟨_,hv⟩ hl0
   |full a m _ hdr=>
    have hml:m=l.len:=by
     cases hdr<;>simp_all
    subst hml;obtain⟨olds,hol,ho1,hof,hor,hol2⟩:=hdr.Dm;obtain⟨g',h18,h19,h20⟩:=hnewrow es olds l.len hR (.refl ..) hol hor hol2 dY;refine⟨g',_,_,hrun _ _ ?_,h18,h19,h20⟩;rw[hv,hxv];exact vp (P:=E.P) (w:=w) (ty:=o.type) h1 h2 h5 (base:=some a) (sLen:=l.len) (sCap:=l.len) (xb:=xb) (n:=l'.len) (xc:=xc) (olds:=olds) (news:=news)
     (fun W hW=>ei) (fun W hW=>ei) dY ei dY
  |nil=>
   generalize hv:act.eval s=v at hvs;cases hvs with
   |data h=>cases h
   |nilS _ hl0=>exact hnil es hR (.refl ..) ⟨_,hv⟩ hl0
  |own r=>
   have hr:=hp (r,.row) (by simp[JB]);generalize hv:act.eval s=v at hvs;cases hvs with
   |data h=>cases h
   |own _ hDr _ _ hrow hdr=>
    obtain⟨hRg,hxg⟩:=hR.gone hr;cases hρ:g.row r with
    |none=>
     rw[hρ] at hrow;obtain⟨hsv,hl0⟩:=hrow;refine hnil ((r,.gone)::es) hRg hxg ?_ hl0
     grind
    |some ρ=>
     rw[hρ] at hrow;obtain⟨rfl,hl1,hl2⟩:=hrow;obtain⟨cur,te,h14,h15,h16,h17⟩:=hR.BT r _ hr ρ hρ;obtain⟨olds,hol,ho1,hof,hor,hol2⟩:=hdr.Dm;by_cases hroom:ρ.len+l'.len<=ρ.cap
     .have hszr:ρ.sz=sz:=dY
      have hcur:ρ.off+(ρ.len+l'.len)*sz<=cur.size:=by rw[h15,hszr];exact Nat.add_le_add_left (aL _ hroom) _
      have hnl3:news.length=l'.len*sz:=ei
      have hfit:ρ.off+ρ.len*sz+news.length<=cur.size:=ei
      have hoc:olds=(cur.toList.drop ρ.off).take (ρ.len*sz):=by
       have h20:=hof w rfl E.P;have h21:=run_firstCells_some (P:=E.P) w l.cells l.len ⟨ρ.b,ρ.off,none⟩ ρ.len ρ.cap ((cur.toList.drop ρ.off).take (ρ.len*sz)) ei (fun j v hv=>by
        rw[bq] at hv;split at hv
        .rw[Gy,ux h14];grind
        grind)
       grind
      have hlen':(cur.toList.take (ρ.off+ρ.len*sz)++news++cur.toList.drop (ρ.off+ρ.len*sz+news.length)).toArray.size=cur.size:=by
       grind
      obtain⟨h18,h19⟩:=hR.grow hn' hr hρ h14 (cur.toList.take (ρ.off+ρ.len*sz)++news++cur.toList.drop (ρ.off+ρ.len*sz+news.length)).toArray hlen'
       (fun o ho=>by
        grind) (ρ.len+l'.len) dY hroom
      refine⟨_,.slice (some ⟨ρ.b,ρ.off,none⟩) (ρ.len+l'.len) ρ.cap,w.setRow ρ.b (cur.toList.take (ρ.off+ρ.len*sz)++news++cur.toList.drop (ρ.off+ρ.len*sz+news.length)).toArray,hrun _ _ ?_,h18.more hDD,?_,h19⟩
      .rw[hv,hxv];have:=XE (P:=E.P) (w:=w) (ty:=o.type) h1 h2 h14 (off:=ρ.off) (sLen:=ρ.len) (sCap:=ρ.cap) (xb:=xb) (n:=l'.len) (xc:=xc) (news:=news) ei hn1 ei hroom ei
       grind
      .have hcells:=Xo (m:=g.m) (w:=w) hl (rest:=cur.toList.drop (ρ.off+ρ.len*sz+news.length)) hol hor hnr;have htk:cur.toList.take (ρ.off+ρ.len*sz)=cur.toList.take ρ.off++olds:=ei
       have hd2:=A4.G6 (m:=g.m) (m':=(({g with m:=fun i=>if i=ρ.b then ρ.off+(ρ.len+l'.len)*ρ.sz else g.m i}:Gh).BU n (some ⟨ρ.b,ρ.len+l'.len,ρ.cap,ρ.sz,ρ.off⟩)).m) (w:=w)
        (w':=w.setRow ρ.b (cur.toList.take (ρ.off+ρ.len*sz)++news++cur.toList.drop (ρ.off+ρ.len*sz+news.length)).toArray) (l:=l2) (b:=ρ.b) (off:=ρ.off) (cap:=ρ.cap)
        (setRow_heap w _ _ _ te _ h14) dY (by simp[Gh.BU,h9,h10,hcs,hszr,hl1]) (fun i hi=>hgl i hi hol2) (fun i j cs c q1 q2 q3 q4=>by
         obtain⟨u,h20,h21⟩:=hcells i j cs c q1 q2 q3 q4;refine⟨u,?_,h21⟩;have hlo:(cur.toList.take ρ.off).length=ρ.off:=ei
         rw[htk,ZE,ZE,aj dY,hlo,bF,<-ZE];omega) h19.mark h19.cells
       refine Al.own n (Or.inr (ah.2 rfl)) _ l2 ?_ ei;simp[Qr,Gh.BU,h9,h10,hl1,hcs,hszr]
     .obtain ⟨g',h18,h19,h20⟩:=hnewrow ((r,.gone)::es) olds ρ.cap hRg hxg hol hor hol2 dY;refine⟨g',_,_,hrun _ _ ?_,h18,h19,h20⟩;rw[hv,hxv];have:=vp (P:=E.P) (w:=w) (ty:=o.type) h1 h2 h5 (base:=some ⟨ρ.b,ρ.off,none⟩) (sLen:=ρ.len) (sCap:=ρ.cap) (xb:=xb) (n:=l'.len) (xc:=xc) (olds:=olds) (news:=news)
       (fun W hW=>ei) (fun W hW=>ei) dY ei dY
      grind
theorem OS.append{t:TypeId}{s x:Operand}{i:TI}{c:Option EC}{sz bytes n:Nat}{sp sp':Sp}{l l' l2:SL V}(ho:o.op= .call {callee:= .builtin .append,args:= #[s,x],argTypes:= #[t,t]})
 (ht:E.ti t=some i) (hd:i.desc= .slc c sz bytes) (hs:ev E t a s=some (.slice sp l)) (hx:ev E t a x=some (.slice sp' l')) (hsp:OK sp=true)
 (hl:l.app l'=some l2) (hsz:Nat.beq l.cells sz=true) (hb:(l.len+l'.len)*bytes<=140737488355328) (hb2:l.len+l'.len<=9223372036854775807):OS E N o a (JB sp) (.slice (.own n) l2) [n] (J4 n sp):=
 OS.GH ho ht hd hs hx (.inl hsp) hl hsz hb hb2
end
section
variable {E:Env} {N:Nat} {o:Oper} {a:AF}
def GO(E:Env)(a:AF):List (Nat×Operand)->Option (List (Nat×List V))
 |[]=>some []
 |p::l=>((ev E 0 a p.2).bind cellsOf).bind fun vc=>(GO E a l).map fun r=>(p.1,vc)::r
def I7(gs:List (Nat×Nat×Bool))(cs:List V):List (Nat×List V)->Option (List V)
 |[]=>some cs
 |p::rest=>match gs[p.1]? with
  |none=>none
  |some q=>bif Nat.beq p.2.length q.2.1&&Nat.ble (q.1+p.2.length) cs.length then I7 gs (cs.take q.1++p.2++cs.drop (q.1+p.2.length)) rest else none
theorem Zpy(off:Nat):∀(us:List Value) (j:Nat) (cs:Array Value),off+j+us.length<=cs.size->
 (us.zipIdx j).foldl (fun cs (x:Value×Nat)=>cs.setIfInBounds (off+x.2) x.1) cs=(cs.toList.take (off+j)++us++cs.toList.drop (off+j+us.length)).toArray:=by
 intro us;induction us with
 |nil=>simp
 |cons u us ih2=>
  intro j cs hcs;simp only[ZO] at hcs;simp only[dy,dO];rw[ih2 (j+1) _ ei];congr 1;rw[bT];have:=list_seg_step cs.toList (off+j) u us dY;omega
theorem XA{gs:List (Nat×Nat×Bool)}{g:Gh}{D:Nat->Prop}{es:Es}{w:World}{act:Act}(hR:R E.G g D es w)(hF:Ba g D w N act a):∀{ps:List (Nat×Operand)} {vps:List (Nat×List V)},GO E a ps=some vps->
 ∀{cs cs':List V},I7 gs cs vps=some cs'->∀{vs:List Value},vs.length=cs.length->(∀v∈vs,v.oneCell'=true)->(∀(i:Nat) v c,vs[i]? =some v->cs[i]? =some c->Al g D w v c)->
 ∃us:List Value,Instr.fill (fun i=>(gs[i]?).map fun q=>(q.1,q.2.1)) vs.toArray (ps.map fun p=>(p.1,act.eval p.2))=some us.toArray/\us.length=cs'.length/\(∀v∈us,v.oneCell'=true)/\
  ∀(i:Nat) v c,us[i]? =some v->cs'[i]? =some c->Al g D w v c:=by
 intro ps;induction ps with
 |nil=>
  intro vps h cs cs' hf vs h1 h2 h3;simp[GO] at h;subst h;simp[I7] at hf;subst hf;exact⟨vs,rfl,h1,h2,h3⟩
 |cons p l ih=>
  intro vps h cs cs' hf vs h1 h2 h3;simp only[GO,ZL,ZG] at h;obtain⟨vc,⟨c0,h4,h5⟩,r,h6,rfl⟩:=h;simp only[I7] at hf;cases hq:gs[p.1]? with
  |none=>grind
  |some q=>
   rw[hq] at hf;cases hb:Nat.beq vc.length q.2.1&&Nat.ble (q.1+vc.length) cs.length with
   |false=>grind
   |true=>
    simp only[hb,cond_true] at hf;rw[ZC] at hb;have hb1:=Z9 hb.1;have hb2:=ZP hb.2;obtain⟨us,h7,h8,h9,h10⟩:=uz h5 (z6 h4 hR hF);obtain⟨us',h11,h12⟩:=ih h6 hf (vs:=vs.take q.1++us++vs.drop (q.1+us.length)) ei
     (fun u hu=>by
      grind)
     (fun j u d hu hd=>by
      rw[YL _ _ _ _ dY] at hu;rw[YL _ _ _ _ hb2,<-h8] at hd
      grind)
    refine⟨us',?_,h12⟩;simp only[ZJ,Instr.fill,hq,ak];rw[if_neg ei];have h13:(act.eval p.2).cells.zipIdx.foldl (fun cs (x:Value×Nat)=>cs.setIfInBounds (q.1+x.2) x.1) vs.toArray=(vs.take q.1++us++vs.drop (q.1+us.length)).toArray:=by
     rw[h7,<-Array.foldl_toList,Array.toList_zipIdx];have:=Zpy q.1 us 0 vs.toArray ei;omega
    grind
theorem Zv4:∀{fs:List Field} {gs:List (Nat×Nat×Bool)},Ig E.P fs gs=true->fs.mapM (fun f=>(E.P.info? f.type).map fun i=>(f.offset,i.size))=some (gs.map fun q=>(q.1,q.2.1)):=by
 intro fs;induction fs with
 |nil=>intro gs h;cases gs with|nil=>rfl|cons=>simp[Ig] at h
 |cons fd l ih=>
  intro gs h;cases gs with
  |nil=>simp[Ig] at h
  |cons q l'=>
   simp only[Ig,ZC] at h;obtain⟨⟨⟨⟨h1,h2⟩,h3⟩,h4⟩,h5⟩:=h;unfold L7 at h2;split at h2
   .rename_i inf hi;simp only[List.mapM_cons,hi,ih h5,ak,Option.bind_eq_bind,cu,Option.pure_def,ZJ];simp_all
   grind
theorem OS.build{t:TypeId}{ps:List (Nat×Operand)}{i:TI}{gs:List (Nat×Nat×Bool)}{vps:List (Nat×List V)}{cs:List V}(ho:o.op= .build t ps.toArray)(ht:E.ti t=some i)(hd:i.desc= .strct gs)
 (hp:GO E a ps=some vps) (hf:I7 gs i.zero vps=some cs):OS E N o a [] (.agg cs) [] []:=
 .pure fun g D es w act hR _ hF=>by
  obtain⟨fs,h1,h2⟩:=NV ht hd;obtain⟨inf,h3,h4,z,h5,h6⟩:=Jf ht;obtain⟨h7,h8,h9⟩:=v8 h6;obtain⟨us,h10,h11,h12,h13⟩:=XA hR hF hp hf h7 h8 (fun i v c hv hc=>h9 g D w i v c hv hc);refine⟨.agg us.toArray,?_,.agg us cs h11 h12 h13⟩;have hb:E.P.built t ((ps.toArray.map fun x=>(x.1,act.eval x.2))).toList=some us.toArray:=by
   unfold Program.built;simp only[h3,h1,h5,Zv4 h2];simp_all
  have hrun:=run_build (P:=E.P) w t (ps.toArray.map fun x=>(x.1,act.eval x.2)) us.toArray hb;simp only[execOp,ho,hrun,Sem.run_bind,Result.andThen_ok,Sem.run_pure]
theorem OS.Kw{t:TypeId}{x y:Operand}{i:TI}{c:Option EC}{sz bytes:Nat}{sp:Sp}{l:SL V}{n:Int}{k:Nat}{cs:List V}{kd:IntKind}(ho:o.op= .indexAddr t x y)(ht:E.ti t=some i)(hd:i.desc= .slc c sz bytes)
 (hx:ev E t a x=some (.slice sp l)) (hy:ev E 0 a y=some (.int kd n)) (hn:n=k) (hk:l.get k=some cs) (hlt:k<l.len) (hsz:Nat.beq l.cells sz=true):OS E N o a [] (.addr cs) [] []:=
 .pure fun g D es w act hR _ hF=>by
  obtain⟨e,inf,z,h1,h2,h3,h4,h5,h6,h7,h8⟩:=IJ ht hd;have hv:=(z6 hx hR hF).Bu;have hi:=(z6 hy hR hF).BA;have hcs:=Z9 hsz;generalize hxv:act.eval x=v at hv;cases hv with
  |nilS _ h=>omega
  |emp _ h _ _=>omega
  |slice _ b off cap f hm hcap hl hc hr=>
   obtain⟨cs',h9,h10⟩:=hl k hlt;rw[hk] at h9;cases h9;refine⟨.pointer (some ⟨b,off+k*l.cells,none⟩),?_,?_⟩
   .have h11:0<=n/\n<(l.len:Int):=dY
    have h12:n.toNat=k:=dY
    simp[execOp,ho,Instr.indexAt,hxv,hi,asIntOf,xg h1,h11,h12,wc h2,h3,Gy,hcs]
   .refine .addr b _ cs (fun j=>f k j) ?_ (fun j hj=> ?_) (fun j c hj=>hr k j cs c hlt hk hj)
    .rw[h10];have:k*l.cells+l.cells<=l.len*l.cells:=by
      have:=aL l.cells (show k+1<=l.len by omega)
      grind
     omega
    grind
theorem Ru{t:TypeId}{i:TI}{n esz:Nat}{ea:Bool}(h:E.ti t=some i)(hd:i.desc= .arr n esz ea):∃e inf,E.P.underlying t=some (.array n e)/\E.P.info? e=some inf/\inf.size=esz/\0<esz/\(∀w,(isAgg e).run E.P w= .ok ea w):=by
 obtain⟨d,h1,h2⟩:=Kf h;rw[hd] at h2;cases d with
 |array n' e=>
  simp only[ZC] at h2;obtain⟨⟨⟨h3,h4⟩,h5⟩,h6⟩:=h2;have:=Z9 h3;subst this;unfold L7 at h4;split at h4
  .rename_i inf hi;refine⟨e,inf,h1,hi,Z9 h4,ZP h5,fun w=> ?_⟩;unfold N5 at h6;unfold isAgg;cases hu:E.P.underlying e with
   |none=>grind
   |some d=>
    rw[hu] at h6;simp only[Sem.run_bind,xg hu,Result.andThen_ok];cases d<;>simp at h6<;>simp[h6]
  grind
 |_=>cases h2
theorem OS.KC{t:TypeId}{x y:Operand}{i:TI}{m esz:Nat}{ea:Bool}{cs:List V}{n:Int}{k:Nat}{kd:IntKind}(ho:o.op= .indexAddr t x y)(ht:E.ti t=some i)(hd:i.desc= .arr m esz ea)
 (hx:ev E 0 a x=some (.addr cs)) (hy:ev E 0 a y=some (.int kd n)) (hn:n=k) (hlt:k<m) (hb:k*esz<=cs.length):OS E N o a [] (.addr (cs.drop (k*esz))) [] []:=
 .pure fun g D es w act hR _ hF=>by
  obtain⟨e,inf,h1,h2,h3,h4,_⟩:=Ru ht hd;have h8:=z6 hx hR hF;have hi:=(z6 hy hR hF).BA;generalize hxv:act.eval x=v at h8;cases h8 with
  |data h=>cases h
  |addr b off _ f hm hc hr=>
   refine⟨.pointer (some ⟨b,off+k*esz,none⟩),?_,?_⟩
   .have h11:0<=n/\n<(m:Int):=dY
    have h12:n.toNat=k:=dY
    simp[execOp,ho,Instr.indexAt,hxv,hi,asIntOf,xg h1,Instr.sureAddr,h11,h12,wc h2,h3,Gy]
   .refine .addr b _ _ (fun j=>f (k*esz+j)) ei (fun j hj=> ?_) (fun j c hj=> ?_);all_goals grind
theorem OS.KQ{t:TypeId}{x y:Operand}{i:TI}{m esz:Nat}{ea:Bool}{p off:Nat}{n:Int}{k:Nat}{kd:IntKind}(ho:o.op= .indexAddr t x y)(ht:E.ti t=some i)(hd:i.desc= .arr m esz ea)
 (hx:ev E 0 a x=some (.ptr p off)) (hy:ev E 0 a y=some (.int kd n)) (hn:n=k) (hlt:k<m):OS E N o a [] (.ptr p (off+k*esz)) [] []:=
 .pure fun g D es w act hR _ hF=>by
  obtain⟨e,inf,h1,h2,h3,h4,_⟩:=Ru ht hd;have h8:=z6 hx hR hF;have hi:=(z6 hy hR hF).BA;generalize hxv:act.eval x=v at h8;cases h8 with
  |data h=>cases h
  |ptr _ _ hD=>
   refine⟨.pointer (some ⟨g.blk p,off+k*esz,none⟩),?_,.ptr p _ hD⟩;have h11:0<=n/\n<(m:Int):=dY
   have h12:n.toNat=k:=dY
   simp[execOp,ho,Instr.indexAt,hxv,hi,asIntOf,xg h1,Instr.sureAddr,h11,h12,wc h2,h3,Gy]
theorem OS.slice3{t:TypeId}{x y z:Operand}{i:TI}{c:Option EC}{sz bytes:Nat}{sp:Sp}{l:SL V}{k k':IntKind}(ho:o.op= .slice t x none (some y) (some z))(ht:E.ti t=some i)(hd:i.desc= .slc c sz bytes)
 (hx:ev E t a x=some (.slice sp l)) (hy:ev E 0 a y=some (.int k l.len)) (hz:ev E 0 a z=some (.int k' l.len)):OS E N o a [] (.slice .full l) [] []:=
 .pure fun g D es w act hR _ hF=>by
  obtain⟨e,inf,zz,h1,h2,h3,h4,h5,h6,h7,h8⟩:=IJ ht hd;have hv:=(z6 hx hR hF).Bu;have hi:=(z6 hy hR hF).BA;have hj:=(z6 hz hR hF).BA;have hv0:=hv;generalize hxv:act.eval x=v at hv;cases hv with
  |nilS _ h=>
   refine⟨.slice none 0 0,?_,.fullNil l h⟩;simp[execOp,ho,Instr.sliceAt,Instr.slice,xg h1,hxv,hi,hj,Instr.sliceBounds,Instr.sliceBound,asIntOf,h,wc h2]
  |emp _ h a cap=>
   refine⟨.slice (some a) 0 0,?_,.full a 0 l (.emp l h a 0)⟩;simp[execOp,ho,Instr.sliceAt,Instr.slice,xg h1,hxv,hi,hj,Instr.sliceBounds,Instr.sliceBound,asIntOf,h,wc h2]
  |slice _ b off cap f hm hcap hl hc hr=>
   refine⟨.slice (some ⟨b,off,none⟩) l.len l.len,?_,.full _ _ l (.slice l b off l.len f hm (ZB _) hl hc hr)⟩;have h9:(0:Int)<=l.len:=dY
   have h10:(l.len:Int)<=cap:=dY
   by_cases h0:l.len=0
   .simp[execOp,ho,Instr.sliceAt,Instr.slice,xg h1,hxv,hi,hj,Instr.sliceBounds,Instr.sliceBound,asIntOf,h9,h10,wc h2,h0]
   .simp[execOp,ho,Instr.sliceAt,Instr.slice,xg h1,hxv,hi,hj,Instr.sliceBounds,Instr.sliceBound,asIntOf,h9,h10,wc h2,h0,Gy];omega
end
section
variable {E:Env} {N:Nat} {o:Oper} {a:AF}
def AC(E:Env)(f:FuncId)(args:List V)(σ:Aj)(r:V)(σ':Aj):Prop:=
 (∀vs w,(callFunc f vs).run E.P w= .ok (.enter f vs) w)/\σ.nx<=σ'.nx/\
 ∀g w (vs:List Value),R E.G g (·<σ.nx) σ.es w->vs.length=args.length->(∀(i:Nat) v c,vs[i]? =some v->args[i]? =some c->Al g (·<σ.nx) w v c)->
  Calls E.P f vs.toArray w fun e w'=>∃v g',e= .returned v/\R E.G g' (·<σ'.nx) σ'.es w'/\Al g' (·<σ'.nx) w' v r/\Ext (·<σ.nx) g (Aq g σ.es) w g' (Aq g' σ'.es) w'
def PC(E:Env)(f:FuncId)(args:List V)(r:V):Prop:=AC E f args ⟨0,[]⟩ r ⟨0,[]⟩
def DS(E:Env)(a:AF):List Operand->List TypeId->Option (List V)
 |[],_=>some []
 |x::xs,[]=>(ev E 0 a x).bind fun v=>(DS E a xs []).map fun vs=>v::vs
 |x::xs,t::ts=>(ev E t a x).bind fun v=>(DS E a xs ts).map fun vs=>v::vs
theorem Nn:∀{xs:List Operand} {ts:List TypeId} {vs:List V},DS E a xs ts=some vs->∀{g:Gh} {D:Nat->Prop} {es:Es} {w:World} {act:Act},R E.G g D es w->Ba g D w N act a->
 (xs.map act.eval).length=vs.length/\∀(i:Nat) v c,(xs.map act.eval)[i]? =some v->vs[i]? =some c->Al g D w v c:=by
 intro xs;induction xs with
 |nil=>intro ts vs h g D es w act hR hF;simp[DS] at h;grind
 |cons x l ih=>
  intro ts vs h g D es w act hR hF;have key:∀t ts',(ev E t a x).bind (fun v=>(DS E a l ts').map fun vs=>v::vs)=some vs->((x::l).map act.eval).length=vs.length/\∀(i:Nat) v c,((x::l).map act.eval)[i]? =some v->vs[i]? =some c->Al g D w v c:=by
   intro t ts' h;simp only[ZL,ZG] at h;obtain⟨v,h1,vs',h2,rfl⟩:=h;obtain⟨h3,h4⟩:=ih h2 hR hF;refine⟨ei,fun i u c hu hc=> ?_⟩;cases i with
   |zero=>simp at hu hc;subst hu;subst hc;exact z6 h1 hR hF
   |succ i=>grind
  cases ts with
  |nil=>exact key 0 [] h
  |cons t ts=>exact key t ts h
theorem Po{f:FuncId}{xs:List Operand}{ts:Array TypeId}(ho:o.op= .call {callee:= .value (.func f),args:=xs.toArray,argTypes:=ts}){act:Act}{w:World}{K:Act->World->Prop}{Q:Exit->Act->World->Prop}
 (hc:∀vs w,(callFunc f vs).run E.P w= .ok (.enter f vs) w)
 (h:Calls E.P f (xs.map act.eval).toArray w fun e w'=>∃v,e= .returned v/\K (act.put o.dst v) w'):o.wp E.P act w K Q:=by
 have hrun:(execOp act.eval o).run E.P w= .ok (.enter f (xs.map act.eval).toArray) w:=by
  simp[execOp,ho,resolve,Deferred.ofValue,Act.eval,invoke,hc]
 unfold Oper.wp;rw[hrun];refine h.mono ?_
 grind
theorem Yb6{x:Operand}{f:FuncId}{fi caps:List Value}{xs:List Operand}{ts:Array TypeId}(ho:o.op= .call {callee:= .value x,args:=xs.toArray,argTypes:=ts}){act:Act}{w:World}{K:Act->World->Prop}{Q:Exit->Act->World->Prop}
 (hx:act.eval x= .func (.func f) fi.toArray caps.toArray) (hc:∀vs w,(callFunc f vs).run E.P w= .ok (.enter f vs) w)
 (h:Calls E.P f (fi++xs.map act.eval++caps).toArray w fun e w'=>∃v,e= .returned v/\K (act.put o.dst v) w'):o.wp E.P act w K Q:=by
 have hrun:(execOp act.eval o).run E.P w= .ok (.enter f (fi++xs.map act.eval++caps).toArray) w:=by
  simp[execOp,ho,resolve,hx,Deferred.ofValue,invoke,hc]
 unfold Oper.wp;rw[hrun];refine h.mono ?_
 grind
def Gh.marks(g g':Gh):Gh:={g with m:=g'.m}
theorem PC.use{f:FuncId}{args:List V}{r:V}(h:PC E f args r){g:Gh}{D:Nat->Prop}{es:Es}{w:World}(hR:R E.G g D es w){vs:List Value}{cs:List V}(hl:vs.length=cs.length)
 (hr:∀(i:Nat) v c,vs[i]? =some v->cs[i]? =some c->Al g D w v c) (hle:∃cs1,xu [] args=some cs1/\Bb cs cs1) {P:Ending->World->Prop}
 (hP:∀v g' w',R E.G g' D es w'->Al g' D w' v r->Ext D g (Aq g es) w g' (Aq g' es) w'->P (.returned v) w'):Calls E.P f vs.toArray w P:=by
 obtain⟨cs1,h1,h2⟩:=hle;obtain⟨_,_,h3⟩:=h;have hRs:R E.G g (·<0) [] w:=⟨fun n e h=>eE,fun n n' e e' b h=>eE,fun n e h=>eE,hR.fresh,hR.Fp⟩;have hnr:∀n m,CF [] n≠some m:=fun n m h=>by simp[CF,Dz] at h
 refine(h3 g w vs hRs ja (fun i v c hv hc=> ?_)).mono ?_
 .exact kN
 .rintro e w' ⟨v,g',rfl,hR',hv,hx⟩;have hnf:∀b,¬Aq g [] b:=fun b h=>by obtain⟨n,e,h,_⟩:=h;cases h
  have hsame:∀b,b<w.heap.size->w'.heap[b]? =w.heap[b]? /\g'.m b=g.m b:=fun b hb=>hx.frame b hb (hnf b);have hfoot:Aq (g.marks g') es=Aq g es:=by
   rfl
  refine hP v (g.marks g') w' ?_ ?_ ?_
  .exact kM
  .exact lV
  .refine ⟨hx.os,hx.tape,hx.output,hx.size,hx.cells,hx.mark,fun _ _=>rfl,fun _ _=>rfl,fun b hb _=>hsame b hb,fun b hb=> ?_⟩;simp_all
theorem OS.NR{f:FuncId}{xs:List Operand}{ts:Array TypeId}{cs args:List V}{r:V}(ho:o.op= .call {callee:= .value (.func f),args:=xs.toArray,argTypes:=ts})(hx:DS E a xs ts.toList=some cs)(h:PC E f args r)
 (hle:∃cs1,xu [] args=some cs1/\Bb cs cs1):OS E N o a [] r [] []:=by
 intro g D es w act hR hp hn hF K Q hK;obtain⟨h1,h2⟩:=Nn hx hR hF;refine Po ho h.1 (h.use hR h1 h2 hle fun v g' w' h3 h4 h5=>⟨v,rfl,hK g' v w' (h3.more fun n h=> .inl h) (h4.more fun n h=> .inl h) h5⟩)
def EN(E:Env)(N k:Nat)(ops rest:List Oper)(a:AF)(σ:Aj)(Q:Exit->AF->Aj->Prop):Prop:=
 k<=σ.nx->∀g w act,R E.G g (·<σ.nx) σ.es w->Ba g (·<σ.nx) w N act a->D3 E.Y g (Aq g σ.es) w->∀g0 F0 w0,Ext (·<k) g0 F0 w0 g (Aq g σ.es) w->
  wpList E.P ops.toArray (Post E N k g0 F0 w0 Q) rest act w
variable {k:Nat} {σ:Aj} {Q:Exit->AF->Aj->Prop} {ops rest:List Oper}
theorem AW.region{id:Nat}(h:EN E N k ops ops a σ Q):AW E N k (.region id ops.toArray false) a σ Q:=
 ⟨fun hk g w act hR hF hY=>wp_region_lit (h hk g w act hR hF hY g (Aq g σ.es) w (.refl ..))⟩
theorem EN.nil(h:Q .normal a σ):EN E N k ops [] a σ Q:=
 fun hk g w act hR hF hY g0 F0 w0 hx=>wpList_nil ⟨g,a,σ,h,hk,hR,hF,hx⟩
def zw(N:Nat):Option Tmp->Bool
 |none=>true
 |some d=>Nat.blt d N
theorem L5{d:Option Tmp}(h:zw N d=true):∀t,d=some t->t<N:=by
 intro t ht;subst ht;exact ZP h
def Aj.Aw(σ:Aj)(news:Nat)(post:Es):Aj:=⟨σ.nx+news,post++σ.es⟩
theorem EN.op{pre:Es}{v:V}{news:Nat}{post:Es}(h:HK E N o a pre v (List.range' σ.nx news) post)(hg:o.guard=none)(hp:∀p∈pre,zg σ.es p.1=some p.2)(hd:zw N o.dst=true)
 (h2:EN E N k ops rest (a.put o.dst v) (σ.Aw news post) Q):EN E N k ops (o::rest) a σ Q:=by
 intro hk g w act hR hF hY g0 F0 w0 hx;refine wpList_plain hg fun K hK=>h g _ σ.es w act hR hY hp (fun n hn hlt=> ?_) hF K _ fun g' v' w' hR' hv' hx'=>hK _ _ ?_
 .grind
 .exact kq
theorem EN.split{d:Tmp}{b:Bool}(hb:a.get d=some (.bool b))(ht:b=true->EN E N k ops rest ((d,.bool true)::a) σ Q)(hf:b=false->EN E N k ops rest ((d,.bool false)::a) σ Q):EN E N k ops rest a σ Q:=by
 intro hk g w act hR hF hY g0 F0 w0 hx;have key:∀b',b=b'->Ba g (·<σ.nx) w N act ((d,.bool b')::a):=by
  rintro _ rfl;refine⟨hF.size,hF.defers,fun t c hc=> ?_⟩;rw[AF.Bj] at hc;by_cases ht:d=t
  .subst ht;simp only[if_true,ZI] at hc;subst hc;exact hF.vals d _ hb
  .simp only[ht,if_false] at hc;exact hF.vals t c hc
 cases hbb:b with
 |true=>exact ht hbb hk g w act hR (key _ hbb) hY g0 F0 w0 hx
 |false=>exact hf hbb hk g w act hR (key _ hbb) hY g0 F0 w0 hx
def TY(E:Env)(a:AF)(es:Es):ResultVar->Option V
 | .tmp t=>a.get t
 | .cell t T=>match a.get t,E.ti T with
   |some (.ptr n off),some i=>match zg es n with
    |some (.var cs)=>G4 i (cs.drop off)
    |_=>none
   |_,_=>none
def Gi(E:Env)(a:AF)(es:Es):List ResultVar->Option (List V)
 |[]=>some []
 |x::l=>(TY E a es x).bind fun v=>(Gi E a es l).map fun vs=>v::vs
def zh:List V->V
 |[v]=>v
 |vs=> .AM vs
def NT(act:Act):ResultVar->Sem Value
 | .tmp t=>pure (act.tmps.getD t undef)
 | .cell p t=>do loadVar t (<-asAddr (act.tmps.getD p undef))
theorem Ycq{x:ResultVar}{c:V}{es:Es}(h:TY E a es x=some c){g:Gh}{D:Nat->Prop}{w:World}{act:Act}(hR:R E.G g D es w)(hF:Ba g D w N act a):
 ∃v,(NT act x).run E.P w= .ok v w/\Al g D w v c:=by
 cases x with
 |tmp t=>
  obtain⟨v,h1,h2⟩:=hF.vals t c h;exact⟨v,by simp[NT,ZV,h1],h2⟩
 |cell t T=>
  simp only[TY] at h;split at h
  .rename_i n off i h1 h2;split at h
   .rename_i cs h3;obtain⟨v,h4,h5⟩:=hF.vals t _ h1;obtain⟨_,vs,t',h6,h7,h8,h9,_⟩:=hR.BT n _ h3;cases h5 with
    |data h=>cases h
    |ptr _ _ hD=>
     obtain⟨v',h10,h11⟩:=Qi (E:=E) (g:=g) (D:=D) (w:=w) (b:=g.blk n) (off:=off) h2 h (fun j=>vs.getD (off+j) undef)
      (fun j hj=>by
       simp only[dx] at hj;rw[ux h6]
       grind)
      (fun j c hj=>by
       grind)
     exact⟨v',by simp[NT,ZV,h4,asAddr,h10],h11⟩
   grind
  grind
theorem Zwp:∀{xs:List ResultVar} {cs:List V} {es:Es},Gi E a es xs=some cs->∀{g:Gh} {D:Nat->Prop} {w:World} {act:Act},R E.G g D es w->Ba g D w N act a->
 ∃vs:List Value,(xs.mapM (NT act)).run E.P w= .ok vs w/\vs.length=cs.length/\
  ∀(i:Nat) v c,vs[i]? =some v->cs[i]? =some c->Al g D w v c:=by
 intro xs;induction xs with
 |nil=>intro cs es h g D w act hR hF;simp[Gi] at h;simp_all
 |cons x l ih=>
  intro cs es h g D w act hR hF;simp only[Gi,ZL,ZG] at h;obtain⟨c,h1,cs',h2,rfl⟩:=h;obtain⟨v,h3,h4⟩:=Ycq h1 hR hF;obtain⟨vs,h5,h6,h7⟩:=ih h2 hR hF;refine⟨v::vs,?_,ei,fun i u d hu hd=> ?_⟩
  .simp_all
  grind
def I8(E:Env)(k:Nat)(rs:List ResultVar)(r:V)(σ':Aj)(a:AF)(σ:Aj):Prop:=
 ∃cs,Gi E a σ.es rs=some cs/\∃ρ:List (Option Nat),ρ.length=σ'.nx/\Hs 0 k ρ=true/\yb ρ=true/\below σ.nx ρ=true/\D8 ρ σ.es σ'.es/\∃c1,ww ρ r=some c1/\Ai (zh cs) c1
def FV(E:Env)(k:Nat)(rs:List ResultVar)(r:V)(σ':Aj):Exit->AF->Aj->Prop
 | .ret,a,σ=>I8 E k rs r σ' a σ
 | .normal,a,σ=>I8 E k rs r σ' a σ
 |_,_,_=>False
def Lw:Nat->List V->AF
 |_,[]=>[]
 |i,c::cs=>(i,c)::Lw (i+1) cs
theorem Ux:∀{cs:List V} {i t:Nat} {c:V},AF.get (Lw i cs) t=some c->i<=t/\cs[t-i]? =some c:=by
 intro cs;induction cs with
 |nil=>intro i t c h;cases h
 |cons x l ih=>
  intro i t c h;simp only[Lw,AF.Bj] at h;by_cases ht:i=t;all_goals grind
theorem I8.done{rs:List ResultVar}{r:V}{σ':Aj}(h:I8 E k rs r σ' a σ){fn:Func}(hrs:fn.results=rs.toArray){g:Gh}{w:World}{act:Act}(hR:R E.G g (·<σ.nx) σ.es w)(hF:Ba g (·<σ.nx) w N act a):
 ∃v g',(results fn act.tmps).run E.P w= .ok v w/\R E.G g' (·<σ'.nx) σ'.es w/\Al g' (·<σ'.nx) w v r/\Ext (·<k) g (Aq g σ.es) w g' (Aq g' σ'.es) w:=by
 obtain⟨cs,h1,ρ,h2,h3,h4,h5,h6,c1,h7,h8⟩:=h;obtain⟨vs,h9,h10,h11⟩:=Zwp h1 hR hF;have hv:∃v,(results fn act.tmps).run E.P w= .ok v w/\Al g (·<σ.nx) w v (zh cs):=by
  have hm:(results fn act.tmps).run E.P w= .ok (if h:vs.toArray.size=1 then vs.toArray[0] else .tuple vs.toArray) w:=by
   have:results fn act.tmps=(do let vs <-fn.results.mapM (NT act);pure (if h:vs.size=1 then vs[0] else .tuple vs):Sem Value):=rfl;simp_all
  refine⟨_,hm,?_⟩
  match vs,cs,h10,h11 with
  |[],[],_,h=>exact .AM [] [] rfl h
  |[v],[c],_,h=>exact h 0 v c rfl rfl
  |v::v'::l,c::c'::l',hl,h=>simpa[zh] using Al.AM (v::v'::l) (c::c'::l') hl h
 obtain⟨v,h12,h13⟩:=hv;have hw:=Bc.mk (E:=E) (N:=1) (k:=k) (a:=[(0,zh cs)]) (σ:=σ) ρ [(0,r)] σ'.es σ'.nx h2.symm h3 h4 h5 ⟨⟨c1,h7,zh cs,rfl,h8⟩,trivial⟩ h6;by_cases hk:k<=σ.nx
 .obtain ⟨_,hw⟩:=hw hk;obtain⟨g',h14,h15,h16⟩:=hw g w {tmps:= #[v],defers:=[]} hR ⟨rfl,rfl,fun t c hc=>by
   rw[AF.Bj] at hc;by_cases ht:0=t
   .grind
   .simp only[ht,if_false] at hc;cases hc⟩
  obtain⟨v',h17,h18⟩:=h15.vals 0 r rfl
  grind
 .exfalso;have h20:=ut (Q1 k 0 ρ h3 (k-1) dY);have h21:=Ztx h5 (Q1 k 0 ρ h3 (k-1) dY);omega
theorem AC.mk{f:FuncId}{fn:Func}{c:Code}{args:List V}{r:V}{σ':Aj}{rs:List ResultVar}(hf:E.P.funcs[f]? =some fn)(hb:fn.body=some c)(hname:(fn.name== "runtime.NumGoroutine")=false)(hN:fn.ntmps=N)
 (hrs:fn.results=rs.toArray) (hargs:Nat.ble args.length N=true) (hnx:σ.nx<=σ'.nx) (h:AW E N σ.nx c (Lw 0 args) σ (FV E σ.nx rs r σ')) (hY:E.Y=[]:=by rfl):AC E f args σ r σ':=by
 refine⟨fun vs w=> ?_,hnx,fun g w vs hR hl hr=> ?_⟩
 .exact mV
 .have hle:=ZP hargs;refine calls_of_wp hf hb (wp_mono (h.run (ZB _) g w _ hR ?_ (.none hY)) ?_)
  .exact lZ
  .rintro e act' w' ⟨g',a',σ1,hq,hk1,hR1,hF1,hx1⟩;cases e with
   |normal=>
    exact mc
   |ret=>
    exact mc
   |_=>exact hq.elim
end
def zy(ops:List Oper)(a:AF):Option (Nat×Bool)->Option Bool
 |none=>some true
 |some (j,b)=>match (ops[j]?).bind (·.dst) with
  |some d=>match a.get d with
   |some (.bool c)=>some (bif b then c else !c)
   |some (.AM [])=>some false
   |_=>none
  |none=>none
section
variable {E:Env} {N k:Nat} {a:AF} {σ:Aj} {Q:Exit->AF->Aj->Prop} {ops rest:List Oper}
theorem Qj{o:Oper}{c:Bool}(h:zy ops a o.guard=some c){g:Gh}{D:Nat->Prop}{w:World}{act:Act}(hF:Ba g D w N act a):Region.wanted o (yielded ops.toArray act.tmps)=c:=by
 cases hg:o.guard with
 |none=>
  rw[hg] at h;simp only[zy,ZI] at h;simp[Region.wanted,hg,h]
 |some p=>
  obtain⟨j,b⟩:=p;rw[hg] at h;simp only[zy] at h;split at h
  .rename_i d hj;split at h
   .rename_i c' hb;simp only[ZI] at h;obtain⟨v,h1,h3⟩:=hF.vals d _ hb;have:=h3.CQ;subst this;simp[Region.wanted,hg,yielded,hj,h1];cases b<;>cases c'<;>simp at h<;>simp[h]
   .rename_i hb;simp only[ZI] at h;obtain⟨v,h1,h3⟩:=hF.vals d _ hb;have hv:v= .tuple #[]:=by
     cases h3 with
     |data h=>cases h
     |AM vs _ hl _=>grind
    subst hv;simp[Region.wanted,hg,yielded,hj,h1,h]
   grind
  grind
def HL(es:Es):Es->Prop
 |[]=>True
 |p::l=>zg es p.1=some p.2/\HL es l
theorem Xi{es:Es}:∀{pre:Es},HL es pre->∀p∈pre,zg es p.1=some p.2:=by
 intro pre;induction pre with
 |nil=>simp
 |cons q l ih=>
  intro h p hp;rcases Z4.1 hp with rfl|hp
  .exact h.1
  .exact ih h.2 p hp
theorem EN.run{o:Oper}{pre:Es}{v:V}{news:Nat}{post:Es}(hw:zy ops a o.guard=some true)(h:HK E N o a pre v (List.range' σ.nx news) post)(hp:HL σ.es pre)(hd:zw N o.dst=true)
 (h2:EN E N k ops rest (a.put o.dst v) (σ.Aw news post) Q):EN E N k ops (o::rest) a σ Q:=by
 intro hk g w act hR hF hY g0 F0 w0 hx;refine wpList_step fun K hK=> ?_;rw[if_pos (Qj hw hF)];refine h g _ σ.es w act hR hY (Xi hp) (fun n hn hlt=> ?_) hF K _ fun g' v' w' hR' hv' hx'=>hK _ _ ?_
 .grind
 .exact kq
theorem EN.sk{o:Oper}(hw:zy ops a o.guard=some false)(hd:zw N o.dst=true)(h2:EN E N k ops rest (a.put o.dst (.AM [])) σ Q):EN E N k ops (o::rest) a σ Q:=by
 intro hk g w act hR hF hY g0 F0 w0 hx;refine wpList_step fun K hK=> ?_;rw[if_neg (by rw[Qj hw hF];simp)];exact hK _ _ (h2 hk g w _ hR (hF.put (L5 hd) (.AM [] [] rfl (fun i v c h=>dZ))) hY g0 F0 w0 hx)
end
section
variable {E:Env} {N k:Nat} {a:AF} {σ:Aj} {Q:Exit->AF->Aj->Prop}
def NI(E:Env)(N k:Nat){ι:Type}(J:ι->AF×Aj)(Q:Exit->AF->Aj->Prop):Exit->AF->Aj->Prop
 | .normal,a,σ=>∃i,Bc E N k a σ (J i).1 (J i).2
 |e,a,σ=>Q e a σ
namespace K
theorem sq{x y:Code}(h:AW E N k x a σ (JU E N k y Q)):AW E N k (.seq x y) a σ Q:= .seq h
theorem tN{y:Code}(h:AW E N k y a σ Q):JU E N k y Q .normal a σ:=h
theorem tR{y:Code}(h:Q .ret a σ):JU E N k y Q .ret a σ:=h
theorem tE{y:Code}{id:Nat}(h:Q (.exit id) a σ):JU E N k y Q (.exit id) a σ:=h
theorem bN{id:Nat}(h:Q .normal a σ):uf id Q .normal a σ:=h
theorem bR{id:Nat}(h:Q .ret a σ):uf id Q .ret a σ:=h
theorem lR{ι:Type}{J:ι->AF×Aj}{μ:ι->Nat}{i:ι}(h:Q .ret a σ):NF E N k J μ i Q .ret a σ:=h
theorem lE{ι:Type}{J:ι->AF×Aj}{μ:ι->Nat}{i:ι}{id:Nat}(h:Q (.exit id) a σ):NF E N k J μ i Q (.exit id) a σ:=h
theorem cR{ι:Type}{J:ι->AF×Aj}(h:Q .ret a σ):NI E N k J Q .ret a σ:=h
theorem rt{rs:List ResultVar}{r:V}{σ':Aj}{cs:List V}{c1:V}(ρ:List (Option Nat))(h1:Gi E a σ.es rs=some cs)(h2:ρ.length=σ'.nx)(h3:Hs 0 k ρ=true)(h4:yb ρ=true)(h5:below σ.nx ρ=true)
 (h6:D8 ρ σ.es σ'.es) (h7:ww ρ r=some c1) (h8:Ai (zh cs) c1):FV E k rs r σ' .ret a σ:=⟨cs,h1,ρ,h2,h3,h4,h5,h6,c1,h7,h8⟩
theorem r0{rs:List ResultVar}{r:V}{cs:List V}{c1:V}(h1:Gi E a σ.es rs=some cs)(h7:ww [] r=some c1)(h8:Ai (zh cs) c1):FV E 0 rs r ⟨0,[]⟩ .ret a σ:=
 ⟨cs,h1,[],rfl,rfl,rfl,rfl,trivial,c1,h7,h8⟩
end K
end
section
variable {β:Type}
def u4:List (Nat×β)->Nat->Option β
 |[],_=>none
 |p::l,n=>bif Nat.beq p.1 n then some p.2 else u4 l n
theorem uy(m:Nat)(e:β)(es:List (Nat×β))(n:Nat):u4 ((m,e)::es) n=if m=n then some e else u4 es n:=by
 show(bif Nat.beq m n then some e else u4 es n)=_;simp
theorem vr(p es:List (Nat×β))(n:Nat):u4 (p++es) n=(u4 p n).or (u4 es n):=by
 induction p with
 |nil=>rfl
 |cons x l ih=>
  obtain⟨m,e⟩:=x;rw[aE,uy,uy]
  grind
theorem Du{p:List (Nat×β)}{n:Nat}:(u4 p n).isSome=true↔n∈p.map Prod.fst:=by
 induction p with
 |nil=>simp[u4]
 |cons x l ih=>
  obtain⟨m,e⟩:=x;rw[uy]
  grind
theorem RG{p:List (Nat×β)}{n:Nat}(h:n∉p.map Prod.fst):u4 p n=none:=by
 cases hf:u4 p n with
 |none=>rfl
 |some x=>exact absurd (Du.1 ei) h
def xx(fl:Nat->Bool):Nat->List (List (Nat×β))->List (Nat×β)->List (Nat×β)
 |_,[],es=>es
 |i,u::us,es=>xx fl (i+1) us (bif fl i then u++es else es)
theorem vz{fl fl':Nat->Bool}{n:Nat}:∀{us:List (List (Nat×β))} {i:Nat} {es es':List (Nat×β)},u4 es n=u4 es' n->(∀j u,us[j]? =some u->n∈u.map Prod.fst->fl (i+j)=fl' (i+j))->
 u4 (xx fl i us es) n=u4 (xx fl' i us es') n:=by
 intro us;induction us with
 |nil=>intro i es es' h _;exact h
 |cons u us ih=>
  intro i es es' h hk;simp only[xx];refine ih ?_ fun j u' hj hn=> ?_
  .by_cases hn:n∈u.map Prod.fst
   .have:=hk 0 u rfl hn;rw[cJ] at this;rw[this];cases fl' i with
    |true=>simp only[cond_true,vr,h]
    |false=>exact h
   .have hu:=RG hn;have e1:∀(b:Bool) (es:List (Nat×β)),u4 (bif b then u++es else es) n=u4 es n:=fun b es=>by
     cases b<;>simp[vr,hu]
    rw[e1,e1,h]
  .have:=hk (j+1) u' ei hn
   grind
theorem R7{fl:Nat->Bool}{n:Nat}:∀{us:List (List (Nat×β))} {i k:Nat} {u:List (Nat×β)} {es:List (Nat×β)},us[k]? =some u->fl (i+k)=true->n∈u.map Prod.fst->
 (∀j u',k<j->us[j]? =some u'->n∈u'.map Prod.fst->fl (i+j)=false)->u4 (xx fl i us es) n=u4 u n:=by
 intro us;induction us with
 |nil=>simp
 |cons x us ih=>
  intro i k u es hk hf hn hl;simp only[xx];cases k with
  |zero=>
   simp at hk;subst hk;rw[cJ] at hf;have h1:u4 (xx fl (i+1) us (bif fl i then x++es else es)) n=u4 (xx (fun _=>false) (i+1) us (x++es)) n:=by
    refine vz ei fun j u' hj hn'=> ?_;have:=hl (j+1) u' dY ei hn'
    grind
   have h2:∀(us:List (List (Nat×β))) i es,xx (fun _=>false) i us es=es:=by
    intro us;induction us with
    |nil=>intro i es;rfl
    |cons y us ih=>intro i es;simp only[xx,cond_false];grind
   rw[h1,h2,vr];obtain⟨v,hv⟩:=bB.1 (Du.2 hn)
   grind
  |succ k=>
   refine ih (by simpa using hk) ei hn fun j u' hj hju hn'=> ?_;have:=hl (j+1) u' dY ei hn'
   grind
end
theorem J7(a:AF)(n:Nat):a.get n=(u4 a n:Option V):=by
 induction a with
 |nil=>rfl
 |cons p l ih=>obtain⟨m,e⟩:=p;rw[AF.Bj,uy,ih]
theorem J6(es:Es)(n:Nat):zg es n=(u4 es n:Option A7):=by
 induction es with
 |nil=>rfl
 |cons p l ih=>obtain⟨m,e⟩:=p;rw[zm,uy,ih]
def vu(o:Oper):List Nat:=o.after.toList.filterMap fun e=>bif Region.binds .any e then some e.on else none
def Tv(bs:List Nat)(o:Oper):Nat:=(vu o).foldl (fun s e=>s|||2^e|||bs.getD e 0) 0
def Ke:List Oper->List Nat->List Nat
 |[],bs=>bs
 |o::l,bs=>Ke l (bs++[Tv bs o])
inductive Path (ops:List Oper):Nat->Nat->Prop
 |base {i j:Nat} {o:Oper} (ho:ops[j]? =some o) (h:i∈vu o):Path ops i j
 |step {i m j:Nat} {o:Oper} (ho:ops[j]? =some o) (h:m∈vu o) (h2:Path ops i m):Path ops i j
theorem Zoz{ops:List Oper}{bs:List Nat}{o:Oper}{j:Nat}(ho:ops[j]? =some o)(hbs:∀m i,(bs.getD m 0).testBit i=true->Path ops i m):∀i,(Tv bs o).testBit i=true->Path ops i j:=by
 have key:∀(l:List Nat) (s:Nat),(∀e∈l,e∈vu o)->(∀i,s.testBit i=true->Path ops i j)->∀i,(l.foldl (fun s e=>s|||2^e|||bs.getD e 0) s).testBit i=true->Path ops i j:=by
  intro l;induction l with
  |nil=>simp
  |cons e l ih=>
   intro s hl hs i h;refine ih _ (fun e' he'=>hl e' ei) (fun i' h'=> ?_) i h;rw[Nat.testBit_or,Nat.testBit_or,aV,aV] at h';rcases h' with(h'|h')|h'
   .grind
   .rw[Nat.testBit_two_pow] at h';simp only[decide_eq_true_eq] at h';subst h';exact .base ho (hl e dZ)
   .exact .step ho (hl e dZ) (hbs e i' h')
 intro i h;exact key (vu o) 0 (fun e h=>h) (fun i h=>ei) i h
theorem Ztq{ops:List Oper}:∀(l:List Oper) (bs:List Nat),(∀j,l[j]? =ops[bs.length+j]?)->(∀m i,(bs.getD m 0).testBit i=true->Path ops i m)->∀m i,((Ke l bs).getD m 0).testBit i=true->Path ops i m:=by
 intro l;induction l with
 |nil=>intro bs _ h;exact h
 |cons o l ih=>
  intro bs hl h;refine ih (bs++[Tv bs o]) (fun j=>by have:=hl (j+1);grind) ?_;intro m i hm;by_cases h1:m<bs.length
  .grind
  .by_cases h2:m=bs.length
   .subst h2;rw[aB,aj (ZB _)] at hm;simp only[cw,bZ,aQ] at hm;have h0:ops[bs.length]? =some o:=by have:=hl 0;grind
    exact Zoz h0 h i hm
   grind
structure Rec where
 pre:Es
 v:V
 news:Nat
 post:Es
def WD(xs:List Operand):List Nat:=xs.filterMap fun| .tmp t=>some t|_=>none
def E1(ops:List Oper)(o:Oper):List Nat:=
 WD o.op.operands.toList++(match o.guard with|some (j,_)=>((ops[j]?).bind (·.dst)).toList|none=>[])
def Hh(a:AF):List Nat->AF
 |[]=>[]
 |t::l=>match a.get t with
  |some v=>(t,v)::Hh a l
  |none=>Hh a l
theorem Uo{a:AF}:∀{l:List Nat} {t:Nat} {c:V},(Hh a l).get t=some c->t∈l/\a.get t=some c:=by
 intro l;induction l with
 |nil=>intro t c h;cases h
 |cons x l ih=>
  intro t c h;simp only[Hh] at h;cases hx:a.get x with
  |none=>grind
  |some v=>
   rw[hx] at h;simp only[AF.Bj] at h
   grind
def Jt(l l':List Nat):Bool:=l.any fun x=>l'.any fun y=>Nat.beq x y
theorem N2{l l':List Nat}{x:Nat}(h:x∈l)(h':x∈l'):Jt l l'=true:=
 cT.2 ⟨x,h,cT.2 ⟨x,h',dZ⟩⟩
def Hj(lo lo':List Nat)(d d':List Nat)(r r':Rec):Bool:=
 Jt d lo'||Jt d' lo||Jt d d'||Jt (r.post.map Prod.fst) (r'.pre.map Prod.fst)||Jt (r'.post.map Prod.fst) (r.pre.map Prod.fst)||Jt (r.post.map Prod.fst) (r'.post.map Prod.fst)
def OA(ops:List Oper)(lo d:List Nat)(r:Rec)(i:Nat):List Oper->List Rec->List Nat->Bool
 |o::os,r'::rs,m::ms=>(!Hj lo (E1 ops o) d o.dst.toList r r'||m.testBit i)&&OA ops lo d r i os rs ms
 |_,_,_=>true
def Qh(ops:List Oper):Nat->List Oper->List Rec->List Nat->Bool
 |i,o::os,r::rs,_::ms=>OA ops (E1 ops o) o.dst.toList r i os rs ms&&Qh ops (i+1) os rs ms
 |_,_,_,_=>true
def Iv(ops:List Oper)(rs:List Rec):Bool:=Qh ops 0 ops rs (Ke ops [])
theorem Zp0{ops:List Oper}{lo d:List Nat}{r:Rec}{i:Nat}:∀{os:List Oper} {rs:List Rec} {ms:List Nat},OA ops lo d r i os rs ms=true->∀(j:Nat) o' r' m,os[j]? =some o'->rs[j]? =some r'->ms[j]? =some m->
 Hj lo (E1 ops o') d o'.dst.toList r r'=true->m.testBit i=true:=by
 intro os;induction os with
 |nil=>simp
 |cons o os ih=>
  intro rs ms h j o' r' m h1 h2 h3 hc;cases rs with
  |nil=>grind
  |cons r0 rs=>
   cases ms with
   |nil=>grind
   |cons m0 ms=>
    simp only[OA,ZC] at h
    grind
theorem Zpj{ops:List Oper}:∀{os:List Oper} {rs:List Rec} {ms:List Nat} {b:Nat},Qh ops b os rs ms=true->∀(i j:Nat) o r o' r' m,i<j->os[i]? =some o->rs[i]? =some r->os[j]? =some o'->rs[j]? =some r'->ms[j]? =some m->
 Hj (E1 ops o) (E1 ops o') o.dst.toList o'.dst.toList r r'=true->m.testBit (b+i)=true:=by
 intro os;induction os with
 |nil=>simp
 |cons o0 os ih=>
  intro rs ms b h i j o r o' r' m hij h1 h2 h3 h4 h5 hc;cases rs with
  |nil=>grind
  |cons r0 rs=>
   cases ms with
   |nil=>grind
   |cons m0 ms=>
    simp only[Qh,ZC] at h;cases j with
    |zero=>omega
    |succ j=>
     simp only[bH] at h3 h4 h5;cases i with
     |zero=>
      simp at h1 h2;subst h1;subst h2;rw[cJ];exact Zp0 h.1 j o' r' m h3 h4 h5 hc
     |succ i=>
      grind
theorem Zvw:∀(l:List Oper) (bs:List Nat),(Ke l bs).length=bs.length+l.length:=by
 intro l;induction l with
 |nil=>intro bs;rfl
 |cons o l ih=>intro bs;simp only[Ke];grind
theorem U9{ops:List Oper}{rs:List Rec}(h:Iv ops rs=true){i j:Nat}{o o':Oper}{r r':Rec}(hij:i<j)(h1:ops[i]? =some o)(h2:rs[i]? =some r)(h3:ops[j]? =some o')(h4:rs[j]? =some r')
 (hc:Hj (E1 ops o) (E1 ops o') o.dst.toList o'.dst.toList r r'=true):Path ops i j:=by
 have hl:=Zvw ops [];have hj:j<(Ke ops []).length:=ei
 have h5:(Ke ops [])[j]? =some ((Ke ops [])[j]):=ZD hj;have h6:=Zpj h i j o r o' r' _ hij h1 h2 h3 h4 h5 hc;rw[aq] at h6;exact Ztq ops [] (fun j=>dZ) (fun m i h=>ei) j i ei
inductive Bz (E:Env) (N:Nat) (X:Oper->Prop) (ops:List Oper):List Oper->AF->Aj->List Rec->AF->Aj->Prop
 |nil (a:AF) (σ:Aj):Bz E N X ops [] a σ [] a σ
 |run {o:Oper} {rest:List Oper} {a:AF} {σ:Aj} (r:Rec) {rs:List Rec} {a':AF} {σ':Aj} (hw:zy ops a o.guard=some true) (h:X o\/HK E N o (Hh a (E1 ops o)) r.pre r.v (List.range' σ.nx r.news) r.post)
  (hp:HL σ.es r.pre) (hd:zw N o.dst=true) (h2:Bz E N X ops rest (a.put o.dst r.v) (σ.Aw r.news r.post) rs a' σ'):Bz E N X ops (o::rest) a σ (r::rs) a' σ'
 |sk {o:Oper} {rest:List Oper} {a:AF} {σ:Aj} {rs:List Rec} {a':AF} {σ':Aj} (hw:zy ops a o.guard=some false) (hd:zw N o.dst=true) (h2:Bz E N X ops rest (a.put o.dst (.AM [])) σ rs a' σ'):
  Bz E N X ops (o::rest) a σ (⟨[],.AM [],0,[]⟩::rs) a' σ'
def AWD(E:Env)(N k:Nat)(ops rest:List Oper)(a:AF)(σ:Aj)(acc:List Rec)(Q:Exit->AF->Aj->Prop):Prop:=
 ∃rs a' σ',Bz E N (fun _=>False) ops rest a σ rs a' σ'/\Iv ops (acc.reverse++rs)=true/\Q .normal a' σ'
def Gw(d:Option Nat)(v:V):AF:=match d with|some d=>[(d,v)]|none=>[]
theorem LB(a:AF)(d:Option Nat)(v:V):a.put d v=Gw d v++a:=by cases d<;>rfl
def CB(os:List Oper)(rs:List Rec):List AF:=List.zipWith (fun o r=>Gw o.dst r.v) os rs
def CS(rs:List Rec):List Es:=rs.map Rec.post
def DD(nx:Nat)(rs:List Rec)(i:Nat):Nat:=nx+((rs.take i).map Rec.news).sum
theorem OQ{β:Type}{fl:Nat->Bool}:∀{us:List (List (Nat×β))} {i:Nat} {es:List (Nat×β)},xx fl (i+1) us es=xx (fun j=>fl (j+1)) i us es:=by
 intro us;induction us with
 |nil=>intro i es;rfl
 |cons u us ih=>intro i es;simp only[xx];rw[ih]
theorem LD{β:Type}{fl:Nat->Bool}:∀{us:List (List (Nat×β))} {i:Nat} {es:List (Nat×β)},(∀j,i<=j->fl j=false)->xx fl i us es=es:=by
 intro us;induction us with
 |nil=>intro i es _;rfl
 |cons u us ih=>intro i es h;simp only[xx,h i (ZB _),cond_false];grind
section
variable {E:Env} {N k:Nat} {ops:List Oper} {X:Oper->Prop}
theorem Bz.len{rest:List Oper}{a:AF}{σ:Aj}{rs:List Rec}{a':AF}{σ':Aj}(h:Bz E N X ops rest a σ rs a' σ'):rs.length=rest.length:=by
 induction h<;>simp_all
theorem Bz.fin{rest:List Oper}{a:AF}{σ:Aj}{rs:List Rec}{a':AF}{σ':Aj}(h:Bz E N X ops rest a σ rs a' σ'):
 a'=xx (fun _=>true) 0 (CB rest rs) a/\σ'.es=xx (fun _=>true) 0 (CS rs) σ.es/\σ'.nx=DD σ.nx rs rs.length:=by
 have hs:∀{β:Type} {us:List (List (Nat×β))} {es:List (Nat×β)},xx (fun _=>true) 1 us es=xx (fun _=>true) 0 us es:=fun {β us es}=>OQ;induction h with
 |nil=>exact⟨rfl,rfl,eC⟩
 |run r _ _ _ _ _ ih=>
  obtain⟨h1,h2,h3⟩:=ih;refine⟨?_,?_,?_⟩
  .rw[h1,LB];simp only[CB,cg,xx,cond_true];grind
  .rw[h2];simp only[CS,ZJ,xx,cond_true,Aj.Aw];grind
  .rw[h3];simp[DD,Aj.Aw];omega
 |sk _ _ _ ih=>
  obtain⟨h1,h2,h3⟩:=ih;refine⟨?_,?_,?_⟩
  .rw[h1,LB];simp only[CB,cg,xx,cond_true];grind
  .rw[h2];simp only[CS,ZJ,xx,cond_true,Z3];grind
  .rw[h3];simp[DD]
def Ykb(E:Env)(N:Nat)(X:Oper->Prop)(ops:List Oper)(a:AF)(nx:Nat)(es:Es)(o:Oper)(r:Rec):Prop:=
 zw N o.dst=true/\((zy ops a o.guard=some true/\(X o\/HK E N o (Hh a (E1 ops o)) r.pre r.v (List.range' nx r.news) r.post)/\HL es r.pre)\/(zy ops a o.guard=some false/\r=⟨[],.AM [],0,[]⟩))
theorem Bz.nth{rest:List Oper}{a:AF}{σ:Aj}{rs:List Rec}{a':AF}{σ':Aj}(h:Bz E N X ops rest a σ rs a' σ'):∀(i:Nat) o r,rest[i]? =some o->rs[i]? =some r->
 Ykb E N X ops (xx (fun j=>decide (j<i)) 0 (CB rest rs) a) (DD σ.nx rs i) (xx (fun j=>decide (j<i)) 0 (CS rs) σ.es) o r:=by
 have h0:∀{β:Type} {us:List (List (Nat×β))} {es:List (Nat×β)},xx (fun j=>decide (j<0)) 0 us es=es:=fun {β us es}=>LD fun j _=>dZ
 have hs:∀{β:Type} {i:Nat} {us:List (List (Nat×β))} {es:List (Nat×β)},xx (fun j=>decide (j<i+1)) 1 us es=xx (fun j=>decide (j<i)) 0 us es:=fun {β i us es}=>by
  rw[OQ];simp
 induction h with
 |nil=>simp
 |run r0 hw h hp hd _ ih=>
  intro i o r h1 h2;cases i with
  |zero=>
   simp at h1 h2;subst h1;subst h2;rw[h0,h0];exact⟨hd,.inl ⟨hw,by simpa[DD] using h,hp⟩⟩
  |succ i=>
   simp only[bH] at h1 h2;have:=ih i o r h1 h2;simp only[CB,CS,cg,ZJ,xx,dz,decide_true,cond_true];rw[hs,hs];rw[LB] at this;simp only[Aj.Aw] at this;have hnx:∀nx rs,DD nx (r0::rs) (i+1)=DD (nx+r0.news) rs i:=fun nx rs=>by simp[DD];omega
   rw[hnx];exact this
 |sk hw hd _ ih=>
  intro i o r h1 h2;cases i with
  |zero=>
   simp at h1 h2;subst h1;subst h2;rw[h0,h0];exact⟨hd,.inr ⟨hw,rfl⟩⟩
  |succ i=>
   simp only[bH] at h1 h2;have:=ih i o r h1 h2;simp only[CB,CS,cg,ZJ,xx,dz,decide_true,cond_true,Z3];rw[hs,hs];rw[LB] at this;have hnx:∀nx rs,DD nx ((⟨[],.AM [],0,[]⟩:Rec)::rs) (i+1)=DD nx rs i:=fun nx rs=>by simp[DD]
   rw[hnx];exact this
theorem Qs{nx:Nat}{rs:List Rec}{i:Nat}{r:Rec}(h:rs[i]? =some r):DD nx rs (i+1)=DD nx rs i+r.news:=by
 obtain⟨hi,rfl⟩:=ZT.1 h;simp only[DD];rw[aT hi,aZ,cC,ZJ,Z2,ZW,aN];omega
theorem LY{nx:Nat}{rs:List Rec}{i j:Nat}(h:i<=j):DD nx rs i<=DD nx rs j:=by
 induction j with
 |zero=>grind
 |succ j ih=>
  by_cases hij:i=j+1
  .grind
  .have h1:=ih dY;cases hr:rs[j]? with
   |some r=>rw[Qs hr];omega
   |none=>
    have hl:rs.length<=j:=by
     grind
    have:DD nx rs (j+1)=DD nx rs j:=by simp only[DD];rw[aC dY,aC hl]
    omega
def Dn(nx:Nat)(rs:List Rec)(fl:Nat->Bool)(n:Nat):Prop:=n<nx\/∃i r,rs[i]? =some r/\fl i=true/\n∈List.range' (DD nx rs i) r.news
theorem Yh9{nx:Nat}{rs:List Rec}{fl:Nat->Bool}{i:Nat}{r:Rec}(h:rs[i]? =some r)(hf:fl i=false):∀n∈List.range' (DD nx rs i) r.news,¬Dn nx rs fl n:=by
 intro n hn hD;obtain⟨a,ha,rfl⟩:=dP.1 hn;have h0:DD nx rs 0=nx:=eC
 have h1:=LY (nx:=nx) (rs:=rs) (bL i);rcases hD with hD|⟨j,r',hj,hfj,hm⟩
 .omega
 .obtain ⟨b,hb,hbe⟩:=dP.1 hm;have hij:i≠j:=fun e=>ei
  rcases Nat.lt_or_gt_of_ne hij with hlt|hlt
  .have:=LY (nx:=nx) (rs:=rs) (show i+1<=j by omega);rw[Qs h] at this;omega
  .have:=LY (nx:=nx) (rs:=rs) (show j+1<=i by omega);rw[Qs hj] at this;omega
theorem R.congr{G:DR}{g:Gh}{D:Nat->Prop}{es es':Es}{w:World}(h:R G g D es w)(he:∀n,zg es' n=zg es n):R G g D es' w:=
 ⟨fun n e hn=>h.lt n e ei,fun n n' e e' b h1 h2=>h.A9 n n' e e' b ei ei,fun n e hn=>h.BT n e ei,h.fresh,h.Fp⟩
theorem Aq.congr{g:Gh}{es es':Es}(he:∀n,zg es' n=zg es n):Aq g es'=Aq g es:=by
 funext b;simp only[Aq,he]
theorem Ba.congr{g:Gh}{D:Nat->Prop}{w:World}{act:Act}{a a':AF}(h:Ba g D w N act a)(he:∀t,a'.get t=a.get t):Ba g D w N act a':=
 ⟨h.size,h.defers,fun t c hc=>h.vals t c ei⟩
theorem RB{a a':AF}{o:Oper}(h:∀t∈E1 ops o,a'.get t=a.get t):zy ops a' o.guard=zy ops a o.guard:=by
 cases hg:o.guard with
 |none=>rfl
 |some p=>
  obtain⟨j,b⟩:=p;simp only[zy];cases hj:(ops[j]?).bind (·.dst) with
  |none=>rfl
  |some d=>
   have:d∈E1 ops o:=by simp[E1,hg,hj]
   grind
theorem Ye1{p:Nat×A7}{pre:Es}(h:p∈pre):p.1∈pre.map Prod.fst:=cW h
theorem SN{a0:AF}{σ0:Aj}{rs:List Rec}{a':AF}{σ':Aj}(hpl:Bz E N X ops ops a0 σ0 rs a' σ')(hord:Iv ops rs=true){Q:Exit->AF->Aj->Prop}{S:Array Bool->Prop}(hS:∀listed i (hin:i<ops.length),S listed->¬X ops[i]->S (listed.setIfInBounds i true))(hQ:∀listed,S listed->(∀j,j<ops.length->listed.getD j false=true)->Q .normal a' σ')(hk:k<=σ0.nx)
 {g0:Gh} {F0:Nat->Prop} {w0:World} (hY:D3 E.Y g0 F0 w0) (hedge:∀j o,ops[j]? =some o->∀e∈vu o,e<j) (hnX2:∀i (hin:i<ops.length),X ops[i]->∀{a:AF},zy ops a ops[i].guard≠some false) {PP:Exit->Act->World->Prop} (hPP:∀act w,Post E N k g0 F0 w0 Q .normal act w->PP .normal act w)
 (hcb:∀(fuel:Nat) (listed:Array Bool) (act:Act) (w:World) (i:Nat) (hin:i<ops.length) (g:Gh),S listed->listed.size=ops.length->listed.toList.count false<=fuel+1->
  (∀j o,ops[j]? =some o->listed.getD j false=true->∀e∈vu o,listed.getD e false=true)->
  R E.G g (Dn σ0.nx rs fun j=>listed.getD j false) (xx (fun j=>listed.getD j false) 0 (CS rs) σ0.es) w->Ba g (Dn σ0.nx rs fun j=>listed.getD j false) w N act (xx (fun j=>listed.getD j false) 0 (CB ops rs) a0)->
  Ext (·<k) g0 F0 w0 g (Aq g (xx (fun j=>listed.getD j false) 0 (CS rs) σ0.es)) w->X ops[i]->listed.getD i false=false->(∀e∈vu ops[i],listed.getD e false=true)->
  (∀t∈E1 ops ops[i],AF.get (xx (fun j=>listed.getD j false) 0 (CB ops rs) a0) t=AF.get (xx (fun j=>decide (j<i)) 0 (CB ops rs) a0) t)->
  ops[i].wp E.P act w (wpAny E.P .any ops.toArray PP fuel (listed.setIfInBounds i true)) PP):
 ∀(fuel:Nat) (listed:Array Bool) (act:Act) (w:World),S listed->listed.size=ops.length->(listed.toList.count false<=fuel)->
  (∀j o,ops[j]? =some o->listed.getD j false=true->∀e∈vu o,listed.getD e false=true)->
  (∃g,R E.G g (Dn σ0.nx rs fun j=>listed.getD j false) (xx (fun j=>listed.getD j false) 0 (CS rs) σ0.es) w/\Ba g (Dn σ0.nx rs fun j=>listed.getD j false) w N act (xx (fun j=>listed.getD j false) 0 (CB ops rs) a0)/\
   Ext (·<k) g0 F0 w0 g (Aq g (xx (fun j=>listed.getD j false) 0 (CS rs) σ0.es)) w)->
  wpAny E.P .any ops.toArray PP fuel listed act w:=by
 have hlen:=hpl.len;obtain⟨hfa,hfe,hfn⟩:=hpl.fin;have hpath:∀(fl:Nat->Bool) (hc:∀j o,ops[j]? =some o->fl j=true->∀e∈vu o,fl e=true) {i j:Nat},Path ops i j->(∀o,ops[j]? =some o->∀e∈vu o,fl e=true)->fl i=true:=by
  intro fl hc i j hp;induction hp with
  |base ho h=>intro hj;exact hj _ ho _ h
  |step ho h _ ih=>intro hj;exact ih fun o' ho'=>hc _ o' ho' (hj _ ho _ h)
 have hend:∀(listed:Array Bool) (act:Act) (w:World),S listed->listed.size=ops.length->Region.ready .any ops.toArray listed=[]->
  (∃g,R E.G g (Dn σ0.nx rs fun j=>listed.getD j false) (xx (fun j=>listed.getD j false) 0 (CS rs) σ0.es) w/\Ba g (Dn σ0.nx rs fun j=>listed.getD j false) w N act (xx (fun j=>listed.getD j false) 0 (CB ops rs) a0)/\
   Ext (·<k) g0 F0 w0 g (Aq g (xx (fun j=>listed.getD j false) 0 (CS rs) σ0.es)) w)->Post E N k g0 F0 w0 Q .normal act w:=by
  intro listed act w hs hsz hnil ⟨g,hR,hF,hx⟩;have hall:∀j,j<ops.length->listed.getD j false=true:=by
   intro j;induction j using Nat.strongRecOn with
   |_ j ih=>
    intro hj;cases hlj:listed.getD j false with
    |true=>rfl
    |false=>
     exfalso;have hmem:j∈Region.ready .any ops.toArray listed:=by
      unfold Region.ready;rw[bI];refine⟨fG,?_⟩;have hjs:j<listed.size:=dY
      have h1:listed.getD j true=false:=by
       simp only[ZV,aJ hjs,aQ] at hlj ⊢;exact hlj
      have h2:ops.toArray[j]? =some (ops[j]):=by simp[hj]
      simp only[h1,Bool.not_false,aH,h2,ak,aQ];rw[<-Array.all_toList,ZH];intro e he;cases hb:Region.binds .any e with
      |false=>rfl
      |true=>
       have heh:e.on∈vu ops[j]:=cj.2 ⟨e,he,gK⟩;have hlt:=hedge j ops[j] (ZD hj) e.on heh;simp only[eo,Bool.false_or];exact ih e.on hlt dY
     rw[hnil] at hmem;cases hmem
  have hfl:∀{β:Type} (us:List (List (Nat×β))) (es:List (Nat×β)),us.length=ops.length->∀n,u4 (xx (fun j=>listed.getD j false) 0 us es) n=u4 (xx (fun _=>true) 0 us es) n:=by
   intro β us es hus n;refine vz rfl fun j u hj _=> ?_;rw[aq];exact hall j (by rw[<-hus];exact(ZT.1 hj).1)
  have hpl2:(CS rs).length=ops.length:=by simp[CS,hlen]
  have hfl2:(CB ops rs).length=ops.length:=by simp[CB,hlen]
  have he:∀n,zg σ'.es n=zg (xx (fun j=>listed.getD j false) 0 (CS rs) σ0.es) n:=fun n=>by
   rw[J6,J6,hfe];exact(hfl _ _ hpl2 n).symm
  have ha:∀n,a'.get n=AF.get (xx (fun j=>listed.getD j false) 0 (CB ops rs) a0) n:=fun n=>by
   rw[J7,J7,hfa];exact(hfl _ _ hfl2 n).symm
  have hD:∀n,Dn σ0.nx rs (fun j=>listed.getD j false) n->n<σ'.nx:=by
   intro n hn;rw[hfn];have h0:DD σ0.nx rs 0=σ0.nx:=by simp[DD]
   rcases hn with hn|⟨i,r,hr,_,hm⟩
   .have:=LY (nx:=σ0.nx) (rs:=rs) (bL rs.length);omega
   .obtain ⟨b,hb,hbe⟩:=dP.1 hm;have hi:=(ZT.1 hr).1;have:=LY (nx:=σ0.nx) (rs:=rs) (show i+1<=rs.length by omega);rw[Qs hr] at this;omega
  refine⟨g,a',σ',hQ listed hs hall,?_,(hR.congr he).more hD,?_,?_⟩
  .rw[hfn];have:=LY (nx:=σ0.nx) (rs:=rs) (bL rs.length);have h0:DD σ0.nx rs 0=σ0.nx:=by simp[DD]
   omega
  .have:=hF.congr ha;exact⟨this.size,this.defers,fun t c hc=>let ⟨v,h1,h2⟩:=this.vals t c hc;⟨v,h1,h2.more hD⟩⟩
  .rw[Aq.congr he];exact hx
 intro fuel;induction fuel with
 |zero=>
  intro listed act w hs hsz hcnt hcl hinv;have hready:Region.ready .any ops.toArray listed=[]:=by
   unfold Region.ready;rw[List.filter_eq_nil_iff];intro j hj;have hj':j<ops.length:=fG
   have hjs:j<listed.size:=dY
   have:listed.getD j true=true:=by
    simp only[ZV,aJ hjs,aQ];have h0:listed.toList.count false=0:=dY
    rw[List.count_eq_zero] at h0;cases hb:listed[j] with
    |true=>rfl
    |false=>exact absurd (by rw[<-hb];exact Array.getElem_mem_toList hjs) h0
   simp[this]
  exact⟨hready,hPP _ _ (hend listed act w hs hsz hready hinv)⟩
 |succ fuel ih=>
  intro listed act w hs hsz hcnt hcl hinv;refine⟨fun hnil=>hPP _ _ (hend listed act w hs hsz hnil hinv),fun i hi=> ?_⟩;obtain⟨g,hR,hF,hx⟩:=hinv;unfold Region.ready at hi;rw[bI] at hi;obtain⟨hi1,hi2⟩:=hi;have hin:i<ops.length:=by simpa using hi1
  have hios:ops[i]? =some ops[i]:=ZD hin;have hirs:rs[i]? =some (rs[i]' dY):=ZD _;have h2:ops.toArray[i]? =some (ops[i]):=by simp[hin]
  simp only[h2,ak,aQ,ZC] at hi2;have hil:i<listed.size:=dY
  have hfi:listed.getD i false=false:=by
   have:=hi2.1;simp only[ZV,aJ hil,aQ] at this ⊢;simpa using this
  have hihard:∀o,ops[i]? =some o->∀e∈vu o,listed.getD e false=true:=by
   intro o ho e he;rw[hios] at ho;cases ho;obtain⟨e',he',hee⟩:=cj.1 he;have h3:=hi2.2;rw[<-Array.all_toList,ZH] at h3;have:=h3 e' he';cases hb:Region.binds .any e' with
   |false=>rw[hb] at hee;cases hee
   |true=>
    rw[hb] at hee this;simp only[cond_true,ZI] at hee;subst hee;simpa using this
  have hcl1:∀j o r,ops[j]? =some o->rs[j]? =some r->j≠i->Hj (E1 ops ops[i]) (E1 ops o) ops[i].dst.toList o.dst.toList (rs[i]' dY) r=true\/Hj (E1 ops o) (E1 ops ops[i]) o.dst.toList ops[i].dst.toList r (rs[i]' dY)=true->
   listed.getD j false=decide (j<i):=by
   intro j o r hjo hjr hji hc;have hsym:∀{lo lo' d d' r r'},Hj lo lo' d d' r r'=true->Hj lo' lo d' d r' r=true:=by
    intro lo lo' d d' r r' h;have hany:∀x y:List Nat,Jt x y=true->Jt y x=true:=fun x y h=>by
     obtain⟨u,hu,h2⟩:=cT.1 h;obtain⟨v,hv,h3⟩:=cT.1 h2;have:=Z9 h3;subst this;exact N2 hv hu
    simp only[Hj,aV] at h ⊢;rcases h with((((h|h)|h)|h)|h)|h
    .exact .inl (.inl (.inl (.inl (.inr h))))
    .exact .inl (.inl (.inl (.inl (.inl h))))
    .exact .inl (.inl (.inl (.inr (hany _ _ h))))
    .exact .inl (.inr h)
    .exact .inl (.inl (.inr h))
    .exact .inr (hany _ _ h)
   rcases Nat.lt_or_gt_of_ne hji with hlt|hlt
   .have hp:=U9 hord hlt hjo hjr hios hirs (by rcases hc with hc|hc;(exact hsym hc);(exact hc));rw[decide_eq_true hlt];exact hpath (fun j=>listed.getD j false) hcl hp hihard
   .have hp:=U9 hord hlt hios hirs hjo hjr (by rcases hc with hc|hc;(exact hc);(exact hsym hc));have:¬j<i:=dY
    rw[decide_eq_false this];cases hlj:listed.getD j false with
    |false=>rfl
    |true=>
     have:=hpath (fun j=>listed.getD j false) hcl hp (fun o' ho'=>hcl j o' ho' hlj);rw[hfi] at this;cases this
  have hfus:∀{j:Nat} {u:AF},(CB ops rs)[j]? =some u->∃o r,ops[j]? =some o/\rs[j]? =some r/\u=Gw o.dst r.v:=by
   intro j u hu;simp only[CB,bU] at hu;split at hu
   .rename_i o r ho hr;cases hu;exact⟨o,r,ho,hr,rfl⟩
   .cases hu
  have hpus:∀{j:Nat} {u:Es},(CS rs)[j]? =some u->∃o r,ops[j]? =some o/\rs[j]? =some r/\u=r.post:=by
   intro j u hu;simp only[CS,Z8,ZG] at hu;obtain⟨r,hr,rfl⟩:=hu;have hj:=(ZT.1 hr).1;exact⟨ops[j]' dY,r,ZD _,hr,rfl⟩
  have hputk:∀{d:Option Nat} {v:V} {t:Nat},t∈(Gw d v).map Prod.fst->t∈d.toList:=by
   intro d v t h;cases d with|none=>simp[Gw] at h|some d=>simpa[Gw] using h
  have hputk2:∀{d:Option Nat} {v:V} {t:Nat},t∈d.toList->t∈(Gw d v).map Prod.fst:=by
   intro d v t h;cases d with|none=>simp at h|some d=>simpa[Gw] using h
  have hlook:∀t∈E1 ops ops[i],AF.get (xx (fun j=>listed.getD j false) 0 (CB ops rs) a0) t=AF.get (xx (fun j=>decide (j<i)) 0 (CB ops rs) a0) t:=by
   intro t ht;rw[J7,J7];refine vz rfl fun j u hj hn=> ?_;rw[aq];obtain⟨o,r,ho,hr,rfl⟩:=hfus hj;by_cases hji:j=i
   .subst hji;rw[hfi];simp
   .exact hcl1 j o r ho hr hji (.inr (by simp only[Hj,aV];exact .inl (.inl (.inl (.inl (.inl (N2 (hputk hn) ht)))))))
  have hpre:∀n∈((rs[i]' dY).pre).map Prod.fst,zg (xx (fun j=>listed.getD j false) 0 (CS rs) σ0.es) n=zg (xx (fun j=>decide (j<i)) 0 (CS rs) σ0.es) n:=by
   intro n hn;rw[J6,J6];refine vz rfl fun j u hj hnu=> ?_;rw[aq];obtain⟨o,r,ho,hr,rfl⟩:=hpus hj;by_cases hji:j=i
   .subst hji;rw[hfi];simp
   .exact hcl1 j o r ho hr hji (.inr (by simp only[Hj,aV];exact .inl (.inl (.inr (N2 hnu hn)))))
  have hfl':∀j,(listed.setIfInBounds i true).getD j false=(if j=i then true else listed.getD j false):=by
   exact mg
  have hsame:∀j,j≠i->(listed.setIfInBounds i true).getD j false=listed.getD j false:=fun j hj=>by rw[hfl',if_neg hj]
  have hself:(listed.setIfInBounds i true).getD i false=true:=by rw[hfl',if_pos rfl]
  have hes:∀n,zg (xx (fun j=>(listed.setIfInBounds i true).getD j false) 0 (CS rs) σ0.es) n=zg ((rs[i]' dY).post++xx (fun j=>listed.getD j false) 0 (CS rs) σ0.es) n:=by
   intro n;rw[J6,J6,vr];have hpi:(CS rs)[i]? =some (rs[i]' dY).post:=by simp only[CS,Z8,hirs,ak]
   by_cases hn:n∈((rs[i]' dY).post).map Prod.fst
   .rw[R7 (k:=i) hpi (by rw[aq];exact hself) hn]
    .obtain ⟨x,hx⟩:=bB.1 (Du.2 hn);rw[hx];rfl
    .intro j u hij hj hnu;rw[aq,hsame j dY];obtain⟨o,r,ho,hr,rfl⟩:=hpus hj;have:=hcl1 j o r ho hr dY (.inl (by simp only[Hj,aV];exact .inr (N2 hn hnu)));rw[this];simp;omega
   .exact lW
  have hfr:∀t,AF.get (xx (fun j=>(listed.setIfInBounds i true).getD j false) 0 (CB ops rs) a0) t=AF.get (AF.put (xx (fun j=>listed.getD j false) 0 (CB ops rs) a0) ops[i].dst (rs[i]' dY).v) t:=by
   intro t;rw[LB,J7,J7,vr];have hpi:(CB ops rs)[i]? =some (Gw ops[i].dst (rs[i]' dY).v):=by simp only[CB,bU,hios,hirs]
   by_cases hn:t∈(Gw ops[i].dst (rs[i]' dY).v).map Prod.fst
   .rw[R7 (k:=i) hpi (by rw[aq];exact hself) hn]
    .obtain ⟨x,hx⟩:=bB.1 (Du.2 hn);rw[hx];rfl
    .intro j u hij hj hnu;rw[aq,hsame j dY];obtain⟨o,r,ho,hr,rfl⟩:=hfus hj;have:=hcl1 j o r ho hr dY (.inl (by simp only[Hj,aV];exact .inl (.inl (.inl (.inr (N2 (hputk hn) (hputk hnu)))))));rw[this];simp;omega
   .exact lW
  have hDD:∀n,(Dn σ0.nx rs (fun j=>listed.getD j false) n\/n∈List.range' (DD σ0.nx rs i) (rs[i]' dY).news)->Dn σ0.nx rs (fun j=>(listed.setIfInBounds i true).getD j false) n:=by
   intro n hn;rcases hn with(hn|⟨j,r,hj,hfj,hm⟩)|hn
   .exact .inl hn
   .refine .inr ⟨j,r,hj,?_,hm⟩;by_cases hji:j=i
    .subst hji;exact hself
    .show (listed.setIfInBounds i true).getD j false=true;rw[hsame j hji];exact hfj
   .exact .inr ⟨i,_,hirs,hself,hn⟩
  have hrec:¬X ops[i]->∀g' v' w',R E.G g' (fun n=>Dn σ0.nx rs (fun j=>listed.getD j false) n\/n∈List.range' (DD σ0.nx rs i) (rs[i]' dY).news) ((rs[i]' dY).post++xx (fun j=>listed.getD j false) 0 (CS rs) σ0.es) w'->
   Al g' (fun n=>Dn σ0.nx rs (fun j=>listed.getD j false) n\/n∈List.range' (DD σ0.nx rs i) (rs[i]' dY).news) w' v' (rs[i]' dY).v->zw N ops[i].dst=true->
   Ext (Dn σ0.nx rs fun j=>listed.getD j false) g (Aq g (xx (fun j=>listed.getD j false) 0 (CS rs) σ0.es)) w g' (Aq g' ((rs[i]' dY).post++xx (fun j=>listed.getD j false) 0 (CS rs) σ0.es)) w'->
   wpAny E.P .any ops.toArray PP fuel (listed.setIfInBounds i true) (act.put ops[i].dst v') w':=by
   intro hnX g' v' w' hR' hv' hd hx';refine ih _ _ _ (hS _ i hin hs hnX) (by simpa using hsz) ?_ ?_ ⟨g',?_,?_,?_⟩
   .have hc0:listed.toList.count false=(listed.setIfInBounds i true).toList.count false+1:=by
     rw[bT];have hil2:i<listed.toList.length:=by simpa using hil
     have hli:listed.toList[i]=false:=by
      have:=hfi;simp only[ZV,aJ hil,aQ] at this;simpa using this
     have h9:=List.count_set (a:=true) (b:=false) (l:=listed.toList) hil2;have h10:0<listed.toList.count false:=List.count_pos_iff.2 (by rw[<-hli];exact ZA _);rw[h9,hli,if_pos (show(false==false)=true from rfl),if_neg (show ¬(true==false)=true by decide)];omega
    omega
   .intro j o ho hj e he;by_cases hji:j=i
    .subst hji;have:=hihard o ho e he;by_cases hei:e=j
     .subst hei;exact hself
     .rw[hsame e hei];exact this
    .rw[hsame j hji] at hj;have:=hcl j o ho hj e he;by_cases hei:e=i
     .subst hei;exact hself
     .rw[hsame e hei];exact this
   .exact (hR'.congr hes).more hDD
   .have h1:Ba g' (Dn σ0.nx rs fun j=>(listed.setIfInBounds i true).getD j false) w' N act (xx (fun j=>listed.getD j false) 0 (CB ops rs) a0):=hF.ext hx' fun n hn=>hDD n (.inl hn);exact(h1.put (L5 hd) (hv'.more hDD)).congr hfr
   .rw[Aq.congr hes];exact hx.trans (hx'.mono fun n hn=> .inl dY)
  obtain⟨hd,hst⟩:=hpl.nth i _ _ hios hirs;have hwant:=RB (ops:=ops) (o:=ops[i]) hlook;have hiarr:ops.toArray[i]? =some ops[i]:=h2;unfold wpOp;rw[hiarr];simp only;rcases hst with⟨hw,hOS,hpr⟩|⟨hw,hr⟩
  .rw[if_pos (Qj (hwant.trans hw) hF)];by_cases hX:X ops[i]
   .exact .inl (hcb fuel listed act w i hin g hs hsz hcnt hcl hR hF hx hX hfi (hihard _ hios) hlook)
   have hOS:=hOS.resolve_left hX;refine .inl (hOS g _ _ w act hR (hY.ext hx) (fun p hp=> ?_) (Yh9 hirs hfi) ?_ _ _ fun g' v' w' h3 h4 h5=>hrec hX g' v' w' h3 h4 hd h5)
   .rw[hpre p.1 (Ye1 hp)];exact Xi hpr p hp
   .refine ⟨hF.size,hF.defers,fun t c hc=> ?_⟩;obtain⟨h3,h4⟩:=Uo hc;exact hF.vals t c (by rw[hlook t h3];exact h4)
  .rw[if_neg (by rw[Qj (hwant.trans hw) hF];simp)];have hnil:(rs[i]' dY).post=[]/\(rs[i]' dY).news=0/\(rs[i]' dY).v= .AM []:=by rw[hr];exact⟨rfl,rfl,rfl⟩
   by_cases hX:X ops[i]
   .exact (hnX2 i hin hX (hwant.trans hw)).elim
   refine hrec hX g undef w ?_ ?_ hd ?_
   .rw[hnil.1,Z3];exact hR.more fun n hn=> .inl hn
   .rw[hnil.2.2];exact .AM [] [] rfl (fun i v c h=>by simp at h)
   .rw[hnil.1,Z3];exact .refl ..
theorem Zs2{a0:AF}{σ0:Aj}{rs:List Rec}{a':AF}{σ':Aj}(hpl:Bz E N (fun _=>False) ops ops a0 σ0 rs a' σ')(hord:Iv ops rs=true){Q:Exit->AF->Aj->Prop}(hQ:Q .normal a' σ')(hk:k<=σ0.nx)
 {g0:Gh} {F0:Nat->Prop} {w0:World} (hY:D3 E.Y g0 F0 w0) (hedge:∀j o,ops[j]? =some o->∀e∈vu o,e<j):
 ∀(fuel:Nat) (listed:Array Bool) (act:Act) (w:World),listed.size=ops.length->(listed.toList.count false<=fuel)->
  (∀j o,ops[j]? =some o->listed.getD j false=true->∀e∈vu o,listed.getD e false=true)->
  (∃g,R E.G g (Dn σ0.nx rs fun j=>listed.getD j false) (xx (fun j=>listed.getD j false) 0 (CS rs) σ0.es) w/\Ba g (Dn σ0.nx rs fun j=>listed.getD j false) w N act (xx (fun j=>listed.getD j false) 0 (CB ops rs) a0)/\
   Ext (·<k) g0 F0 w0 g (Aq g (xx (fun j=>listed.getD j false) 0 (CS rs) σ0.es)) w)->
  wpAny E.P .any ops.toArray (Post E N k g0 F0 w0 Q) fuel listed act w:=
 fun fuel listed act w=>SN (S:=fun _=>True) hpl hord (fun _ _ _ _ _=>trivial) (fun _ _ _=>hQ) hk hY hedge (fun _ _ h=>h.elim) (fun _ _ h=>h) (fun _ _ _ _ _ _ _ _ _ _ _ _ _ _ h=>h.elim) fuel listed act w trivial
def KH:Nat->List Oper->Bool
 |_,[]=>true
 |i,o::l=>(vu o).all (fun e=>Nat.blt e i)&&KH (i+1) l
theorem VO:∀{l:List Oper} {i:Nat},KH i l=true->∀j o,l[j]? =some o->∀e∈vu o,e<i+j:=by
 intro l;induction l with
 |nil=>intro i _ j o h;simp at h
 |cons x l ih=>
  intro i h j o hj e he;simp only[KH,ZC] at h;cases j with
  |zero=>simp at hj;subst hj;exact ZP (ZH.1 h.1 e he)
  |succ j=>simp only[bH] at hj;have:=ih h.2 j o hj e he;omega
theorem AW.draw{a:AF}{σ:Aj}{Q:Exit->AF->Aj->Prop}{id:Nat}(hmix:E.P.follows .mixedOrders=true)(he:KH 0 ops=true)(h:AWD E N k ops ops a σ [] Q):AW E N k (.region id ops.toArray true) a σ Q:=by
 obtain⟨rs,a',σ',hpl,hord,hq⟩:=h;constructor;intro hk g w act hR hF hY;refine wp_region_any hmix (Zs2 hpl hord hq hk hY (fun j o ho e he'=>by have:=VO he j o ho e he';omega) _ _ _ _ dZ ?_ ?_ ⟨g,?_,?_,?_⟩)
 .simp
 .intro j o ho hj;exfalso;have:(Array.replicate ops.toArray.size false).getD j false=false:=by
   simp[ZV,bC];split<;>rfl
  rw[this] at hj;cases hj
 all_goals
  have hff:(fun j=>(Array.replicate ops.toArray.size false).getD j false)=fun _=>false:=by
   funext j;simp[ZV,bC];split<;>rfl
  have e1:xx (fun _=>false) 0 (CS rs) σ.es=σ.es:=LD fun _ _=>rfl;have e2:xx (fun _=>false) 0 (CB ops rs) a=a:=LD fun _ _=>rfl;rw[hff]
 .rw[e1];exact hR.drew.more (fun n hn=>Or.inl hn)
 .exact lU
 .rw[e1];exact Ext.drew
end
theorem Zp3{a a':AF}(h:∀t,a'.get t=a.get t)(l:List Nat):Hh a' l=Hh a l:=by
 induction l with
 |nil=>rfl
 |cons t l ih=>simp only[Hh,h t,ih]
theorem WG{a a':AF}(h:∀t,a'.get t=a.get t)(d:Option Nat)(v:V):∀t,AF.get (a'.put d v) t=AF.get (a.put d v) t:=by
 intro t;cases d with
 |none=>exact h t
 |some d=>simp only[AF.put,AF.Bj,h t]
section
variable {E:Env} {N k:Nat} {ops:List Oper}
theorem Bz.congr{X:Oper->Prop}{rest:List Oper}{a:AF}{σ:Aj}{rs:List Rec}{a':AF}{σ':Aj}(h:Bz E N X ops rest a σ rs a' σ'):∀{b:AF},(∀t,b.get t=a.get t)->∃b',(∀t,b'.get t=a'.get t)/\Bz E N X ops rest b σ rs b' σ':=by
 induction h with
 |nil a σ=>intro b hb;exact⟨b,hb,.nil b σ⟩
 |run r hw h hp hd _ ih=>
  intro b hb;obtain⟨b',h1,h2⟩:=ih (WG hb _ _);exact⟨b',h1,.run r ((RB fun t _=>hb t).trans hw) (h.imp id fun h=>by rw[Zp3 hb];exact h) hp hd h2⟩
 |sk hw hd _ ih=>
  intro b hb;obtain⟨b',h1,h2⟩:=ih (WG hb _ _);exact⟨b',h1,.sk ((RB fun t _=>hb t).trans hw) hd h2⟩
def EO(E:Env)(N k:Nat)(dr:Bool)(ops rest:List Oper)(a:AF)(σ:Aj)(acc:List Rec)(Q:Exit->AF->Aj->Prop):Prop:=
 match dr with
 |false=>EN E N k ops rest a σ Q
 |true=>∃rs a' σ' a2,Bz E N (fun _=>False) ops rest a σ rs a' σ'/\Iv ops (acc.reverse++rs)=true/\(∀t,a2.get t=a'.get t)/\Q .normal a2 σ'
def Jc(dr:Bool)(ops:List Oper)(a:AF)(o:Oper):AF:=match dr with|true=>Hh a (E1 ops o)|false=>a
variable {dr:Bool} {rest:List Oper} {a:AF} {σ:Aj} {acc:List Rec} {Q:Exit->AF->Aj->Prop}
theorem EO.run{o:Oper}{pre:Es}{v:V}(news:Nat){post:Es}(hw:zy ops a o.guard=some true)(h:HK E N o (Jc dr ops a o) pre v (List.range' σ.nx news) post)(hp:HL σ.es pre)(hd:zw N o.dst=true)
 (h2:EO E N k dr ops rest (a.put o.dst v) (σ.Aw news post) (⟨pre,v,news,post⟩::acc) Q):EO E N k dr ops (o::rest) a σ acc Q:=by
 cases dr with
 |false=>exact EN.run (news:=news) hw h hp hd h2
 |true=>
  obtain⟨rs,a',σ',a2,h3,h4,h5,h6⟩:=h2;refine⟨_,a',σ',a2,.run ⟨pre,v,news,post⟩ hw (.inr h) hp hd h3,?_,h5,h6⟩
  grind
theorem EO.sk{o:Oper}(hw:zy ops a o.guard=some false)(hd:zw N o.dst=true)(h2:EO E N k dr ops rest (a.put o.dst (.AM [])) σ (⟨[],.AM [],0,[]⟩::acc) Q):EO E N k dr ops (o::rest) a σ acc Q:=by
 cases dr with
 |false=>exact EN.sk hw hd h2
 |true=>
  obtain⟨rs,a',σ',a2,h3,h4,h5,h6⟩:=h2;refine⟨_,a',σ',a2,.sk hw hd h3,?_,h5,h6⟩
  grind
theorem EO.BO(h:Q .normal a σ):EO E N k false ops [] a σ acc Q:=EN.nil h
theorem EO.EP(ho:Iv ops acc.reverse=true)(h:Q .normal a σ):EO E N k true ops [] a σ acc Q:=
 ⟨[],a,σ,a,.nil a σ,ei,fun _=>rfl,h⟩
theorem EO.split(d:Tmp){b:Bool}(hb:a.get d=some (.bool b))(ht:b=true->EO E N k dr ops rest ((d,.bool true)::a) σ acc Q)(hf:b=false->EO E N k dr ops rest ((d,.bool false)::a) σ acc Q):EO E N k dr ops rest a σ acc Q:=by
 cases dr with
 |false=>exact EN.split hb ht hf
 |true=>
  have key:∀b',b=b'->(∃rs a' σ' a2,Bz E N (fun _=>False) ops rest ((d,.bool b')::a) σ rs a' σ'/\Iv ops (acc.reverse++rs)=true/\(∀t,AF.get a2 t=AF.get a' t)/\Q .normal a2 σ')->EO E N k true ops rest a σ acc Q:=by
   rintro _ rfl ⟨rs,a',σ',a2,h1,h2,h3,h4⟩;obtain⟨b',h5,h6⟩:=h1.congr (b:=a) fun t=>by
    rw[AF.Bj]
    grind
   exact⟨rs,b',σ',a2,h6,h2,fun t=>(h3 t).trans (h5 t).symm,h4⟩
  cases hbb:b with
  |true=>exact key true hbb (ht hbb)
  |false=>exact key false hbb (hf hbb)
structure AX (E:Env) (N k:Nat) (dr:Bool) (ops rest:List Oper) (a:AF) (σ:Aj) (acc:List Rec) (Q:Exit->AF->Aj->Prop):Prop where
 out:EO E N k dr ops rest a σ acc Q
theorem AX.Mv{o:Oper}{pre:Es}{v:V}(news:Nat){post:Es}(hw:zy ops a o.guard=some true)(h:HK E N o (Jc dr ops a o) pre v (List.range' σ.nx news) post)(hp:HL σ.es pre)(hd:zw N o.dst=true)
 (h2:AX E N k dr ops rest (a.put o.dst v) (σ.Aw news post) (⟨pre,v,news,post⟩::acc) Q):AX E N k dr ops (o::rest) a σ acc Q:=⟨EO.run news hw h hp hd h2.out⟩
theorem AX.run{o:Oper}{pre:Es}{v:V}(news:Nat){post:Es}(hw:zy ops a o.guard=some true)(h:OS E N o (Jc dr ops a o) pre v (List.range' σ.nx news) post)(hp:HL σ.es pre)(hd:zw N o.dst=true)
 (h2:AX E N k dr ops rest (a.put o.dst v) (σ.Aw news post) (⟨pre,v,news,post⟩::acc) Q):AX E N k dr ops (o::rest) a σ acc Q:=AX.Mv news hw h.y hp hd h2
theorem AX.sk{o:Oper}(hw:zy ops a o.guard=some false)(hd:zw N o.dst=true)(h2:AX E N k dr ops rest (a.put o.dst (.AM [])) σ (⟨[],.AM [],0,[]⟩::acc) Q):AX E N k dr ops (o::rest) a σ acc Q:=⟨EO.sk hw hd h2.out⟩
theorem AX.BO(h:Q .normal a σ):AX E N k false ops [] a σ acc Q:=⟨EO.BO h⟩
theorem AX.EP(ho:Iv ops acc.reverse=true)(h:Q .normal a σ):AX E N k true ops [] a σ acc Q:=⟨EO.EP ho h⟩
theorem AX.split(d:Tmp){b:Bool}(hb:a.get d=some (.bool b))(ht:b=true->AX E N k dr ops rest ((d,.bool true)::a) σ acc Q)(hf:b=false->AX E N k dr ops rest ((d,.bool false)::a) σ acc Q):AX E N k dr ops rest a σ acc Q:=
 ⟨EO.split d hb (fun h=>(ht h).out) (fun h=>(hf h).out)⟩
theorem AW.AP{id:Nat}{l:List Oper}(h:AX E N k false l l a σ [] Q):AW E N k (.region id l.toArray false) a σ Q:= .region h.out
theorem AW.DG{id:Nat}{l:List Oper}(hmix:E.P.follows .mixedOrders=true)(he:KH 0 l=true)(h:AX E N k true l l a σ [] Q):AW E N k (.region id l.toArray true) a σ Q:=by
 obtain⟨rs,a',σ',a2,h1,h2,h3,h4⟩:=h.out;have:=AW.draw (E:=E) (N:=N) (k:=k) (Q:=fun e x τ=>e= .normal/\x=a'/\τ=σ') (a:=a) (σ:=σ) (id:=id) hmix he ⟨rs,a',σ',h1,dY,rfl,rfl,rfl⟩;constructor;intro hk g w act hR hF hY;refine wp_mono (this.run hk g w act hR hF hY) ?_;rintro e act' w' ⟨g1,a1,σ1,⟨rfl,rfl,rfl⟩,h6,h7,h8,h9⟩;exact⟨g1,a2,σ1,h4,h6,h7,h8.congr h3,h9⟩
theorem WN{xs:List Operand}{t:Nat}(h:Operand.tmp t∈xs):t∈WD xs:=cj.2 ⟨_,h,rfl⟩
theorem Zt4{a:AF}:∀{l:List Nat} {t:Nat},t∈l->(Hh a l).get t=a.get t:=by
 intro l;induction l with
 |nil=>simp
 |cons x l ih=>
  intro t h;simp only[Hh];cases hx:a.get x with
  |none=>
   rcases Z4.1 h with rfl|h
   .by_cases hl:t∈l
    .grind
    .cases hr:(Hh a l).get t with
     |none=>rw[hx]
     |some c=>exact absurd (Uo hr).1 hl
   grind
  |some v=>
   simp only[AF.Bj]
   grind
theorem Od{T:TypeId}{o:Oper}{x:Operand}(hx:x∈o.op.operands.toList):ev E T (Jc dr ops a o) x=ev E T a x:=by
 cases dr with
 |false=>rfl
 |true=>
  cases x with
  |tmp t=>exact Zt4 (aU _ (WN hx))
  |_=>rfl
theorem fr{T:TypeId}{o:Oper}{x:Operand}{v:V}(hx:x∈o.op.operands.toList)(h:ev E T a x=some v):ev E T (Jc dr ops a o) x=some v:=(Od hx).trans h
theorem Pn{T:TypeId}{o:Oper}:∀{xs:List Operand} {vs:List V},(∀x∈xs,x∈o.op.operands.toList)->Fc E T a xs=some vs->Fc E T (Jc dr ops a o) xs=some vs:=by
 intro xs;induction xs with
 |nil=>intro vs _ h;exact h
 |cons x l ih=>
  intro vs hx h;simp only[Fc] at h ⊢;rw[Od (hx x dZ)];simp only[ZL,ZG] at h ⊢
  grind
theorem RL{o:Oper}:∀{xs:List Operand} {ts:List TypeId} {vs:List V},(∀x∈xs,x∈o.op.operands.toList)->DS E a xs ts=some vs->DS E (Jc dr ops a o) xs ts=some vs:=by
 intro xs;induction xs with
 |nil=>intro ts vs _ h;exact h
 |cons x l ih=>
  intro ts vs hx h;cases ts with
  |nil=>
   exact ni
  |cons t ts=>
   exact ni
theorem Ur{o:Oper}:∀{pp:List (Nat×Operand)} {vs:List (Nat×List V)},(∀p∈pp,p.2∈o.op.operands.toList)->GO E a pp=some vs->GO E (Jc dr ops a o) pp=some vs:=by
 intro pp;induction pp with
 |nil=>intro vs _ h;exact h
 |cons x l ih=>
  intro vs hx h;simp only[GO] at h ⊢;rw[Od (hx x dZ)];simp only[ZL,ZG] at h ⊢
  grind
variable {d:Option Tmp} {ty:TypeId} {ps:String} {af:Array Edge} {gd:Option (Nat×Bool)}
namespace L
theorem mv{x:Operand}{v:V}(hw:zy ops a gd=some true)(h:ev E ty a x=some v)(hd:zw N d=true)(h2:AX E N k dr ops rest (a.put d v) σ (⟨[],v,0,[]⟩::acc) Q):AX E N k dr ops (⟨d,.move x,ty,ps,af,gd⟩::rest) a σ acc Q:=
 AX.run 0 hw (OS.move (.inl rfl) (fr eA h)) trivial hd h2
theorem EW{x:Operand}{v:V}(hw:zy ops a gd=some true)(h:ev E ty a x=some v)(hd:zw N d=true)(h2:AX E N k dr ops rest (a.put d v) σ (⟨[],v,0,[]⟩::acc) Q):AX E N k dr ops (⟨d,.assign x,ty,ps,af,gd⟩::rest) a σ acc Q:=
 AX.run 0 hw (OS.move (.inr rfl) (fr eA h)) trivial hd h2
theorem pk{c x y:Operand}{b:Bool}{v:V}(hw:zy ops a gd=some true)(hc:ev E 0 a c=some (.bool b))(h:ev E ty a (bif b then x else y)=some v)(hd:zw N d=true)(h2:AX E N k dr ops rest (a.put d v) σ (⟨[],v,0,[]⟩::acc) Q):
 AX E N k dr ops (⟨d,.pick c x y,ty,ps,af,gd⟩::rest) a σ acc Q:=
 AX.run 0 hw (OS.pick rfl (fr eA hc) (by cases b<;>exact fr ij h)) trivial hd h2
theorem bx{t:TypeId}{x:Operand}{c:V}{cs:List V}(hw:zy ops a gd=some true)(h:ev E t a x=some c)(hc:cellsOf c=some cs)(hd:zw N d=true)
 (h2:AX E N k dr ops rest (a.put d (.ptr σ.nx 0)) (σ.Aw 1 [(σ.nx,.var cs)]) (⟨[],.ptr σ.nx 0,1,[(σ.nx,.var cs)]⟩::acc) Q):AX E N k dr ops (⟨d,.box t x,ty,ps,af,gd⟩::rest) a σ acc Q:=
 AX.run 1 hw (OS.box rfl (fr eA h) hc) trivial hd h2
theorem al{t:TypeId}{i:TI}(hw:zy ops a gd=some true)(h:E.ti t=some i)(hd:zw N d=true)
 (h2:AX E N k dr ops rest (a.put d (.ptr σ.nx 0)) (σ.Aw 1 [(σ.nx,.var i.zero)]) (⟨[],.ptr σ.nx 0,1,[(σ.nx,.var i.zero)]⟩::acc) Q):AX E N k dr ops (⟨d,.alloc t,ty,ps,af,gd⟩::rest) a σ acc Q:=
 AX.run 1 hw (OS.alloc rfl h) trivial hd h2
theorem Qf{t:TypeId}{x:Operand}{i:TI}{cs:List V}{c:V}(hw:zy ops a gd=some true)(hx:ev E 0 a x=some (.addr cs))(ht:E.ti t=some i)(hc:G4 i cs=some c)(hd:zw N d=true)
 (h2:AX E N k dr ops rest (a.put d c) σ (⟨[],c,0,[]⟩::acc) Q):AX E N k dr ops (⟨d,.load t x,ty,ps,af,gd⟩::rest) a σ acc Q:=
 AX.run 0 hw (OS.MC rfl ht (fr eA hx) hc) trivial hd h2
theorem Ez{t:TypeId}{x:Operand}{i:TI}{n off:Nat}{cs:List V}{c:V}(hw:zy ops a gd=some true)(hx:ev E 0 a x=some (.ptr n off))(ht:E.ti t=some i)(hn:zg σ.es n=some (.var cs))(hc:G4 i (cs.drop off)=some c)(hd:zw N d=true)
 (h2:AX E N k dr ops rest (a.put d c) σ (⟨[(n,.var cs)],c,0,[]⟩::acc) Q):AX E N k dr ops (⟨d,.load t x,ty,ps,af,gd⟩::rest) a σ acc Q:=
 AX.run 0 hw (OS.Ko rfl ht (fr eA hx) hc) ⟨hn,trivial⟩ hd h2
theorem st{t:TypeId}{x y:Operand}{i:TI}{n off:Nat}{cs:List V}{c:V}{vc:List V}(hw:zy ops a gd=some true)(hx:ev E 0 a x=some (.ptr n off))(ht:E.ti t=some i)(hy:ev E t a y=some c)(hn:zg σ.es n=some (.var cs))
 (hc:cellsOf c=some vc) (hs:vc.length=i.size) (hb:Nat.ble (off+vc.length) cs.length=true) (hd:zw N d=true)
 (h2:AX E N k dr ops rest (a.put d (.AM [])) (σ.Aw 0 [(n,.var (cs.take off++vc++cs.drop (off+vc.length)))]) (⟨[(n,.var cs)],.AM [],0,[(n,.var (cs.take off++vc++cs.drop (off+vc.length)))]⟩::acc) Q):AX E N k dr ops (⟨d,.store t x y,ty,ps,af,gd⟩::rest) a σ acc Q:=
 AX.run 0 hw (OS.store rfl ht (fr eA hx) (fr eA hy) hc hs hb) ⟨hn,trivial⟩ hd h2
theorem Xd{t:TypeId}{x:Operand}{z:Nat}{zr:List V}{gs:List (Nat×Nat×Bool)}{f:Nat}{p:Nat×Nat×Bool}{cs:List V}(hw:zy ops a gd=some true)(hx:ev E 0 a x=some (.addr cs))(ht:E.ti t=some ⟨z,zr,.strct gs⟩)
 (hf:gs[f]? =some p) (hb:Nat.ble p.1 cs.length=true) (hd:zw N d=true) (h2:AX E N k dr ops rest (a.put d (.addr (cs.drop p.1))) σ (⟨[],.addr (cs.drop p.1),0,[]⟩::acc) Q):AX E N k dr ops (⟨d,.fieldAddr t x f,ty,ps,af,gd⟩::rest) a σ acc Q:=
 AX.run 0 hw (OS.Gr rfl ht rfl hf (fr eA hx) hb) trivial hd h2
theorem G0{t:TypeId}{x:Operand}{z:Nat}{zr:List V}{gs:List (Nat×Nat×Bool)}{f:Nat}{p:Nat×Nat×Bool}{n off:Nat}(hw:zy ops a gd=some true)(hx:ev E 0 a x=some (.ptr n off))(ht:E.ti t=some ⟨z,zr,.strct gs⟩)
 (hf:gs[f]? =some p) (hd:zw N d=true) (h2:AX E N k dr ops rest (a.put d (.ptr n (off+p.1))) σ (⟨[],.ptr n (off+p.1),0,[]⟩::acc) Q):AX E N k dr ops (⟨d,.fieldAddr t x f,ty,ps,af,gd⟩::rest) a σ acc Q:=
 AX.run 0 hw (OS.ED rfl ht rfl hf (fr eA hx)) trivial hd h2
theorem fd{t:TypeId}{x:Operand}{z:Nat}{zr:List V}{gs:List (Nat×Nat×Bool)}{f:Nat}{p:Nat×Nat×Bool}{cs:List V}{c:V}(hw:zy ops a gd=some true)(hx:ev E 0 a x=some (.agg cs))(ht:E.ti t=some ⟨z,zr,.strct gs⟩)
 (hf:gs[f]? =some p) (hc:TN p cs=some c) (hd:zw N d=true) (h2:AX E N k dr ops rest (a.put d c) σ (⟨[],c,0,[]⟩::acc) Q):AX E N k dr ops (⟨d,.field t x f,ty,ps,af,gd⟩::rest) a σ acc Q:=
 AX.run 0 hw (OS.field rfl ht rfl hf (fr eA hx) hc) trivial hd h2
theorem ex{x:Operand}{ix:Nat}{cs:List V}{c:V}(hw:zy ops a gd=some true)(hx:ev E 0 a x=some (.AM cs))(hc:cs[ix]? =some c)(hd:zw N d=true)(h2:AX E N k dr ops rest (a.put d c) σ (⟨[],c,0,[]⟩::acc) Q):
 AX E N k dr ops (⟨d,.extract x ix,ty,ps,af,gd⟩::rest) a σ acc Q:=
 AX.run 0 hw (OS.extract rfl (fr eA hx) hc) trivial hd h2
theorem nt{t:TypeId}{x:Operand}{b:Bool}(hw:zy ops a gd=some true)(hx:ev E 0 a x=some (.bool b))(hd:zw N d=true)(h2:AX E N k dr ops rest (a.put d (.bool (!b))) σ (⟨[],.bool (!b),0,[]⟩::acc) Q):AX E N k dr ops (⟨d,.unOp .not t x,ty,ps,af,gd⟩::rest) a σ acc Q:=
 AX.run 0 hw (OS.not rfl (fr eA hx)) trivial hd h2
theorem bn{op:BinOp}{t u:TypeId}{x y:Operand}{kd:IntKind}{n m:Int}{c:V}(hw:zy ops a gd=some true)(hx:ev E t a x=some (.int kd n))(hy:ev E t a y=some (.int kd m))(hc:Rq op kd n m=some c)(hd:zw N d=true)
 (h2:AX E N k dr ops rest (a.put d c) σ (⟨[],c,0,[]⟩::acc) Q):AX E N k dr ops (⟨d,.binOp op t x y u,ty,ps,af,gd⟩::rest) a σ acc Q:=
 AX.run 0 hw (OS.bin rfl (fr eA hx) (fr eA hy) hc) trivial hd h2
theorem ad{t u:TypeId}{x y:Operand}{n m:Int}(hw:zy ops a gd=some true)(hx:ev E t a x=some (.int .i64 n))(hy:ev E t a y=some (.int .i64 m))(hd:zw N d=true)(h1: -9223372036854775808<=n+m/\n+m<=9223372036854775807)
 (h2:AX E N k dr ops rest (a.put d (.int .i64 (n+m))) σ (⟨[],.int .i64 (n+m),0,[]⟩::acc) Q):AX E N k dr ops (⟨d,.binOp .add t x y u,ty,ps,af,gd⟩::rest) a σ acc Q:=
 AX.run 0 hw (OS.add rfl (fr eA hx) (fr eA hy) h1.1 h1.2) trivial hd h2
theorem sb{t u:TypeId}{x y:Operand}{n m:Int}(hw:zy ops a gd=some true)(hx:ev E t a x=some (.int .i64 n))(hy:ev E t a y=some (.int .i64 m))(hd:zw N d=true)(h1: -9223372036854775808<=n-m/\n-m<=9223372036854775807)
 (h2:AX E N k dr ops rest (a.put d (.int .i64 (n-m))) σ (⟨[],.int .i64 (n-m),0,[]⟩::acc) Q):AX E N k dr ops (⟨d,.binOp .sub t x y u,ty,ps,af,gd⟩::rest) a σ acc Q:=
 AX.run 0 hw (OS.sub rfl (fr eA hx) (fr eA hy) h1.1 h1.2) trivial hd h2
theorem ln{t:TypeId}{x:Operand}{sp:Sp}{l:SL V}{z:Nat}{zr:List V}{c:Option EC}{sz by_:Nat}(hw:zy ops a gd=some true)(hx:ev E t a x=some (.slice sp l))(ht:E.ti t=some ⟨z,zr,.slc c sz by_⟩)(hd:zw N d=true)
 (h2:AX E N k dr ops rest (a.put d (.int .i64 l.len)) σ (⟨[],.int .i64 l.len,0,[]⟩::acc) Q):AX E N k dr ops (⟨d,.call ⟨.builtin .len,#[x],#[t]⟩,ty,ps,af,gd⟩::rest) a σ acc Q:=
 AX.run 0 hw (OS.TB (u:=0) rfl ht rfl (fr eA hx)) trivial hd h2
theorem nc{x:Operand}{c:V}(hw:zy ops a gd=some true)(hx:ev E 0 a x=some c)(hc:Y3 c=true)(hd:zw N d=true)(h2:AX E N k dr ops rest (a.put d c) σ (⟨[],c,0,[]⟩::acc) Q):
 AX E N k dr ops (⟨d,.nilCheck x,ty,ps,af,gd⟩::rest) a σ acc Q:=
 AX.run 0 hw (OS.nilCheck rfl (fr eA hx) hc) trivial hd h2
theorem mf{f:Fn}{fi caps:List Operand}{vs us:List V}(hw:zy ops a gd=some true)(h1:Fc E 0 a fi=some vs)(h3:Fc E 0 a caps=some us)(hd:zw N d=true)(h2:AX E N k dr ops rest (a.put d (.fn f vs us)) σ (⟨[],.fn f vs us,0,[]⟩::acc) Q):
 AX E N k dr ops (⟨d,.makeFunc f fi.toArray caps.toArray,ty,ps,af,gd⟩::rest) a σ acc Q:=
 AX.run 0 hw (OS.makeFunc rfl (Pn (by intro x hx;simp[Op.operands,hx]) h1) (Pn (by intro x hx;simp[Op.operands,hx]) h3)) trivial hd h2
theorem bd{t:TypeId}{pp:List (Nat×Operand)}{z:Nat}{zr:List V}{gs:List (Nat×Nat×Bool)}{vps:List (Nat×List V)}{cs:List V}(hw:zy ops a gd=some true)(ht:E.ti t=some ⟨z,zr,.strct gs⟩)(hp:GO E a pp=some vps)
 (hf:I7 gs zr vps=some cs) (hd:zw N d=true) (h2:AX E N k dr ops rest (a.put d (.agg cs)) σ (⟨[],.agg cs,0,[]⟩::acc) Q):AX E N k dr ops (⟨d,.build t pp.toArray,ty,ps,af,gd⟩::rest) a σ acc Q:=
 AX.run 0 hw (OS.build rfl ht rfl (Ur jJ hp) hf) trivial hd h2
theorem bs{t:TypeId}{n:Nat}{pp:List (Nat×Operand)}{z:Nat}{zr:List V}{c:Option EC}{sz bytes:Nat}{cs:List V}{vcs:List (List V)}{l:SL V}(et:TypeId)(hw:zy ops a gd=some true)(ht:E.ti t=some ⟨z,zr,.slc c sz bytes⟩)
 (hpp:pp=(pp.map Prod.snd).zipIdx.map fun x=>(x.2,x.1)) (hn:(pp.map Prod.snd).length=n) (hev:Fc E et a (pp.map Prod.snd)=some cs) (hcs:EU cellsOf cs=some vcs)
 (hsz:(vcs.all fun vc=>Nat.beq vc.length sz)=true) (hf:JN c sz vcs=some l) (hb:Nat.ble (n*sz) 16777216=true) (hd:zw N d=true) (h2:AX E N k dr ops rest (a.put d (.slice .full l)) σ (⟨[],.slice .full l,0,[]⟩::acc) Q):
 AX E N k dr ops (⟨d,.buildSlice t n pp.toArray,ty,ps,af,gd⟩::rest) a σ acc Q:=
 AX.run 0 hw (OS.buildSlice (et:=et) ei hn ht rfl (Pn jW hev) hcs hsz hf hb) trivial hd h2
theorem ix{t:TypeId}{x y:Operand}{z:Nat}{zr:List V}{c:Option EC}{sz bytes:Nat}{sp:Sp}{l:SL V}{n:Int}(kk:Nat){cs:List V}{kd:IntKind}(hw:zy ops a gd=some true)(hx:ev E t a x=some (.slice sp l))(ht:E.ti t=some ⟨z,zr,.slc c sz bytes⟩)
 (hy:ev E 0 a y=some (.int kd n)) (hn:n=kk) (hlt:kk<l.len) (hk:l.get kk=some cs) (hsz:Nat.beq l.cells sz=true) (hd:zw N d=true) (h2:AX E N k dr ops rest (a.put d (.addr cs)) σ (⟨[],.addr cs,0,[]⟩::acc) Q):AX E N k dr ops (⟨d,.indexAddr t x y,ty,ps,af,gd⟩::rest) a σ acc Q:=
 AX.run 0 hw (OS.Kw rfl ht rfl (fr eA hx) (fr eA hy) hn hk hlt hsz) trivial hd h2
theorem Dx{t:TypeId}{x y:Operand}{z:Nat}{zr:List V}{m esz:Nat}{ea:Bool}{cs:List V}{n:Int}(kk:Nat){kd:IntKind}(hw:zy ops a gd=some true)(hx:ev E 0 a x=some (.addr cs))(ht:E.ti t=some ⟨z,zr,.arr m esz ea⟩)
 (hy:ev E 0 a y=some (.int kd n)) (hn:n=kk) (hlt:kk<m) (hb:kk*esz<=cs.length) (hd:zw N d=true) (h2:AX E N k dr ops rest (a.put d (.addr (cs.drop (kk*esz)))) σ (⟨[],.addr (cs.drop (kk*esz)),0,[]⟩::acc) Q):AX E N k dr ops (⟨d,.indexAddr t x y,ty,ps,af,gd⟩::rest) a σ acc Q:=
 AX.run 0 hw (OS.KC rfl ht rfl (fr eA hx) (fr eA hy) hn hlt hb) trivial hd h2
theorem IW{t:TypeId}{x y:Operand}{z:Nat}{zr:List V}{m esz:Nat}{ea:Bool}{p off:Nat}{n:Int}(kk:Nat){kd:IntKind}(hw:zy ops a gd=some true)(hx:ev E 0 a x=some (.ptr p off))(ht:E.ti t=some ⟨z,zr,.arr m esz ea⟩)
 (hy:ev E 0 a y=some (.int kd n)) (hn:n=kk) (hlt:kk<m) (hd:zw N d=true) (h2:AX E N k dr ops rest (a.put d (.ptr p (off+kk*esz))) σ (⟨[],.ptr p (off+kk*esz),0,[]⟩::acc) Q):AX E N k dr ops (⟨d,.indexAddr t x y,ty,ps,af,gd⟩::rest) a σ acc Q:=
 AX.run 0 hw (OS.KQ rfl ht rfl (fr eA hx) (fr eA hy) hn hlt) trivial hd h2
theorem s3{t:TypeId}{x y zz:Operand}{z:Nat}{zr:List V}{c:Option EC}{sz bytes:Nat}{sp:Sp}{l:SL V}{k1 k2:IntKind}(hw:zy ops a gd=some true)(hx:ev E t a x=some (.slice sp l))(ht:E.ti t=some ⟨z,zr,.slc c sz bytes⟩)
 (hy:ev E 0 a y=some (.int k1 l.len)) (hz:ev E 0 a zz=some (.int k2 l.len)) (hd:zw N d=true) (h2:AX E N k dr ops rest (a.put d (.slice .full l)) σ (⟨[],.slice .full l,0,[]⟩::acc) Q):AX E N k dr ops (⟨d,.slice t x none (some y) (some zz),ty,ps,af,gd⟩::rest) a σ acc Q:=
 AX.run 0 hw (OS.slice3 rfl ht rfl (fr eA hx) (fr eA hy) (fr eA hz)) trivial hd h2
theorem ap{t:TypeId}{s x:Operand}{z:Nat}{zr:List V}{c:Option EC}{sz bytes:Nat}{sp sp':Sp}{l l' l2:SL V}(hw:zy ops a gd=some true)(hs:ev E t a s=some (.slice sp l))(hx:ev E t a x=some (.slice sp' l'))(ht:E.ti t=some ⟨z,zr,.slc c sz bytes⟩)
 (hsp:OK sp=true) (hl:l.app l'=some l2) (hsz:Nat.beq l.cells sz=true) (hp:HL σ.es (JB sp)) (hd:zw N d=true)
 (hb:(l.len+l'.len)*bytes<=140737488355328/\l.len+l'.len<=9223372036854775807) (h2:AX E N k dr ops rest (a.put d (.slice (.own σ.nx) l2)) (σ.Aw 1 (J4 σ.nx sp)) (⟨JB sp,.slice (.own σ.nx) l2,1,J4 σ.nx sp⟩::acc) Q):
 AX E N k dr ops (⟨d,.call ⟨.builtin .append,#[s,x],#[t,t]⟩,ty,ps,af,gd⟩::rest) a σ acc Q:=
 AX.run 1 hw (OS.append rfl ht rfl (fr eA hs) (fr eA hx) hsp hl hsz hb.1 hb.2) hp hd h2
theorem apF{t:TypeId}{s x:Operand}{z:Nat}{zr:List V}{c:Option EC}{sz bytes:Nat}{sp sp':Sp}{l l' l2:SL V}(hw:zy ops a gd=some true)(hs:ev E t a s=some (.slice sp l))(hx:ev E t a x=some (.slice sp' l'))(ht:E.ti t=some ⟨z,zr,.slc c sz bytes⟩)
 (hsp:sp= .full/\0<l'.len) (hl:l.app l'=some l2) (hsz:Nat.beq l.cells sz=true) (hp:HL σ.es (JB sp)) (hd:zw N d=true)
 (hb:(l.len+l'.len)*bytes<=140737488355328/\l.len+l'.len<=9223372036854775807) (h2:AX E N k dr ops rest (a.put d (.slice (.own σ.nx) l2)) (σ.Aw 1 (J4 σ.nx sp)) (⟨JB sp,.slice (.own σ.nx) l2,1,J4 σ.nx sp⟩::acc) Q):
 AX E N k dr ops (⟨d,.call ⟨.builtin .append,#[s,x],#[t,t]⟩,ty,ps,af,gd⟩::rest) a σ acc Q:=
 AX.run 1 hw (OS.GH rfl ht rfl (fr eA hs) (fr eA hx) (.inr hsp) hl hsz hb.1 hb.2) hp hd h2
theorem c0{f:FuncId}{xs:List Operand}{ts:List TypeId}{cs args cs1:List V}{r:V}(h:PC E f args r)(hw:zy ops a gd=some true)(hx:DS E a xs ts=some cs)(hr:xu [] args=some cs1)(hle:Bb cs cs1)(hd:zw N d=true)
 (h2:AX E N k dr ops rest (a.put d r) σ (⟨[],r,0,[]⟩::acc) Q):AX E N k dr ops (⟨d,.call ⟨.value (.func f),xs.toArray,ts.toArray⟩,ty,ps,af,gd⟩::rest) a σ acc Q:=
 AX.run 0 hw (OS.NR rfl (RL jA hx) h ⟨cs1,hr,hle⟩) trivial hd h2
end L
end
section
variable {E:Env} {N k:Nat} {a:AF} {σ:Aj} {Q:Exit->AF->Aj->Prop}
def Ol(E:Env)(N k:Nat)(B:Nat)(i d:Tmp)(m:Nat)(P:Nat->Prop)(J:Nat->AF×Aj)(Q:Exit->AF->Aj->Prop):Exit->AF->Aj->Prop
 | .normal,a,σ=>a.get i=some (.int .i64 m)/\P (m+1)/\Bc E N k ((i,.int .i64 ((m+1:Nat):Int))::(d,.int .i64 ((m+1:Nat):Int))::a) σ (J (m+1)).1 (J (m+1)).2
 | .exit id,a,σ=>bif Nat.beq id B then Q .normal a σ else Q (.exit id) a σ
 |e,a,σ=>Q e a σ
theorem Bc.trans{a':AF}{σ':Aj}{a'':AF}{σ'':Aj}(h:Bc E N k a σ a' σ')(h':Bc E N k a' σ' a'' σ''):Bc E N k a σ a'' σ'':=by
 intro hk;obtain⟨hk1,h1⟩:=h hk;obtain⟨hk2,h2⟩:=h' hk1;refine⟨hk2,fun g w act hR hF=> ?_⟩;obtain⟨g1,hR1,hF1,hx1⟩:=h1 g w act hR hF;obtain⟨g2,hR2,hF2,hx2⟩:=h2 g1 w act hR1 hF1;exact⟨g2,hR2,hF2,hx1.trans hx2⟩
theorem Bc.slots{a':AF}(h:∀t c,a'.get t=some c->a.get t=some c):Bc E N k a σ a' σ:=
 fun hk=>⟨hk,fun g w act hR hF=>⟨g,hR,⟨hF.size,hF.defers,fun t c hc=>hF.vals t c (h t c hc)⟩,.refl ..⟩⟩
theorem AW.range{B C r1 r2:Nat}{c i n d:Tmp}{T T' T2 T3:TypeId}{ty1 ty2 ty3:TypeId}{p1 p2 p3:String}{af1 af2 af3:Array Edge}{body:Code}(len:Nat)(P:Nat->Prop)(J:Nat->AF×Aj)(hlen:len<4611686018427387904)
 (hi:∀m,(J m).1.get i=some (.int .i64 m)) (hn:∀m,(J m).1.get n=some (.int .i64 len)) (hd:zw N (some c)&&zw N (some d)&&zw N (some i)&& !Nat.beq d i=true) (hP:P 0) (h0:Bc E N k a σ (J 0).1 (J 0).2)
 (hb:∀m,m<len->P m->AW E N k body ((c,.bool true)::(J m).1) (J m).2 (uf C (Ol E N k B i d m P J Q)))
 (he:P len->Q .normal ((c,.bool false)::(J len).1) (J len).2):
 AW E N k (.block B (.loop (.seq (.region r1 #[⟨some c,.binOp .lss T (.tmp i) (.tmp n) T',ty1,p1,af1,none⟩] false)
  (.seq (.cond (.tmp c) .skip (.exit B)) (.seq (.block C body)
   (.region r2 #[⟨some d,.binOp .add T2 (.tmp i) (.const (.int .i64 1)) T3,ty2,p2,af2,none⟩,⟨some i,.move (.tmp d),ty3,p3,af3,none⟩] false)))))) a σ Q:=by
 simp only[ZC] at hd;obtain⟨⟨⟨hd1,hd2⟩,hd3⟩,hd4⟩:=hd;refine .block (.loop (ι:={m:Nat // m<=len/\P m}) (fun m=>J m.1) (fun m=>len-m.1) ⟨0,bL _,hP⟩ h0 fun⟨m,hm,hPm⟩=> ?_);refine .seq (.AP (L.bn rfl (hi m) (hn m) rfl hd1 (.BO ?_)));show AW E N k _ ((c,.bool (decide ((m:Int)<(len:Int))))::(J m).1) (J m).2 _;by_cases hlt:m<len
 .have hdec:decide ((m:Int)<(len:Int))=true:=ei
  rw[hdec];refine .seq (.Ct gr (.skip ?_));show AW E N k _ _ _ _;refine .seq (.block ((hb m hlt hPm).mono ?_));rintro e a1 σ1 hq;have hnorm:Ol E N k B i d m P J Q .normal a1 σ1->JU E N k (.region r2 #[⟨some d,.binOp .add T2 (.tmp i) (.const (.int .i64 1)) T3,ty2,p2,af2,none⟩,⟨some i,.move (.tmp d),ty3,p3,af3,none⟩] false)
   (NF E N k (fun m:{m:Nat // m<=len/\P m}=>J m.1) (fun m=>len-m.1) ⟨m,hm,hPm⟩ (uf B Q)) .normal a1 σ1:=by
   rintro⟨h1,h2,h3⟩;show AW E N k _ _ _ _;refine .AP (L.ad rfl h1 (show ev E T2 a1 (.const (.int .i64 1))=some (.int .i64 1) from rfl) hd2 dY (L.mv rfl (v:= .int .i64 ((m:Int)+1)) (by simp[ev,AF.put,AF.get]) hd3 (.BO ?_)));rw[show((m:Int)+1)=((m+1:Nat):Int) from dY];refine⟨⟨m+1,hlt,h2⟩,ei,?_⟩;exact h3
  cases e with
  |normal=>exact hnorm hq
  |exit id=>
   exact mD
  |goto l=>exact hq
  |ret=>exact hq
  |panic ch=>exact hq
  |outgrown=>exact hq
 .have hm':m=len:=dY
  subst hm';have hdec:decide ((m:Int)<(m:Int))=false:=dZ
  rw[hdec];refine .seq (.Cu gr (.exit ?_));show uf B Q (.exit B) _ _;simp only[uf,cI,cond_true]
  grind
end
section
variable {E:Env} {N k:Nat} {a:AF} {σ:Aj} {Q:Exit->AF->Aj->Prop} {ops:List Oper} {dr:Bool} {rest:List Oper} {acc:List Rec}
def Ykr(ops:List Oper):Option (Nat×Bool)->Option Tmp
 |some (j,_)=>(ops[j]?).bind (·.dst)
 |none=>none
theorem AX.gs{o:Oper}{d:Tmp}{b:Bool}(h1:Ykr ops o.guard=some d)(hb:a.get d=some (.bool b))(hn:zy ops a o.guard=none->True)(ht:b=true->AX E N k dr ops (o::rest) ((d,.bool true)::a) σ acc Q)(hf:b=false->AX E N k dr ops (o::rest) ((d,.bool false)::a) σ acc Q):AX E N k dr ops (o::rest) a σ acc Q:=
 AX.split d hb ht hf
theorem AX.wt{o:Oper}(h:zy ops a o.guard=some true)(h2:AX E N k dr ops (o::rest) a σ acc Q):AX E N k dr ops (o::rest) a σ acc Q:=h2
@[simp] theorem Ty.eta(t:Ty):Ty.mk t.kind t.args=t:=gA
@[simp] theorem Ty.AA(k:Int)(xs:List Ty):(Ty.mk k xs).kind=k:=rfl
@[simp] theorem Ty.Ag(k:Int)(xs:List Ty):(Ty.mk k xs).args=xs:=rfl
@[simp] theorem Tm.eta(t:Tm):Tm.mk t.kind t.index t.ty t.args=t:=gA
@[simp] theorem Tm.AA(k i:Int)(h:Ty)(xs:List Tm):(Tm.mk k i h xs).kind=k:=rfl
@[simp] theorem Tm.Bo(k i:Int)(h:Ty)(xs:List Tm):(Tm.mk k i h xs).index=i:=rfl
@[simp] theorem Tm.Bk(k i:Int)(h:Ty)(xs:List Tm):(Tm.mk k i h xs).ty=h:=rfl
@[simp] theorem Tm.Ag(k i:Int)(h:Ty)(xs:List Tm):(Tm.mk k i h xs).args=xs:=rfl
theorem AW.E6{t:Tmp}{x y:Code}{b:Bool}(hc:a.get t=some (.bool b))(ht:b=true->AW E N k x ((t,.bool true)::a) σ Q)(hf:b=false->AW E N k y ((t,.bool false)::a) σ Q):AW E N k (.cond (.tmp t) x y) a σ Q:=
 have key:∀b',b=b'->Bc E N k a σ ((t,.bool b')::a) σ:=fun b' hb=>Bc.slots fun u c hu=>by
  rw[AF.Bj] at hu;by_cases h:t=u
  .subst h;rw[if_pos rfl] at hu;rw[hc,hb];exact hu
  .rw[if_neg h] at hu;exact hu
 .cond hc (fun h=> .weak (key _ h) (ht h)) (fun h=> .weak (key _ h) (hf h))
theorem AW.GA{ι:Type}{x y:Code}(J:ι->AF×Aj)(h:AW E N k x a σ (NI E N k J Q))(h2:∀i,AW E N k y (J i).1 (J i).2 Q):AW E N k x a σ (JU E N k y Q):=
 h.mono fun e a σ hq=>by
  cases e with
  |normal=>obtain⟨i,hi⟩:=hq;exact(AW.weak hi (h2 i):AW E N k y a σ Q)
  |_=>exact hq
namespace K
theorem gR{B:Nat}{i d:Tmp}{m:Nat}{P:Nat->Prop}{J:Nat->AF×Aj}(h:Q .ret a σ):Ol E N k B i d m P J Q .ret a σ:=h
theorem bX{id id':Nat}(hb:Nat.beq id' id=true)(h:Q .normal a σ):uf id Q (.exit id') a σ:=by simp only[uf,hb,cond_true];exact h
end K
variable {d:Option Tmp} {ty:TypeId} {ps:String} {af:Array Edge} {gd:Option (Nat×Bool)}
namespace L
theorem Qc{t:TypeId}{x:Operand}{sp:Sp}{e:EC}{l:List e.sem}{z:Nat}{zr:List V}{c:Option EC}{sz by_:Nat}(hw:zy ops a gd=some true)(hx:ev E t a x=some (.slice sp (.t e l)))(ht:E.ti t=some ⟨z,zr,.slc c sz by_⟩)(hd:zw N d=true)
 (h2:AX E N k dr ops rest (a.put d (.int .i64 l.length)) σ (⟨[],.int .i64 l.length,0,[]⟩::acc) Q):AX E N k dr ops (⟨d,.call ⟨.builtin .len,#[x],#[t]⟩,ty,ps,af,gd⟩::rest) a σ acc Q:=
 L.ln hw hx ht hd h2
theorem F3(kk:Nat){t:TypeId}{x y:Operand}{z:Nat}{zr:List V}{c:EC}{co:Option EC}{sz bytes:Nat}{sp:Sp}{xs:List c.sem}{n:Int}{kd:IntKind}(hw:zy ops a gd=some true)(hx:ev E t a x=some (.slice sp (.t c xs)))(ht:E.ti t=some ⟨z,zr,.slc co sz bytes⟩)
 (hy:ev E 0 a y=some (.int kd n)) (hn:n=kk) (hsz:Nat.beq c.cells sz=true) (hd:zw N d=true) (hlt:kk<xs.length) (h2:AX E N k dr ops rest (a.put d (.addr (c.view xs[kk]))) σ (⟨[],.addr (c.view xs[kk]),0,[]⟩::acc) Q):AX E N k dr ops (⟨d,.indexAddr t x y,ty,ps,af,gd⟩::rest) a σ acc Q:=
 L.ix kk hw hx ht hy hn hlt (by simp[SL.get,hlt]) hsz hd h2
end L
end
end Go.Ab
