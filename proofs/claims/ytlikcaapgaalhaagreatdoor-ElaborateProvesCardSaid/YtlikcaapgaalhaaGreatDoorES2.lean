/- A part of this seat's proofs. No conditions. -/
import Derived.Test.YtlikcaapgaalhaaGreatDoorES1
namespace Go.Ab
open Go Go.Proofs
set_option maxRecDepth 100000
set_option linter.all false
theorem type_c:∀(n:Nat) (k:Int) (d:Dk),k≤n→n≤20→-100≤k→d.ok→AC E 25 [.ptr 0 0,.i k] ⟨1,[(0,.var d.cells)]⟩ (.agg (d.type k.toNat).1.view) ⟨1,[(0,.var (d.type k.toNat).2.cells)]⟩:=by
 intro n
 induction n with
 |zero=>
  intro k d hk hn hk' hd
  have h1:=next_c d 7 hd (by omega)
  have e:=Dk.type_eq k d
  refine AC.mk Tryz.func25 rfl rfl rfl rfl rfl (Nat.le_of_ble_eq_true rfl) ?_
  repeat'(first|((with_reducible refine D.nil ?_);refine AX.nilL ?_)|((with_reducible refine D.move ?_);refine L.mv U U U ?_)|((with_reducible refine D.assign ?_);refine L.asg U U U ?_)|((with_reducible refine D.bin ?_);first|refine L.sb U U U U (by omega) ?_|refine L.bn U U U U U ?_)|((with_reducible refine D.call ?_);first|(apply L.cb2 (h1) [0] 0 rfl;rfl;rfl;rfl;rfl;rfl;rfl;(focus((repeat'(first|exact trivial|refine And.intro ?_ ?_|refine⟨_,U,_,U,_,U,?_⟩|exact VLe.refl _));done));rfl;rfl;rfl;rfl)|refine L.c2 (nat_c) U U U U ?_|refine L.c2 (list_c) U U U U ?_|refine L.c2 (unit_c) U U U U ?_)|((with_reducible refine D.alloc ?_);refine L.al U U U ?_)|((with_reducible refine D.store ?_);refine L.st U U U U U U U U U ?_)|((with_reducible refine D.aw ?_);first|((with_reducible refine D.blk ?_);refine AW.block ?_)|refine K.sq (AW.regL ?_)|refine K.sq (K.sq ?_)|refine AW.regL ?_|refine AW.condT U ?_|refine AW.condS U (fun h=> ?_) (fun h=> ?_)|refine AW.skip ?_|refine AW.ret ?_)|with_reducible refine K.tN ?_|with_reducible refine K.bN ?_|with_reducible refine K.tR ?_|with_reducible refine K.bR ?_)
  all_goals first
   |(exfalso;simp at*;omega)
   |(simp only[beq_iff_eq,beq_eq_false_iff_ne,ne_eq,decide_eq_true_eq,decide_eq_false_iff_not,gt_iff_lt] at*
     simp[*] at e
     (exact K.n2 [some 0] U U U U U (by(repeat'(first|exact trivial|refine And.intro ?_ ?_|refine⟨_,U,_,U,_,U,?_⟩|exact VLe.of_eq (by simp[Sto.upd,e])));done) U (by simp[tupV,V.wk,V.wks,constV,Ty.view,Tm.view,e])))
 |succ n ih=>
  intro k d hk hn hk' hd
  have h1:=next_c d 7 hd (by omega)
  have e:=Dk.type_eq k d
  have i1:k>0→_:=fun h=>ih (k-1) (d.next 7).2 (by omega) (by omega) (by omega) (Dk.next_ok hd 7)
  have i2:k>0→_:=fun h=>ih (k-1) ((d.next 7).2.type (k-1).toNat).2 (by omega) (by omega) (by omega) (Dk.type_ok _ _ (Dk.next_ok hd 7))
  have i3:=two_c ((d.next 7).2.type (k-1).toNat).1 ((((d.next 7).2.type (k-1).toNat).2).type (k-1).toNat).1 (Dk.type_small _ _ (by omega)) (Dk.type_small _ _ (by omega))
  have i4:=fun_c ((d.next 7).2.type (k-1).toNat).1 ((((d.next 7).2.type (k-1).toNat).2).type (k-1).toNat).1 (Dk.type_small _ _ (by omega)) (Dk.type_small _ _ (by omega))
  refine AC.mk Tryz.func25 rfl rfl rfl rfl rfl (Nat.le_of_ble_eq_true rfl) ?_
  repeat'(first|((with_reducible refine D.nil ?_);refine AX.nilL ?_)|((with_reducible refine D.move ?_);refine L.mv U U U ?_)|((with_reducible refine D.assign ?_);refine L.asg U U U ?_)|((with_reducible refine D.bin ?_);first|refine L.sb U U U U (by omega) ?_|refine L.bn U U U U U ?_)|((with_reducible refine D.call ?_);first|(apply L.cb2 (h1) [0] 0 rfl;rfl;rfl;rfl;rfl;rfl;rfl;(focus((repeat'(first|exact trivial|refine And.intro ?_ ?_|refine⟨_,U,_,U,_,U,?_⟩|exact VLe.refl _));done));rfl;rfl;rfl;rfl)|refine L.c2 (nat_c) U U U U ?_|refine L.c2 (list_c) U U U U ?_|refine L.c2 (unit_c) U U U U ?_|(apply L.cb2 (i1 (by simp_all)) [0] 0 rfl;rfl;rfl;rfl;rfl;rfl;rfl;(focus((repeat'(first|exact trivial|refine And.intro ?_ ?_|refine⟨_,U,_,U,_,U,?_⟩|exact VLe.refl _));done));rfl;rfl;rfl;rfl)|(apply L.cb2 (i2 (by simp_all)) [0] 0 rfl;rfl;rfl;rfl;rfl;rfl;rfl;(focus((repeat'(first|exact trivial|refine And.intro ?_ ?_|refine⟨_,U,_,U,_,U,?_⟩|exact VLe.refl _));done));rfl;rfl;rfl;rfl)|refine L.c2 (i3) U U U U ?_|refine L.c2 (i4) U U U U ?_)|((with_reducible refine D.alloc ?_);refine L.al U U U ?_)|((with_reducible refine D.store ?_);refine L.st U U U U U U U U U ?_)|((with_reducible refine D.aw ?_);first|((with_reducible refine D.blk ?_);refine AW.block ?_)|refine K.sq (AW.regL ?_)|refine K.sq (K.sq ?_)|refine AW.regL ?_|refine AW.condT U ?_|refine AW.condS U (fun h=> ?_) (fun h=> ?_)|refine AW.skip ?_|refine AW.ret ?_)|with_reducible refine K.tN ?_|with_reducible refine K.bN ?_|with_reducible refine K.tR ?_|with_reducible refine K.bR ?_)
  all_goals
   simp only[beq_iff_eq,beq_eq_false_iff_ne,ne_eq,decide_eq_true_eq,decide_eq_false_iff_not,gt_iff_lt] at*
   simp[*] at e
   (exact K.n2 [some 0] U U U U U (by(repeat'(first|exact trivial|refine And.intro ?_ ?_|refine⟨_,U,_,U,_,U,?_⟩|exact VLe.of_eq (by simp[Sto.upd,e])));done) U (by simp[tupV,V.wk,V.wks,constV,Ty.view,Tm.view,e]))
theorem numeral_c(n:Nat)(hn:n<100000):PC E 96 [.i n] (.agg (numT n).view):=by
 have h1:=n_c 4 [] (by simp)
 refine M.F Tryz.func96 ?_
 refine M.w1 @h1 ?_
 refine K.sq (AW.down n (fun m=>m≤n)
  (fun m=>([(0,.i m),(2,.ptr 0 0),(3,.ptr 1 0)],⟨2,[(0,.var [.i 0,.i 0,.i 0,.slice .nil (.t .ty []),.slice .nil (.t .tm [])]),(1,.var (numT (n-m)).view)]⟩))
  (by omega) (fun m=>rfl) rfl (Nat.le_refl _) ?_ ?_ ?_)
 ·simp only[Nat.sub_self]
  exact(M.W rh2)
 ·intro m hm hP
  have e:numT (n-m)= .mk 5 0 (.mk 0 []) [numT (n-(m+1))]:=by rw[show n-m=(n-(m+1))+1 by omega];rfl
  refine M.w0 ?_
  refine⟨rfl,by omega,?_⟩
  simp only[e]
  exact(M.W rh2)
 ·intro _
  refine M.w0 ?_
  simp[tupV,V.wk,V.wks,constV,Ty.view,Tm.view]
theorem number_c(n:Int):PC E 55 [.i n] (.tup [.agg (if 0≤n∧n<4096 then numT n.toNat else noTm).view,.i (if n<0 then 1 else if n≥4096 then 4 else 0)]):=by
 have h1:¬n<0→¬n≥4096→PC E 96 [.i n] _:=fun h h'=>by
  have:=numeral_c n.toNat (by omega)
  rw[show((n.toNat:Nat):Int)=n by omega] at this
  exact this
 refine M.F Tryz.func55 ?_
 repeat'(first|refine M.w0 ?_|refine M.c2 (h1 (by simp_all) (by simp_all)) ?_|refine M.cs ?_ ?_<;>intro h|fail)
 ·have h':n<0:=by simpa using h
  have h2:¬(0≤n∧n<4096):=by omega
  simp[tupV,V.wk,V.wks,constV,Ty.view,Tm.view,noTm,h',h2]
 ·rename_i h0
  have h':¬n<0:=by simpa using h0
  have h'':n≥4096:=by simpa using h
  have h2:¬(0≤n∧n<4096):=by omega
  simp[tupV,V.wk,V.wks,constV,Ty.view,Tm.view,noTm,h',h'',h2]
 ·rename_i h0
  have h':¬n<0:=by simpa using h0
  have h'':¬n≥4096:=by simpa using h
  have h2:0≤n∧n<4096:=by omega
  simp[tupV,V.wk,V.wks,constV,Ty.view,Tm.view,noTm,h',h'',h2]
theorem longer_c(g l:List Ty)(h:g.length+l.length<1000000):PC E 29 [.s .ty g,.s .ty l] (.s .ty (g++l)):=by
 refine M.F Tryz.func29 ?_
 refine M.w0 ?_
 simp[tupV,V.wk,V.wks,constV,Ty.view,Tm.view]
theorem lam_c(t:Tm)(ht:t.full<549755813888):PC E 58 [.agg t.view] (.agg (Tm.mk 2 0 (.mk 1 []) [t]).view):=by
 have h1:=t_c 2 (.mk 1 []) [t] (by simp;omega) (by simp[Ty.size_eq])
 refine M.F Tryz.func58 ?_
 refine M.w2 @nat_c @h1 ?_
 simp[tupV,V.wk,V.wks,constV,Ty.view,Tm.view]
theorem num_c(n:Int):PC E 22 [.i n] (.agg (numOf n).view):=by
 have h1:=number_c n
 refine M.F Tryz.func22 ?_
 refine M.w1 @h1 ?_
 simp[tupV,V.wk,V.wks,constV,Ty.view,Tm.view,numOf]
theorem context_c(d:Dk)(hd:d.ok):AC E 7 [.ptr 0 0] ⟨1,[(0,.var d.cells)]⟩ (.s .ty d.ctx.1) ⟨1,[(0,.var d.ctx.2.cells)]⟩:=by
 have h1:=next_c d 4 hd (by omega)
 have hb:=Dk.next_bd d 4 (by omega)
 obtain⟨c,hc⟩:∃c:Nat,(d.next 4).1=c:=⟨(d.next 4).1.toNat,by omega⟩
 rw[hc] at h1 hb
 have hx:d.ctx=(d.next 4).2.types c:=by simp only[Dk.ctx,hc];rfl
 refine M.F Tryz.func7 ?_
 refine M.w1 @h1 ?_
 refine AW.down c (fun m=>m≤c)
  (fun m=>([(0,.ptr 0 0),(3,.slice (.own 1) (.t .ty ((d.next 4).2.types (c-m)).1)),(4,.i m)],⟨2,[(0,.var ((d.next 4).2.types (c-m)).2.cells),(1,.row)]⟩))
  (by omega) (fun m=>rfl) rfl (Nat.le_refl _) ?_ ?_ ?_
 ·simp only[Nat.sub_self]
  exact(M.W rn1)
 ·intro m hm hP
  have e:=Dk.types_snoc (c-(m+1)) (d.next 4).2
  rw[show c-(m+1)+1=c-m by omega] at e
  have h2:=type_c 1 1 ((d.next 4).2.types (c-(m+1))).2 (by omega) (by omega) (by omega) (Dk.types_ok _ _ (Dk.next_ok hd 4))
  have hl:=Dk.types_len (c-(m+1)) (d.next 4).2
  refine M.w1 @h2 ?_
  refine⟨rfl,by omega,?_⟩
  simp only[e]
  exact(M.W [some 0,some 2])
 ·intro _
  refine M.w0 ?_
  (exact M.n2 rh1 (h6:=(by(repeat'(first|exact trivial|refine And.intro ?_ ?_|refine⟨_,U,_,U,_,U,?_⟩|exact VLe.of_eq (by simp[Sto.upd,hx])));done)) (h8:=(by simp[tupV,V.wk,V.wks,constV,Ty.view,Tm.view,hx])))
theorem rec_c(b f n:Tm)(h:b.full+f.full+n.full<549755813888):PC E 59 [.agg b.view,.agg f.view,.agg n.view] (.agg (Tm.mk 6 0 (.mk 1 []) [b,f,n]).view):=by
 have h1:=t_c 6 (.mk 1 []) [b,f,n] (by simp;omega) (by simp[Ty.size_eq])
 refine M.F Tryz.func59 ?_
 refine M.w2 @nat_c @h1 ?_
 simp[tupV,V.wk,V.wks,constV,Ty.view,Tm.view]
theorem plus_c:PC E 32 [] (.agg plusT.view):=by
 have h0:=var_c 0
 have h1:=var_c 1
 have h2:=n_c 5 [vT 0] (by simp[Tm.full,Tm.fulls,Ty.size,Ty.sizes,vT])
 have h3:=lam_c (sT (vT 0)) (by simp[Tm.full,Tm.fulls,Ty.size,Ty.sizes,vT,sT])
 have h4:=lam_c (lamT (sT (vT 0))) (by simp[Tm.full,Tm.fulls,Ty.size,Ty.sizes,vT,sT,lamT])
 have h5:=rec_c (vT 1) addF (vT 0) (by simp[Tm.full,Tm.fulls,Ty.size,Ty.sizes,vT,sT,lamT,addF])
 have h6:=lam_c (recT (vT 1) addF (vT 0)) (by simp[Tm.full,Tm.fulls,Ty.size,Ty.sizes,vT,sT,lamT,addF,recT])
 have h7:=lam_c (lamT (recT (vT 1) addF (vT 0))) (by simp[Tm.full,Tm.fulls,Ty.size,Ty.sizes,vT,sT,lamT,addF,recT])
 refine M.F Tryz.func32 ?_
 repeat'(first|refine M.w6 @h0 @h1 @h2 @h3 @h4 @h5 ?_|refine M.c2 (h6) ?_|refine M.c2 (h7) ?_|fail)
 rfl
theorem pred_c:PC E 60 [] (.agg predT.view):=by
 have h0:=var_c 0
 have h1:=var_c 1
 have h2:=n_c 4 [] (by simp)
 have h3:=lam_c (vT 1) (by simp[Tm.full,Tm.fulls,Ty.size,Ty.sizes,vT,sT])
 have h4:=lam_c (lamT (vT 1)) (by simp[Tm.full,Tm.fulls,Ty.size,Ty.sizes,vT,sT,lamT])
 have h5:=rec_c zT (lamT (lamT (vT 1))) (vT 0) (by simp[Tm.full,Tm.fulls,Ty.size,Ty.sizes,vT,zT,lamT,addF])
 have h6:=lam_c (recT zT (lamT (lamT (vT 1))) (vT 0)) (by simp[Tm.full,Tm.fulls,Ty.size,Ty.sizes,vT,zT,lamT,addF,recT])
 refine M.F Tryz.func60 ?_
 repeat'(first|refine M.w6 @h0 @h1 @h2 @h3 @h4 @h5 ?_|refine M.c2 (h6) ?_|fail)
 rfl
theorem sub_c:PC E 33 [] (.agg subT.view):=by
 have h0:=var_c 0
 have h1:=var_c 1
 have hp:=pred_c
 have h2:=n_c 3 [predT,vT 0] (by simp[Tm.full,Tm.fulls,Ty.size,Ty.sizes,vT,zT,lamT,predT,recT])
 have h3:=lam_c (apT predT (vT 0)) (by simp[Tm.full,Tm.fulls,Ty.size,Ty.sizes,vT,zT,lamT,predT,recT,apT])
 have h4:=lam_c (lamT (apT predT (vT 0))) (by simp[Tm.full,Tm.fulls,Ty.size,Ty.sizes,vT,zT,lamT,predT,recT,apT])
 have h5:=rec_c (vT 1) subF (vT 0) (by simp[Tm.full,Tm.fulls,Ty.size,Ty.sizes,vT,zT,lamT,predT,recT,apT,subF])
 have h6:=lam_c (recT (vT 1) subF (vT 0)) (by simp[Tm.full,Tm.fulls,Ty.size,Ty.sizes,vT,zT,lamT,predT,recT,apT,subF])
 have h7:=lam_c (lamT (recT (vT 1) subF (vT 0))) (by simp[Tm.full,Tm.fulls,Ty.size,Ty.sizes,vT,zT,lamT,predT,recT,apT,subF])
 refine M.F Tryz.func33 ?_
 repeat'(first|refine M.w6 @h0 @h1 @hp @h2 @h3 @h4 ?_|refine M.c2 (h5) ?_|refine M.c2 (h6) ?_|refine M.c2 (h7) ?_|fail)
 rfl
theorem appMake_c:∀(f:Tm) (l:List Tm),f.full+2*l.length+(l.map Tm.full).sum<274877906944→PC E 12 [.agg f.view,.s .tm l] (.agg (l.foldl apT f).view):=by
 intro f l hl
 have hlen:=lsum_len Tm.full Tm.full_pos l
 have hfull:∀m,m≤l.length→((l.take m).foldl apT f).full≤f.full+2*m+((l.take m).map Tm.full).sum:=by
  intro m
  induction m with
  |zero=>intro _;simp
  |succ m ih=>
   intro hm
   have h1:=ih (by omega)
   have h2:=lsum_take Tm.full l m (by omega)
   rw[←List.take_append_getElem (by omega:m<l.length),List.foldl_append,List.take_append_getElem (by omega:m<l.length),h2]
   simp only[List.foldl_cons,List.foldl_nil,apT,Tm.full,Tm.fulls,Ty.size,Ty.sizes]
   omega
 refine M.F Tryz.func12 ?_
 refine M.w0 ?_
 refine M.rt l.length
  (fun m=>([(2,.ptr 0 0),(4,.ptr 1 0),(7,.s .tm l),(8,.i l.length),(9,.i m)],⟨2,[(0,.var ((l.take m).foldl apT f).view),(1,.var [.i 0,.i 0,.i 0,.slice .nil (.t .ty []),.slice .nil (.t .tm [])])]⟩))
  (M.W rh2) ?_ ?_
 ·intro m hm hP
  have e:(l.take (m+1)).foldl apT f=apT ((l.take m).foldl apT f) l[m]:=by rw[←List.take_append_getElem hm,List.foldl_append];rfl
  have h2:=lsum_take_le Tm.full l (m+1)
  have h3:=lsum_take Tm.full l m hm
  have h4:=hfull m (by omega)
  have h1:=n_c 3 [(l.take m).foldl apT f,l[m]] (by simp only[List.map_cons,List.map_nil,List.sum_cons,List.sum_nil];omega)
  refine M.w1 @h1 ?_
  refine⟨rfl,trivial,?_⟩
  exact(M.W rh2 (he:=(by(repeat'(first|exact trivial|refine And.intro ?_ ?_|refine⟨_,U,_,U,_,U,?_⟩|exact VLe.refl _|exact VLe.of_eq (by simp[Sto.upd,e,apT])));done)))
 ·intro _
  refine M.w0 ?_
  simp[tupV,V.wk,V.wks,constV,Ty.view,Tm.view]
theorem substLift_c(t:Tm)(fr by_:Int)(ht:t.full<274877906944):PC E 74 [.agg t.view,.i fr,.i by_] (.tup [.agg (if liftErr t fr by_=0 then t.re (liftG fr by_) 0 else noTm).view,.i (liftErr t fr by_)]):=by
 have h1:=check_c t (by omega)
 have h2:=within_c fr
 have h3:=within_c by_
 have h4:=near_c t (by omega)
 have h5:t.err=0→t.near=true→(0≤by_∧by_≤4096)→_:=fun h hn hy=>lift_c t fr by_ (by omega) ht (near_lt h hn)
 refine M.F Tryz.func74 ?_
 repeat'(first|refine M.w4 @h1 @h2 @h3 @h4 ?_|refine M.c2 (h5 (by simp_all) (by simp_all) (by simp_all)) ?_|refine M.gs ?_ ?_<;>intro h|refine M.cs ?_ ?_<;>intro h|fail)
 ·have e':t.err≠0:=by simpa using h
  have e:liftErr t fr by_=t.err:=by simp only[liftErr];rw[if_pos e']
  simp[tupV,V.wk,V.wks,constV,Ty.view,Tm.view,e,noTm,e']
 ·rename_i h0
  have e':¬t.err≠0:=by simpa using h0
  have e:liftErr t fr by_=1:=by simp only[liftErr];rw[if_neg e',if_pos (.inl (by intro hc;simp[hc] at h))]
  simp[tupV,V.wk,V.wks,constV,Ty.view,Tm.view,e,noTm]
 ·rename_i h0 h1
  have e':¬t.err≠0:=by simpa using h0
  have e:liftErr t fr by_=1:=by simp only[liftErr];rw[if_neg e',if_pos (.inr (.inl (by intro hc;simp[hc] at h)))]
  simp[tupV,V.wk,V.wks,constV,Ty.view,Tm.view,e,noTm]
 ·rename_i h0 h1 h2
  have e':¬t.err≠0:=by simpa using h0
  have e:liftErr t fr by_=1:=by simp only[liftErr];rw[if_neg e',if_pos (.inr (.inr (by simpa using h)))]
  simp[tupV,V.wk,V.wks,constV,Ty.view,Tm.view,e,noTm]
 ·rename_i h0 h1 h2
  have e':¬t.err≠0:=by simpa using h0
  have e:liftErr t fr by_=0:=by
   simp only[liftErr];rw[if_neg e',if_neg]
   rintro(hc|hc|hc)
   ·simp at h1;omega
   ·simp at h2;omega
   ·simp [hc] at h
  simp[tupV,V.wk,V.wks,constV,Ty.view,Tm.view,e,noTm]
theorem vars_c(g:List Ty)(t:Ty)(hg:(g.map Ty.size).sum<1099511627776):PC E 27 [.s .ty g,.agg t.view] (.s .int (varsT g t)):=by
 have hlen:=lsum_len Ty.size Ty.size_pos g
 refine M.F Tryz.func27 ?_
 refine M.w0 ?_
 refine M.rt g.length
  (fun m=>([(0,.s .ty g),(3,.ptr 0 0),(5,.slice (.own 1) (.t .int (((List.range m).filter fun i=>decide (g[g.length-1-i]? =some t)).map Int.ofNat))),(8,.i g.length),(9,.i m)],⟨2,[(0,.var t.view),(1,.row)]⟩))
  (M.W rn1) ?_ ?_
 ·intro m hm hP
  have hm2:g.length-1-m<g.length:=by omega
  have hs2:=lsum_mem Ty.size (List.getElem_mem hm2)
  have hsame:=sameTy_c _ g[g.length-1-m] t (Nat.le_refl _) (by omega)
  have hg:g[g.length-1-m]? =some g[g.length-1-m]:=List.getElem?_eq_getElem hm2
  have hfl:(List.filter (fun i=>decide (g[g.length-1-i]? =some t)) (List.range m)).length≤m:=by have:=List.length_filter_le (fun i=>decide (g[g.length-1-i]? =some t)) (List.range m);simpa using this
  refine M.w0 ?_
  refine L.ixt (g.length-1-m) rfl rfl rfl rfl (by omega) rfl rfl (by omega) ?_
  repeat'(first|refine M.w1 @hsame ?_|refine M.cs ?_ ?_<;>intro h|fail)
  ·exact ⟨rfl,trivial,(M.W [some 0,some 2] (hf:=(by(repeat'(first|exact trivial|refine And.intro ?_ ?_|refine⟨_,U,_,U,?_⟩|exact VLe.refl _|exact VLe.of_eq (by simp[Sto.upd,List.range_succ,hg,of_decide_eq_true h])));done)))⟩
  ·exact ⟨rfl,trivial,(M.W rh2 (hf:=(by(repeat'(first|exact trivial|refine And.intro ?_ ?_|refine⟨_,U,_,U,?_⟩|exact VLe.refl _|exact VLe.of_eq (by simp[Sto.upd,List.range_succ,hg,of_decide_eq_false h])));done)))⟩
 ·intro _
  refine M.w0 ?_
  simp[tupV,V.wk,V.wks]
  rfl
theorem shapeTy_c:∀(b:Nat) (t:Ty),t.size≤b→b<1099511627776→PC E 136 [.agg t.view] (.bool t.shape):=by
 intro b
 induction b with
 |zero=>intro t h;have:=t.size_pos;omega
 |succ b ih=>
 intro t hsz hb
 have hsz':=Ty.size_eq t
 have hlen:=lsum_len Ty.size Ty.size_pos t.args
 have hsh:=Ty.shape_eq t
 refine M.F Tryz.func136 ?_
 refine M.w0 ?_
 refine AW.cutT (ι:={n:Nat // arT t.kind=some n}) (fun n=>([(1,.ptr 0 0),(3,.i n.1)],⟨1,[(0,.var t.view)]⟩)) ?_ ?_
 ·refine AW.block ?_
  repeat'(first|refine M.w0 ?_|refine M.cs ?_ ?_<;>intro h|fail)
  ·exact ⟨⟨0,by simp at h;simp[arT,h]⟩,(M.W rh1)⟩
  ·exact ⟨⟨0,by simp at h;simp[arT,h]⟩,(M.W rh1)⟩
  ·exact ⟨⟨0,by simp at h;simp[arT,h]⟩,(M.W rh1)⟩
  ·exact ⟨⟨2,by simp at h;simp[arT,h]⟩,(M.W rh1)⟩
  ·exact ⟨⟨2,by simp at h;simp[arT,h]⟩,(M.W rh1)⟩
  ·have:t.shape=false:=by simp at*;simp[hsh,arT, *]
   simp[this,tupV,constV,V.wk,V.wks]
 rintro⟨n,hn⟩
 repeat'(first|refine M.w0 ?_|refine M.cs ?_ ?_<;>intro h|fail)
 ·have h1:¬t.args.length=n:=by simp at h;omega
  have:t.shape=false:=by simp[hsh,hn,h1]
  simp[this,tupV,constV,V.wk,V.wks]
 have hn':t.args.length=n:=by simp at h;omega
 refine M.rp t.args.length (fun m=>∀j (hj:j<t.args.length),j<m→(t.args[j]).shape=true)
  (fun m=>([(1,.ptr 0 0),(21,.s .ty t.args),(22,.i t.args.length),(23,.i m)],⟨1,[(0,.var t.view)]⟩))
  (by intro j hj h;omega) (M.W rh1) ?_ ?_
 ·intro m hm hP
  have hs2:=lsum_mem Ty.size (List.getElem_mem hm)
  repeat'(first|refine M.w0 ?_|refine M.c2 (ih _ ?_ ?_) ?_|refine M.cs ?_ ?_<;>intro h|exact M.le|exact M.lt|fail)
  ·have h1:(t.args[m]).shape=false:=by simpa using h
   have:t.shape=false:=by rw[hsh,all_not Ty.shape hm h1,Bool.and_false]
   simp[this,tupV,constV,V.wk,V.wks]
  ·have hh:(t.args[m]).shape=true:=by simpa using h
   exact⟨rfl,all_step (p:=fun t=>Ty.shape t=true) hm hP hh,(M.W rh1)⟩
 ·intro hP
  have:t.shape=true:=by simp only[hsh,hn,hn',all_of Ty.shape t.args fun j hj=>hP j hj hj];simp
  refine M.w0 ?_
  simp[this,tupV,constV,V.wk,V.wks]
theorem sizeTy_c:∀(b:Nat) (t:Ty),t.size≤b→b<1099511627776→PC E 137 [.agg t.view] (.i t.size):=by
 intro b
 induction b with
 |zero=>intro t h;have:=t.size_pos;omega
 |succ b ih=>
 intro t hsz hb
 have hsz':=Ty.size_eq t
 have hlen:=lsum_len Ty.size Ty.size_pos t.args
 refine M.F Tryz.func137 ?_
 refine M.w0 ?_
 refine M.rt t.args.length
  (fun m=>([(3,.i (1+((t.args.take m).map Ty.size).sum)),(7,.s .ty t.args),(8,.i t.args.length),(9,.i m)],⟨1,[(0,.var t.view)]⟩))
  (M.W rh1) ?_ ?_
 ·intro m hm hP
  have hs1:=lsum_take Ty.size t.args m hm
  have hs2:=lsum_mem Ty.size (List.getElem_mem hm)
  have hs3:=lsum_take_le Ty.size t.args (m+1)
  have e:(1+((((t.args.take (m+1)).map Ty.size).sum:Nat):Int))=1+(((t.args.take m).map Ty.size).sum:Nat)+t.args[m].size:=by rw[hs1];omega
  repeat'(first|refine M.w0 ?_|refine M.c2 (ih _ ?_ ?_) ?_|exact M.le|exact M.lt|fail)
  refine⟨rfl,trivial,?_⟩
  simp only[e]
  exact(M.W rh1)
 ·intro hP
  refine M.w0 ?_
  simp[tupV,constV,hsz',V.wk,V.wks]
theorem checkTyR_c(t:Ty)(ht:t.size<1099511627776):PC E 100 [.agg t.view] (.i t.err):=by
 have h1:=shapeTy_c _ t (Nat.le_refl _) ht
 have h2:=sizeTy_c _ t (Nat.le_refl _) ht
 refine M.F Tryz.func100 ?_
 repeat'(first|refine M.w2 @h1 @h2 ?_|refine M.cs ?_ ?_<;>intro h|fail)
 all_goals simp_all[tupV,V.wk,V.wks,constV,Ty.err]
 all_goals(first|omega|(split<;>first|omega|simp_all))
theorem zeroTy_c(t:Ty):PC E 97 [.agg t.view] (.bool t.isNo):=by
 refine M.F Tryz.func97 ?_
 repeat'(first|refine M.w0 ?_|refine M.gs ?_ ?_<;>intro h|fail)
 all_goals simp_all[tupV,V.wk,V.wks,constV,Ty.isNo]
 rw[Bool.eq_iff_iff];simp
theorem okTy_c(t:Ty)(ht:t.size<1099511627776):PC E 225 [.agg t.view] (.tup [.agg (if t.err=0 then t else noTy).view,.i (if t.err=0 then 0 else 4)]):=by
 have h1:=checkTyR_c t ht
 refine M.F Tryz.func225 ?_
 repeat'(first|refine M.w1 @h1 ?_|refine M.cs ?_ ?_<;>intro h|fail)
 all_goals simp_all[tupV,V.wk,V.wks,constV,noTy,Ty.view]
theorem contextR_c(l:List Ty)(hl:(l.map Ty.size).sum<1099511627776):PC E 84 [.s .ty l] (.i (ctxErr l)):=by
 have hlen:=lsum_len Ty.size Ty.size_pos l
 refine M.F Tryz.func84 ?_
 repeat'(first|refine M.w0 ?_|refine M.cs ?_ ?_<;>intro h|fail)
 ·have h':l.length>16:=by simp at h;omega
  simp[tupV,V.wk,V.wks,constV,ctxErr,h']
 have h':¬l.length>16:=by simp at h;omega
 refine M.rp l.length (fun m=>∀j (hj:j<l.length),j<m→l[j].err=0)
  (fun m=>([(9,.s .ty l),(10,.i l.length),(11,.i m)],⟨0,[]⟩))
  (by intro j hj h;omega) (M.W []) ?_ ?_
 ·intro m hm hP
  have hs2:=lsum_mem Ty.size (List.getElem_mem hm)
  repeat'(first|refine M.w0 ?_|refine M.c2 (checkTyR_c _ ?_) ?_|refine M.cs ?_ ?_<;>intro h|exact M.lt|fail)
  ·have h1:¬l[m].err=0:=by simpa using h
   simp[tupV,V.wk,V.wks,constV,ctxErr,h',firstErr_at l m hm hP h1]
  ·exact ⟨rfl,all_step (p:=fun t=>Ty.err t=0) hm hP (by simpa using h),(M.W [])⟩
 ·intro hP
  refine M.w0 ?_
  simp[tupV,V.wk,V.wks,constV,ctxErr,h',firstErr_none l hP]
theorem args_c(k:Int):PC E 135 [.i k] (.i (argsI k)):=by
 refine M.F Tryz.func135 ?_
 repeat'(first|refine M.v0 ?_|refine M.cs ?_ ?_<;>intro h|fail)
 all_goals
  simp only[beq_iff_eq,beq_eq_false_iff_ne,ne_eq] at*
  simp[tupV,V.wk,V.wks,constV,argsI, *]
theorem countTm_c:∀(b:Nat) (t:Tm),t.full≤b→b<1099511627776→PC E 68 [.agg t.view] (.i t.size):=by
 intro b
 induction b with
 |zero=>intro t h;have:=t.full_pos;omega
 |succ b ih=>
 intro t hsz hb
 have hsz':=Tm.full_eq t
 have hszz:=Tm.size_eq t
 have hle:=Tm.size_le_full t
 have hlen:=lsum_len Tm.full Tm.full_pos t.args
 refine M.F Tryz.func68 ?_
 refine M.w0 ?_
 refine M.rt t.args.length
  (fun m=>([(3,.i (1+((t.args.take m).map Tm.size).sum)),(7,.s .tm t.args),(8,.i t.args.length),(9,.i m)],⟨1,[(0,.var t.view)]⟩))
  (M.W rh1) ?_ ?_
 ·intro m hm hP
  have hs1:=lsum_take Tm.size t.args m hm
  have hs2:=lsum_mem Tm.full (List.getElem_mem hm)
  have hs3:=lsum_take_le Tm.size t.args (m+1)
  have e:(1+((((t.args.take (m+1)).map Tm.size).sum:Nat):Int))=1+(((t.args.take m).map Tm.size).sum:Nat)+t.args[m].size:=by rw[hs1];omega
  repeat'(first|refine M.w0 ?_|refine M.c2 (ih _ ?_ ?_) ?_|exact M.le|exact M.lt|fail)
  refine⟨rfl,trivial,?_⟩
  simp only[e]
  exact(M.W rh1)
 ·intro hP
  refine M.w0 ?_
  simp[tupV,constV,hszz,V.wk,V.wks]
end Go.Ab
namespace Go.Ab
open Go Go.Proofs
set_option maxRecDepth 100000
set_option maxHeartbeats 4000000
set_option linter.all false
theorem argsI_eq(k:Int):argsI k=match arK k with|some n=>(n:Int)|none=> -1:=by
 simp only[argsI,arK];(repeat' split)<;>simp_all<;>omega
theorem Tm.head_eqR(t:Tm):t.head=(!((t.args.length:Int) !=argsI t.kind)&& !decide (t.index<0)&&(!(t.kind !=1)|| !(t.index !=0))&&(bif typedK t.kind then !(t.ty.err !=0) else !(!t.ty.isNo))):=by
 simp only[Tm.head,Ty.ok_err,argsI_eq]
 cases hk:arK t.kind with
 |none=>
  have:((t.args.length:Int) != -1)=true:=by simp
  simp[this]
 |some n=>
  have h1:(t.args.length==n)= !((t.args.length:Int) !=((n:Nat):Int)):=by rw[Bool.eq_iff_iff];simp;omega
  have h2:decide (0≤t.index)= !decide (t.index<0):=by rw[Bool.eq_iff_iff];simp
  simp only[h1,h2,bne]
  cases(t.index==0)<;>cases(t.kind==1)<;>simp
theorem shapeTm_c:∀(b:Nat) (t:Tm),t.full≤b→b<1099511627776→PC E 98 [.agg t.view] (.bool t.shape):=by
 intro b
 induction b with
 |zero=>intro t h;have:=t.full_pos;omega
 |succ b ih=>
 intro t hsz hb
 have hsz':=Tm.full_eq t
 have hlen:=lsum_len Tm.full Tm.full_pos t.args
 have hsh:=Tm.shape_eq t
 have h1:=args_c t.kind
 have h3:=zeroTy_c t.ty
 have h4:=checkTyR_c t.ty (by omega)
 refine M.F Tryz.func98 ?_
 repeat'(first|refine M.w3 @h1 @h3 @h4 ?_|refine M.gs ?_ ?_<;>intro h|refine M.bl ?_|refine M.cs ?_ ?_<;>intro h|fail)
 all_goals first
  |(have hd:t.head=false:=by rw[t.head_eqR];simp_all[typedK]
    have:t.shape=false:=by rw[hsh,hd,Bool.false_and]
    simp[this,tupV,constV,V.wk,V.wks];done)
  |(have hd:t.head=true:=by rw[t.head_eqR];simp_all[typedK]
    refine M.rp t.args.length (fun m=>∀j (hj:j<t.args.length),j<m→(t.args[j]).shape=true)
     (fun m=>([(1,.ptr 0 0),(42,.s .tm t.args),(43,.i t.args.length),(44,.i m)],⟨1,[(0,.var t.view)]⟩))
     (by intro j hj h;omega) (M.W rh1) ?_ ?_
    ·intro m hm hP
     have hs2:=lsum_mem Tm.full (List.getElem_mem hm)
     repeat'(first|refine M.w0 ?_|refine M.c2 (ih _ ?_ ?_) ?_|refine M.cs ?_ ?_<;>intro h|exact M.le|exact M.lt|fail)
     ·have h1:(t.args[m]).shape=false:=by simpa using h
      have:t.shape=false:=by rw[hsh,all_not Tm.shape hm h1,Bool.and_false]
      simp[this,tupV,constV,V.wk,V.wks]
     ·have hh:(t.args[m]).shape=true:=by simpa using h
      exact⟨rfl,all_step (p:=fun t=>Tm.shape t=true) hm hP hh,(M.W rh1)⟩
    ·intro hP
     have:t.shape=true:=by simp only[hsh,hd,all_of Tm.shape t.args fun j hj=>hP j hj hj];simp
     refine M.w0 ?_
     simp[this,tupV,constV,V.wk,V.wks])
theorem checkTmR_c(t:Tm)(ht:t.full<1099511627776):PC E 63 [.agg t.view] (.i t.err):=by
 have h1:=shapeTm_c _ t (Nat.le_refl _) ht
 have h2:=countTm_c _ t (Nat.le_refl _) ht
 refine M.F Tryz.func63 ?_
 repeat'(first|refine M.w2 @h1 @h2 ?_|refine M.cs ?_ ?_<;>intro h|fail)
 all_goals simp_all[tupV,V.wk,V.wks,constV,Tm.err]
 all_goals(first|omega|(split<;>first|omega|simp_all))
end Go.Ab
namespace Go.Ab
open Go Go.Proofs
set_option maxRecDepth 100000
set_option maxHeartbeats 40000000
set_option linter.all false
theorem infer_c:∀(n:Nat) (t:Tm) (g:List Ty),t.full≤n→n<274877906944→t.shape=true→(∀x∈g,x.err=0)→g.length+n<274877906944→PC E 209 [.s .ty g,.agg t.view] (.tup [.agg (t.inf g).1.view,.i (t.inf g).2]):=by
 intro n
 induction n with
 |zero=>intro t g h;have:=t.full_pos;omega
 |succ n ih=>
 intro t g hsz hb hsh hg hgn
 have hsz':=Tm.full_eq t
 have hlen:=lsum_len Tm.full Tm.full_pos t.args
 have hix:=shape_index hsh
 have hak:=arK_len hsh
 have hargs:=shape_args hsh
 have hinf:=Tm.inf_eq g t
 have e64:∀{x:Ty},x.err=0→x.size≤64:=fun h=>((Ty.err_iff _).1 h).2
 by_cases k1:t.kind=1
 ·rw [if_pos k1] at hinf
  have hk:(t.kind==1)=true:=by simp[k1]
  refine M.F Tryz.func209 ?_
  by_cases hlt:t.index≥g.length
  ·rw [if_pos hlt] at hinf
   repeat'(first|refine M.w0 ?_|refine M.cs ?_ ?_<;>intro h|fail)
   all_goals first
    |(exfalso;simp_all;done)
    |(simp[tupV,V.wk,V.wks,constV,Ty.view,hinf,noTy];done)
    |(exfalso;simp at*;omega)
  ·rw [if_neg hlt] at hinf
   have h0:g.length-1-t.index.toNat<g.length:=by omega
   have hcp:=copyTy_c _ (g[g.length-1-t.index.toNat]) (Nat.le_refl _) (by have:=e64 (hg _ (List.getElem_mem h0));omega)
   rw[at0_lt h0] at hinf
   repeat'(first|refine M.w0 ?_|refine M.cs ?_ ?_<;>intro h|fail)
   all_goals first
    |(exfalso;simp_all;done)
    |(exfalso;simp at*;omega)
    |skip
   refine L.ixt (g.length-1-t.index.toNat) rfl rfl rfl rfl (by omega) rfl rfl h0 ?_
   refine M.w1 @hcp ?_
   simp[tupV,V.wk,V.wks,constV,Ty.view,hinf]
 rw[if_neg k1] at hinf
 by_cases k2:t.kind=2
 ·rw [if_pos k2] at hinf
  have hl1:t.args.length=1:=by rw[k2] at hak;exact(Option.some.inj hak).symm
  have h0:0<t.args.length:=by omega
  have hte:t.ty.err=0:=shape_ty hsh (by rw[k2];rfl)
  have hs2:=lsum_mem Tm.full (List.getElem_mem h0)
  have hg':∀x∈g++[t.ty],x.err=0:=fun x hx=>by
   rcases List.mem_append.1 hx with hx|hx
   ·exact hg x hx
   ·simp at hx;subst hx;exact hte
  have hc:=ih t.args[0] (g++[t.ty]) (by omega) (by omega) (hargs _ (List.getElem_mem h0)) hg' (by simp;omega)
  have hgood:=Tm.inf_good t.args[0] (g++[t.ty]) (hargs _ (List.getElem_mem h0)) hg'
  have hinfs:Tm.infs (g++[t.ty]) t.args=if(t.args[0].inf (g++[t.ty])).2≠0 then([],(t.args[0].inf (g++[t.ty])).2) else([(t.args[0].inf (g++[t.ty])).1],0):=
   (congrArg (Tm.infs (g++[t.ty])) (len1 hl1)).trans (by simp only[Tm.infs,ne_eq,not_true_eq_false,if_false])
  have hf:(t.args[0].inf (g++[t.ty])).2=0→_:=fun h=>fun_c t.ty (t.args[0].inf (g++[t.ty])).1 (by have:=e64 hte;omega) (by have:=e64 (hgood h);omega)
  have ho:(t.args[0].inf (g++[t.ty])).2=0→_:=fun h=>okTy_c (funT t.ty (t.args[0].inf (g++[t.ty])).1) (by have:=e64 (hgood h);have:=e64 hte;simp only[funT,Ty.size,Ty.sizes];omega)
  refine M.F Tryz.func209 ?_
  repeat'(first|refine M.w1 @hc ?_|refine M.c2 (hf (by simp_all)) ?_|refine M.c2 (ho (by simp_all)) ?_|refine M.cs ?_ ?_<;>intro h|fail)
  all_goals first
   |(exfalso;simp_all;done)
   |skip
  ·have h':(t.args[0].inf (g++[t.ty])).2≠0:=by simpa using h
   rw[if_pos h'] at hinfs
   rw[hinfs,if_pos h'] at hinf
   simp[tupV,V.wk,V.wks,constV,Ty.view,hinf,noTy]
  ·have h':¬(t.args[0].inf (g++[t.ty])).2≠0:=by simpa using h
   rw[if_neg h'] at hinfs
   rw[hinfs] at hinf
   have hinf':t.inf g=okT (funT t.ty (t.args[0].inf (g++[t.ty])).1):=by rw[hinf];rfl
   rw[hinf']
   by_cases he:(funT t.ty (t.args[0].inf (g++[t.ty])).1).err=0
   ·simp [tupV,V.wk,V.wks,constV,Ty.view,okT,he]
   ·simp [tupV,V.wk,V.wks,constV,Ty.view,okT,he]
 rw[if_neg k2] at hinf
 refine M.F Tryz.func209 ?_
 repeat'(first|refine M.w0 ?_|refine M.cs ?_ ?_<;>intro h|fail)
 all_goals first
  |(exfalso;simp_all;done)
  |skip
 refine M.rp t.args.length (fun m=>∀j (hj:j<t.args.length),j<m→(t.args[j].inf g).2=0)
  (fun m=>([(0,.s .ty g),(3,.ptr 0 0),(4,.ptr 1 0),(8,.slice (.own 2) (.t .ty ((t.args.take m).map fun x=>(x.inf g).1))),(67,.s .tm t.args),(68,.i t.args.length),(69,.i m)],⟨3,[(0,.var t.view),(1,.var [.i 0,.slice .nil (.t .ty [])]),(2,.row)]⟩))
  (by intro j hj h;omega) (M.W rn2) ?_ ?_
 ·intro m hm hP
  have hs2:=lsum_mem Tm.full (List.getElem_mem hm)
  have hc:=ih t.args[m] g (by omega) (by omega) (hargs _ (List.getElem_mem hm)) hg (by omega)
  repeat'(first|refine M.w1 @hc ?_|refine M.cs ?_ ?_<;>intro h|fail)
  ·have h':(t.args[m].inf g).2≠0:=by simpa using h
   have h2:=Tm.infs_err g t.args m hm hP h'
   rw[h2,if_pos h'] at hinf
   simp[tupV,V.wk,V.wks,constV,Ty.view,hinf,noTy]
  ·have h':(t.args[m].inf g).2=0:=by simpa using h
   refine⟨rfl,all_step (p:=fun x:Tm=>(x.inf g).2=0) hm hP h',?_⟩
   exact(M.W [some 0,some 1,some 5] (hf:=(by(repeat'(first|exact trivial|refine And.intro ?_ ?_|refine⟨_,U,_,U,?_⟩|exact VLe.refl _|exact VLe.of_eq (by simp[Sto.upd,map_take _ _ _ hm])));done)))
 ·intro hP
  have hall:∀x∈t.args,(x.inf g).2=0:=fun x hx=>by
   obtain⟨j,hj,rfl⟩:=List.mem_iff_getElem.1 hx
   exact hP j hj hj
  have h5:=Tm.infs_ok g t.args hall
  have hgood:∀x∈t.args.map (fun x=>(x.inf g).1),x.err=0:=fun x hx=>by
   obtain⟨y,hy,rfl⟩:=List.mem_map.1 hx
   exact Tm.inf_good y g (hargs y hy) hg (hall y hy)
  rw[h5] at hinf
  simp only[ne_eq,not_true_eq_false,if_false] at hinf
  have hLl:(t.args.map fun x=>(x.inf g).1).length=t.args.length:=by simp
  rw[show t.args.take t.args.length=t.args from List.take_length]
  generalize hL:t.args.map (fun x=>(x.inf g).1)=L at*
  have hty:=shape_ty hsh
  have hcpT:typedK t.kind=true→_:=fun h=>copyTy_c _ t.ty (Nat.le_refl _) (by have:=e64 (hty h);omega)
  clear hP hall h5 hargs hlen ih hsz' hix hsz
  rw[←hLl] at hak
  rcases arK_cases hak with⟨hn,hk⟩|⟨hn,hk⟩|⟨hn,hk⟩|⟨hn,hk⟩
  ·have hLL:=List.eq_nil_of_length_eq_zero hn
   subst hLL
   obtain⟨k,i,th,xs⟩:=t
   simp only[Tm.kind_mk,Tm.ty_mk] at hk hinf
   rcases hk with rfl|rfl|rfl|rfl
   ·exact absurd rfl k1
   all_goals
    refine M.v3 @nat_c @list_c @unit_c ?_
    simp[tupV,V.wk,V.wks,constV,Ty.view,hinf,rule,natT,listT,unitT]
  ·obtain ⟨x,hLL⟩:=len_1 hn
   subst hLL
   have hx:=hgood x (by simp)
   have hxn:=sameTy_c _ x natT (Nat.le_refl _) (by have:=e64 hx;omega)
   have hx2:x.kind=3→∃y z,x.args=[y,z]:=fun h=>Ty.args_two ((Ty.err_iff _).1 hx).1 (.inl h)
   obtain⟨k,i,th,xs⟩:=t
   simp only[Tm.kind_mk,Tm.ty_mk] at hk hinf
   rcases hk with rfl|rfl|rfl|rfl
   ·exact absurd rfl k2
   ·repeat' (first|refine M.v3 @nat_c @list_c @hxn ?_|refine M.cs ?_ ?_<;>intro h|fail)
    ·have h':¬x=natT:=by simpa using h
     simp[tupV,V.wk,V.wks,constV,Ty.view,hinf,rule,h',noTy]
    ·have h':x=natT:=by simpa using h
     simp[tupV,V.wk,V.wks,constV,Ty.view,hinf,rule,h',natT]
   all_goals
    by_cases hx3:x.kind=3
    ·obtain ⟨y,z,hyz⟩:=hx2 hx3
     obtain⟨xk,xa⟩:=x
     simp only[Ty.kind_mk,Ty.args_mk] at hx3 hyz
     subst hx3
     subst hyz
     refine M.v2 @nat_c @list_c ?_
     simp[tupV,V.wk,V.wks,constV,Ty.view,EC.view,hinf,rule]
    ·repeat' (first|refine M.v2 @nat_c @list_c ?_|refine M.cs ?_ ?_<;>intro h|fail)
     ·simp [tupV,V.wk,V.wks,constV,Ty.view,hinf,rule,hx3,noTy]
     all_goals exact absurd (by simpa using h) hx3
  ·obtain ⟨x,y,hLL⟩:=len_2 hn
   subst hLL
   have hx:=hgood x (by simp)
   have hy:=hgood y (by simp)
   have ex:=e64 hx
   have ey:=e64 hy
   have hxn:=sameTy_c _ x natT (Nat.le_refl _) (by omega)
   have hyl:=sameTy_c _ y listT (Nat.le_refl _) (by omega)
   have hx2:x.kind=4→∃y z,x.args=[y,z]:=fun h=>Ty.args_two ((Ty.err_iff _).1 hx).1 (.inr h)
   obtain⟨k,i,th,xs⟩:=t
   simp only[Tm.kind_mk,Tm.ty_mk] at hk hinf
   rcases hk with rfl|rfl|rfl
   ·by_cases hx3:x.kind=4
    ·obtain ⟨a,b,hab⟩:=hx2 hx3
     obtain⟨xk,xa⟩:=x
     simp only[Ty.kind_mk,Ty.args_mk] at hx3 hab
     subst hx3
     subst hab
     simp only[Ty.size,Ty.sizes] at ex
     have hay:=sameTy_c _ a y (Nat.le_refl _) (by omega)
     repeat'(first|refine M.v3 @nat_c @list_c @hay ?_|refine M.cs ?_ ?_<;>intro h|fail)
     ·have h':¬a=y:=by simpa using h
      simp[tupV,V.wk,V.wks,constV,Ty.view,hinf,rule,h',noTy]
     ·have h':a=y:=by simpa using h
      simp[tupV,V.wk,V.wks,constV,Ty.view,EC.view,hinf,rule,h']
    ·repeat' (first|refine M.w2 @nat_c @list_c ?_|refine M.gs ?_ ?_<;>intro h|refine M.bl ?_|fail)
     ·simp [tupV,V.wk,V.wks,constV,Ty.view,hinf,rule,hx3,noTy]
     ·exact absurd (by simpa using h) hx3
   ·clear hgood hLl hL hak hn hsh hcpT hty e64 hg hx2
    repeat'(first|refine M.w4 @nat_c @list_c @hxn @hyl ?_|refine M.gs ?_ ?_<;>intro h|refine M.bl ?_|refine M.cs ?_ ?_<;>intro h|fail)
    all_goals
     clear hxn hyl
     by_cases p1:x=natT<;>by_cases p2:y=listT<;>first
      |(exfalso;simp[p1,p2] at*;done)
      |(simp[tupV,V.wk,V.wks,constV,Ty.view,EC.view,hinf,rule,p1,p2,noTy];done)
      |(simp[tupV,V.wk,V.wks,constV,Ty.view,EC.view,hinf,rule,p1,p2];rfl)
      |(simp[tupV,V.wk,V.wks,constV,Ty.view,EC.view,hinf,rule,p1,p2,listT];done)
   ·have htw:=two_c x y (by omega) (by omega)
    have hok:=okTy_c (twoT x y) (by simp only[twoT,Ty.size,Ty.sizes];omega)
    refine M.v4 @nat_c @list_c @htw @hok ?_
    by_cases he:(twoT x y).err=0
    ·simp [tupV,V.wk,V.wks,constV,Ty.view,hinf,rule,okT,he]
    ·simp [tupV,V.wk,V.wks,constV,Ty.view,hinf,rule,okT,he]
  ·obtain ⟨x,y,z,hLL⟩:=len_3 hn
   subst hLL
   have hx:=e64 (hgood x (by simp))
   have hy:=e64 (hgood y (by simp))
   have hz:=e64 (hgood z (by simp))
   have ht:t.ty.size≤64:=e64 (hty (by rcases hk with hk|hk<;>rw[hk]<;>rfl))
   have hcp:=copyTy_c _ t.ty (Nat.le_refl _) (by omega)
   have hs1:=sameTy_c _ x t.ty (Nat.le_refl _) (by omega)
   have hf1:=fun_c t.ty t.ty (by omega) (by omega)
   obtain⟨k,i,th,xs⟩:=t
   simp only[Tm.kind_mk,Tm.ty_mk] at hk hinf ht hs1 hf1 hcp
   rcases hk with rfl|rfl
   ·have hf2:=fun_c natT (funT th th) (by decide) (by simp only[funT,Ty.size,Ty.sizes];omega)
    have hs2:=sameTy_c _ y (funT natT (funT th th)) (Nat.le_refl _) (by omega)
    have hs3:=sameTy_c _ z natT (Nat.le_refl _) (by omega)
    clear hgood hLl hL hak hn hsh hcpT hty e64 hg
    repeat'(first|refine M.w6 @nat_c @list_c @hs1 @hf1 @hf2 @hs2 ?_|refine M.c2 (hs3) ?_|refine M.c2 (hcp) ?_|refine M.gs ?_ ?_<;>intro h|refine M.bl ?_|refine M.cs ?_ ?_<;>intro h|fail)
    all_goals
     clear hs1 hf1 hcp hf2 hs2 hs3
     by_cases p1:x=th<;>by_cases p2:y=funT natT (funT th th)<;>by_cases p3:z=natT<;>first
      |(exfalso;simp[p1,p2,p3] at*;done)
      |(simp[tupV,V.wk,V.wks,constV,Ty.view,EC.view,hinf,rule,p1,p2,p3,noTy];done)
   ·have hf2:=fun_c listT (funT th th) (by decide) (by simp only[funT,Ty.size,Ty.sizes];omega)
    have hf3:=fun_c natT (funT listT (funT th th)) (by decide) (by simp only[funT,listT,Ty.size,Ty.sizes];omega)
    have hs2:=sameTy_c _ y (funT natT (funT listT (funT th th))) (Nat.le_refl _) (by omega)
    have hs3:=sameTy_c _ z listT (Nat.le_refl _) (by omega)
    clear hgood hLl hL hak hn hsh hcpT hty e64 hg
    repeat'(first|refine M.w6 @nat_c @list_c @hs1 @hf1 @hf2 @hf3 ?_|refine M.c2 (hs2) ?_|refine M.c2 (hs3) ?_|refine M.c2 (hcp) ?_|refine M.gs ?_ ?_<;>intro h|refine M.bl ?_|refine M.cs ?_ ?_<;>intro h|fail)
    all_goals
     clear hs1 hf1 hcp hf2 hs2 hs3
     by_cases p1:x=th<;>by_cases p2:y=funT natT (funT listT (funT th th))<;>by_cases p3:z=listT<;>first
      |(exfalso;simp[p1,p2,p3] at*;done)
      |(simp[tupV,V.wk,V.wks,constV,Ty.view,EC.view,hinf,rule,p1,p2,p3,noTy];done)
end Go.Ab
namespace Go.Ab
open Go Go.Proofs
set_option maxRecDepth 100000
set_option maxHeartbeats 4000000
set_option linter.all false
def HT(n:Nat):Prop:=∀(d:Dk) (g:List Ty) (t:Ty) (k:Int),k=(n:Int)-2→d.ok→smalls g→t.small→1≤n→(n=1→t.size=1)→g.length+3*n≤10000→
 AC E 10 [.ptr 0 0,.s .ty g,.agg t.view,.i k] ⟨1,[(0,.var d.cells)]⟩ (.agg (Dk.tm n d g t).1.view) ⟨1,[(0,.var (Dk.tm n d g t).2.cells)]⟩
theorem tm_full{n:Nat}(hn:n≤7)(d:Dk){g:List Ty}{t:Ty}(hg:smalls g)(ht:t.small)(h1:1≤n)(h2:n=1→t.size=1):(Dk.tm n d g t).1.full≤50000:=by
 have:=(Dk.tm_mk n d g t hg ht h1 h2).full hg ht
 have:3^n≤3^7:=Nat.pow_le_pow_right (by omega) hn
 omega
theorem fin_c(n:Nat)(H:HT n)(hn:n≤7)(depth:Int)(hdep:depth=(n:Int)-1)(d:Dk)(hd:d.ok)(g:List Ty)(t:Ty)(hg:smalls g)(ht:t.small)(h0:n=0→t.size=1)(hl:g.length+3*(n+1)≤10000):
 AW E Tryz.f10.ntmps 1 (partAt [1,1,1,1] (bodyOf Tryz.f10)) [(0,.ptr 0 0),(1,.s .ty g),(3,.i depth),(6,.ptr 1 0),(8,.ptr 2 0)]
  ⟨3,[(0,.var d.cells),(1,.var t.view),(2,.var [.i 0,.i 0,.i 0,.slice .nil (.t .ty []),.slice .nil (.t .tm [])])]⟩
  (retQ E 1 Tryz.f10.results.toList (.agg (d.fin (Dk.tm n) (decide (2≤n)) g t).1.view) ⟨1,[(0,.var (d.fin (Dk.tm n) (decide (2≤n)) g t).2.cells)]⟩):=by
 have hF:1≤n→∀d,∀t,t.small→(n=1→t.size=1)→(Dk.tm n d g t).1.full≤50000:=fun h1 d t ht h2=>tm_full hn d hg ht h1 h2
 have hok:∀d g t,d.ok→(Dk.tm n d g t).2.ok:=fun d g t h=>Dk.tm_ok n d g t h
 rcases small_cases ht with rfl|rfl|rfl|⟨a,b,ha,hb,h1,h2,rfl|rfl⟩
 ·show AW _ _ _ (Code.seq _ _) _ _ _
  by_cases hp:2≤n
  ·have hp':depth>0:=by omega
   have e:d.fin (Dk.tm n) (decide (2≤n)) g natT=if(d.next 5).1=0 then(sT (Dk.tm n (d.next 5).2 g natT).1,(Dk.tm n (d.next 5).2 g natT).2)
    else if(d.next 5).1=1 then(apT (apT plusT (Dk.tm n (d.next 5).2 g natT).1) (Dk.tm n (Dk.tm n (d.next 5).2 g natT).2 g natT).1,(Dk.tm n (Dk.tm n (d.next 5).2 g natT).2 g natT).2)
    else if(d.next 5).1=2 then(apT (apT subT (Dk.tm n (d.next 5).2 g natT).1) (Dk.tm n (Dk.tm n (d.next 5).2 g natT).2 g natT).1,(Dk.tm n (Dk.tm n (d.next 5).2 g natT).2 g natT).2)
    else(numOf ((d.next 5).2.next 3).1,((d.next 5).2.next 3).2):=by simp[Dk.fin,natT,hp]
   have hd5:=Dk.next_ok hd 5
   have hx5:=next_c d 5 hd (by omega)
   have hx3:=next_c (d.next 5).2 3 hd5 (by omega)
   have a1:=H (d.next 5).2 g natT (depth-1) (by omega) hd5 hg small_nat (by omega) (by omega) (by omega)
   have a2:=H (Dk.tm n (d.next 5).2 g natT).2 g natT (depth-1) (by omega) (hok _ _ _ hd5) hg small_nat (by omega) (by omega) (by omega)
   have f1:=hF (by omega) (d.next 5).2 natT small_nat (by omega)
   have f2:=hF (by omega) (Dk.tm n (d.next 5).2 g natT).2 natT small_nat (by omega)
   have hs:=n_c 5 [(Dk.tm n (d.next 5).2 g natT).1] (by simp;omega)
   have p1:plusT.full≤18:=by decide
   have p2:subT.full≤36:=by decide
   have ap:=appMake_c plusT [(Dk.tm n (d.next 5).2 g natT).1,(Dk.tm n (Dk.tm n (d.next 5).2 g natT).2 g natT).1] (by simp;omega)
   have asb:=appMake_c subT [(Dk.tm n (d.next 5).2 g natT).1,(Dk.tm n (Dk.tm n (d.next 5).2 g natT).2 g natT).1] (by simp;omega)
   have hnum:=num_c ((d.next 5).2.next 3).1
   repeat'(first|refine M.w6 @hx5 @hx3 @a1 @a2 @plus_c @sub_c ?_|refine M.c2 (ap) ?_|refine M.c2 (asb) ?_|refine M.c2 (hnum) ?_|refine M.c2 (hs) ?_|refine M.bl ?_|refine M.cs ?_ ?_<;>intro h|fail)
   all_goals first
    |exact absurd hp' (by simpa using h)
    |skip
   ·have e:=e.trans (if_pos (by simpa using h))
    (exact M.n2 rh1 (h6:=(by(repeat'(first|exact trivial|refine And.intro ?_ ?_|refine⟨_,U,_,U,_,U,?_⟩|exact VLe.of_eq (by simp[Sto.upd,e,sT])));done)) (h8:=(by simp[tupV,V.wk,V.wks,constV,Ty.view,Tm.view,e,sT])))
   ·rename_i h0
    have e:=e.trans ((if_neg (by simpa using h0)).trans (if_pos (by simpa using h)))
    (exact M.n2 rh1 (h6:=(by(repeat'(first|exact trivial|refine And.intro ?_ ?_|refine⟨_,U,_,U,_,U,?_⟩|exact VLe.of_eq (by simp[Sto.upd,e,apT])));done)) (h8:=(by simp[tupV,V.wk,V.wks,constV,Ty.view,Tm.view,e,apT])))
   ·rename_i h0 h1
    have e:=e.trans ((if_neg (by simpa using h0)).trans ((if_neg (by simpa using h1)).trans (if_pos (by simpa using h))))
    (exact M.n2 rh1 (h6:=(by(repeat'(first|exact trivial|refine And.intro ?_ ?_|refine⟨_,U,_,U,_,U,?_⟩|exact VLe.of_eq (by simp[Sto.upd,e,apT])));done)) (h8:=(by simp[tupV,V.wk,V.wks,constV,Ty.view,Tm.view,e,apT])))
   ·rename_i h0 h1
    have e:=e.trans ((if_neg (by simpa using h0)).trans ((if_neg (by simpa using h1)).trans (if_neg (by simpa using h))))
    (exact M.n2 rh1 (h6:=(by(repeat'(first|exact trivial|refine And.intro ?_ ?_|refine⟨_,U,_,U,_,U,?_⟩|exact VLe.of_eq (by simp[Sto.upd,e])));done)) (h8:=(by simp[tupV,V.wk,V.wks,constV,Ty.view,Tm.view,e])))
  ·have hp':¬depth>0:=by omega
   have e:d.fin (Dk.tm n) (decide (2≤n)) g natT=(numOf (d.next 3).1,(d.next 3).2):=by simp[Dk.fin,natT,hp]
   have hx3:=next_c d 3 hd (by omega)
   have hnum:=num_c (d.next 3).1
   repeat'(first|refine M.v2 @hx3 @hnum ?_|refine M.cs ?_ ?_<;>intro h|fail)
   all_goals first
    |exact absurd hp' (by simpa using h)
    |skip
   (exact M.n2 rh1 (h6:=(by(repeat'(first|exact trivial|refine And.intro ?_ ?_|refine⟨_,U,_,U,_,U,?_⟩|exact VLe.of_eq (by simp[Sto.upd,e])));done)) (h8:=(by simp[tupV,V.wk,V.wks,constV,Ty.view,Tm.view,e])))
 ·show AW _ _ _ (Code.seq _ _) _ _ _
  have hN:=n_c 7 [] (by simp)
  by_cases hp:2≤n
  ·have hp':depth>0:=by omega
   have e:d.fin (Dk.tm n) (decide (2≤n)) g listT=if(d.next 2).1=0 then(nT 8 [(Dk.tm n (d.next 2).2 g natT).1,(Dk.tm n (Dk.tm n (d.next 2).2 g natT).2 g listT).1],(Dk.tm n (Dk.tm n (d.next 2).2 g natT).2 g listT).2) else(nT 7 [],(d.next 2).2):=by simp[Dk.fin,listT,hp]
   have hd2:=Dk.next_ok hd 2
   have hx2:=next_c d 2 hd (by omega)
   have a1:=H (d.next 2).2 g natT (depth-1) (by omega) hd2 hg small_nat (by omega) (by omega) (by omega)
   have a2:=H (Dk.tm n (d.next 2).2 g natT).2 g listT (depth-1) (by omega) (hok _ _ _ hd2) hg small_list (by omega) (by omega) (by omega)
   have f1:=hF (by omega) (d.next 2).2 natT small_nat (by omega)
   have f2:=hF (by omega) (Dk.tm n (d.next 2).2 g natT).2 listT small_list (by omega)
   have hs:=n_c 8 [(Dk.tm n (d.next 2).2 g natT).1,(Dk.tm n (Dk.tm n (d.next 2).2 g natT).2 g listT).1] (by simp;omega)
   repeat'(first|refine M.w6 @hx2 @a1 @a2 @nat_c @hs @hN ?_|refine M.gs ?_ ?_<;>intro h|refine M.bl ?_|refine M.cs ?_ ?_<;>intro h|fail)
   all_goals first
    |exact absurd hp' (by simpa using h)
    |skip
   ·have e:=e.trans (if_pos (by simpa using h))
    (exact M.n2 rh1 (h6:=(by(repeat'(first|exact trivial|refine And.intro ?_ ?_|refine⟨_,U,_,U,_,U,?_⟩|exact VLe.of_eq (by simp[Sto.upd,e,nT])));done)) (h8:=(by simp[tupV,V.wk,V.wks,constV,Ty.view,Tm.view,e,nT])))
   ·have e:=e.trans (if_neg (by simpa using h))
    (exact M.n2 rh1 (h6:=(by(repeat'(first|exact trivial|refine And.intro ?_ ?_|refine⟨_,U,_,U,_,U,?_⟩|exact VLe.of_eq (by simp[Sto.upd,e,nT])));done)) (h8:=(by simp[tupV,V.wk,V.wks,constV,Ty.view,Tm.view,e,nT])))
  ·have hp':¬depth>0:=by omega
   have e:d.fin (Dk.tm n) (decide (2≤n)) g listT=(nT 7 [],d):=by simp[Dk.fin,listT,hp]
   repeat'(first|refine M.w1 @hN ?_|refine M.gs ?_ ?_<;>intro h|refine M.bl ?_|fail)
   all_goals first
    |exact absurd hp' (by simpa using h)
    |skip
   (exact M.n2 rh1 (h6:=(by(repeat'(first|exact trivial|refine And.intro ?_ ?_|refine⟨_,U,_,U,_,U,?_⟩|exact VLe.of_eq (by simp[Sto.upd,e,nT])));done)) (h8:=(by simp[tupV,V.wk,V.wks,constV,Ty.view,Tm.view,e,nT])))
 ·show AW _ _ _ (Code.seq _ _) _ _ _
  have hN:=n_c 13 [] (by simp)
  have e:d.fin (Dk.tm n) (decide (2≤n)) g unitT=(nT 13 [],d):=by simp[Dk.fin,unitT]
  refine M.v1 @hN ?_
  (exact M.n2 rh1 (h8:=(by simp[tupV,V.wk,V.wks,constV,Ty.view,Tm.view,e,nT])))
 ·have hn0:n≠0:=fun h=>by have:=h0 h;rw[two_size] at this;omega
  have sa:=small_one ha h1
  have sb:=small_one hb h2
  have e:d.fin (Dk.tm n) (decide (2≤n)) g (twoT a b)=(nT 10 [(Dk.tm n d g a).1,(Dk.tm n (Dk.tm n d g a).2 g b).1],(Dk.tm n (Dk.tm n d g a).2 g b).2):=by simp[Dk.fin,twoT]
  have a1:=H d g a (depth-1) (by omega) hd hg sa (by omega) (fun _=>h1) (by omega)
  have a2:=H (Dk.tm n d g a).2 g b (depth-1) (by omega) (hok _ _ _ hd) hg sb (by omega) (fun _=>h2) (by omega)
  have f1:=hF (by omega) d a sa (fun _=>h1)
  have f2:=hF (by omega) (Dk.tm n d g a).2 b sb (fun _=>h2)
  have hs:=n_c 10 [(Dk.tm n d g a).1,(Dk.tm n (Dk.tm n d g a).2 g b).1] (by simp;omega)
  have l0:0<(twoT a b).args.length:=by simp[twoT]
  have l1:1<(twoT a b).args.length:=by simp[twoT]
  show AW _ _ _ (Code.seq _ _) _ _ _
  refine M.v3 @a1 @a2 @hs ?_
  (exact M.n2 rh1 (h8:=(by simp[tupV,V.wk,V.wks,constV,Ty.view,Tm.view,e,nT])))
 ·have hn0:n≠0:=fun h=>by have:=h0 h;rw[fun_size] at this;omega
  have sa:=small_one ha h1
  have sb:=small_one hb h2
  have hga:=smalls_app hg (smalls_cons sa smalls_nil)
  have e:d.fin (Dk.tm n) (decide (2≤n)) g (funT a b)=(lmT a (Dk.tm n d (g++[a]) b).1,(Dk.tm n d (g++[a]) b).2):=by simp[Dk.fin,funT]
  have a1:=H d (g++[a]) b (depth-1) (by omega) hd hga sb (by omega) (fun _=>h2) (by simp;omega)
  have f1:=tm_full hn d hga sb (by omega) (fun _=>h2)
  have hlo:=longer_c g [a] (by simp;omega)
  have hs:=t_c 2 a [(Dk.tm n d (g++[a]) b).1] (by simp;omega) (by omega)
  have l0:0<(funT a b).args.length:=by simp[funT]
  have l1:1<(funT a b).args.length:=by simp[funT]
  show AW _ _ _ (Code.seq _ _) _ _ _
  refine M.v3 @a1 @hlo @hs ?_
  (exact M.n2 rh1 (h8:=(by simp[tupV,V.wk,V.wks,constV,Ty.view,Tm.view,e,lmT])))
end Go.Ab
