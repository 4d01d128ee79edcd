/- A part of the proofs of this seat's statements: S194. It has no conditions of its own. -/
import Derived.Test.YtcohcngdoeadgaaGreatDoorXD1
import Derived.Test.YtcohcngdoeadgaaGreatDoorXDT1
import Derived.Test.YtcohcngdoeadgaaGreatDoorST1
namespace Go.Ab
open Go Go.Proofs
set_option maxRecDepth 100000
set_option maxHeartbeats 4000000
set_option linter.all false
theorem formulaOrder_c(l:List Int):PC E 4 [.s .int l] (.bool true):=by
 by_cases hl:l.length≤500
 case neg=>
  have hf:=few_f l hl
  refine AC.mk Tryz.func4 rfl rfl rfl rfl rfl (Nat.le_of_ble_eq_true rfl) ?_
  repeat'(first|((with_reducible refine D.nil ?_);refine AX.nilL ?_)|((with_reducible refine D.move ?_);refine L.mv U U U ?_)|((with_reducible refine D.assign ?_);refine L.asg U U U ?_)|((with_reducible refine D.call ?_);first|refine L.c2 (sane07_c) U U U U ?_|refine L.c2 (hf) U U U U ?_)|((with_reducible refine D.not ?_);refine L.nt U U U ?_)|((with_reducible refine D.aw ?_);(fail_if_success with_reducible refine D.stopR (id:=5) ?_);(fail_if_success with_reducible refine D.stopS (id:=5) ?_);first|refine K.sq (AW.regL ?_)|refine K.sq (K.sq ?_)|refine AW.regL ?_|refine AW.condT U ?_|refine AW.condF U ?_|refine AW.skip ?_|refine AW.ret ?_)|with_reducible refine K.tN ?_|with_reducible refine K.tR ?_|with_reducible refine K.r1 (by with_unfolding_all rfl) (by with_unfolding_all rfl) ?_)
  all_goals first
   |rfl
   |(exfalso;simp at h;done)
 have hf:=few_t l hl
 have hn:=new_c l
 have d0:=deck_ok hl
 have hcx:=context_c (Dk.mk l 0) d0
 have hog:=Dk.ctx_smalls (Dk.mk l 0)
 have hogl:=Dk.ctx_len (Dk.mk l 0)
 have d1:=Dk.ctx_ok d0
 generalize (Dk.mk l 0).ctx.1=og at*
 generalize (Dk.mk l 0).ctx.2=D1 at*
 have tx:=mkFm_c 2 D1 og 2 (by omega) rfl d1 hog (by omega)
 obtain⟨gx1,gx2,gx3⟩:=Dk.fm_good 2 D1 og hog
 have ox:=Dk.fm_okT 2 D1 og hog
 have d2:=Dk.fm_ok 2 D1 og d1
 generalize (Dk.fm 2 D1 og).1=x at*
 generalize (Dk.fm 2 D1 og).2=D2 at*
 have ix:x.ixr:=okT_ixr ox gx1 (by omega)
 have ty:=reduced_c _ x D2 (Nat.le_refl _) (by omega) d2
 have fy:=redF_full x D2
 have d3:=redF_ok x D2 d2
 generalize (redF D2 x).1=y at*
 generalize (redF D2 x).2=D3 at*
 have tz:=reduced_c _ x D3 (Nat.le_refl _) (by omega) d3
 have fz:=redF_full x D3
 have d4:=redF_ok x D3 d3
 generalize (redF D3 x).1=z at*
 generalize (redF D3 x).2=D4 at*
 have t3:=next_c D4 3 d4 (by omega)
 have d5:=Dk.next_ok d4 3
 generalize (D4.next 3).1=r at*
 generalize (D4.next 3).2=D5 at*
 have tw:=bentFm_c D5 d5 x (by omega)
 obtain⟨fw,iw,d6⟩:=bentF_ok D5 d5 x (by omega) ix
 generalize (bentF D5 x).1=w at*
 generalize (bentF D5 x).2=D6 at*
 have fin:∀u:Fm,u.full<274877906944→(mtchF x y=0→mtchF y u=0→mtchF x u≠11)∧(mtchF x y=0→mtchF y x≠11)∧(mtchF x u=0→mtchF u x=0):=fun u hu=>
  ⟨fun h1 h2=>by rw[mtchF_trans h1 h2];omega,fun h1=>by rw[mtchF_sym h1];omega,fun h1=>mtchF_sym h1⟩
 have c1:=gfMatch_c x y (by omega) (by omega)
 have c4:=gfMatch_c y x (by omega) (by omega)
 refine AC.mk Tryz.func4 rfl rfl rfl rfl rfl (Nat.le_of_ble_eq_true rfl) ?_
 repeat'(first|((with_reducible refine D.nil ?_);first|refine AX.nilL ?_|refine AX.nilD (by kernel_rfl) ?_)|((with_reducible refine D.load ?_);refine L.ldb U U U U U U ?_)|((with_reducible refine D.move ?_);refine L.mv U U U ?_)|((with_reducible refine D.assign ?_);refine L.asg U U U ?_)|((with_reducible refine D.bin ?_);refine L.bn U U U U U ?_)|((with_reducible refine D.call ?_);first|refine L.c2 (sane07_c) U U U U ?_|refine L.c2 (hf) U U U U ?_|(apply L.cb2 (hn) [] 1 rfl;rfl;rfl;rfl;rfl;rfl;rfl;(focus((repeat'(first|exact trivial));done));rfl;rfl;rfl;rfl)|(apply L.cb2 (hcx) [0] 0 rfl;rfl;rfl;rfl;rfl;rfl;rfl;(focus((repeat'(first|exact trivial|refine And.intro ?_ ?_|refine⟨_,U,_,U,_,U,?_⟩|exact VLe.refl _));done));rfl;rfl;rfl;rfl)|(apply L.cb2 (tx) [0] 0 rfl;rfl;rfl;rfl;rfl;rfl;rfl;(focus((repeat'(first|exact trivial|refine And.intro ?_ ?_|refine⟨_,U,_,U,_,U,?_⟩|exact VLe.refl _));done));rfl;rfl;rfl;rfl)|(apply L.cb2 (ty) [0] 0 rfl;rfl;rfl;rfl;rfl;rfl;rfl;(focus((repeat'(first|exact trivial|refine And.intro ?_ ?_|refine⟨_,U,_,U,_,U,?_⟩|exact VLe.refl _));done));rfl;rfl;rfl;rfl)|(apply L.cb2 (tz) [0] 0 rfl;rfl;rfl;rfl;rfl;rfl;rfl;(focus((repeat'(first|exact trivial|refine And.intro ?_ ?_|refine⟨_,U,_,U,_,U,?_⟩|exact VLe.refl _));done));rfl;rfl;rfl;rfl)|(apply L.cb2 (t3) [0] 0 rfl;rfl;rfl;rfl;rfl;rfl;rfl;(focus((repeat'(first|exact trivial|refine And.intro ?_ ?_|refine⟨_,U,_,U,_,U,?_⟩|exact VLe.refl _));done));rfl;rfl;rfl;rfl)|(apply L.cb2 (tw) [0] 0 rfl;rfl;rfl;rfl;rfl;rfl;rfl;(focus((repeat'(first|exact trivial|refine And.intro ?_ ?_|refine⟨_,U,_,U,_,U,?_⟩|exact VLe.refl _));done));rfl;rfl;rfl;rfl))|((with_reducible refine D.alloc ?_);refine L.al U U U ?_)|((with_reducible refine D.store ?_);refine L.st U U U U U U U U U ?_)|((with_reducible refine D.not ?_);refine L.nt U U U ?_)|((with_reducible refine D.aw ?_);(fail_if_success with_reducible refine D.stopR (id:=10) ?_);(fail_if_success with_reducible refine D.stopS (id:=10) ?_);first|refine K.sq (AW.regL ?_)|refine K.sq (AW.regD mixed (by kernel_rfl) ?_)|refine K.sq (K.sq ?_)|refine AW.regL ?_|refine AW.condF U ?_|refine AW.condS U (fun h=> ?_) (fun h=> ?_)|refine AW.skip ?_)|with_reducible refine K.tN ?_)
 ·obtain ⟨f1,f2,f3⟩:=fin w (by omega)
  have c2:=gfMatch_c y w (by omega) (by omega)
  have c3:=gfMatch_c x w (by omega) (by omega)
  have c5:=gfMatch_c w x (by omega) (by omega)
  clear hf hn hcx tx ty tz t3 tw fin h
  generalize mtchF x y=a1 at*
  generalize mtchF y w=a2 at*
  generalize mtchF x w=a3 at*
  generalize mtchF y x=a4 at*
  generalize mtchF w x=a5 at*
  repeat'(first|((with_reducible refine D.nil ?_);first|refine AX.nilL ?_|refine AX.nilD (by kernel_rfl) ?_)|((with_reducible refine D.load ?_);refine L.ldb U U U U U U ?_)|((with_reducible refine D.move ?_);first|refine L.mv U U U ?_|refine AX.sk U U ?_|((fail_if_success refine AX.wt U ?_);refine AX.gs U U (fun _=>trivial) (fun h=> ?_) (fun h=> ?_)))|((with_reducible refine D.assign ?_);refine L.asg U U U ?_)|((with_reducible refine D.bin ?_);first|refine L.bn U U U U U ?_|refine AX.sk U U ?_)|((with_reducible refine D.call ?_);first|refine L.c2 (c1) U U U U ?_|refine L.c2 (c2) U U U U ?_|refine L.c2 (c3) U U U U ?_|refine L.c2 (c4) U U U U ?_|refine L.c2 (c5) U U U U ?_)|((with_reducible refine D.pick ?_);first|refine L.pk U U U U ?_|refine AX.sk U U ?_)|((with_reducible refine D.aw ?_);first|refine K.sq (AW.regL ?_)|refine K.sq (AW.regD mixed (by kernel_rfl) ?_)|refine K.sq (K.sq ?_)|refine AW.regL ?_|refine AW.condT U ?_|refine AW.condF U ?_|refine AW.condS U (fun h=> ?_) (fun h=> ?_)|refine AW.skip ?_|refine AW.ret ?_)|with_reducible refine K.tN ?_|with_reducible refine K.tR ?_|with_reducible refine K.r1 (by with_unfolding_all rfl) (by with_unfolding_all rfl) ?_)
  all_goals first
   |rfl
   |(exfalso;simp only[beq_iff_eq,beq_eq_false_iff_ne,ne_eq,bne_iff_ne,bne_eq_false_iff_eq] at*;omega)
   |(simp only[beq_iff_eq,beq_eq_false_iff_ne,ne_eq,bne_iff_ne,bne_eq_false_iff_eq] at*;simp_all;done)
 ·obtain ⟨f1,f2,f3⟩:=fin z (by omega)
  have c2:=gfMatch_c y z (by omega) (by omega)
  have c3:=gfMatch_c x z (by omega) (by omega)
  have c5:=gfMatch_c z x (by omega) (by omega)
  clear hf hn hcx tx ty tz t3 tw fin h
  generalize mtchF x y=a1 at*
  generalize mtchF y z=a2 at*
  generalize mtchF x z=a3 at*
  generalize mtchF y x=a4 at*
  generalize mtchF z x=a5 at*
  repeat'(first|((with_reducible refine D.nil ?_);first|refine AX.nilL ?_|refine AX.nilD (by kernel_rfl) ?_)|((with_reducible refine D.load ?_);refine L.ldb U U U U U U ?_)|((with_reducible refine D.move ?_);first|refine L.mv U U U ?_|refine AX.sk U U ?_|((fail_if_success refine AX.wt U ?_);refine AX.gs U U (fun _=>trivial) (fun h=> ?_) (fun h=> ?_)))|((with_reducible refine D.assign ?_);refine L.asg U U U ?_)|((with_reducible refine D.bin ?_);first|refine L.bn U U U U U ?_|refine AX.sk U U ?_)|((with_reducible refine D.call ?_);first|refine L.c2 (c1) U U U U ?_|refine L.c2 (c2) U U U U ?_|refine L.c2 (c3) U U U U ?_|refine L.c2 (c4) U U U U ?_|refine L.c2 (c5) U U U U ?_)|((with_reducible refine D.pick ?_);first|refine L.pk U U U U ?_|refine AX.sk U U ?_)|((with_reducible refine D.aw ?_);first|refine K.sq (AW.regL ?_)|refine K.sq (AW.regD mixed (by kernel_rfl) ?_)|refine K.sq (K.sq ?_)|refine AW.regL ?_|refine AW.condT U ?_|refine AW.condF U ?_|refine AW.condS U (fun h=> ?_) (fun h=> ?_)|refine AW.skip ?_|refine AW.ret ?_)|with_reducible refine K.tN ?_|with_reducible refine K.tR ?_|with_reducible refine K.r1 (by with_unfolding_all rfl) (by with_unfolding_all rfl) ?_)
  all_goals first
   |rfl
   |(exfalso;simp only[beq_iff_eq,beq_eq_false_iff_ne,ne_eq,bne_iff_ne,bne_eq_false_iff_eq] at*;omega)
   |(simp only[beq_iff_eq,beq_eq_false_iff_ne,ne_eq,bne_iff_ne,bne_eq_false_iff_eq] at*;simp_all;done)
end Go.Ab
