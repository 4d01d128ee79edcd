/- A part of the proofs of this seat's statements: S190, S191, S192, S61. It has no conditions of its own. -/
import Derived.Test.YtcohcngdoeadgaaGreatDoorS5
import Derived.Test.YtcohcngdoeadgaaGreatDoorS4
import Derived.Test.YtcohcngdoeadgaaGreatDoorD1
import Derived.Test.YtcohcngdoeadgaaGreatDoorS3
import Derived.Test.YtcohcngdoeadgaaGreatDoorA2
import Derived.Test.YtcohcngdoeadgaaGreatDoorS1
namespace Go.Ab
open Go Go.Proofs
set_option maxRecDepth 100000
set_option maxHeartbeats 4000000
set_option linter.all false
theorem gmtch_c(a b:Tm)(ha:a.full<274877906944)(hb:b.full<274877906944)(steps:Int):PC E 66 [.agg a.view,.agg b.view,.i steps] (.i (mtchR a b steps)):=by
 have h1:=check_c a (by omega)
 have h2:=check_c b (by omega)
 have h3:=sameTm3_c a b (by omega)
 have h4:=gNormal_c a steps ha
 have h5:=gNormal_c b steps hb
 unfold mtchR
 by_cases ea:a.err=0
 case neg=>
  rw[if_pos ea]
  refine AC.mk Tryz.func66 rfl rfl rfl rfl rfl (Nat.le_of_ble_eq_true rfl) ?_
  repeat'(first|((with_reducible refine D.nil ?_);refine AX.nilL ?_)|((with_reducible refine D.load ?_);refine L.ldb U U U U U U ?_)|((with_reducible refine D.move ?_);refine L.mv U U U ?_)|((with_reducible refine D.assign ?_);refine L.asg U U U ?_)|((with_reducible refine D.bin ?_);refine L.bn U U U U U ?_)|((with_reducible refine D.call ?_);refine L.c2 (h1) U U U U ?_)|((with_reducible refine D.box ?_);refine L.bx U U U U ?_)|((with_reducible refine D.aw ?_);first|refine K.sq (AW.regL ?_)|refine K.sq (K.sq ?_)|refine AW.regL ?_|refine AW.condS U (fun h=> ?_) (fun h=> ?_)|refine AW.skip ?_|refine AW.ret ?_)|with_reducible refine K.tN ?_|with_reducible refine K.tR ?_|with_reducible refine K.r1 (by with_unfolding_all rfl) (by with_unfolding_all rfl) ?_)
  all_goals first
   |rfl
   |(exfalso;simp at h;exact ea h)
 rw[ea] at h1
 rw[if_neg (by simp[ea])]
 by_cases eb:b.err=0
 case neg=>
  rw[if_pos eb]
  refine AC.mk Tryz.func66 rfl rfl rfl rfl rfl (Nat.le_of_ble_eq_true rfl) ?_
  repeat'(first|((with_reducible refine D.nil ?_);refine AX.nilL ?_)|((with_reducible refine D.load ?_);refine L.ldb U U U U U U ?_)|((with_reducible refine D.move ?_);refine L.mv U U U ?_)|((with_reducible refine D.assign ?_);refine L.asg U U U ?_)|((with_reducible refine D.bin ?_);refine L.bn U U U U U ?_)|((with_reducible refine D.call ?_);first|refine L.c2 (h1) U U U U ?_|refine L.c2 (h2) U U U U ?_)|((with_reducible refine D.box ?_);refine L.bx U U U U ?_)|((with_reducible refine D.aw ?_);first|refine K.sq (AW.regL ?_)|refine K.sq (K.sq ?_)|refine AW.regL ?_|refine AW.condF U ?_|refine AW.condS U (fun h=> ?_) (fun h=> ?_)|refine AW.skip ?_|refine AW.ret ?_)|with_reducible refine K.tN ?_|with_reducible refine K.tR ?_|with_reducible refine K.r1 (by with_unfolding_all rfl) (by with_unfolding_all rfl) ?_)
  all_goals first
   |rfl
   |(exfalso;simp at h;exact eb h)
 rw[eb] at h2
 rw[if_neg (by simp[eb])]
 by_cases eq:a=b
 ·rw [if_pos eq]
  rw[decide_eq_true eq] at h3
  refine AC.mk Tryz.func66 rfl rfl rfl rfl rfl (Nat.le_of_ble_eq_true rfl) ?_
  repeat'(first|((with_reducible refine D.nil ?_);refine AX.nilL ?_)|((with_reducible refine D.load ?_);refine L.ldb U U U U U U ?_)|((with_reducible refine D.move ?_);refine L.mv U U U ?_)|((with_reducible refine D.assign ?_);refine L.asg U U U ?_)|((with_reducible refine D.bin ?_);refine L.bn U U U U U ?_)|((with_reducible refine D.call ?_);first|refine L.c2 (h1) U U U U ?_|refine L.c2 (h2) U U U U ?_|refine L.c2 (h3) U U U U ?_)|((with_reducible refine D.box ?_);refine L.bx U U U U ?_)|((with_reducible refine D.aw ?_);first|refine K.sq (AW.regL ?_)|refine K.sq (K.sq ?_)|refine AW.regL ?_|refine AW.condT U ?_|refine AW.condF U ?_|refine AW.skip ?_|refine AW.ret ?_)|with_reducible refine K.tN ?_|with_reducible refine K.tR ?_|with_reducible refine K.r1 (by with_unfolding_all rfl) (by with_unfolding_all rfl) ?_)
  rfl
 rw[if_neg eq]
 rw[decide_eq_false eq] at h3
 have g1:(normR a steps).2.2=0→(normR a steps).1.full<274877906944:=fun h=>norm_full a steps h
 have g2:(normR b steps).2.2=0→(normR b steps).1.full<274877906944:=fun h=>norm_full b steps h
 generalize normR a steps=A at*
 generalize normR b steps=B at*
 obtain⟨x,n,e⟩:=A
 obtain⟨y,m,f⟩:=B
 dsimp only at h4 h5 g1 g2 ⊢
 by_cases he:e=0
 case neg=>
  rw[if_pos he]
  refine AC.mk Tryz.func66 rfl rfl rfl rfl rfl (Nat.le_of_ble_eq_true rfl) ?_
  repeat'(first|((with_reducible refine D.nil ?_);refine AX.nilL ?_)|((with_reducible refine D.load ?_);refine L.ldb U U U U U U ?_)|((with_reducible refine D.move ?_);refine L.mv U U U ?_)|((with_reducible refine D.assign ?_);refine L.asg U U U ?_)|((with_reducible refine D.bin ?_);refine L.bn U U U U U ?_)|((with_reducible refine D.call ?_);first|refine L.c2 (h1) U U U U ?_|refine L.c2 (h2) U U U U ?_|refine L.c2 (h3) U U U U ?_|refine L.c2 (h4) U U U U ?_)|((with_reducible refine D.extract ?_);refine L.ex U U U U ?_)|((with_reducible refine D.box ?_);refine L.bx U U U U ?_)|((with_reducible refine D.alloc ?_);refine L.al U U U ?_)|((with_reducible refine D.store ?_);refine L.st U U U U U U U U U ?_)|((with_reducible refine D.aw ?_);first|refine K.sq (AW.regL ?_)|refine K.sq (K.sq ?_)|refine AW.regL ?_|refine AW.condF U ?_|refine AW.condS U (fun h=> ?_) (fun h=> ?_)|refine AW.skip ?_|refine AW.ret ?_)|with_reducible refine K.tN ?_|with_reducible refine K.tR ?_|with_reducible refine K.r1 (by with_unfolding_all rfl) (by with_unfolding_all rfl) ?_)
  all_goals first
   |rfl
   |(exfalso;simp at h;exact he h)
 subst he
 rw[if_neg (by simp)]
 by_cases hf:f=0
 case neg=>
  rw[if_pos hf]
  refine AC.mk Tryz.func66 rfl rfl rfl rfl rfl (Nat.le_of_ble_eq_true rfl) ?_
  repeat'(first|((with_reducible refine D.nil ?_);refine AX.nilL ?_)|((with_reducible refine D.load ?_);refine L.ldb U U U U U U ?_)|((with_reducible refine D.move ?_);refine L.mv U U U ?_)|((with_reducible refine D.assign ?_);refine L.asg U U U ?_)|((with_reducible refine D.bin ?_);refine L.bn U U U U U ?_)|((with_reducible refine D.call ?_);first|refine L.c2 (h1) U U U U ?_|refine L.c2 (h2) U U U U ?_|refine L.c2 (h3) U U U U ?_|refine L.c2 (h4) U U U U ?_|refine L.c2 (h5) U U U U ?_)|((with_reducible refine D.extract ?_);refine L.ex U U U U ?_)|((with_reducible refine D.box ?_);refine L.bx U U U U ?_)|((with_reducible refine D.alloc ?_);refine L.al U U U ?_)|((with_reducible refine D.store ?_);refine L.st U U U U U U U U U ?_)|((with_reducible refine D.aw ?_);first|refine K.sq (AW.regL ?_)|refine K.sq (K.sq ?_)|refine AW.regL ?_|refine AW.condF U ?_|refine AW.condS U (fun h=> ?_) (fun h=> ?_)|refine AW.skip ?_|refine AW.ret ?_)|with_reducible refine K.tN ?_|with_reducible refine K.tR ?_|with_reducible refine K.r1 (by with_unfolding_all rfl) (by with_unfolding_all rfl) ?_)
  all_goals first
   |rfl
   |(exfalso;simp at h;exact hf h)
 subst hf
 rw[if_neg (by simp)]
 have h6:=sameTm3_c x y (by have:=g1 rfl;omega)
 refine AC.mk Tryz.func66 rfl rfl rfl rfl rfl (Nat.le_of_ble_eq_true rfl) ?_
 repeat'(first|((with_reducible refine D.nil ?_);refine AX.nilL ?_)|((with_reducible refine D.load ?_);refine L.ldb U U U U U U ?_)|((with_reducible refine D.move ?_);refine L.mv U U U ?_)|((with_reducible refine D.assign ?_);refine L.asg U U U ?_)|((with_reducible refine D.bin ?_);refine L.bn U U U U U ?_)|((with_reducible refine D.call ?_);first|refine L.c2 (h1) U U U U ?_|refine L.c2 (h2) U U U U ?_|refine L.c2 (h3) U U U U ?_|refine L.c2 (h4) U U U U ?_|refine L.c2 (h5) U U U U ?_|refine L.c2 (h6) U U U U ?_)|((with_reducible refine D.extract ?_);refine L.ex U U U U ?_)|((with_reducible refine D.box ?_);refine L.bx U U U U ?_)|((with_reducible refine D.alloc ?_);refine L.al U U U ?_)|((with_reducible refine D.store ?_);refine L.st U U U U U U U U U ?_)|((with_reducible refine D.not ?_);refine L.nt U U U ?_)|((with_reducible refine D.aw ?_);first|refine K.sq (AW.regL ?_)|refine K.sq (K.sq ?_)|refine AW.regL ?_|refine AW.condF U ?_|refine AW.condS U (fun h=> ?_) (fun h=> ?_)|refine AW.skip ?_|refine AW.ret ?_)|with_reducible refine K.tN ?_|with_reducible refine K.tR ?_|with_reducible refine K.r1 (by with_unfolding_all rfl) (by with_unfolding_all rfl) ?_)
 ·have:¬x=y:=by simpa using h
  rw[if_neg this]
  rfl
 ·have:x=y:=by simpa using h
  rw[if_pos this]
  rfl
theorem gfmatch_c:∀(n:Nat) (f g:Fm),f.full≤n→n<274877906944→g.full<274877906944→f.shape=true→g.shape=true→PC E 32 [.agg f.view,.agg g.view] (.i (mtF f g)):=by
 intro n
 induction n with
 |zero=>intro f g h;have:=f.full_pos;omega
 |succ n ih=>
 intro f g hsz hb hg hfs hgs
 have hfull:=Fm.full_eq f
 have hgull:=Fm.full_eq g
 have h1:=sameTy2_c _ f.ty g.ty (Nat.le_refl _) (by omega)
 have he:=mtF_eq f g
 have hl:=lsum_len Tm.full Tm.full_pos f.terms
 have hl2:=lsum_len Fm.full Fm.full_pos f.args
 by_cases hk:f.kind=g.kind
 case neg=>
  rw[if_neg (fun h=>hk h.1)] at he
  rw[he]
  refine AC.mk Tryz.func32 rfl rfl rfl rfl rfl (Nat.le_of_ble_eq_true rfl) ?_
  repeat'(first|((with_reducible refine D.nil ?_);refine AX.nilL ?_)|((with_reducible refine D.load ?_);first|refine L.ldb U U U U U U ?_|refine AX.sk U U ?_)|((with_reducible refine D.move ?_);refine L.mv U U U ?_)|((with_reducible refine D.fieldAddr ?_);first|refine L.fab U U U U U ?_|refine AX.sk U U ?_|((fail_if_success refine AX.wt U ?_);refine AX.gs U U (fun _=>trivial) (fun h=> ?_) (fun h=> ?_)))|((with_reducible refine D.assign ?_);refine L.asg U U U ?_)|((with_reducible refine D.bin ?_);refine L.bn U U U U U ?_)|((with_reducible refine D.call ?_);first|refine L.c2 (h1) U U U U ?_|refine AX.sk U U ?_)|((with_reducible refine D.box ?_);refine L.bx U U U U ?_)|((with_reducible refine D.not ?_);first|refine L.nt U U U ?_|refine AX.sk U U ?_)|((with_reducible refine D.pick ?_);refine L.pk U U U U ?_)|((with_reducible refine D.aw ?_);(fail_if_success with_reducible refine D.stopR (id:=3) ?_);(fail_if_success with_reducible refine D.stopS (id:=3) ?_);first|refine K.sq (AW.regL ?_)|refine K.sq (K.sq ?_)|refine AW.regL ?_|refine AW.condT U ?_|refine AW.condS U (fun h=> ?_) (fun h=> ?_)|refine AW.skip ?_|refine AW.ret ?_)|with_reducible refine K.tN ?_|with_reducible refine K.tR ?_|with_reducible refine K.r1 (by with_unfolding_all rfl) (by with_unfolding_all rfl) ?_)
  all_goals first
   |rfl
   |(exfalso;simp_all;done)
 by_cases ht:f.ty=g.ty
 case neg=>
  rw[if_neg (fun h=>ht h.2)] at he
  rw[he]
  rw[decide_eq_false ht] at h1
  refine AC.mk Tryz.func32 rfl rfl rfl rfl rfl (Nat.le_of_ble_eq_true rfl) ?_
  repeat'(first|((with_reducible refine D.nil ?_);refine AX.nilL ?_)|((with_reducible refine D.load ?_);first|refine L.ldb U U U U U U ?_|refine AX.sk U U ?_)|((with_reducible refine D.move ?_);refine L.mv U U U ?_)|((with_reducible refine D.fieldAddr ?_);first|refine L.fab U U U U U ?_|refine AX.sk U U ?_|((fail_if_success refine AX.wt U ?_);refine AX.gs U U (fun _=>trivial) (fun h=> ?_) (fun h=> ?_)))|((with_reducible refine D.assign ?_);refine L.asg U U U ?_)|((with_reducible refine D.bin ?_);refine L.bn U U U U U ?_)|((with_reducible refine D.call ?_);first|refine L.c2 (h1) U U U U ?_|refine AX.sk U U ?_)|((with_reducible refine D.box ?_);refine L.bx U U U U ?_)|((with_reducible refine D.not ?_);first|refine L.nt U U U ?_|refine AX.sk U U ?_)|((with_reducible refine D.pick ?_);refine L.pk U U U U ?_)|((with_reducible refine D.aw ?_);(fail_if_success with_reducible refine D.stopR (id:=3) ?_);(fail_if_success with_reducible refine D.stopS (id:=3) ?_);first|refine K.sq (AW.regL ?_)|refine K.sq (K.sq ?_)|refine AW.regL ?_|refine AW.condT U ?_|refine AW.ret ?_)|with_reducible refine K.tN ?_|with_reducible refine K.tR ?_|with_reducible refine K.r1 (by with_unfolding_all rfl) (by with_unfolding_all rfl) ?_)
  all_goals first
   |rfl
   |(exfalso;simp_all;done)
 rw[if_pos ⟨hk,ht⟩] at he
 rw[decide_eq_true ht] at h1
 obtain⟨l1,l2⟩:=same_lens hfs hgs hk
 refine AC.mk Tryz.func32 rfl rfl rfl rfl rfl (Nat.le_of_ble_eq_true rfl) ?_
 repeat'(first|((with_reducible refine D.nil ?_);refine AX.nilL ?_)|((with_reducible refine D.load ?_);first|refine L.ldb U U U U U U ?_|refine AX.sk U U ?_)|((with_reducible refine D.move ?_);refine L.mv U U U ?_)|((with_reducible refine D.fieldAddr ?_);first|refine L.fab U U U U U ?_|refine AX.sk U U ?_|((fail_if_success refine AX.wt U ?_);refine AX.gs U U (fun _=>trivial) (fun h=> ?_) (fun h=> ?_)))|((with_reducible refine D.assign ?_);refine L.asg U U U ?_)|((with_reducible refine D.bin ?_);refine L.bn U U U U U ?_)|((with_reducible refine D.call ?_);first|refine L.lnt U U U U ?_|refine L.c2 (h1) U U U U ?_|refine AX.sk U U ?_)|((with_reducible refine D.box ?_);refine L.bx U U U U ?_)|((with_reducible refine D.not ?_);first|refine L.nt U U U ?_|refine AX.sk U U ?_)|((with_reducible refine D.pick ?_);refine L.pk U U U U ?_)|((with_reducible refine D.aw ?_);first|refine K.sq (AW.regL ?_)|refine K.sq (K.sq ?_)|refine AW.regL ?_|refine AW.condT U ?_|refine AW.condF U ?_|refine AW.skip ?_|refine AW.ret ?_)|with_reducible refine K.tN ?_|with_reducible refine K.tR ?_|with_reducible refine K.r1 (by with_unfolding_all rfl) (by with_unfolding_all rfl) ?_)
 all_goals first
  |(exfalso;simp at h;omega)
  |(exfalso;simp at h;exact h hk)
  |skip
 refine AW.range f.terms.length (fun m=>∀j (h1:j<f.terms.length) (h2:j<g.terms.length),j<m→mtchR f.terms[j] g.terms[j] 1000=0)
  (fun m=>([(2,.ptr 0 0),(3,.ptr 1 0),(25,.s .tm f.terms),(26,.i f.terms.length),(27,.i m)],⟨2,[(0,.var f.view),(1,.var g.view)]⟩))
  (by omega) (fun m=>rfl) (fun m=>rfl) U (fun j _ _ h=>by omega) (Weak.mk [some 0,some 1] _ _ _ U U U U (by(repeat'(first|exact trivial|refine And.intro ?_ ?_|refine⟨_,U,_,U,?_⟩|exact VLe.refl _));done) (by(repeat'(first|exact trivial|refine And.intro ?_ ?_|refine⟨_,U,_,U,_,U,?_⟩|exact VLe.refl _));done)) ?_ ?_
 ·intro m hm hP
  have hm2:m<g.terms.length:=by omega
  have hs1:=lsum_mem Tm.full (List.getElem_mem hm)
  have hs2:=lsum_mem Tm.full (List.getElem_mem hm2)
  have hc:=gmtch_c f.terms[m] g.terms[m] (by omega) (by omega) 1000
  by_cases e0:mtchR f.terms[m] g.terms[m] 1000=0
  ·rw [e0] at hc
   repeat'(first|((with_reducible refine D.nil ?_);first|refine AX.nilL ?_|refine AX.nilD (by kernel_rfl) ?_)|((with_reducible refine D.load ?_);first|refine L.ldb U U U U U U ?_|refine L.lda U U U U U ?_)|((with_reducible refine D.move ?_);refine L.mv U U U ?_)|((with_reducible refine D.fieldAddr ?_);refine L.fab U U U U U ?_)|((with_reducible refine D.assign ?_);refine L.asg U U U ?_)|((with_reducible refine D.bin ?_);refine L.bn U U U U U ?_)|((with_reducible refine D.call ?_);refine L.c2 (hc) U U U U ?_)|((with_reducible refine D.alloc ?_);refine L.al U U U ?_)|((with_reducible refine D.store ?_);refine L.st U U U U U U U U U ?_)|((with_reducible refine D.indexAddr ?_);refine L.ixt _ U U U U U U U (by first|assumption|fail) ?_)|((with_reducible refine D.aw ?_);first|refine K.sq (AW.regL ?_)|refine K.sq (AW.regD mixed (by kernel_rfl) ?_)|refine AW.condF U ?_|refine AW.skip ?_)|with_reducible refine K.tN ?_|with_reducible refine K.bN ?_)
   refine⟨rfl,fun j h1 h2 hj=> ?_,(Weak.mk [some 0,some 1] _ _ _ U U U U (by(repeat'(first|exact trivial|refine And.intro ?_ ?_|refine⟨_,U,_,U,?_⟩|exact VLe.refl _));done) (by(repeat'(first|exact trivial|refine And.intro ?_ ?_|refine⟨_,U,_,U,_,U,?_⟩|exact VLe.refl _));done))⟩
   by_cases hjm:j=m
   ·subst hjm;exact e0
   ·exact hP j h1 h2 (by omega)
  ·have e1:=mtTs_at f.terms g.terms m hm hm2 hP e0
   rw[if_pos (by rw[e1];exact e0),e1] at he
   rw[he]
   repeat'(first|((with_reducible refine D.nil ?_);first|refine AX.nilL ?_|refine AX.nilD (by kernel_rfl) ?_)|((with_reducible refine D.load ?_);first|refine L.ldb U U U U U U ?_|refine L.lda U U U U U ?_)|((with_reducible refine D.move ?_);refine L.mv U U U ?_)|((with_reducible refine D.fieldAddr ?_);refine L.fab U U U U U ?_)|((with_reducible refine D.assign ?_);refine L.asg U U U ?_)|((with_reducible refine D.bin ?_);refine L.bn U U U U U ?_)|((with_reducible refine D.call ?_);refine L.c2 (hc) U U U U ?_)|((with_reducible refine D.alloc ?_);refine L.al U U U ?_)|((with_reducible refine D.store ?_);refine L.st U U U U U U U U U ?_)|((with_reducible refine D.indexAddr ?_);refine L.ixt _ U U U U U U U (by first|assumption|fail) ?_)|((with_reducible refine D.aw ?_);first|refine K.sq (AW.regL ?_)|refine K.sq (AW.regD mixed (by kernel_rfl) ?_)|refine AW.condS U (fun h=> ?_) (fun h=> ?_)|refine AW.skip ?_|refine AW.ret ?_)|with_reducible refine K.tN ?_|with_reducible refine K.bN ?_|with_reducible refine K.tR ?_|with_reducible refine K.bR ?_|with_reducible refine K.gR ?_|with_reducible refine K.r1 (by with_unfolding_all rfl) (by with_unfolding_all rfl) ?_)
   ·rfl
   ·exfalso;simp at h;exact e0 h
 ·intro hP
  have e1:=mtTs_none f.terms g.terms fun j h1 h2=>hP j h1 h2 (by omega)
  rw[if_neg (by simp[e1])] at he
  repeat'(first|((with_reducible refine D.nil ?_);refine AX.nilL ?_)|((with_reducible refine D.load ?_);refine L.ldb U U U U U U ?_)|((with_reducible refine D.move ?_);refine L.mv U U U ?_)|((with_reducible refine D.fieldAddr ?_);refine L.fab U U U U U ?_)|((with_reducible refine D.call ?_);refine L.lnt U U U U ?_)|((with_reducible refine D.aw ?_);first|refine K.sq (K.sq ?_)|refine AW.regL ?_)|with_reducible refine K.tN ?_)
  refine AW.range f.args.length (fun m=>∀j (h1:j<f.args.length) (h2:j<g.args.length),j<m→mtF f.args[j] g.args[j]=0)
   (fun m=>([(2,.ptr 0 0),(3,.ptr 1 0),(44,.s .fm f.args),(45,.i f.args.length),(46,.i m)],⟨2,[(0,.var f.view),(1,.var g.view)]⟩))
   (by omega) (fun m=>rfl) (fun m=>rfl) U (fun j _ _ h=>by omega) (Weak.mk [some 0,some 1] _ _ _ U U U U (by(repeat'(first|exact trivial|refine And.intro ?_ ?_|refine⟨_,U,_,U,?_⟩|exact VLe.refl _));done) (by(repeat'(first|exact trivial|refine And.intro ?_ ?_|refine⟨_,U,_,U,_,U,?_⟩|exact VLe.refl _));done)) ?_ ?_
  ·intro m hm hP2
   have hm2:m<g.args.length:=by omega
   have hs1:=lsum_mem Fm.full (List.getElem_mem hm)
   have hs2:=lsum_mem Fm.full (List.getElem_mem hm2)
   have hc:=ih f.args[m] g.args[m] (by omega) (by omega) (by omega) (fshape_args hfs (List.getElem_mem hm)) (fshape_args hgs (List.getElem_mem hm2))
   by_cases e0:mtF f.args[m] g.args[m]=0
   ·rw [e0] at hc
    repeat'(first|((with_reducible refine D.nil ?_);first|refine AX.nilL ?_|refine AX.nilD (by kernel_rfl) ?_)|((with_reducible refine D.load ?_);first|refine L.ldb U U U U U U ?_|refine L.lda U U U U U ?_)|((with_reducible refine D.move ?_);refine L.mv U U U ?_)|((with_reducible refine D.fieldAddr ?_);refine L.fab U U U U U ?_)|((with_reducible refine D.assign ?_);refine L.asg U U U ?_)|((with_reducible refine D.bin ?_);refine L.bn U U U U U ?_)|((with_reducible refine D.call ?_);refine L.c2 (hc) U U U U ?_)|((with_reducible refine D.alloc ?_);refine L.al U U U ?_)|((with_reducible refine D.store ?_);refine L.st U U U U U U U U U ?_)|((with_reducible refine D.indexAddr ?_);refine L.ixt _ U U U U U U U (by first|assumption|fail) ?_)|((with_reducible refine D.aw ?_);first|refine K.sq (AW.regL ?_)|refine K.sq (AW.regD mixed (by kernel_rfl) ?_)|refine AW.condF U ?_|refine AW.skip ?_)|with_reducible refine K.tN ?_|with_reducible refine K.bN ?_)
    refine⟨rfl,fun j h1 h2 hj=> ?_,(Weak.mk [some 0,some 1] _ _ _ U U U U (by(repeat'(first|exact trivial|refine And.intro ?_ ?_|refine⟨_,U,_,U,?_⟩|exact VLe.refl _));done) (by(repeat'(first|exact trivial|refine And.intro ?_ ?_|refine⟨_,U,_,U,_,U,?_⟩|exact VLe.refl _));done))⟩
    by_cases hjm:j=m
    ·subst hjm;exact e0
    ·exact hP2 j h1 h2 (by omega)
   ·have e3:=mtFs_at f.args g.args m hm hm2 hP2 e0
    rw[e3] at he
    rw[he]
    repeat'(first|((with_reducible refine D.nil ?_);first|refine AX.nilL ?_|refine AX.nilD (by kernel_rfl) ?_)|((with_reducible refine D.load ?_);first|refine L.ldb U U U U U U ?_|refine L.lda U U U U U ?_)|((with_reducible refine D.move ?_);refine L.mv U U U ?_)|((with_reducible refine D.fieldAddr ?_);refine L.fab U U U U U ?_)|((with_reducible refine D.assign ?_);refine L.asg U U U ?_)|((with_reducible refine D.bin ?_);refine L.bn U U U U U ?_)|((with_reducible refine D.call ?_);refine L.c2 (hc) U U U U ?_)|((with_reducible refine D.alloc ?_);refine L.al U U U ?_)|((with_reducible refine D.store ?_);refine L.st U U U U U U U U U ?_)|((with_reducible refine D.indexAddr ?_);refine L.ixt _ U U U U U U U (by first|assumption|fail) ?_)|((with_reducible refine D.aw ?_);first|refine K.sq (AW.regL ?_)|refine K.sq (AW.regD mixed (by kernel_rfl) ?_)|refine AW.condS U (fun h=> ?_) (fun h=> ?_)|refine AW.skip ?_|refine AW.ret ?_)|with_reducible refine K.tN ?_|with_reducible refine K.bN ?_|with_reducible refine K.tR ?_|with_reducible refine K.bR ?_|with_reducible refine K.gR ?_|with_reducible refine K.r1 (by with_unfolding_all rfl) (by with_unfolding_all rfl) ?_)
    ·rfl
    ·exfalso;simp at h;exact e0 h
  ·intro hP2
   have e3:=mtFs_none f.args g.args fun j h1 h2=>hP2 j h1 h2 (by omega)
   rw[e3] at he
   rw[he]
   repeat'(first|((with_reducible refine D.nil ?_);refine AX.nilL ?_)|((with_reducible refine D.assign ?_);refine L.asg U U U ?_)|((with_reducible refine D.aw ?_);first|refine K.sq (AW.regL ?_)|refine AW.ret ?_)|with_reducible refine K.tN ?_|with_reducible refine K.r1 (by with_unfolding_all rfl) (by with_unfolding_all rfl) ?_)
   rfl
theorem gfMatch_c(f g:Fm)(hf:f.full<274877906944)(hg:g.full<274877906944):PC E 13 [.agg f.view,.agg g.view] (.i (mtchF f g)):=by
 have h1:=fcheck_c f (by omega)
 have h2:=fcheck_c g (by omega)
 unfold mtchF
 by_cases ef:f.err=0
 case neg=>
  rw[if_pos ef]
  refine AC.mk Tryz.func13 rfl rfl rfl rfl rfl (Nat.le_of_ble_eq_true rfl) ?_
  repeat'(first|((with_reducible refine D.nil ?_);refine AX.nilL ?_)|((with_reducible refine D.load ?_);refine L.ldb U U U U U U ?_)|((with_reducible refine D.move ?_);refine L.mv U U U ?_)|((with_reducible refine D.assign ?_);refine L.asg U U U ?_)|((with_reducible refine D.bin ?_);refine L.bn U U U U U ?_)|((with_reducible refine D.call ?_);refine L.c2 (h1) U U U U ?_)|((with_reducible refine D.box ?_);refine L.bx U U U U ?_)|((with_reducible refine D.aw ?_);first|refine K.sq (AW.regL ?_)|refine K.sq (K.sq ?_)|refine AW.regL ?_|refine AW.condS U (fun h=> ?_) (fun h=> ?_)|refine AW.skip ?_|refine AW.ret ?_)|with_reducible refine K.tN ?_|with_reducible refine K.tR ?_|with_reducible refine K.r1 (by with_unfolding_all rfl) (by with_unfolding_all rfl) ?_)
  all_goals first
   |rfl
   |(exfalso;simp at h;exact ef h)
 rw[ef] at h1
 rw[if_neg (by simp[ef])]
 by_cases eg:g.err=0
 case neg=>
  rw[if_pos eg]
  refine AC.mk Tryz.func13 rfl rfl rfl rfl rfl (Nat.le_of_ble_eq_true rfl) ?_
  repeat'(first|((with_reducible refine D.nil ?_);refine AX.nilL ?_)|((with_reducible refine D.load ?_);refine L.ldb U U U U U U ?_)|((with_reducible refine D.move ?_);refine L.mv U U U ?_)|((with_reducible refine D.assign ?_);refine L.asg U U U ?_)|((with_reducible refine D.bin ?_);refine L.bn U U U U U ?_)|((with_reducible refine D.call ?_);first|refine L.c2 (h1) U U U U ?_|refine L.c2 (h2) U U U U ?_)|((with_reducible refine D.box ?_);refine L.bx U U U U ?_)|((with_reducible refine D.aw ?_);first|refine K.sq (AW.regL ?_)|refine K.sq (K.sq ?_)|refine AW.regL ?_|refine AW.condF U ?_|refine AW.condS U (fun h=> ?_) (fun h=> ?_)|refine AW.skip ?_|refine AW.ret ?_)|with_reducible refine K.tN ?_|with_reducible refine K.tR ?_|with_reducible refine K.r1 (by with_unfolding_all rfl) (by with_unfolding_all rfl) ?_)
  all_goals first
   |rfl
   |(exfalso;simp at h;exact eg h)
 rw[eg] at h2
 rw[if_neg (by simp[eg])]
 have h3:=gfmatch_c _ f g (Nat.le_refl _) hf hg ((Fm.err_iff f).1 ef).1 ((Fm.err_iff g).1 eg).1
 refine AC.mk Tryz.func13 rfl rfl rfl rfl rfl (Nat.le_of_ble_eq_true rfl) ?_
 repeat'(first|((with_reducible refine D.nil ?_);refine AX.nilL ?_)|((with_reducible refine D.load ?_);refine L.ldb U U U U U U ?_)|((with_reducible refine D.move ?_);refine L.mv U U U ?_)|((with_reducible refine D.assign ?_);refine L.asg U U U ?_)|((with_reducible refine D.bin ?_);refine L.bn U U U U U ?_)|((with_reducible refine D.call ?_);first|refine L.c2 (h1) U U U U ?_|refine L.c2 (h2) U U U U ?_|refine L.c2 (h3) U U U U ?_)|((with_reducible refine D.box ?_);refine L.bx U U U U ?_)|((with_reducible refine D.aw ?_);first|refine K.sq (AW.regL ?_)|refine K.sq (K.sq ?_)|refine AW.regL ?_|refine AW.condF U ?_|refine AW.skip ?_|refine AW.ret ?_)|with_reducible refine K.tN ?_|with_reducible refine K.r1 (by with_unfolding_all rfl) (by with_unfolding_all rfl) ?_)
 rfl
def stR3(t:Tm):V:=
 if t.err≠0 then .tup [.agg noTm.view,.bool false,.i t.err] else if t.near=false then .tup [.agg noTm.view,.bool false,.i 1]
 else match nxR (4096-t.size) t with|some (u,true)=> .tup [.agg u.view,.bool true,.i 0]|some (_,false)=> .tup [.agg noTm.view,.bool false,.i 4]|none=> .tup [.agg t.view,.bool false,.i 0]
theorem rstep_c(t:Tm)(ht:t.full<274877906944):PC E 30 [.agg t.view] (stR3 t):=by
 have h1:=checkTmR_c t (by omega)
 unfold stR3
 by_cases he:t.err=0
 case neg=>
  rw[if_pos he]
  refine AC.mk Tryz.func30 rfl rfl rfl rfl rfl (Nat.le_of_ble_eq_true rfl) ?_
  repeat'(first|((with_reducible refine D.nil ?_);refine AX.nilL ?_)|((with_reducible refine D.load ?_);refine L.ldb U U U U U U ?_)|((with_reducible refine D.move ?_);refine L.mv U U U ?_)|((with_reducible refine D.assign ?_);refine L.asg U U U ?_)|((with_reducible refine D.bin ?_);refine L.bn U U U U U ?_)|((with_reducible refine D.call ?_);refine L.c2 (h1) U U U U ?_)|((with_reducible refine D.box ?_);refine L.bx U U U U ?_)|((with_reducible refine D.alloc ?_);refine L.al U U U ?_)|((with_reducible refine D.store ?_);refine L.st U U U U U U U U U ?_)|((with_reducible refine D.ax ?_);refine L.bd U U U U U ?_)|((with_reducible refine D.aw ?_);(fail_if_success with_reducible refine D.stopR (id:=4) ?_);(fail_if_success with_reducible refine D.stopS (id:=4) ?_);first|refine K.sq (AW.regL ?_)|refine K.sq (K.sq ?_)|refine AW.regL ?_|refine AW.condS U (fun h=> ?_) (fun h=> ?_)|refine AW.skip ?_|refine AW.ret ?_)|with_reducible refine K.tN ?_|with_reducible refine K.tR ?_|with_reducible refine K.r1 (by with_unfolding_all rfl) (by with_unfolding_all rfl) ?_)
  all_goals first
   |rfl
   |(exfalso;simp at h;exact he h)
 rw[he] at h1
 rw[if_neg (by simp[he])]
 obtain⟨hs,hz⟩:=err_zero he
 have h2:=rleast_c 536870912 (by omega) _ t (Nat.le_refl _) (by omega) hs
 rw[←near_least] at h2
 cases hn:t.near with
 |false=>
  rw[hn] at h2
  rw[if_pos rfl]
  refine AC.mk Tryz.func30 rfl rfl rfl rfl rfl (Nat.le_of_ble_eq_true rfl) ?_
  repeat'(first|((with_reducible refine D.nil ?_);refine AX.nilL ?_)|((with_reducible refine D.load ?_);refine L.ldb U U U U U U ?_)|((with_reducible refine D.move ?_);refine L.mv U U U ?_)|((with_reducible refine D.assign ?_);refine L.asg U U U ?_)|((with_reducible refine D.bin ?_);refine L.bn U U U U U ?_)|((with_reducible refine D.call ?_);first|refine L.c2 (h1) U U U U ?_|refine L.c2 (h2) U U U U ?_)|((with_reducible refine D.box ?_);refine L.bx U U U U ?_)|((with_reducible refine D.alloc ?_);refine L.al U U U ?_)|((with_reducible refine D.store ?_);refine L.st U U U U U U U U U ?_)|((with_reducible refine D.not ?_);refine L.nt U U U ?_)|((with_reducible refine D.ax ?_);refine L.bd U U U U U ?_)|((with_reducible refine D.aw ?_);(fail_if_success with_reducible refine D.stopR (id:=6) ?_);(fail_if_success with_reducible refine D.stopS (id:=6) ?_);first|refine K.sq (AW.regL ?_)|refine K.sq (K.sq ?_)|refine AW.regL ?_|refine AW.condT U ?_|refine AW.condF U ?_|refine AW.skip ?_|refine AW.ret ?_)|with_reducible refine K.tN ?_|with_reducible refine K.tR ?_|with_reducible refine K.r1 (by with_unfolding_all rfl) (by with_unfolding_all rfl) ?_)
  all_goals first
   |rfl
   |(exfalso;simp at h;omega)
   |(exfalso;simp at*;omega)
 |true=>
 rw[hn] at h2
 rw[if_neg (by simp)]
 have hfr:∀p∈t.vars 0,p.1-p.2≤536870912:=fun p hp=>by have:=near_all hn p hp;have:=vars_snd t 0 p hp;omega
 have hf:=terr_full he
 have c1:=countTm_c _ t (Nat.le_refl _) (by omega)
 have c2:=rnext_c (4096-t.size) _ t (Nat.le_refl _) hs hz (free_idx he hfr)
 have c3:=copyTm_c _ t (Nat.le_refl _) (by omega)
 cases hr:nxR (4096-t.size) t with
 |none=>
  rw[hr] at c2
  simp only[nxV,Option.map_none,Option.getD_none,Option.isSome_none] at c2
  refine AC.mk Tryz.func30 rfl rfl rfl rfl rfl (Nat.le_of_ble_eq_true rfl) ?_
  repeat'(first|((with_reducible refine D.nil ?_);first|refine AX.nilL ?_|refine AX.nilD (by kernel_rfl) ?_)|((with_reducible refine D.load ?_);refine L.ldb U U U U U U ?_)|((with_reducible refine D.move ?_);refine L.mv U U U ?_)|((with_reducible refine D.assign ?_);refine L.asg U U U ?_)|((with_reducible refine D.bin ?_);first|refine L.sb U U U U (by omega) ?_|refine L.bn U U U U U ?_)|((with_reducible refine D.call ?_);first|refine L.c2 (h1) U U U U ?_|refine L.c2 (h2) U U U U ?_|refine L.c2 (c1) U U U U ?_|refine L.c2 (c2) U U U U ?_|refine L.c2 (c3) U U U U ?_)|((with_reducible refine D.extract ?_);refine L.ex U U U U ?_)|((with_reducible refine D.box ?_);refine L.bx U U U U ?_)|((with_reducible refine D.alloc ?_);refine L.al U U U ?_)|((with_reducible refine D.store ?_);refine L.st U U U U U U U U U ?_)|((with_reducible refine D.not ?_);refine L.nt U U U ?_)|((with_reducible refine D.aw ?_);first|refine K.sq (AW.regL ?_)|refine K.sq (AW.regD mixed (by kernel_rfl) ?_)|refine K.sq (K.sq ?_)|refine AW.regL ?_|refine AW.condF U ?_|refine AW.skip ?_|refine AW.ret ?_)|with_reducible refine K.tN ?_|with_reducible refine K.r1 (by with_unfolding_all rfl) (by with_unfolding_all rfl) ?_)
  all_goals rfl
 |some y=>
  obtain⟨y,f⟩:=y
  rw[hr] at c2
  simp only[nxV,Option.map_some,Option.getD_some,Option.isSome_some] at c2
  cases f with
  |false=>
   refine AC.mk Tryz.func30 rfl rfl rfl rfl rfl (Nat.le_of_ble_eq_true rfl) ?_
   repeat'(first|((with_reducible refine D.nil ?_);first|refine AX.nilL ?_|refine AX.nilD (by kernel_rfl) ?_)|((with_reducible refine D.load ?_);refine L.ldb U U U U U U ?_)|((with_reducible refine D.move ?_);refine L.mv U U U ?_)|((with_reducible refine D.assign ?_);refine L.asg U U U ?_)|((with_reducible refine D.bin ?_);first|refine L.sb U U U U (by omega) ?_|refine L.bn U U U U U ?_)|((with_reducible refine D.call ?_);first|refine L.c2 (h1) U U U U ?_|refine L.c2 (h2) U U U U ?_|refine L.c2 (c1) U U U U ?_|refine L.c2 (c2) U U U U ?_)|((with_reducible refine D.extract ?_);refine L.ex U U U U ?_)|((with_reducible refine D.box ?_);refine L.bx U U U U ?_)|((with_reducible refine D.alloc ?_);refine L.al U U U ?_)|((with_reducible refine D.store ?_);refine L.st U U U U U U U U U ?_)|((with_reducible refine D.not ?_);refine L.nt U U U ?_)|((with_reducible refine D.ax ?_);refine L.bd U U U U U ?_)|((with_reducible refine D.aw ?_);first|refine K.sq (AW.regL ?_)|refine K.sq (AW.regD mixed (by kernel_rfl) ?_)|refine K.sq (K.sq ?_)|refine AW.regL ?_|refine AW.condT U ?_|refine AW.condF U ?_|refine AW.skip ?_|refine AW.ret ?_)|with_reducible refine K.tN ?_|with_reducible refine K.tR ?_|with_reducible refine K.r1 (by with_unfolding_all rfl) (by with_unfolding_all rfl) ?_)
   all_goals rfl
  |true=>
   have c4:=copyTm_c _ y (Nat.le_refl _) (by have:=terr_full (nx_err he hr);omega)
   refine AC.mk Tryz.func30 rfl rfl rfl rfl rfl (Nat.le_of_ble_eq_true rfl) ?_
   repeat'(first|((with_reducible refine D.nil ?_);first|refine AX.nilL ?_|refine AX.nilD (by kernel_rfl) ?_)|((with_reducible refine D.load ?_);refine L.ldb U U U U U U ?_)|((with_reducible refine D.move ?_);refine L.mv U U U ?_)|((with_reducible refine D.assign ?_);refine L.asg U U U ?_)|((with_reducible refine D.bin ?_);first|refine L.sb U U U U (by omega) ?_|refine L.bn U U U U U ?_)|((with_reducible refine D.call ?_);first|refine L.c2 (h1) U U U U ?_|refine L.c2 (h2) U U U U ?_|refine L.c2 (c1) U U U U ?_|refine L.c2 (c2) U U U U ?_|refine L.c2 (c4) U U U U ?_)|((with_reducible refine D.extract ?_);refine L.ex U U U U ?_)|((with_reducible refine D.box ?_);refine L.bx U U U U ?_)|((with_reducible refine D.alloc ?_);refine L.al U U U ?_)|((with_reducible refine D.store ?_);refine L.st U U U U U U U U U ?_)|((with_reducible refine D.not ?_);refine L.nt U U U ?_)|((with_reducible refine D.aw ?_);first|refine K.sq (AW.regL ?_)|refine K.sq (AW.regD mixed (by kernel_rfl) ?_)|refine K.sq (K.sq ?_)|refine AW.regL ?_|refine AW.condF U ?_|refine AW.skip ?_|refine AW.ret ?_)|with_reducible refine K.tN ?_|with_reducible refine K.r1 (by with_unfolding_all rfl) (by with_unfolding_all rfl) ?_)
   all_goals rfl
theorem stR3_ex(t:Tm):∃(y:Tm) (b:Bool) (e:Int),stR3 t= .tup [.agg y.view,.bool b,.i e]∧((e=0∧y=stpT t)∨(e≠0∧stpT t=t)):=by
 unfold stR3 stpT
 by_cases he:t.err=0
 ·rw [if_neg (by simp[he])]
  cases hn:t.near with
  |false=>rw[if_pos rfl];exact⟨_,_,_,rfl,.inr ⟨by omega,by simp[he]⟩⟩
  |true=>
   rw[if_neg (by simp)]
   cases hr:nxR (4096-t.size) t with
   |none=>exact⟨_,_,_,rfl,.inl ⟨rfl,by simp[he]⟩⟩
   |some y=>
    obtain⟨y,f⟩:=y
    cases f with
    |true=>exact⟨_,_,_,rfl,.inl ⟨rfl,by simp[he]⟩⟩
    |false=>exact⟨_,_,_,rfl,.inr ⟨by omega,by simp[he]⟩⟩
 ·rw [if_pos he];exact⟨_,_,_,rfl,.inr ⟨he,by rw[if_pos he]⟩⟩
theorem reduced_c:∀(n:Nat) (f:Fm) (d:Dk),f.full≤n→n<100000000→d.ok→AC E 12 [.ptr 0 0,.agg f.view] ⟨1,[(0,.var d.cells)]⟩ (.agg (redF d f).1.view) ⟨1,[(0,.var (redF d f).2.cells)]⟩:=by
 intro n
 induction n with
 |zero=>intro f d h;have:=f.full_pos;omega
 |succ n ih=>
 intro f d hsz hn hd
 have hsz':=Fm.full_eq f
 have hl1:=lsum_len Tm.full Tm.full_pos f.terms
 have hl2:=lsum_len Fm.full Fm.full_pos f.args
 rw[redF_eq]
 have hd2:=redTs_ok f.terms d hd
 refine AC.mk Tryz.func12 rfl rfl rfl rfl rfl (Nat.le_of_ble_eq_true rfl) ?_
 repeat'(first|((with_reducible refine D.nil ?_);refine AX.nilL ?_)|((with_reducible refine D.load ?_);refine L.ldb U U U U U U ?_)|((with_reducible refine D.move ?_);refine L.mv U U U ?_)|((with_reducible refine D.fieldAddr ?_);refine L.fab U U U U U ?_)|((with_reducible refine D.call ?_);refine L.lnt U U U U ?_)|((with_reducible refine D.box ?_);refine L.bx U U U U ?_)|((with_reducible refine D.alloc ?_);refine L.al U U U ?_)|((with_reducible refine D.store ?_);refine L.st U U U U U U U U U ?_)|((with_reducible refine D.ax ?_);refine L.bd U U U U U ?_)|((with_reducible refine D.aw ?_);first|refine K.sq (AW.regL ?_)|refine K.sq (K.sq ?_)|refine AW.regL ?_)|with_reducible refine K.tN ?_)
 refine AW.range f.terms.length (fun m=>True)
  (fun m=>([(0,.ptr 0 0),(3,.ptr 1 0),(4,.ptr 2 0),(5,.ptr 3 0),(20,.s .tm f.terms),(21,.i f.terms.length),(22,.i m)],⟨5,[(0,.var (redTs d (f.terms.take m)).2.cells),(1,.var f.view),(2,.var [.i 0,.i 0,.slice .nil (.t .ty []),.slice .nil (.t .tm []),.slice .nil (.t .fm [])]),(3,.var [.i f.kind,.i f.ty.kind,.s .ty f.ty.args,.slice (.own 4) (.t .tm (redTs d (f.terms.take m)).1),.slice .nil (.t .fm [])]),(4,.row)]⟩))
  (by omega) (fun m=>rfl) (fun m=>rfl) rfl trivial ?_ ?_ ?_
 ·simp only[List.take_zero,redTs]
  exact(Weak.mk [some 0,some 1,some 2,some 3,none] _ _ _ U U U U (by(repeat'(first|exact trivial|refine And.intro ?_ ?_|refine⟨_,U,_,U,?_⟩|exact VLe.refl _));done) (by(repeat'(first|exact trivial|exact Or.inl U|refine And.intro ?_ ?_|refine⟨_,U,_,U,_,U,?_⟩|exact VLe.refl _));done))
 ·intro m hm hP
  have hs1:=lsum_mem Tm.full (List.getElem_mem hm)
  have e:=redTs_take d f.terms m hm
  have hdm:=redTs_ok (f.terms.take m) d hd
  have htf:(f.terms[m]).full<200000000:=by omega
  have h1:=next_c (redTs d (f.terms.take m)).2 4 hdm (by omega)
  have hb:=Dk.next_bd (redTs d (f.terms.take m)).2 4 (by omega)
  obtain⟨kk,hK⟩:=Int.eq_ofNat_of_zero_le hb.1
  simp only[redTm] at e
  rw[hK,Int.toNat_natCast] at e
  rw[hK] at h1 hb
  have hbl:(redTs d (f.terms.take m)).1.length=m:=by rw[redTs_len,List.length_take];omega
  repeat'(first|((with_reducible refine D.nil ?_);refine AX.nilL ?_)|((with_reducible refine D.load ?_);refine L.lda U U U U U ?_)|((with_reducible refine D.move ?_);refine L.mv U U U ?_)|((with_reducible refine D.assign ?_);refine L.asg U U U ?_)|((with_reducible refine D.call ?_);(apply L.cb2 (h1) [0] 0 rfl;rfl;rfl;rfl;rfl;rfl;rfl;(focus((repeat'(first|exact trivial|refine And.intro ?_ ?_|refine⟨_,U,_,U,_,U,?_⟩|exact VLe.refl _));done));rfl;rfl;rfl;rfl))|((with_reducible refine D.alloc ?_);refine L.al U U U ?_)|((with_reducible refine D.store ?_);refine L.st U U U U U U U U U ?_)|((with_reducible refine D.indexAddr ?_);refine L.ixt _ U U U U U U U (by first|assumption|fail) ?_)|((with_reducible refine D.aw ?_);first|refine K.sq (AW.regL ?_)|refine K.sq (K.sq ?_)|refine AW.regL ?_)|with_reducible refine K.tN ?_)
  refine AW.down kk (fun j=>j≤kk)
   (fun j=>([(0,.ptr 0 0),(3,.ptr 1 0),(4,.ptr 2 0),(5,.ptr 3 0),(7,.ptr 5 0),(8,.i j),(20,.s .tm f.terms),(21,.i f.terms.length),(22,.i m)],⟨6,[(0,.var ((redTs d (f.terms.take m)).2.next 4).2.cells),(1,.var f.view),(2,.var [.i 0,.i 0,.slice .nil (.t .ty []),.slice .nil (.t .tm []),.slice .nil (.t .fm [])]),(3,.var [.i f.kind,.i f.ty.kind,.s .ty f.ty.args,.slice (.own 4) (.t .tm (redTs d (f.terms.take m)).1),.slice .nil (.t .fm [])]),(4,.row),(5,.var (iterT (kk-j) f.terms[m]).view)]⟩))
   (by omega) (fun m=>rfl) rfl (Nat.le_refl _) ?_ ?_ ?_
  ·simp only[Nat.sub_self,iterT]
   exact(Weak.mk [some 0,some 1,some 2,some 3,some 4,some 5] _ _ _ U U U U (by(repeat'(first|exact trivial|refine And.intro ?_ ?_|refine⟨_,U,_,U,?_⟩|exact VLe.refl _));done) (by(repeat'(first|exact trivial|exact Or.inr ⟨_,U,rfl⟩|refine And.intro ?_ ?_|refine⟨_,U,_,U,_,U,?_⟩|exact VLe.refl _));done))
  ·intro j hj hP2
   have e2:=iterT_succ (kk-(j+1)) f.terms[m]
   rw[show kk-(j+1)+1=kk-j by omega] at e2
   have hfl:=iterT_bd (kk-(j+1)) f.terms[m]
   have hs:=rstep_c (iterT (kk-(j+1)) f.terms[m]) (by omega)
   obtain⟨y,b,er,hy,hq⟩:=stR3_ex (iterT (kk-(j+1)) f.terms[m])
   rw[hy] at hs
   rcases hq with⟨h0,h2⟩|⟨h0,h2⟩
   ·rw [←e2] at h2
    subst h0
    repeat'(first|((with_reducible refine D.nil ?_);refine AX.nilL ?_)|((with_reducible refine D.load ?_);refine L.ldb U U U U U U ?_)|((with_reducible refine D.move ?_);refine L.mv U U U ?_)|((with_reducible refine D.assign ?_);refine L.asg U U U ?_)|((with_reducible refine D.bin ?_);refine L.bn U U U U U ?_)|((with_reducible refine D.call ?_);refine L.c2 (hs) U U U U ?_)|((with_reducible refine D.extract ?_);refine L.ex U U U U ?_)|((with_reducible refine D.alloc ?_);refine L.al U U U ?_)|((with_reducible refine D.store ?_);refine L.st U U U U U U U U U ?_)|((with_reducible refine D.aw ?_);first|refine K.sq (AW.regL ?_)|refine AW.regL ?_|refine AW.condT U ?_)|with_reducible refine K.tN ?_|with_reducible refine K.bN ?_)
    all_goals first
     |(exfalso;simp at h;done)
     |skip
    refine⟨rfl,by omega,?_⟩
    simp only[←h2]
    exact(Weak.mk [some 0,some 1,some 2,some 3,some 4,some 5] _ _ _ U U U U (by(repeat'(first|exact trivial|refine And.intro ?_ ?_|refine⟨_,U,_,U,?_⟩|exact VLe.refl _));done) (by(repeat'(first|exact trivial|exact Or.inr ⟨_,U,rfl⟩|refine And.intro ?_ ?_|refine⟨_,U,_,U,_,U,?_⟩|exact VLe.refl _));done))
   ·rw [h2] at e2
    repeat'(first|((with_reducible refine D.nil ?_);refine AX.nilL ?_)|((with_reducible refine D.load ?_);refine L.ldb U U U U U U ?_)|((with_reducible refine D.move ?_);refine L.mv U U U ?_)|((with_reducible refine D.assign ?_);refine L.asg U U U ?_)|((with_reducible refine D.bin ?_);refine L.bn U U U U U ?_)|((with_reducible refine D.call ?_);refine L.c2 (hs) U U U U ?_)|((with_reducible refine D.extract ?_);refine L.ex U U U U ?_)|((with_reducible refine D.alloc ?_);refine L.al U U U ?_)|((with_reducible refine D.store ?_);refine L.st U U U U U U U U U ?_)|((with_reducible refine D.aw ?_);first|refine K.sq (AW.regL ?_)|refine AW.regL ?_|refine AW.condS U (fun h=> ?_) (fun h=> ?_)|refine AW.skip ?_)|with_reducible refine K.tN ?_|with_reducible refine K.bN ?_)
    all_goals first
     |(exfalso;simp at h;exact h0 h)
     |skip
    refine⟨rfl,by omega,?_⟩
    simp only[e2]
    exact(Weak.mk [some 0,some 1,some 2,some 3,some 4,some 5] _ _ _ U U U U (by(repeat'(first|exact trivial|refine And.intro ?_ ?_|refine⟨_,U,_,U,?_⟩|exact VLe.refl _));done) (by(repeat'(first|exact trivial|exact Or.inr ⟨_,U,rfl⟩|refine And.intro ?_ ?_|refine⟨_,U,_,U,_,U,?_⟩|exact VLe.refl _));done))
  ·intro _
   repeat'(first|((with_reducible refine D.nil ?_);refine AX.nilL ?_)|((with_reducible refine D.load ?_);refine L.ldb U U U U U U ?_)|((with_reducible refine D.fieldAddr ?_);refine L.fab U U U U U ?_)|((with_reducible refine D.call ?_);refine L.apt U U U U U U (by first|exact trivial|exact⟨rfl,trivial⟩) U U (by first|omega|(simp;omega)) ?_)|((with_reducible refine D.store ?_);refine L.st U U U U U U U U U ?_)|((with_reducible refine D.ax ?_);refine L.bs1 U U U U U (EC.fold_of U) U U ?_)|((with_reducible refine D.aw ?_);refine AW.regL ?_)|with_reducible refine K.tN ?_|with_reducible refine K.bN ?_)
   refine⟨rfl,trivial,?_⟩
   simp only[e]
   exact(Weak.mk [some 0,some 1,some 2,some 3,some 6] _ _ _ U U U U (by(repeat'(first|exact trivial|refine And.intro ?_ ?_|refine⟨_,U,_,U,?_⟩|exact VLe.refl _));done) (by(repeat'(first|exact trivial|exact Or.inr ⟨_,U,rfl⟩|refine And.intro ?_ ?_|refine⟨_,U,_,U,_,U,?_⟩|exact VLe.refl _));done))
 ·intro hP
  have hdl:=redTs_len f.terms d
  rw[List.take_length]
  repeat'(first|((with_reducible refine D.nil ?_);refine AX.nilL ?_)|((with_reducible refine D.load ?_);refine L.ldb U U U U U U ?_)|((with_reducible refine D.move ?_);refine L.mv U U U ?_)|((with_reducible refine D.fieldAddr ?_);refine L.fab U U U U U ?_)|((with_reducible refine D.call ?_);refine L.lnt U U U U ?_)|((with_reducible refine D.aw ?_);first|refine K.sq (K.sq ?_)|refine AW.regL ?_)|with_reducible refine K.tN ?_)
  refine AW.range f.args.length (fun m=>True)
   (fun m=>([(0,.ptr 0 0),(3,.ptr 1 0),(4,.ptr 2 0),(5,.ptr 3 0),(49,.s .fm f.args),(50,.i f.args.length),(51,.i m)],⟨6,[(0,.var (redFs (redTs d f.terms).2 (f.args.take m)).2.cells),(1,.var f.view),(2,.var [.i 0,.i 0,.slice .nil (.t .ty []),.slice .nil (.t .tm []),.slice .nil (.t .fm [])]),(3,.var [.i f.kind,.i f.ty.kind,.s .ty f.ty.args,.slice (.own 4) (.t .tm (redTs d f.terms).1),.slice (.own 5) (.t .fm (redFs (redTs d f.terms).2 (f.args.take m)).1)]),(4,.row),(5,.row)]⟩))
   (by omega) (fun m=>rfl) (fun m=>rfl) rfl trivial ?_ ?_ ?_
  ·simp only[List.take_zero,redFs]
   exact(Weak.mk [some 0,some 1,some 2,some 3,some 4,none] _ _ _ U U U U (by(repeat'(first|exact trivial|refine And.intro ?_ ?_|refine⟨_,U,_,U,?_⟩|exact VLe.refl _));done) (by(repeat'(first|exact trivial|exact Or.inl U|exact Or.inr ⟨_,U,rfl⟩|refine And.intro ?_ ?_|refine⟨_,U,_,U,_,U,?_⟩|exact VLe.refl _));done))
  ·intro m hm hP2
   have hs1:=lsum_mem Fm.full (List.getElem_mem hm)
   have e:=redFs_take (redTs d f.terms).2 f.args m hm
   have hbl:(redFs (redTs d f.terms).2 (f.args.take m)).1.length=m:=by rw[redFs_len,List.length_take];omega
   have h1:=ih f.args[m] (redFs (redTs d f.terms).2 (f.args.take m)).2 (by omega) (by omega) (redFs_ok _ _ hd2)
   repeat'(first|((with_reducible refine D.nil ?_);first|refine AX.nilL ?_|refine AX.nilD (by kernel_rfl) ?_)|((with_reducible refine D.load ?_);first|refine L.ldb U U U U U U ?_|refine L.lda U U U U U ?_)|((with_reducible refine D.move ?_);refine L.mv U U U ?_)|((with_reducible refine D.fieldAddr ?_);refine L.fab U U U U U ?_)|((with_reducible refine D.call ?_);first|refine L.apt U U U U U U (by first|exact trivial|exact⟨rfl,trivial⟩) U U (by first|omega|(simp;omega)) ?_|(apply L.cb2 (h1) [0] 0 rfl;rfl;rfl;rfl;rfl;rfl;rfl;(focus((repeat'(first|exact trivial|refine And.intro ?_ ?_|refine⟨_,U,_,U,_,U,?_⟩|exact VLe.refl _));done));rfl;rfl;rfl;rfl))|((with_reducible refine D.alloc ?_);refine L.al U U U ?_)|((with_reducible refine D.store ?_);refine L.st U U U U U U U U U ?_)|((with_reducible refine D.indexAddr ?_);refine L.ixt _ U U U U U U U (by first|assumption|fail) ?_)|((with_reducible refine D.ax ?_);refine L.bs1 U U U U U (EC.fold_of U) U U ?_)|((with_reducible refine D.aw ?_);first|refine K.sq (AW.regL ?_)|refine AW.regD mixed (by kernel_rfl) ?_)|with_reducible refine K.tN ?_|with_reducible refine K.bN ?_)
   refine⟨rfl,trivial,?_⟩
   simp only[e]
   exact(Weak.mk [some 0,some 1,some 2,some 3,some 4,some 7] _ _ _ U U U U (by(repeat'(first|exact trivial|refine And.intro ?_ ?_|refine⟨_,U,_,U,?_⟩|exact VLe.refl _));done) (by(repeat'(first|exact trivial|exact Or.inr ⟨_,U,rfl⟩|refine And.intro ?_ ?_|refine⟨_,U,_,U,_,U,?_⟩|exact VLe.refl _));done))
  ·intro hP2
   rw[List.take_length]
   repeat'(first|((with_reducible refine D.nil ?_);refine AX.nilL ?_)|((with_reducible refine D.load ?_);refine L.ldb U U U U U U ?_)|((with_reducible refine D.store ?_);refine L.st U U U U U U U U U ?_)|((with_reducible refine D.aw ?_);first|refine K.sq (AW.regL ?_)|refine AW.ret ?_)|with_reducible refine K.tN ?_)
   (exact K.n2 [some 0] U U U U U (by(repeat'(first|exact trivial|refine And.intro ?_ ?_|refine⟨_,U,_,U,_,U,?_⟩|exact VLe.refl _));done) U (by simp[tupV,V.wk,V.wks,constV,Ty.view,Tm.view,Fm.view]))
theorem cntTy_c:∀(b:Nat) (t:Ty) (most:Int),t.size≤b→-1000≤most∧most≤1000000000→PC E 46 [.agg t.view,.i most] (.i (t.cn most)):=by
 intro b
 induction b with
 |zero=>intro t most h;have:=t.size_pos;omega
 |succ b ih=>
 intro t most hsz hm
 have hsz':=t.size_eq
 have he:=Ty.cn_eq most t
 have hbd:=t.cn_bd most
 refine M.F Tryz.func46 ?_
 repeat'(first|refine M.gw ?_|fail)
 refine AW.block (AW.upto t.args.length (fun i=>(i:Int)<Ty.cns most 1 (t.args.take i)∧(Ty.cns most 1 (t.args.take i)≤1∨Ty.cns most 1 (t.args.take i)≤most+1))
  (fun i=>([(1,.i most),(2,.ptr 0 0),(5,.i (Ty.cns most 1 (t.args.take i))),(6,.i i)],⟨1,[(0,.var t.view)]⟩))
  ⟨by simp[Ty.cns],.inl (by simp[Ty.cns])⟩ (M.W [some 0]) fun i hi hP=> ?_)
 obtain⟨p1,p2⟩:=hP
 by_cases hlt:i<t.args.length
 ·by_cases hle:Ty.cns most 1 (t.args.take i)≤most
  ·have htk:=Ty.cns_take hlt hle
   have hs2:=lsum_mem Ty.size (List.getElem_mem hlt)
   have hx:=t.args[i].cn_bd (most-Ty.cns most 1 (t.args.take i))
   have hc:=ih t.args[i] (most-Ty.cns most 1 (t.args.take i)) (by omega) (by omega)
   repeat'(first|refine M.go ?_|refine M.gs ?_ ?_<;>intro h|refine M.z1 5 ?_|refine M.cs ?_ ?_<;>intro h|refine M.gk ?_|fail)
   all_goals first
    |(exfalso;simp at h;omega)
    |(exfalso;simp at*;omega)
    |skip
   refine K.sq (AW.block ?_)
   repeat'(first|refine M.gw ?_|refine M.c2 (hc) ?_|fail)
   refine⟨hlt,(show((i+1:Nat):Int)<Ty.cns most 1 (t.args.take (i+1))∧(Ty.cns most 1 (t.args.take (i+1))≤1∨Ty.cns most 1 (t.args.take (i+1))≤most+1) by omega),?_⟩
   simp only[htk]
   exact(M.W [some 0])
  ·have e:=Ty.cns_end hle
   repeat'(first|refine M.go ?_|refine M.gs ?_ ?_<;>intro h|refine M.z1 5 ?_|refine M.cs ?_ ?_<;>intro h|refine M.gk ?_|fail)
   all_goals first
    |(exfalso;simp at*;omega)
    |(rw[he,e];rfl)
 ·have e:t.args.take i=t.args:=List.take_of_length_le (by omega)
  rw[e]
  repeat'(first|refine M.go ?_|refine M.gs ?_ ?_<;>intro h|refine M.z1 5 ?_|refine M.cs ?_ ?_<;>intro h|refine M.gk ?_|fail)
  all_goals first
   |(exfalso;simp at*;omega)
   |(rw[he];rfl)
theorem cntTm_c:∀(b:Nat) (t:Tm) (most:Int),t.full≤b→-100≤most∧most≤1000000000→PC E 47 [.agg t.view,.i most] (.i (t.cn most)):=by
 intro b
 induction b with
 |zero=>intro t most h;have:=t.full_pos;omega
 |succ b ih=>
 intro t most hsz hm
 have hsz':=t.full_eq
 have he:=Tm.cn_eq most t
 have hbt:=t.ty.cn_bd (most-1)
 have h1:=cntTy_c _ t.ty (most-1) (Nat.le_refl _) (by omega)
 refine M.F Tryz.func47 ?_
 repeat'(first|refine M.gw ?_|refine M.c2 (h1) ?_|fail)
 generalize hn0:1+t.ty.cn (most-1)=n0 at*
 have hn1:2≤n0∧(n0≤2∨n0≤most+1):=by omega
 clear hbt h1 hn0
 refine AW.block (AW.upto t.args.length (fun i=>(i:Int)<Tm.cns most n0 (t.args.take i)∧(Tm.cns most n0 (t.args.take i)≤2∨Tm.cns most n0 (t.args.take i)≤most+2))
  (fun i=>([(1,.i most),(2,.ptr 0 0),(5,.i (Tm.cns most n0 (t.args.take i))),(6,.i i)],⟨1,[(0,.var t.view)]⟩))
  ⟨by simp[Tm.cns];omega,by simp[Tm.cns];omega⟩ (M.W [some 0]) fun i hi hP=> ?_)
 obtain⟨p1,p2⟩:=hP
 by_cases hlt:i<t.args.length
 ·by_cases hle:Tm.cns most n0 (t.args.take i)≤most
  ·have htk:=Tm.cns_take hlt hle
   have hs2:=lsum_mem Tm.full (List.getElem_mem hlt)
   have hx:=t.args[i].cn_bd (most-Tm.cns most n0 (t.args.take i))
   have hc:=ih t.args[i] (most-Tm.cns most n0 (t.args.take i)) (by omega) (by omega)
   repeat'(first|refine M.go ?_|refine M.gs ?_ ?_<;>intro h|refine M.z1 5 ?_|refine M.cs ?_ ?_<;>intro h|refine M.gk ?_|fail)
   all_goals first
    |(exfalso;simp at h;omega)
    |(exfalso;simp at*;omega)
    |skip
   refine K.sq (AW.block ?_)
   repeat'(first|refine M.gw ?_|refine M.c2 (hc) ?_|fail)
   refine⟨hlt,(show((i+1:Nat):Int)<Tm.cns most n0 (t.args.take (i+1))∧(Tm.cns most n0 (t.args.take (i+1))≤2∨Tm.cns most n0 (t.args.take (i+1))≤most+2) by omega),?_⟩
   simp only[htk]
   exact(M.W [some 0])
  ·have e:=Tm.cns_end hle
   repeat'(first|refine M.go ?_|refine M.gs ?_ ?_<;>intro h|refine M.z1 5 ?_|refine M.cs ?_ ?_<;>intro h|refine M.gk ?_|fail)
   all_goals first
    |(exfalso;simp at*;omega)
    |(rw[he,e];rfl)
 ·have e:t.args.take i=t.args:=List.take_of_length_le (by omega)
  rw[e]
  repeat'(first|refine M.go ?_|refine M.gs ?_ ?_<;>intro h|refine M.z1 5 ?_|refine M.cs ?_ ?_<;>intro h|refine M.gk ?_|fail)
  all_goals first
   |(exfalso;simp at*;omega)
   |(rw[he];rfl)
theorem cntFm_c:∀(b:Nat) (t:Fm) (most:Int),t.full≤b→-100≤most∧most≤1000000000→PC E 21 [.agg t.view,.i most] (.i (t.cn most)):=by
 intro b
 induction b with
 |zero=>intro t most h;have:=t.full_pos;omega
 |succ b ih=>
 intro t most hsz hm
 have hsz':=t.full_eq
 have he:=Fm.cn_eq most t
 have hbt:=t.ty.cn_bd (most-1)
 have h1:=cntTy_c _ t.ty (most-1) (Nat.le_refl _) (by omega)
 refine M.F Tryz.func21 ?_
 repeat'(first|refine M.gw ?_|refine M.c2 (h1) ?_|fail)
 generalize hn0:1+t.ty.cn (most-1)=n0 at*
 have hn1:2≤n0∧(n0≤2∨n0≤most+1):=by omega
 have hall:=Tm.cns_bd most t.terms n0
 clear hbt h1 hn0
 refine AW.cutT (ι:=Unit) (fun _=>([(1,.i most),(2,.ptr 0 0),(5,.i (Tm.cns most n0 t.terms))],⟨1,[(0,.var t.view)]⟩)) ?_ ?_
 ·refine AW.block (AW.upto t.terms.length (fun i=>(i:Int)<Tm.cns most n0 (t.terms.take i)∧(Tm.cns most n0 (t.terms.take i)≤2∨Tm.cns most n0 (t.terms.take i)≤most+2))
   (fun i=>([(1,.i most),(2,.ptr 0 0),(5,.i (Tm.cns most n0 (t.terms.take i))),(6,.i i)],⟨1,[(0,.var t.view)]⟩))
   ⟨by simp[Tm.cns];omega,by simp[Tm.cns];omega⟩ (M.W [some 0]) fun i hi hP=> ?_)
  obtain⟨p1,p2⟩:=hP
  by_cases hlt:i<t.terms.length
  ·by_cases hle:Tm.cns most n0 (t.terms.take i)≤most
   ·have htk:=Tm.cns_take hlt hle
    have hs2:=lsum_mem Tm.full (List.getElem_mem hlt)
    have hx:=t.terms[i].cn_bd (most-Tm.cns most n0 (t.terms.take i))
    have hc:=cntTm_c _ t.terms[i] (most-Tm.cns most n0 (t.terms.take i)) (Nat.le_refl _) (by omega)
    repeat'(first|refine M.go ?_|refine M.gs ?_ ?_<;>intro h|refine M.z1 5 ?_|refine M.cs ?_ ?_<;>intro h|refine M.gk ?_|fail)
    all_goals first
     |(exfalso;simp at h;omega)
     |(exfalso;simp at*;omega)
     |skip
    refine K.sq (AW.block ?_)
    repeat'(first|refine M.gw ?_|refine M.c2 (hc) ?_|fail)
    refine⟨hlt,(show((i+1:Nat):Int)<Tm.cns most n0 (t.terms.take (i+1))∧(Tm.cns most n0 (t.terms.take (i+1))≤2∨Tm.cns most n0 (t.terms.take (i+1))≤most+2) by omega),?_⟩
    simp only[htk]
    exact(M.W [some 0])
   ·have e:=Tm.cns_end hle
    rw[←e]
    repeat'(first|refine M.go ?_|refine M.gs ?_ ?_<;>intro h|refine M.z1 5 ?_|refine M.cs ?_ ?_<;>intro h|refine M.gk ?_|fail)
    all_goals first
     |(exfalso;simp at*;omega)
     |(exfalso;simp at*;rw[e] at*;omega)
     |exact⟨(),(M.W [some 0])⟩
  ·have e:t.terms.take i=t.terms:=List.take_of_length_le (by omega)
   rw[e]
   repeat'(first|refine M.go ?_|refine M.gs ?_ ?_<;>intro h|refine M.z1 5 ?_|refine M.cs ?_ ?_<;>intro h|refine M.gk ?_|fail)
   all_goals first
    |(exfalso;simp at*;omega)
    |exact⟨(),(M.W [some 0])⟩
 intro _
 generalize Tm.cns most n0 t.terms=n1 at*
 have hn2:2≤n1∧(n1≤2∨n1≤most+2):=by omega
 clear hall hn1
 repeat'(first|refine M.gw ?_|fail)
 refine AW.block (AW.upto t.args.length (fun i=>(i:Int)<Fm.cns most n1 (t.args.take i)∧(Fm.cns most n1 (t.args.take i)≤2∨Fm.cns most n1 (t.args.take i)≤most+2))
  (fun i=>([(1,.i most),(2,.ptr 0 0),(5,.i (Fm.cns most n1 (t.args.take i))),(7,.i i)],⟨1,[(0,.var t.view)]⟩))
  ⟨by simp[Fm.cns];omega,by simp[Fm.cns];omega⟩ (M.W [some 0]) fun i hi hP=> ?_)
 obtain⟨p1,p2⟩:=hP
 by_cases hlt:i<t.args.length
 ·by_cases hle:Fm.cns most n1 (t.args.take i)≤most
  ·have htk:=Fm.cns_take hlt hle
   have hs2:=lsum_mem Fm.full (List.getElem_mem hlt)
   have hx:=t.args[i].cn_bd (most-Fm.cns most n1 (t.args.take i))
   have hc:=ih t.args[i] (most-Fm.cns most n1 (t.args.take i)) (by omega) (by omega)
   repeat'(first|refine M.go ?_|refine M.gs ?_ ?_<;>intro h|refine M.z1 9 ?_|refine M.cs ?_ ?_<;>intro h|refine M.gk ?_|fail)
   all_goals first
    |(exfalso;simp at h;omega)
    |(exfalso;simp at*;omega)
    |skip
   refine K.sq (AW.block ?_)
   repeat'(first|refine M.gw ?_|refine M.c2 (hc) ?_|fail)
   refine⟨hlt,(show((i+1:Nat):Int)<Fm.cns most n1 (t.args.take (i+1))∧(Fm.cns most n1 (t.args.take (i+1))≤2∨Fm.cns most n1 (t.args.take (i+1))≤most+2) by omega),?_⟩
   simp only[htk]
   exact(M.W [some 0])
  ·have e:=Fm.cns_end hle
   repeat'(first|refine M.go ?_|refine M.gs ?_ ?_<;>intro h|refine M.z1 9 ?_|refine M.cs ?_ ?_<;>intro h|refine M.gk ?_|fail)
   all_goals first
    |(exfalso;simp at*;omega)
    |(rw[he,e];rfl)
 ·have e:t.args.take i=t.args:=List.take_of_length_le (by omega)
  rw[e]
  repeat'(first|refine M.go ?_|refine M.gs ?_ ?_<;>intro h|refine M.z1 9 ?_|refine M.cs ?_ ?_<;>intro h|refine M.gk ?_|fail)
  all_goals first
   |(exfalso;simp at*;omega)
   |(rw[he];rfl)
end Go.Ab
