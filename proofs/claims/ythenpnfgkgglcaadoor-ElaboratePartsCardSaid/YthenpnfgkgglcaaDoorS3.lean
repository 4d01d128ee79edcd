/- A part of the proofs of this seat's statements: S47, S48, S49, S50, S51, S52, S53. It has no conditions of its own. -/
import Derived.Test.YthenpnfgkgglcaaDoorS2
import Derived.Test.YthenpnfgkgglcaaDoorD1
import Derived.Test.YthenpnfgkgglcaaDoorA2
namespace Go.Ab
open Go Go.Proofs
set_option maxRecDepth 100000
set_option maxHeartbeats 4000000
set_option linter.all false
theorem putFmCb (at_ : Int) (s : Tm) (hat : 0 ≤ at_ ∧ at_ < 274877906944) (hs : s.full < 274877906944) (hsi : ∀ p ∈ s.vars 0, 0 ≤ p.1 ∧ p.1 < 549755813888) (t : Tm) (bl : Int) (ht : t.full < 274877906944) (hb : 0 ≤ bl ∧ bl < 274877906944) (hix : ∀ p ∈ t.vars 0, 0 ≤ p.1 ∧ p.1 < 549755813888) :
    AC E 118 [.agg t.view, .i bl, .ptr 0 0, .ptr 1 0] ⟨2, [(0, .var [.i at_]), (1, .var s.view)]⟩ (.agg (t.re (putG (at_ + bl) s) 0).view) ⟨2, [(0, .var [.i at_]), (1, .var s.view)]⟩ := by
  have hc := put_c t (at_ + bl) s (by omega) hs hsi ht hix
  refine AC.mk Tryd.func118 rfl rfl rfl rfl rfl (Nat.le_of_ble_eq_true rfl) ?_
  repeat' (first | ((with_reducible refine D.nil ?_); refine AX.nilL ?_) | ((with_reducible refine D.load ?_); refine L.ldb rfl rfl rfl rfl rfl rfl ?_) | ((with_reducible refine D.move ?_); refine L.mv rfl rfl rfl ?_) | ((with_reducible refine D.bin ?_); refine L.ad rfl rfl rfl rfl (by omega) ?_) | ((with_reducible refine D.call ?_); refine L.c2 (hc) rfl rfl rfl rfl ?_) | ((with_reducible refine D.box ?_); refine L.bx rfl rfl rfl rfl ?_) | ((with_reducible refine D.alloc ?_); refine L.al rfl rfl rfl ?_) | ((with_reducible refine D.store ?_); refine L.st rfl rfl rfl rfl rfl rfl rfl rfl rfl ?_) | ((with_reducible refine D.aw ?_); first | refine K.sq (AW.regL ?_) | refine AW.ret ?_) | with_reducible refine K.tN ?_)
  (exact K.n2 [some 0, some 1] rfl rfl rfl rfl rfl (by (repeat' (first | exact trivial | refine And.intro ?_ ?_ | refine ⟨_, rfl, _, rfl, _, rfl, ?_⟩ | exact VLe.refl _)); done) rfl (by simp [tupV, V.wk, V.wks, constV, Ty.view, Tm.view, hc]))
theorem putFmRe (at_ : Int) (s : Tm) (hat : 0 ≤ at_ ∧ at_ < 274877906944) (hs : s.full < 274877906944) (hsi : ∀ p ∈ s.vars 0, 0 ≤ p.1 ∧ p.1 < 549755813888) : ∀ (n : Nat) (f : Fm) (bl : Int), f.full ≤ n → n < 274877906944 → 0 ≤ bl → bl + n < 274877906944 → (∀ p ∈ f.tms bl, ∀ q ∈ p.1.vars 0, 0 ≤ q.1 ∧ q.1 < 549755813888) →
    AC E 83 [.agg f.view, .i bl, .fn (.func 118) [] [.ptr 0 0, .ptr 1 0]] ⟨2, [(0, .var [.i at_]), (1, .var s.view)]⟩ (.agg (f.re (fun b t => t.re (putG (at_ + b) s) 0) bl).view) ⟨2, [(0, .var [.i at_]), (1, .var s.view)]⟩ := by
  intro n
  induction n with
  | zero => intro f bl h; intros; have := f.full_pos; omega
  | succ n ih =>
  intro f bl hsz hb hbl hbn hix
  have hsz' := f.full_eq
  have hlen := lsum_len Fm.full Fm.full_pos f.args
  have hlen2 := lsum_len Tm.full Tm.full_pos f.terms
  have hty := ownTy_c _ f.ty (Nat.le_refl _) (by omega)
  have hq := quantifier_c f.kind
  have hre := Fm.re_eq (fun b t => t.re (putG (at_ + b) s) 0) bl f
  have htm := f.tms_eq bl
  refine AC.mk Tryd.func83 rfl rfl rfl rfl rfl (Nat.le_of_ble_eq_true rfl) ?_
  repeat' (first | ((with_reducible refine D.nil ?_); first | refine AX.nilL ?_ | refine AX.nilD (by kernel_rfl) ?_) | ((with_reducible refine D.load ?_); refine L.ldb rfl rfl rfl rfl rfl rfl ?_) | ((with_reducible refine D.move ?_); refine L.mv rfl rfl rfl ?_) | ((with_reducible refine D.fieldAddr ?_); refine L.fab rfl rfl rfl rfl rfl ?_) | ((with_reducible refine D.call ?_); first | refine L.lnt rfl rfl rfl rfl ?_ | refine L.c2 (hty) rfl rfl rfl rfl ?_) | ((with_reducible refine D.box ?_); refine L.bx rfl rfl rfl rfl ?_) | ((with_reducible refine D.alloc ?_); refine L.al rfl rfl rfl ?_) | ((with_reducible refine D.store ?_); refine L.st rfl rfl rfl rfl rfl rfl rfl rfl rfl ?_) | ((with_reducible refine D.ax ?_); refine L.bd rfl rfl rfl rfl rfl ?_) | ((with_reducible refine D.aw ?_); first | refine K.sq (AW.regL ?_) | refine K.sq (AW.regD mixed (by kernel_rfl) ?_) | refine K.sq (K.sq ?_) | refine AW.regL ?_) | with_reducible refine K.tN ?_)
  refine AW.range f.terms.length (fun m => True)
    (fun m => ([(1, .i bl), (2, .fn (.func 118) [] [.ptr 0 0, .ptr 1 0]), (3, .ptr 2 0), (6, .ptr 3 0), (7, .ptr 4 0), (19, .s .tm f.terms), (20, .i f.terms.length), (21, .i m)], ⟨6, [(0, .var [.i at_]), (1, .var s.view), (2, .var f.view), (3, .var [.i 0, .i 0, .slice .nil (.t .ty []), .slice .nil (.t .tm []), .slice .nil (.t .fm [])]), (4, .var [.i f.kind, .i f.ty.kind, .s .ty f.ty.args, .slice (.own 5) (.t .tm ((f.terms.take m).map ((fun b t => t.re (putG (at_ + b) s) 0) bl))), .slice .nil (.t .fm [])]), (5, .row)]⟩))
    (by omega) (fun m => rfl) (fun m => rfl) rfl trivial (Weak.mk [some 0, some 1, some 2, some 3, some 4, none] _ _ _ rfl rfl rfl rfl (by (repeat' (first | exact trivial | refine And.intro ?_ ?_ | refine ⟨_, rfl, _, rfl, ?_⟩ | exact VLe.refl _)); done) (by (repeat' (first | exact trivial | exact Or.inl rfl | refine And.intro ?_ ?_ | refine ⟨_, rfl, _, rfl, _, rfl, ?_⟩ | exact VLe.refl _)); done)) ?_ ?_
  · intro m hm _
    have hs2 := lsum_mem Tm.full (List.getElem_mem hm)
    have hc := putFmCb at_ s hat hs hsi f.terms[m] bl (by omega) (by omega) (fun p hp => hix _ (by rw [htm]; exact List.mem_append_left _ (List.mem_map.2 ⟨_, List.getElem_mem hm, rfl⟩)) p hp)
    repeat' (first | ((with_reducible refine D.nil ?_); first | refine AX.nilL ?_ | refine AX.nilD (by kernel_rfl) ?_) | ((with_reducible refine D.load ?_); first | refine L.ldb rfl rfl rfl rfl rfl rfl ?_ | refine L.lda rfl rfl rfl rfl rfl ?_) | ((with_reducible refine D.move ?_); refine L.mv rfl rfl rfl ?_) | ((with_reducible refine D.fieldAddr ?_); refine L.fab rfl rfl rfl rfl rfl ?_) | ((with_reducible refine D.call ?_); first | refine L.apt rfl rfl rfl rfl rfl rfl (by first | exact trivial | exact ⟨rfl, trivial⟩) rfl rfl (by first | omega | (simp; omega)) ?_ | (apply L.cv2 (hc) [0, 1] 0 rfl; rfl; rfl; rfl; rfl; rfl; rfl; rfl; (focus ((repeat' (first | exact trivial | refine And.intro ?_ ?_ | refine ⟨_, rfl, _, rfl, _, rfl, ?_⟩ | exact VLe.refl _)); done)); rfl; rfl; rfl; rfl)) | ((with_reducible refine D.alloc ?_); refine L.al rfl rfl rfl ?_) | ((with_reducible refine D.store ?_); refine L.st rfl rfl rfl rfl rfl rfl rfl rfl rfl ?_) | ((with_reducible refine D.indexAddr ?_); refine L.ixt _ rfl rfl rfl rfl rfl rfl rfl (by assumption) ?_) | ((with_reducible refine D.ax ?_); refine L.bs1 rfl rfl rfl rfl rfl (EC.fold_of rfl) rfl rfl ?_) | ((with_reducible refine D.aw ?_); first | refine K.sq (AW.regL ?_) | refine AW.regD mixed (by kernel_rfl) ?_) | with_reducible refine K.tN ?_ | with_reducible refine K.bN ?_)
    exact ⟨rfl, trivial, (Weak.mk [some 0, some 1, some 2, some 3, some 4, some 7] _ _ _ rfl rfl rfl rfl (by (repeat' (first | exact trivial | refine And.intro ?_ ?_ | refine ⟨_, rfl, _, rfl, ?_⟩ | exact VLe.refl _)); done) (by (repeat' (first | exact trivial | exact Or.inr ⟨_, rfl, rfl⟩ | refine And.intro ?_ ?_ | refine ⟨_, rfl, _, rfl, _, rfl, ?_⟩ | exact VLe.refl _ | exact VLe.of_eq (by simp [Sto.upd, map_take _ _ _ hm]))); done))⟩
  · intro _
    simp only [List.take_length]
    cases hqk : quantK f.kind with
    | true =>
      rw [hqk] at hq
      have hu : upF f.kind bl = bl + 1 := by simp [upF, hqk]
      rw [hu] at hre htm
      repeat' (first | ((with_reducible refine D.nil ?_); refine AX.nilL ?_) | ((with_reducible refine D.load ?_); refine L.ldb rfl rfl rfl rfl rfl rfl ?_) | ((with_reducible refine D.move ?_); refine L.mv rfl rfl rfl ?_) | ((with_reducible refine D.fieldAddr ?_); refine L.fab rfl rfl rfl rfl rfl ?_) | ((with_reducible refine D.assign ?_); refine L.asg rfl rfl rfl ?_) | ((with_reducible refine D.bin ?_); refine L.ad rfl rfl rfl rfl (by omega) ?_) | ((with_reducible refine D.call ?_); first | refine L.lnt rfl rfl rfl rfl ?_ | refine L.c2 (hq) rfl rfl rfl rfl ?_) | ((with_reducible refine D.aw ?_); first | refine K.sq (K.sq ?_) | refine AW.regL ?_ | refine AW.condT rfl ?_) | with_reducible refine K.tN ?_)
      refine AW.range f.args.length (fun m => True)
        (fun m => ([(1, .i (bl + 1)), (2, .fn (.func 118) [] [.ptr 0 0, .ptr 1 0]), (3, .ptr 2 0), (6, .ptr 3 0), (7, .ptr 4 0), (41, .s .fm f.args), (42, .i f.args.length), (43, .i m)], ⟨7, [(0, .var [.i at_]), (1, .var s.view), (2, .var f.view), (3, .var [.i 0, .i 0, .slice .nil (.t .ty []), .slice .nil (.t .tm []), .slice .nil (.t .fm [])]), (4, .var [.i f.kind, .i f.ty.kind, .s .ty f.ty.args, .slice (.own 5) (.t .tm (f.terms.map ((fun b t => t.re (putG (at_ + b) s) 0) bl))), .slice (.own 6) (.t .fm ((f.args.take m).map (Fm.re (fun b t => t.re (putG (at_ + b) s) 0) (bl + 1))))]), (5, .row), (6, .row)]⟩))
        (by omega) (fun m => rfl) (fun m => rfl) rfl trivial (Weak.mk [some 0, some 1, some 2, some 3, some 4, some 5, none] _ _ _ rfl rfl rfl rfl (by (repeat' (first | exact trivial | refine And.intro ?_ ?_ | refine ⟨_, rfl, _, rfl, ?_⟩ | exact VLe.refl _)); done) (by (repeat' (first | exact trivial | exact Or.inl rfl | exact Or.inr ⟨_, rfl, rfl⟩ | refine And.intro ?_ ?_ | refine ⟨_, rfl, _, rfl, _, rfl, ?_⟩ | exact VLe.refl _)); done)) ?_ ?_
      · intro m hm _
        have hs2 := lsum_mem Fm.full (List.getElem_mem hm)
        have hc := ih f.args[m] (bl + 1) (by omega) (by omega) (by omega) (by omega) (fun p hp => hix p (by rw [htm]; exact List.mem_append_right _ (List.mem_flatMap.2 ⟨_, List.getElem_mem hm, hp⟩)))
        repeat' (first | ((with_reducible refine D.nil ?_); first | refine AX.nilL ?_ | refine AX.nilD (by kernel_rfl) ?_) | ((with_reducible refine D.load ?_); first | refine L.ldb rfl rfl rfl rfl rfl rfl ?_ | refine L.lda rfl rfl rfl rfl rfl ?_) | ((with_reducible refine D.move ?_); refine L.mv rfl rfl rfl ?_) | ((with_reducible refine D.fieldAddr ?_); refine L.fab rfl rfl rfl rfl rfl ?_) | ((with_reducible refine D.call ?_); first | refine L.apt rfl rfl rfl rfl rfl rfl (by first | exact trivial | exact ⟨rfl, trivial⟩) rfl rfl (by first | omega | (simp; omega)) ?_ | (apply L.cv2 (hc) [0, 1] 0 rfl; rfl; rfl; rfl; rfl; rfl; rfl; rfl; (focus ((repeat' (first | exact trivial | refine And.intro ?_ ?_ | refine ⟨_, rfl, _, rfl, _, rfl, ?_⟩ | exact VLe.refl _)); done)); rfl; rfl; rfl; rfl)) | ((with_reducible refine D.alloc ?_); refine L.al rfl rfl rfl ?_) | ((with_reducible refine D.store ?_); refine L.st rfl rfl rfl rfl rfl rfl rfl rfl rfl ?_) | ((with_reducible refine D.indexAddr ?_); refine L.ixt _ rfl rfl rfl rfl rfl rfl rfl (by assumption) ?_) | ((with_reducible refine D.ax ?_); refine L.bs1 rfl rfl rfl rfl rfl (EC.fold_of rfl) rfl rfl ?_) | ((with_reducible refine D.aw ?_); first | refine K.sq (AW.regL ?_) | refine AW.regD mixed (by kernel_rfl) ?_) | with_reducible refine K.tN ?_ | with_reducible refine K.bN ?_)
        exact ⟨rfl, trivial, (Weak.mk [some 0, some 1, some 2, some 3, some 4, some 5, some 8] _ _ _ rfl rfl rfl rfl (by (repeat' (first | exact trivial | refine And.intro ?_ ?_ | refine ⟨_, rfl, _, rfl, ?_⟩ | exact VLe.refl _)); done) (by (repeat' (first | exact trivial | exact Or.inr ⟨_, rfl, rfl⟩ | refine And.intro ?_ ?_ | refine ⟨_, rfl, _, rfl, _, rfl, ?_⟩ | exact VLe.refl _ | exact VLe.of_eq (by simp [Sto.upd, map_take _ _ _ hm]))); done))⟩
      · intro _
        simp only [List.take_length]
        repeat' (first | ((with_reducible refine D.nil ?_); refine AX.nilL ?_) | ((with_reducible refine D.load ?_); refine L.ldb rfl rfl rfl rfl rfl rfl ?_) | ((with_reducible refine D.store ?_); refine L.st rfl rfl rfl rfl rfl rfl rfl rfl rfl ?_) | ((with_reducible refine D.aw ?_); first | refine K.sq (AW.regL ?_) | refine AW.ret ?_) | with_reducible refine K.tN ?_)
        (exact K.n2 [some 0, some 1] rfl rfl rfl rfl rfl (by (repeat' (first | exact trivial | refine And.intro ?_ ?_ | refine ⟨_, rfl, _, rfl, _, rfl, ?_⟩ | exact VLe.refl _)); done) rfl (by simp [tupV, V.wk, V.wks, constV, Ty.view, Tm.view, hre]))
    | false =>
      rw [hqk] at hq
      have hu : upF f.kind bl = bl := by simp [upF, hqk]
      rw [hu] at hre htm
      repeat' (first | ((with_reducible refine D.nil ?_); refine AX.nilL ?_) | ((with_reducible refine D.load ?_); refine L.ldb rfl rfl rfl rfl rfl rfl ?_) | ((with_reducible refine D.move ?_); refine L.mv rfl rfl rfl ?_) | ((with_reducible refine D.fieldAddr ?_); refine L.fab rfl rfl rfl rfl rfl ?_) | ((with_reducible refine D.call ?_); first | refine L.lnt rfl rfl rfl rfl ?_ | refine L.c2 (hq) rfl rfl rfl rfl ?_) | ((with_reducible refine D.aw ?_); first | refine K.sq (K.sq ?_) | refine AW.regL ?_ | refine AW.condF rfl ?_ | refine AW.skip ?_) | with_reducible refine K.tN ?_)
      refine AW.range f.args.length (fun m => True)
        (fun m => ([(1, .i bl), (2, .fn (.func 118) [] [.ptr 0 0, .ptr 1 0]), (3, .ptr 2 0), (6, .ptr 3 0), (7, .ptr 4 0), (41, .s .fm f.args), (42, .i f.args.length), (43, .i m)], ⟨7, [(0, .var [.i at_]), (1, .var s.view), (2, .var f.view), (3, .var [.i 0, .i 0, .slice .nil (.t .ty []), .slice .nil (.t .tm []), .slice .nil (.t .fm [])]), (4, .var [.i f.kind, .i f.ty.kind, .s .ty f.ty.args, .slice (.own 5) (.t .tm (f.terms.map ((fun b t => t.re (putG (at_ + b) s) 0) bl))), .slice (.own 6) (.t .fm ((f.args.take m).map (Fm.re (fun b t => t.re (putG (at_ + b) s) 0) bl)))]), (5, .row), (6, .row)]⟩))
        (by omega) (fun m => rfl) (fun m => rfl) rfl trivial (Weak.mk [some 0, some 1, some 2, some 3, some 4, some 5, none] _ _ _ rfl rfl rfl rfl (by (repeat' (first | exact trivial | refine And.intro ?_ ?_ | refine ⟨_, rfl, _, rfl, ?_⟩ | exact VLe.refl _)); done) (by (repeat' (first | exact trivial | exact Or.inl rfl | exact Or.inr ⟨_, rfl, rfl⟩ | refine And.intro ?_ ?_ | refine ⟨_, rfl, _, rfl, _, rfl, ?_⟩ | exact VLe.refl _)); done)) ?_ ?_
      · intro m hm _
        have hs2 := lsum_mem Fm.full (List.getElem_mem hm)
        have hc := ih f.args[m] bl (by omega) (by omega) (by omega) (by omega) (fun p hp => hix p (by rw [htm]; exact List.mem_append_right _ (List.mem_flatMap.2 ⟨_, List.getElem_mem hm, hp⟩)))
        repeat' (first | ((with_reducible refine D.nil ?_); first | refine AX.nilL ?_ | refine AX.nilD (by kernel_rfl) ?_) | ((with_reducible refine D.load ?_); first | refine L.ldb rfl rfl rfl rfl rfl rfl ?_ | refine L.lda rfl rfl rfl rfl rfl ?_) | ((with_reducible refine D.move ?_); refine L.mv rfl rfl rfl ?_) | ((with_reducible refine D.fieldAddr ?_); refine L.fab rfl rfl rfl rfl rfl ?_) | ((with_reducible refine D.call ?_); first | refine L.apt rfl rfl rfl rfl rfl rfl (by first | exact trivial | exact ⟨rfl, trivial⟩) rfl rfl (by first | omega | (simp; omega)) ?_ | (apply L.cv2 (hc) [0, 1] 0 rfl; rfl; rfl; rfl; rfl; rfl; rfl; rfl; (focus ((repeat' (first | exact trivial | refine And.intro ?_ ?_ | refine ⟨_, rfl, _, rfl, _, rfl, ?_⟩ | exact VLe.refl _)); done)); rfl; rfl; rfl; rfl)) | ((with_reducible refine D.alloc ?_); refine L.al rfl rfl rfl ?_) | ((with_reducible refine D.store ?_); refine L.st rfl rfl rfl rfl rfl rfl rfl rfl rfl ?_) | ((with_reducible refine D.indexAddr ?_); refine L.ixt _ rfl rfl rfl rfl rfl rfl rfl (by assumption) ?_) | ((with_reducible refine D.ax ?_); refine L.bs1 rfl rfl rfl rfl rfl (EC.fold_of rfl) rfl rfl ?_) | ((with_reducible refine D.aw ?_); first | refine K.sq (AW.regL ?_) | refine AW.regD mixed (by kernel_rfl) ?_) | with_reducible refine K.tN ?_ | with_reducible refine K.bN ?_)
        exact ⟨rfl, trivial, (Weak.mk [some 0, some 1, some 2, some 3, some 4, some 5, some 8] _ _ _ rfl rfl rfl rfl (by (repeat' (first | exact trivial | refine And.intro ?_ ?_ | refine ⟨_, rfl, _, rfl, ?_⟩ | exact VLe.refl _)); done) (by (repeat' (first | exact trivial | exact Or.inr ⟨_, rfl, rfl⟩ | refine And.intro ?_ ?_ | refine ⟨_, rfl, _, rfl, _, rfl, ?_⟩ | exact VLe.refl _ | exact VLe.of_eq (by simp [Sto.upd, map_take _ _ _ hm]))); done))⟩
      · intro _
        simp only [List.take_length]
        repeat' (first | ((with_reducible refine D.nil ?_); refine AX.nilL ?_) | ((with_reducible refine D.load ?_); refine L.ldb rfl rfl rfl rfl rfl rfl ?_) | ((with_reducible refine D.store ?_); refine L.st rfl rfl rfl rfl rfl rfl rfl rfl rfl ?_) | ((with_reducible refine D.aw ?_); first | refine K.sq (AW.regL ?_) | refine AW.ret ?_) | with_reducible refine K.tN ?_)
        (exact K.n2 [some 0, some 1] rfl rfl rfl rfl rfl (by (repeat' (first | exact trivial | refine And.intro ?_ ?_ | refine ⟨_, rfl, _, rfl, _, rfl, ?_⟩ | exact VLe.refl _)); done) rfl (by simp [tupV, V.wk, V.wks, constV, Ty.view, Tm.view, hre]))
theorem putFm_c (f : Fm) (at_ : Int) (s : Tm) (hat : 0 ≤ at_ ∧ at_ < 274877906944) (hs : s.full < 274877906944) (hsi : ∀ p ∈ s.vars 0, 0 ≤ p.1 ∧ p.1 < 549755813888) (hf : f.full < 137438953472) (hix : ∀ p ∈ f.tms 0, ∀ q ∈ p.1.vars 0, 0 ≤ q.1 ∧ q.1 < 549755813888) : PC E 102 [.agg f.view, .i at_, .agg s.view] (.agg (f.put at_ s).view) := by
  have hc := putFmRe at_ s hat hs hsi _ f 0 (Nat.le_refl _) (by omega) (by omega) (by omega) hix
  refine AC.mk Tryd.func102 rfl rfl rfl rfl rfl (Nat.le_of_ble_eq_true rfl) ?_
  repeat' (first | ((with_reducible refine D.nil ?_); refine AX.nilL ?_) | ((with_reducible refine D.load ?_); refine L.ldb rfl rfl rfl rfl rfl rfl ?_) | ((with_reducible refine D.call ?_); (apply L.cv2 (hc) [1, 2] 0 rfl; rfl; rfl; rfl; rfl; rfl; rfl; rfl; (focus ((repeat' (first | exact trivial | refine And.intro ?_ ?_ | refine ⟨_, rfl, _, rfl, _, rfl, ?_⟩ | exact VLe.refl _)); done)); rfl; rfl; rfl; rfl)) | ((with_reducible refine D.box ?_); refine L.bx rfl rfl rfl rfl ?_) | ((with_reducible refine D.alloc ?_); refine L.al rfl rfl rfl ?_) | ((with_reducible refine D.store ?_); refine L.st rfl rfl rfl rfl rfl rfl rfl rfl rfl ?_) | ((with_reducible refine D.ax ?_); refine L.mf rfl rfl rfl rfl ?_) | ((with_reducible refine D.aw ?_); first | refine K.sq (AW.regL ?_) | refine AW.ret ?_) | with_reducible refine K.tN ?_ | with_reducible refine K.r1 (by with_unfolding_all rfl) (by with_unfolding_all rfl) ?_)
  rfl
theorem fsize_c (f : Fm) (hf : f.full < 1099511627776) : PC E 97 [.agg f.view] (.tup [.i f.num, .i f.err]) := by
  have h1 := checkFm_c f hf
  refine AC.mk Tryd.func97 rfl rfl rfl rfl rfl (Nat.le_of_ble_eq_true rfl) ?_
  repeat' (first | ((with_reducible refine D.nil ?_); refine AX.nilL ?_) | ((with_reducible refine D.load ?_); refine L.ldb rfl rfl rfl rfl rfl rfl ?_) | ((with_reducible refine D.assign ?_); refine L.asg rfl rfl rfl ?_) | ((with_reducible refine D.call ?_); refine L.c2 (h1) rfl rfl rfl rfl ?_) | ((with_reducible refine D.extract ?_); refine L.ex rfl rfl rfl rfl ?_) | ((with_reducible refine D.box ?_); refine L.bx rfl rfl rfl rfl ?_) | ((with_reducible refine D.aw ?_); first | refine K.sq (AW.regL ?_) | refine AW.ret ?_) | with_reducible refine K.tN ?_ | with_reducible refine K.r1 (by with_unfolding_all rfl) (by with_unfolding_all rfl) ?_)
  rfl
theorem fwithin_c (n : Int) : PC E 98 [.i n] (.bool (decide (0 ≤ n ∧ n ≤ 4096))) := by
  refine AC.mk Tryd.func98 rfl rfl rfl rfl rfl (Nat.le_of_ble_eq_true rfl) ?_
  repeat' (first | ((with_reducible refine D.nil ?_); refine AX.nilL ?_) | ((with_reducible refine D.move ?_); first | refine L.mv rfl rfl rfl ?_ | refine AX.sk rfl rfl ?_ | ((fail_if_success refine AX.wt rfl ?_); refine AX.gs rfl rfl (fun _ => trivial) (fun h => ?_) (fun h => ?_))) | ((with_reducible refine D.assign ?_); refine L.asg rfl rfl rfl ?_) | ((with_reducible refine D.bin ?_); first | refine L.bn rfl rfl rfl rfl rfl ?_ | refine AX.sk rfl rfl ?_) | ((with_reducible refine D.pick ?_); refine L.pk rfl rfl rfl rfl ?_) | ((with_reducible refine D.aw ?_); first | refine K.sq (AW.regL ?_) | refine AW.ret ?_) | with_reducible refine K.tN ?_ | with_reducible refine K.r1 (by with_unfolding_all rfl) (by with_unfolding_all rfl) ?_)
  all_goals (simp_all [tupV, V.wk, V.wks, constV]; try omega)
theorem fput_c (f : Fm) (at_ : Int) (s : Tm) (hf : f.full < 137438953472) (hs : s.full < 274877906944) : PC E 79 [.agg f.view, .i at_, .agg s.view] (.tup [.agg (if putFErr f at_ s = 0 then f.put at_ s else noFm).view, .i (putFErr f at_ s)]) := by
  have h1 := fsize_c f (by omega)
  have h2 := size_c s (by omega)
  have h3 := fwithin_c at_
  have h4 := nearFm_c f (by omega)
  have h5 := near_c s (by omega)
  have h6 : f.err = 0 → f.near = true → 0 ≤ at_ ∧ at_ ≤ 4096 → _ := fun h hn ha => countFm_c f at_ (by omega) (by omega) fun p hp q hq => by have := nearF_lt h hn p hp q hq; omega
  have h7 : f.err = 0 → f.near = true → s.err = 0 → s.near = true → 0 ≤ at_ ∧ at_ ≤ 4096 → _ := fun h hn h' hn' ha => putFm_c f at_ s (by omega) hs (near_lt h' hn') hf (nearF_lt h hn)
  have hn1 := fnum_le f
  have hn2 := num_le s
  have hle := f.size_le_full
  have hcl := cntF_le at_ (f.tms 0)
  have hvl := tms_size f 0
  have hm := mul_bd (cntF at_ (f.tms 0)) (s.num - 1) (by omega) (by omega)
  have hm' : -9223372036854775808 ≤ (cntF at_ (f.tms 0) : Int) * (s.num - 1) ∧ (cntF at_ (f.tms 0) : Int) * (s.num - 1) ≤ 9223372036854775807 := by omega
  refine AC.mk Tryd.func79 rfl rfl rfl rfl rfl (Nat.le_of_ble_eq_true rfl) ?_
  repeat' (first | ((with_reducible refine D.nil ?_); refine AX.nilL ?_) | ((with_reducible refine D.load ?_); first | refine L.ldb rfl rfl rfl rfl rfl rfl ?_ | refine AX.sk rfl rfl ?_ | ((fail_if_success refine AX.wt rfl ?_); refine AX.gs rfl rfl (fun _ => trivial) (fun h => ?_) (fun h => ?_))) | ((with_reducible refine D.move ?_); refine L.mv rfl rfl rfl ?_) | ((with_reducible refine D.assign ?_); refine L.asg rfl rfl rfl ?_) | ((with_reducible refine D.bin ?_); first | refine L.ad rfl rfl rfl rfl (by omega) ?_ | refine L.sb rfl rfl rfl rfl (by omega) ?_ | refine L.ml rfl rfl rfl rfl (by first | omega | assumption) ?_ | refine L.bn rfl rfl rfl rfl rfl ?_) | ((with_reducible refine D.call ?_); first | refine L.c2 (h1) rfl rfl rfl rfl ?_ | refine L.c2 (h2) rfl rfl rfl rfl ?_ | refine L.c2 (h3) rfl rfl rfl rfl ?_ | refine L.c2 (h4) rfl rfl rfl rfl ?_ | refine L.c2 (h5) rfl rfl rfl rfl ?_ | refine L.c2 (h6 (by simp_all) (by simp_all) (by simp_all)) rfl rfl rfl rfl ?_ | refine L.c2 (h7 (by simp_all) (by simp_all) (by simp_all) (by simp_all) (by simp_all)) rfl rfl rfl rfl ?_ | refine AX.sk rfl rfl ?_) | ((with_reducible refine D.extract ?_); refine L.ex rfl rfl rfl rfl ?_) | ((with_reducible refine D.box ?_); refine L.bx rfl rfl rfl rfl ?_) | ((with_reducible refine D.alloc ?_); refine L.al rfl rfl rfl ?_) | ((with_reducible refine D.store ?_); refine L.st rfl rfl rfl rfl rfl rfl rfl rfl rfl ?_) | ((with_reducible refine D.not ?_); first | refine L.nt rfl rfl rfl ?_ | refine AX.sk rfl rfl ?_) | ((with_reducible refine D.pick ?_); refine L.pk rfl rfl rfl rfl ?_) | ((with_reducible refine D.ax ?_); refine L.bd rfl rfl rfl rfl rfl ?_) | ((with_reducible refine D.aw ?_); first | refine K.sq (AW.regL ?_) | refine K.sq (K.sq ?_) | refine AW.regL ?_ | refine AW.condT rfl ?_ | refine AW.condS rfl (fun h => ?_) (fun h => ?_) | refine AW.skip ?_ | refine AW.ret ?_) | with_reducible refine K.tN ?_ | with_reducible refine K.tR ?_ | with_reducible refine K.r1 (by with_unfolding_all rfl) (by with_unfolding_all rfl) ?_)
  all_goals first
    | (simp_all [tupV, V.wk, V.wks, constV, Ty.view, Fm.view, putFErr, noFm, Fm.num, Tm.num]; done)
    | skip
  rename_i h0
  have h' : ¬ (0 ≤ at_ ∧ at_ ≤ 4096) := by intro hc; simp [hc] at h
  have h0' : f.err = 0 := by simpa using h0
  have e : putFErr f at_ s = 1 := by simp only [putFErr, h0', ne_eq, not_true_eq_false, if_false, h', not_false_eq_true, if_true]
  simp [tupV, V.wk, V.wks, constV, Ty.view, Fm.view, e, noFm]
theorem sameForm_c : ∀ (n : Nat) (x y : Fm), x.full ≤ n → n < 1099511627776 → PC E 80 [.agg x.view, .agg y.view] (.bool (decide (x = y))) := by
  intro n
  induction n with
  | zero => intro x y h; have := x.full_pos; omega
  | succ n ih =>
  intro x y hsz hb
  have hsz' := x.full_eq
  have hlen := lsum_len Fm.full Fm.full_pos x.args
  have hlen2 := lsum_len Tm.full Tm.full_pos x.terms
  have heq := Fm.eq_iff x y
  have hty := sameTy2_c _ x.ty y.ty (Nat.le_refl _) (by omega)
  refine AC.mk Tryd.func80 rfl rfl rfl rfl rfl (Nat.le_of_ble_eq_true rfl) ?_
  repeat' (first | ((with_reducible refine D.nil ?_); refine AX.nilL ?_) | ((with_reducible refine D.load ?_); first | refine L.ldb rfl rfl rfl rfl rfl rfl ?_ | refine AX.sk rfl rfl ?_) | ((with_reducible refine D.move ?_); refine L.mv rfl rfl rfl ?_) | ((with_reducible refine D.fieldAddr ?_); first | refine L.fab rfl rfl rfl rfl rfl ?_ | refine AX.sk rfl rfl ?_ | ((fail_if_success refine AX.wt rfl ?_); refine AX.gs rfl rfl (fun _ => trivial) (fun h => ?_) (fun h => ?_))) | ((with_reducible refine D.assign ?_); refine L.asg rfl rfl rfl ?_) | ((with_reducible refine D.bin ?_); first | refine L.bn rfl rfl rfl rfl rfl ?_ | refine AX.sk rfl rfl ?_) | ((with_reducible refine D.call ?_); first | refine L.lnt rfl rfl rfl rfl ?_ | refine L.c2 (hty) rfl rfl rfl rfl ?_ | refine AX.sk rfl rfl ?_) | ((with_reducible refine D.box ?_); refine L.bx rfl rfl rfl rfl ?_) | ((with_reducible refine D.not ?_); first | refine L.nt rfl rfl rfl ?_ | refine AX.sk rfl rfl ?_) | ((with_reducible refine D.pick ?_); refine L.pk rfl rfl rfl rfl ?_) | ((with_reducible refine D.aw ?_); first | refine K.sq (AW.regL ?_) | refine K.sq (K.sq ?_) | refine AW.regL ?_ | refine AW.condT rfl ?_ | refine AW.condS rfl (fun h => ?_) (fun h => ?_) | refine AW.skip ?_ | refine AW.ret ?_) | with_reducible refine K.tN ?_ | with_reducible refine K.tR ?_ | with_reducible refine K.r1 (by with_unfolding_all rfl) (by with_unfolding_all rfl) ?_)
  · have : ¬ x = y := by rw [heq]; simp_all
    simp [this, tupV, constV, V.wk, V.wks]
  · have : ¬ x = y := by rw [heq]; simp_all
    simp [this, tupV, constV, V.wk, V.wks]
  · have : ¬ x = y := by rintro rfl; simp at h
    simp [this, tupV, constV, V.wk, V.wks]
  · have : ¬ x = y := by rintro rfl; simp at h
    simp [this, tupV, constV, V.wk, V.wks]
  · rename_i h1 h2 h3
    simp at h h1 h2 h3
    have hl : x.args.length = y.args.length := by omega
    have hl2 : x.terms.length = y.terms.length := by omega
    refine AW.range x.terms.length (fun m => ∀ j (hj : j < x.terms.length), j < m → x.terms[j] = y.terms[j]'(by omega))
      (fun m => ([(2, .ptr 0 0), (3, .ptr 1 0), (41, .s .tm x.terms), (42, .i x.terms.length), (43, .i m)], ⟨2, [(0, .var x.view), (1, .var y.view)]⟩))
      (by omega) (fun m => rfl) (fun m => rfl) rfl (by intro j hj h; omega) (Weak.mk [some 0, some 1] _ _ _ rfl rfl rfl rfl (by (repeat' (first | exact trivial | refine And.intro ?_ ?_ | refine ⟨_, rfl, _, rfl, ?_⟩ | exact VLe.refl _)); done) (by (repeat' (first | exact trivial | refine And.intro ?_ ?_ | refine ⟨_, rfl, _, rfl, _, rfl, ?_⟩ | exact VLe.refl _)); done)) ?_ ?_
    · intro m hm hP
      have hm' : m < y.terms.length := by omega
      have hs2 := lsum_mem Tm.full (List.getElem_mem hm)
      have hc := sameTm2_c _ x.terms[m] y.terms[m] (Nat.le_refl _) (by omega)
      repeat' (first | ((with_reducible refine D.nil ?_); first | refine AX.nilL ?_ | refine AX.nilD (by kernel_rfl) ?_) | ((with_reducible refine D.load ?_); first | refine L.ldb rfl rfl rfl rfl rfl rfl ?_ | refine L.lda rfl rfl rfl rfl rfl ?_) | ((with_reducible refine D.move ?_); refine L.mv rfl rfl rfl ?_) | ((with_reducible refine D.fieldAddr ?_); refine L.fab rfl rfl rfl rfl rfl ?_) | ((with_reducible refine D.assign ?_); refine L.asg rfl rfl rfl ?_) | ((with_reducible refine D.call ?_); refine L.c2 (hc) rfl rfl rfl rfl ?_) | ((with_reducible refine D.alloc ?_); refine L.al rfl rfl rfl ?_) | ((with_reducible refine D.store ?_); refine L.st rfl rfl rfl rfl rfl rfl rfl rfl rfl ?_) | ((with_reducible refine D.indexAddr ?_); refine L.ixt _ rfl rfl rfl rfl rfl rfl rfl (by assumption) ?_) | ((with_reducible refine D.not ?_); refine L.nt rfl rfl rfl ?_) | ((with_reducible refine D.aw ?_); first | refine K.sq (AW.regL ?_) | refine K.sq (AW.regD mixed (by kernel_rfl) ?_) | refine AW.condS rfl (fun h => ?_) (fun h => ?_) | refine AW.skip ?_ | refine AW.ret ?_) | with_reducible refine K.tN ?_ | with_reducible refine K.bN ?_ | with_reducible refine K.tR ?_ | with_reducible refine K.bR ?_ | with_reducible refine K.gR ?_ | with_reducible refine K.r1 (by with_unfolding_all rfl) (by with_unfolding_all rfl) ?_)
      · have : ¬ x = y := by rw [heq]; exact fun hc => list_ne hm hm' (by simpa using h) hc.2.2.1
        simp [this, tupV, constV, V.wk, V.wks]
      · exact ⟨rfl, step2 hl2 hm hP (by simpa using h), (Weak.mk [some 0, some 1] _ _ _ rfl rfl rfl rfl (by (repeat' (first | exact trivial | refine And.intro ?_ ?_ | refine ⟨_, rfl, _, rfl, ?_⟩ | exact VLe.refl _)); done) (by (repeat' (first | exact trivial | refine And.intro ?_ ?_ | refine ⟨_, rfl, _, rfl, _, rfl, ?_⟩ | exact VLe.refl _)); done))⟩
    · intro hP2
      have hterms := list_eq hl2 hP2
      repeat' (first | ((with_reducible refine D.nil ?_); refine AX.nilL ?_) | ((with_reducible refine D.load ?_); refine L.ldb rfl rfl rfl rfl rfl rfl ?_) | ((with_reducible refine D.move ?_); refine L.mv rfl rfl rfl ?_) | ((with_reducible refine D.fieldAddr ?_); refine L.fab rfl rfl rfl rfl rfl ?_) | ((with_reducible refine D.call ?_); refine L.lnt rfl rfl rfl rfl ?_) | ((with_reducible refine D.aw ?_); first | refine K.sq (K.sq ?_) | refine AW.regL ?_) | with_reducible refine K.tN ?_)
      refine AW.range x.args.length (fun m => ∀ j (hj : j < x.args.length), j < m → x.args[j] = y.args[j]'(by omega))
        (fun m => ([(2, .ptr 0 0), (3, .ptr 1 0), (58, .s .fm x.args), (59, .i x.args.length), (60, .i m)], ⟨2, [(0, .var x.view), (1, .var y.view)]⟩))
        (by omega) (fun m => rfl) (fun m => rfl) rfl (by intro j hj h; omega) (Weak.mk [some 0, some 1] _ _ _ rfl rfl rfl rfl (by (repeat' (first | exact trivial | refine And.intro ?_ ?_ | refine ⟨_, rfl, _, rfl, ?_⟩ | exact VLe.refl _)); done) (by (repeat' (first | exact trivial | refine And.intro ?_ ?_ | refine ⟨_, rfl, _, rfl, _, rfl, ?_⟩ | exact VLe.refl _)); done)) ?_ ?_
      · intro m hm hP
        have hm' : m < y.args.length := by omega
        have hs2 := lsum_mem Fm.full (List.getElem_mem hm)
        repeat' (first | ((with_reducible refine D.nil ?_); first | refine AX.nilL ?_ | refine AX.nilD (by kernel_rfl) ?_) | ((with_reducible refine D.load ?_); first | refine L.ldb rfl rfl rfl rfl rfl rfl ?_ | refine L.lda rfl rfl rfl rfl rfl ?_) | ((with_reducible refine D.move ?_); refine L.mv rfl rfl rfl ?_) | ((with_reducible refine D.fieldAddr ?_); refine L.fab rfl rfl rfl rfl rfl ?_) | ((with_reducible refine D.assign ?_); refine L.asg rfl rfl rfl ?_) | ((with_reducible refine D.call ?_); refine L.c2 (ih _ _ ?_ ?_) rfl rfl rfl rfl ?_) | ((with_reducible refine D.alloc ?_); refine L.al rfl rfl rfl ?_) | ((with_reducible refine D.store ?_); refine L.st rfl rfl rfl rfl rfl rfl rfl rfl rfl ?_) | ((with_reducible refine D.indexAddr ?_); refine L.ixt _ rfl rfl rfl rfl rfl rfl rfl (by assumption) ?_) | ((with_reducible refine D.not ?_); refine L.nt rfl rfl rfl ?_) | ((with_reducible refine D.aw ?_); first | refine K.sq (AW.regL ?_) | refine K.sq (AW.regD mixed (by kernel_rfl) ?_) | refine AW.condS rfl (fun h => ?_) (fun h => ?_) | refine AW.skip ?_ | refine AW.ret ?_) | with_reducible refine K.tN ?_ | with_reducible refine K.bN ?_ | with_reducible refine K.tR ?_ | with_reducible refine K.bR ?_ | with_reducible refine K.gR ?_ | with_reducible refine K.r1 (by with_unfolding_all rfl) (by with_unfolding_all rfl) ?_ | ((with_reducible show @LE.le Nat _ _ _); omega) | ((with_reducible show @LT.lt Nat _ _ _); omega))
        · have : ¬ x = y := by rw [heq]; exact fun hc => list_ne hm hm' (by simpa using h) hc.2.2.2
          simp [this, tupV, constV, V.wk, V.wks]
        · exact ⟨rfl, step2 hl hm hP (by simpa using h), (Weak.mk [some 0, some 1] _ _ _ rfl rfl rfl rfl (by (repeat' (first | exact trivial | refine And.intro ?_ ?_ | refine ⟨_, rfl, _, rfl, ?_⟩ | exact VLe.refl _)); done) (by (repeat' (first | exact trivial | refine And.intro ?_ ?_ | refine ⟨_, rfl, _, rfl, _, rfl, ?_⟩ | exact VLe.refl _)); done))⟩
      · intro hP
        have : x = y := heq.2 ⟨h1, h2, hterms, list_eq hl hP⟩
        repeat' (first | ((with_reducible refine D.nil ?_); refine AX.nilL ?_) | ((with_reducible refine D.assign ?_); refine L.asg rfl rfl rfl ?_) | ((with_reducible refine D.aw ?_); first | refine K.sq (AW.regL ?_) | refine AW.ret ?_) | with_reducible refine K.tN ?_ | with_reducible refine K.r1 (by with_unfolding_all rfl) (by with_unfolding_all rfl) ?_)
        simp [this, tupV, constV, V.wk, V.wks]
theorem fsame_c (x y : Fm) (h : x.full < 1099511627776) : PC E 54 [.agg x.view, .agg y.view] (.bool (decide (x = y))) := by
  have h1 := sameForm_c _ x y (Nat.le_refl _) h
  refine AC.mk Tryd.func54 rfl rfl rfl rfl rfl (Nat.le_of_ble_eq_true rfl) ?_
  repeat' (first | ((with_reducible refine D.nil ?_); refine AX.nilL ?_) | ((with_reducible refine D.load ?_); refine L.ldb rfl rfl rfl rfl rfl rfl ?_) | ((with_reducible refine D.assign ?_); refine L.asg rfl rfl rfl ?_) | ((with_reducible refine D.call ?_); refine L.c2 (h1) rfl rfl rfl rfl ?_) | ((with_reducible refine D.box ?_); refine L.bx rfl rfl rfl rfl ?_) | ((with_reducible refine D.aw ?_); first | refine K.sq (AW.regL ?_) | refine AW.ret ?_) | with_reducible refine K.tN ?_ | with_reducible refine K.r1 (by with_unfolding_all rfl) (by with_unfolding_all rfl) ?_)
  simp [tupV, V.wk, V.wks, constV, Ty.view, Tm.view]
end Go.Ab
namespace Go.Ab
open Go Go.Proofs
set_option maxRecDepth 100000
set_option maxHeartbeats 4000000
set_option linter.all false
theorem keyAt_none {k : Int} : ∀ {l : List Int}, k ∉ l → keyAt k l = none
  | [], _ => rfl
  | x :: l, h => by
    have h1 : ¬ x = k := fun e => h (by simp [e])
    have h2 : k ∉ l := fun hm => h (by simp [hm])
    simp only [keyAt, if_neg h1, keyAt_none h2, Option.map_none]
theorem keyAt_mem {k : Int} : ∀ {l : List Int}, k ∈ l → ∃ i, keyAt k l = some i
  | [], h => by cases h
  | x :: l, h => by
    by_cases h1 : x = k
    · exact ⟨0, by simp only [keyAt, if_pos h1]⟩
    · obtain ⟨i, hi⟩ := keyAt_mem (l := l) (by
        rcases List.mem_cons.1 h with h2 | h2
        · exact absurd h2.symm h1
        · exact h2)
      exact ⟨i + 1, by simp only [keyAt, if_neg h1, hi, Option.map_some]⟩
theorem lowered_c (t : Tm) (b : Int) (hb : 0 ≤ b ∧ b < 549755813888) (hs : t.shape = true) (hf : t.full < 137438953472) (hC : ∀ q ∈ t.vars 0, q.1 ≤ 268435456) : PC E 93 [.agg t.view, .i b] (.tup [.agg (low b.toNat t).1.view, .bool (low b.toNat t).2]) := by
  have hbn : (b.toNat : Int) = b := by omega
  refine AC.mk Tryd.func93 rfl rfl rfl rfl rfl (Nat.le_of_ble_eq_true rfl) ?_
  repeat' (first | ((with_reducible refine D.nil ?_); refine AX.nilL ?_) | ((with_reducible refine D.move ?_); refine L.mv rfl rfl rfl ?_) | ((with_reducible refine D.assign ?_); refine L.asg rfl rfl rfl ?_) | ((with_reducible refine D.box ?_); refine L.bx rfl rfl rfl rfl ?_) | ((with_reducible refine D.alloc ?_); refine L.al rfl rfl rfl ?_) | ((with_reducible refine D.aw ?_); first | refine K.sq (AW.regL ?_) | refine K.sq (K.sq ?_) | refine AW.regL ?_) | with_reducible refine K.tN ?_)
  refine AW.range b.toNat (fun m => ∀ j, j < m → cnt 0 ((lowI j t).vars 0) = 0)
    (fun m => ([(2, .ptr 0 0), (4, .ptr 1 0), (6, .i b), (7, .i m)], ⟨2, [(0, .var (lowI m t).view), (1, .var [.i 0, .i 0, .i 0, .slice .nil (.t .ty []), .slice .nil (.t .tm [])])]⟩))
    (by omega) (fun m => rfl) (fun m => by rw [← hbn]; rfl) rfl (by intro j hj; omega) (Weak.mk [some 0, some 1] _ _ _ rfl rfl rfl rfl (by (repeat' (first | exact trivial | refine And.intro ?_ ?_ | refine ⟨_, rfl, _, rfl, ?_⟩ | exact VLe.refl _)); done) (by (repeat' (first | exact trivial | refine And.intro ?_ ?_ | refine ⟨_, rfl, _, rfl, _, rfl, ?_⟩ | exact VLe.refl _)); done)) ?_ ?_
  · intro m hm hP
    obtain ⟨h1, h2, h3⟩ := lowI_ok hs hC m hP
    have hc := count_c (lowI m t) 0 (by omega) fun p hp => ⟨(lowI m t).vars_nonneg h1 0 p hp, by have := h3 p hp; omega⟩
    have hp := put_c (lowI m t) 0 noTm (by omega) (by decide) (by intro p hp; simp [noTm, Tm.vars, Tm.varss] at hp) (by omega) fun p hp => ⟨(lowI m t).vars_nonneg h1 0 p hp, by have := h3 p hp; omega⟩
    repeat' (first | ((with_reducible refine D.nil ?_); refine AX.nilL ?_) | ((with_reducible refine D.load ?_); refine L.ldb rfl rfl rfl rfl rfl rfl ?_) | ((with_reducible refine D.assign ?_); refine L.asg rfl rfl rfl ?_) | ((with_reducible refine D.bin ?_); refine L.bn rfl rfl rfl rfl rfl ?_) | ((with_reducible refine D.call ?_); first | refine L.c2 (hc) rfl rfl rfl rfl ?_ | refine L.c2 (hp) rfl rfl rfl rfl ?_) | ((with_reducible refine D.store ?_); refine L.st rfl rfl rfl rfl rfl rfl rfl rfl rfl ?_) | ((with_reducible refine D.ax ?_); refine L.bd rfl rfl rfl rfl rfl ?_) | ((with_reducible refine D.aw ?_); first | refine K.sq (AW.regL ?_) | refine K.sq (K.sq ?_) | refine AW.regL ?_ | refine AW.condS rfl (fun h => ?_) (fun h => ?_) | refine AW.skip ?_ | refine AW.ret ?_) | with_reducible refine K.tN ?_ | with_reducible refine K.bN ?_ | with_reducible refine K.tR ?_ | with_reducible refine K.bR ?_ | with_reducible refine K.gR ?_ | with_reducible refine K.r1 (by with_unfolding_all rfl) (by with_unfolding_all rfl) ?_)
    · have e : low b.toNat t = (noTm, false) := by
        simp only [low]
        rw [if_neg]
        intro hc
        have := hc m hm
        simp at h; omega
      rw [e]
      simp [tupV, V.wk, V.wks, constV, Ty.view, Tm.view, noTm]
    · refine ⟨rfl, ?_, (Weak.mk [some 0, some 1] _ _ _ rfl rfl rfl rfl (by (repeat' (first | exact trivial | refine And.intro ?_ ?_ | refine ⟨_, rfl, _, rfl, ?_⟩ | exact VLe.refl _)); done) (by (repeat' (first | exact trivial | refine And.intro ?_ ?_ | refine ⟨_, rfl, _, rfl, _, rfl, ?_⟩ | exact VLe.refl _)); done))⟩
      intro j hj
      by_cases hjm : j = m
      · subst hjm; simp at h; omega
      · exact hP j (by omega)
  · intro hP
    have e : low b.toNat t = (lowI b.toNat t, true) := by simp only [low]; rw [if_pos hP]
    rw [e]
    repeat' (first | ((with_reducible refine D.nil ?_); refine AX.nilL ?_) | ((with_reducible refine D.load ?_); refine L.ldb rfl rfl rfl rfl rfl rfl ?_) | ((with_reducible refine D.assign ?_); refine L.asg rfl rfl rfl ?_) | ((with_reducible refine D.store ?_); refine L.st rfl rfl rfl rfl rfl rfl rfl rfl rfl ?_) | ((with_reducible refine D.aw ?_); first | refine K.sq (AW.regL ?_) | refine AW.ret ?_) | with_reducible refine K.tN ?_ | with_reducible refine K.r1 (by with_unfolding_all rfl) (by with_unfolding_all rfl) ?_)
    simp [tupV, V.wk, V.wks, constV, Ty.view, Tm.view]
end Go.Ab
namespace Go.Ab
open Go Go.Proofs
set_option maxRecDepth 100000
set_option maxHeartbeats 4000000
set_option linter.all false
theorem ibeq (a b : Int) : (a == b) = decide (a = b) := by by_cases h : a = b <;> simp [h]
theorem termM_c (ho : Int) (hh : 0 ≤ ho ∧ ho ≤ 4096) : ∀ (n : Nat) (p t : Tm) (m : FMap) (b : Int), p.full ≤ n → n < 137438953472 → 0 ≤ b → b + n < 274877906944 → p.shape = true → t.shape = true → t.full < 137438953472 →
    (∀ q ∈ p.vars 0, q.1 ≤ 268435456) → (∀ q ∈ t.vars 0, q.1 ≤ 268435456) →
    AC E 76 [.ptr 0 0, .agg p.view, .agg t.view, .i b] ⟨2, [(0, .var [.i ho, .mp 1]), (1, .map .tm (m.map (·.1)) (m.map (·.2)))]⟩ (.bool (mT ho b p t m).1)
      ⟨2, [(0, .var [.i ho, .mp 1]), (1, .map .tm ((mT ho b p t m).2.map (·.1)) ((mT ho b p t m).2.map (·.2)))]⟩ := by
  intro n
  induction n with
  | zero => intro p; intros; have := p.full_pos; omega
  | succ n ih =>
  intro p t m b hsz hn hb hbn hps hts htf hpv htv
  have hsz' := p.full_eq
  have hlen := lsum_len Tm.full Tm.full_pos p.args
  have hmt := mT_eq ho b p t m
  have hpi : 0 ≤ p.index ∧ p.index ≤ 268435456 := by
    have h0 := shape_index hps
    by_cases hk : p.kind = 1
    · have h1 : (p.index, (0 : Int)) ∈ p.vars 0 := by rw [p.vars_eq, if_pos hk]; simp
      exact ⟨h0.1, hpv _ h1⟩
    · have := h0.2 hk; omega
  have hlow := lowered_c t b (by omega) hts htf htv
  have hty := sameTy2_c _ p.ty t.ty (Nat.le_refl _) (by omega)
  refine AC.mk Tryd.func76 rfl rfl rfl rfl rfl (Nat.le_of_ble_eq_true rfl) ?_
  repeat' (first | ((with_reducible refine D.nil ?_); refine AX.nilL ?_) | ((with_reducible refine D.load ?_); refine L.ldb rfl rfl rfl rfl rfl rfl ?_) | ((with_reducible refine D.move ?_); refine L.mv rfl rfl rfl ?_) | ((with_reducible refine D.fieldAddr ?_); refine L.fab rfl rfl rfl rfl rfl ?_) | ((with_reducible refine D.assign ?_); refine L.asg rfl rfl rfl ?_) | ((with_reducible refine D.bin ?_); refine L.sb rfl rfl rfl rfl (by omega) ?_) | ((with_reducible refine D.box ?_); refine L.bx rfl rfl rfl rfl ?_) | ((with_reducible refine D.aw ?_); (fail_if_success with_reducible refine D.stopR (id := 2) ?_); (fail_if_success with_reducible refine D.stopS (id := 2) ?_); first | refine K.sq (AW.regL ?_) | refine K.sq (K.sq ?_) | refine AW.regL ?_) | with_reducible refine K.tN ?_)
  refine AW.cut (ι := Unit) (fun _ => ([(0, .ptr 0 0), (3, .i b), (5, .ptr 2 0), (6, .ptr 3 0), (9, .i (p.index - b)), (34, .bool (decide (p.kind = 1 ∧ 0 ≤ p.index - b ∧ p.index - b < ho)))], ⟨4, [(0, .var [.i ho, .mp 1]), (1, .map .tm (m.map (·.1)) (m.map (·.2))), (2, .var p.view), (3, .var t.view)]⟩)) ?_ ?_
  · clear ih hmt hlow hty hpv htv hsz'
    repeat' (first | ((with_reducible refine D.nil ?_); refine AX.nilL ?_) | ((with_reducible refine D.load ?_); first | refine L.ldb rfl rfl rfl rfl rfl rfl ?_ | refine AX.sk rfl rfl ?_) | ((with_reducible refine D.move ?_); first | refine L.mv rfl rfl rfl ?_ | refine AX.sk rfl rfl ?_ | ((fail_if_success refine AX.wt rfl ?_); refine AX.gs rfl rfl (fun _ => trivial) (fun h => ?_) (fun h => ?_))) | ((with_reducible refine D.fieldAddr ?_); first | refine L.fab rfl rfl rfl rfl rfl ?_ | refine AX.sk rfl rfl ?_) | ((with_reducible refine D.bin ?_); first | refine L.bn rfl rfl rfl rfl rfl ?_ | refine AX.sk rfl rfl ?_) | ((with_reducible refine D.pick ?_); refine L.pk rfl rfl rfl rfl ?_) | ((with_reducible refine D.ax ?_); first | refine L.nc rfl rfl rfl rfl ?_ | refine AX.sk rfl rfl ?_) | ((with_reducible refine D.aw ?_); refine AW.regL ?_))
    · rename_i h0
      simp only [beq_iff_eq, decide_eq_true_eq] at h0 h
      have e : decide (p.kind = 1 ∧ 0 ≤ p.index - b ∧ p.index - b < ho) = decide (p.index - b < ho) := decide_eq_decide.2 (by omega)
      rw [e]
      exact ⟨(), (Weak.mk [some 0, some 1, some 2, some 3] _ _ _ rfl rfl rfl rfl (by (repeat' (first | exact trivial | refine And.intro ?_ ?_ | refine ⟨_, rfl, _, rfl, ?_⟩ | exact VLe.refl _)); done) (by (repeat' (first | exact trivial | refine And.intro ?_ ?_ | refine ⟨_, rfl, _, rfl, _, rfl, ?_⟩ | exact VLe.refl _ | refine ⟨_, rfl, _, _, rfl, ?_, ?_⟩ | with_reducible exact rfl)); done))⟩
    · simp only [decide_eq_false_iff_not] at h
      have e : decide (p.kind = 1 ∧ 0 ≤ p.index - b ∧ p.index - b < ho) = false := decide_eq_false (by omega)
      rw [e]
      exact ⟨(), (Weak.mk [some 0, some 1, some 2, some 3] _ _ _ rfl rfl rfl rfl (by (repeat' (first | exact trivial | refine And.intro ?_ ?_ | refine ⟨_, rfl, _, rfl, ?_⟩ | exact VLe.refl _)); done) (by (repeat' (first | exact trivial | refine And.intro ?_ ?_ | refine ⟨_, rfl, _, rfl, _, rfl, ?_⟩ | exact VLe.refl _ | refine ⟨_, rfl, _, _, rfl, ?_, ?_⟩ | with_reducible exact rfl)); done))⟩
    · simp only [beq_eq_false_iff_ne, ne_eq] at h
      have e : decide (p.kind = 1 ∧ 0 ≤ p.index - b ∧ p.index - b < ho) = false := decide_eq_false (by omega)
      rw [e]
      exact ⟨(), (Weak.mk [some 0, some 1, some 2, some 3] _ _ _ rfl rfl rfl rfl (by (repeat' (first | exact trivial | refine And.intro ?_ ?_ | refine ⟨_, rfl, _, rfl, ?_⟩ | exact VLe.refl _)); done) (by (repeat' (first | exact trivial | refine And.intro ?_ ?_ | refine ⟨_, rfl, _, rfl, _, rfl, ?_⟩ | exact VLe.refl _ | refine ⟨_, rfl, _, _, rfl, ?_, ?_⟩ | with_reducible exact rfl)); done))⟩
  intro _
  by_cases hhole : p.kind = 1 ∧ 0 ≤ p.index - b ∧ p.index - b < ho
  · rw [if_pos hhole] at hmt
    have hd : decide (p.kind = 1 ∧ 0 ≤ p.index - b ∧ p.index - b < ho) = true := decide_eq_true hhole
    rw [hd]
    by_cases hmem : (p.index - b) ∈ m.map (·.1)
    · rw [if_pos hmem] at hmt
      obtain ⟨i, hi⟩ := keyAt_mem hmem
      have hil : i < m.length := by have := (keyAt_some hi).2; simpa using this
      have hc0 : (m.map (·.2))[i]? = some (m[i]).2 := by rw [List.getElem?_map, List.getElem?_eq_getElem hil]; rfl
      rw [hmt]
      repeat' (first | ((with_reducible refine D.nil ?_); refine AX.nilL ?_) | ((with_reducible refine D.load ?_); refine L.ldb rfl rfl rfl rfl rfl rfl ?_) | ((with_reducible refine D.move ?_); refine L.mv rfl rfl rfl ?_) | ((with_reducible refine D.fieldAddr ?_); refine L.fab rfl rfl rfl rfl rfl ?_) | ((with_reducible refine D.assign ?_); refine L.asg rfl rfl rfl ?_) | ((with_reducible refine D.extract ?_); refine L.ex rfl rfl rfl rfl ?_) | ((with_reducible refine D.alloc ?_); refine L.al rfl rfl rfl ?_) | ((with_reducible refine D.store ?_); refine L.st rfl rfl rfl rfl rfl rfl rfl rfl rfl ?_) | ((with_reducible refine D.ax ?_); first | refine L.nc rfl rfl rfl rfl ?_ | refine L.lkuT rfl rfl rfl rfl rfl rfl (by first | assumption | rfl) (by first | assumption | rfl) rfl ?_) | ((with_reducible refine D.aw ?_); first | refine K.sq (AW.regL ?_) | refine K.sq (K.sq ?_) | refine AW.regL ?_ | refine AW.condT rfl ?_ | refine AW.ret ?_) | with_reducible refine K.tN ?_ | with_reducible refine K.tR ?_)
      (exact K.n2 [some 0, some 1] rfl rfl rfl rfl rfl (by (repeat' (first | exact trivial | refine And.intro ?_ ?_ | refine ⟨_, rfl, _, rfl, _, rfl, ?_⟩ | exact VLe.refl _ | refine ⟨_, rfl, _, _, rfl, ?_, ?_⟩ | with_reducible exact rfl)); done) rfl (by simp [tupV, V.wk, V.wks, constV, Ty.view, Tm.view, hmt]))
    · rw [if_neg hmem] at hmt
      have hi := keyAt_none hmem
      rw [hmt]
      repeat' (first | ((with_reducible refine D.nil ?_); first | refine AX.nilL ?_ | refine AX.nilD (by kernel_rfl) ?_) | ((with_reducible refine D.load ?_); refine L.ldb rfl rfl rfl rfl rfl rfl ?_) | ((with_reducible refine D.move ?_); refine L.mv rfl rfl rfl ?_) | ((with_reducible refine D.fieldAddr ?_); refine L.fab rfl rfl rfl rfl rfl ?_) | ((with_reducible refine D.assign ?_); refine L.asg rfl rfl rfl ?_) | ((with_reducible refine D.call ?_); refine L.c2 (hlow) rfl rfl rfl rfl ?_) | ((with_reducible refine D.extract ?_); refine L.ex rfl rfl rfl rfl ?_) | ((with_reducible refine D.alloc ?_); refine L.al rfl rfl rfl ?_) | ((with_reducible refine D.store ?_); refine L.st rfl rfl rfl rfl rfl rfl rfl rfl rfl ?_) | ((with_reducible refine D.ax ?_); first | refine L.nc rfl rfl rfl rfl ?_ | refine L.lkn rfl rfl rfl rfl rfl rfl (by first | assumption | rfl) rfl rfl rfl ?_ | refine L.muT rfl rfl rfl rfl rfl rfl (EC.fold_of rfl) rfl rfl ?_) | ((with_reducible refine D.aw ?_); first | refine K.sq (AW.regL ?_) | refine K.sq (AW.regD mixed (by kernel_rfl) ?_) | refine K.sq (K.sq ?_) | refine AW.regL ?_ | refine AW.condT rfl ?_ | refine AW.condF rfl ?_ | refine AW.skip ?_ | refine AW.ret ?_) | with_reducible refine K.tN ?_ | with_reducible refine K.tR ?_)
      (exact K.n2 [some 0, some 1] rfl rfl rfl rfl rfl (by (repeat' (first | exact trivial | refine And.intro ?_ ?_ | refine ⟨_, rfl, _, rfl, _, rfl, ?_⟩ | exact VLe.refl _ | refine ⟨_, rfl, _, _, rfl, ?_, ?_⟩ | (simp [Sto.upd, hmt, putKs, putCs, hi]; done))); done) rfl (by simp [tupV, V.wk, V.wks, constV, Ty.view, Tm.view, hmt, putKs, putCs, hi]))
  rw [if_neg hhole] at hmt
  have hd : decide (p.kind = 1 ∧ 0 ≤ p.index - b ∧ p.index - b < ho) = false := decide_eq_false hhole
  rw [hd]
  repeat' (first | ((with_reducible refine D.aw ?_); (fail_if_success with_reducible refine D.stopR (id := 9) ?_); (fail_if_success with_reducible refine D.stopS (id := 9) ?_); first | refine AW.condF rfl ?_ | refine AW.skip ?_) | with_reducible refine K.tN ?_)
  refine K.sq ?_
  refine AW.cut (ι := Unit) (fun _ => ([(0, .ptr 0 0), (3, .i b), (5, .ptr 2 0), (6, .ptr 3 0), (70, .bool (!decide (p.kind = t.kind ∧ p.ty = t.ty)))], ⟨4, [(0, .var [.i ho, .mp 1]), (1, .map .tm (m.map (·.1)) (m.map (·.2))), (2, .var p.view), (3, .var t.view)]⟩)) ?_ ?_
  · clear ih hmt hlow hpv htv hsz'
    repeat' (first | ((with_reducible refine D.nil ?_); refine AX.nilL ?_) | ((with_reducible refine D.load ?_); first | refine L.ldb rfl rfl rfl rfl rfl rfl ?_ | refine AX.sk rfl rfl ?_) | ((with_reducible refine D.move ?_); refine L.mv rfl rfl rfl ?_) | ((with_reducible refine D.fieldAddr ?_); first | refine L.fab rfl rfl rfl rfl rfl ?_ | refine AX.sk rfl rfl ?_ | ((fail_if_success refine AX.wt rfl ?_); refine AX.gs rfl rfl (fun _ => trivial) (fun h => ?_) (fun h => ?_))) | ((with_reducible refine D.bin ?_); refine L.bn rfl rfl rfl rfl rfl ?_) | ((with_reducible refine D.call ?_); first | refine L.c2 (hty) rfl rfl rfl rfl ?_ | refine AX.sk rfl rfl ?_) | ((with_reducible refine D.not ?_); first | refine L.nt rfl rfl rfl ?_ | refine AX.sk rfl rfl ?_) | ((with_reducible refine D.pick ?_); refine L.pk rfl rfl rfl rfl ?_) | ((with_reducible refine D.aw ?_); refine AW.regL ?_))
    · have e : (!decide (p.kind = t.kind ∧ p.ty = t.ty)) = true := by
        simp only [bne_iff_ne, ne_eq] at h
        simp [h]
      rw [e]
      exact ⟨(), (Weak.mk [some 0, some 1, some 2, some 3] _ _ _ rfl rfl rfl rfl (by (repeat' (first | exact trivial | refine And.intro ?_ ?_ | refine ⟨_, rfl, _, rfl, ?_⟩ | exact VLe.refl _)); done) (by (repeat' (first | exact trivial | refine And.intro ?_ ?_ | refine ⟨_, rfl, _, rfl, _, rfl, ?_⟩ | exact VLe.refl _ | refine ⟨_, rfl, _, _, rfl, ?_, ?_⟩ | with_reducible exact rfl)); done))⟩
    · have e : (!decide (p.kind = t.kind ∧ p.ty = t.ty)) = !decide (p.ty = t.ty) := by
        simp only [bne_eq_false_iff_eq] at h
        simp [h]
      rw [e]
      exact ⟨(), (Weak.mk [some 0, some 1, some 2, some 3] _ _ _ rfl rfl rfl rfl (by (repeat' (first | exact trivial | refine And.intro ?_ ?_ | refine ⟨_, rfl, _, rfl, ?_⟩ | exact VLe.refl _)); done) (by (repeat' (first | exact trivial | refine And.intro ?_ ?_ | refine ⟨_, rfl, _, rfl, _, rfl, ?_⟩ | exact VLe.refl _ | refine ⟨_, rfl, _, _, rfl, ?_, ?_⟩ | with_reducible exact rfl)); done))⟩
  intro _
  by_cases hne : ¬ (p.kind = t.kind ∧ p.ty = t.ty)
  · rw [if_neg hne] at hmt
    have hd2 : (!decide (p.kind = t.kind ∧ p.ty = t.ty)) = true := by rw [decide_eq_false hne]; rfl
    rw [hd2, hmt]
    repeat' (first | ((with_reducible refine D.nil ?_); refine AX.nilL ?_) | ((with_reducible refine D.assign ?_); refine L.asg rfl rfl rfl ?_) | ((with_reducible refine D.aw ?_); first | refine K.sq (AW.regL ?_) | refine AW.condT rfl ?_ | refine AW.ret ?_) | with_reducible refine K.tN ?_ | with_reducible refine K.tR ?_)
    (exact K.n2 [some 0, some 1] rfl rfl rfl rfl rfl (by (repeat' (first | exact trivial | refine And.intro ?_ ?_ | refine ⟨_, rfl, _, rfl, _, rfl, ?_⟩ | exact VLe.refl _ | refine ⟨_, rfl, _, _, rfl, ?_, ?_⟩ | with_reducible exact rfl)); done) rfl (by simp [tupV, V.wk, V.wks, constV, Ty.view, Tm.view, hmt]))
  have heq := Classical.not_not.1 hne
  have hd2 : (!decide (p.kind = t.kind ∧ p.ty = t.ty)) = false := by rw [decide_eq_true heq]; rfl
  rw [if_pos heq] at hmt
  rw [hd2]
  have hal := head_args hps hts heq.1
  by_cases hk1 : p.kind = 1
  · rw [if_pos hk1] at hmt
    have hti : 0 ≤ t.index ∧ t.index ≤ 268435456 := by
      have h1 : (t.index, (0 : Int)) ∈ t.vars 0 := by rw [t.vars_eq, if_pos (heq.1 ▸ hk1)]; simp
      exact ⟨(shape_index hts).1, htv _ h1⟩
    rw [hmt]
    repeat' (first | ((with_reducible refine D.nil ?_); first | refine AX.nilL ?_ | refine AX.nilD (by kernel_rfl) ?_) | ((with_reducible refine D.load ?_); refine L.ldb rfl rfl rfl rfl rfl rfl ?_) | ((with_reducible refine D.move ?_); refine L.mv rfl rfl rfl ?_) | ((with_reducible refine D.fieldAddr ?_); refine L.fab rfl rfl rfl rfl rfl ?_) | ((with_reducible refine D.assign ?_); refine L.asg rfl rfl rfl ?_) | ((with_reducible refine D.bin ?_); first | refine L.ad rfl rfl rfl rfl (by omega) ?_ | refine L.sb rfl rfl rfl rfl (by omega) ?_ | refine L.bn rfl rfl rfl rfl rfl ?_) | ((with_reducible refine D.call ?_); refine L.lnt rfl rfl rfl rfl ?_) | ((with_reducible refine D.ax ?_); refine L.nc rfl rfl rfl rfl ?_) | ((with_reducible refine D.aw ?_); first | refine K.sq (AW.regL ?_) | refine K.sq (AW.regD mixed (by kernel_rfl) ?_) | refine K.sq (K.sq ?_) | refine AW.regL ?_ | refine AW.condF rfl ?_ | refine AW.condS rfl (fun h => ?_) (fun h => ?_) | refine AW.skip ?_ | refine AW.ret ?_) | with_reducible refine K.tN ?_ | with_reducible refine K.tR ?_)
    · have hle : b ≤ p.index := by simpa using h
      (exact K.n2 [some 0, some 1] rfl rfl rfl rfl rfl (by (repeat' (first | exact trivial | refine And.intro ?_ ?_ | refine ⟨_, rfl, _, rfl, _, rfl, ?_⟩ | exact VLe.refl _ | refine ⟨_, rfl, _, _, rfl, ?_, ?_⟩ | with_reducible exact rfl)); done) rfl (by simp [tupV, V.wk, V.wks, constV, Ty.view, Tm.view, hle, ibeq]))
    · have hle : ¬ b ≤ p.index := by simpa using h
      (exact K.n2 [some 0, some 1] rfl rfl rfl rfl rfl (by (repeat' (first | exact trivial | refine And.intro ?_ ?_ | refine ⟨_, rfl, _, rfl, _, rfl, ?_⟩ | exact VLe.refl _ | refine ⟨_, rfl, _, _, rfl, ?_, ?_⟩ | with_reducible exact rfl)); done) rfl (by simp [tupV, V.wk, V.wks, constV, Ty.view, Tm.view, hle, ibeq]))
    · exfalso; rename_i h0; simp [hk1] at h0
    · exfalso; rename_i h0; simp [hk1] at h0
  rw [if_neg hk1] at hmt
  rw [hmt]
  repeat' (first | ((with_reducible refine D.nil ?_); first | refine AX.nilL ?_ | refine AX.nilD (by kernel_rfl) ?_) | ((with_reducible refine D.load ?_); refine L.ldb rfl rfl rfl rfl rfl rfl ?_) | ((with_reducible refine D.move ?_); refine L.mv rfl rfl rfl ?_) | ((with_reducible refine D.fieldAddr ?_); refine L.fab rfl rfl rfl rfl rfl ?_) | ((with_reducible refine D.assign ?_); refine L.asg rfl rfl rfl ?_) | ((with_reducible refine D.bin ?_); first | refine L.ad rfl rfl rfl rfl (by omega) ?_ | refine L.sb rfl rfl rfl rfl (by omega) ?_ | refine L.bn rfl rfl rfl rfl rfl ?_) | ((with_reducible refine D.call ?_); refine L.lnt rfl rfl rfl rfl ?_) | ((with_reducible refine D.ax ?_); refine L.nc rfl rfl rfl rfl ?_) | ((with_reducible refine D.aw ?_); first | refine K.sq (AW.regL ?_) | refine K.sq (AW.regD mixed (by kernel_rfl) ?_) | refine K.sq (K.sq ?_) | refine AW.regL ?_ | refine AW.condF rfl ?_ | refine AW.condS rfl (fun h => ?_) (fun h => ?_) | refine AW.skip ?_ | refine AW.ret ?_) | with_reducible refine K.tN ?_ | with_reducible refine K.tR ?_)
  · exfalso; rename_i h0; simp [hk1] at h0
  · exfalso; rename_i h0; simp [hk1] at h0
  all_goals
    refine AW.range p.args.length (fun k => (mTs ho (up p.kind b) (p.args.take k) (t.args.take k) m).1 = true)
      (fun k => ([(0, .ptr 0 0), (3, .i (up p.kind b)), (5, .ptr 2 0), (6, .ptr 3 0), (99, .s .tm p.args), (100, .i p.args.length), (101, .i k)], ⟨4, [(0, .var [.i ho, .mp 1]), (1, .map .tm ((mTs ho (up p.kind b) (p.args.take k) (t.args.take k) m).2.map (·.1)) ((mTs ho (up p.kind b) (p.args.take k) (t.args.take k) m).2.map (·.2))), (2, .var p.view), (3, .var t.view)]⟩))
      (by omega) (fun m => rfl) (fun m => rfl) rfl rfl ?_ ?_ ?_
    · simp only [beq_iff_eq, beq_eq_false_iff_ne, ne_eq] at h
      exact (Weak.mk [some 0, some 1, some 2, some 3] _ _ _ rfl rfl rfl rfl (by (repeat' (first | exact trivial | refine And.intro ?_ ?_ | refine ⟨_, rfl, _, rfl, ?_⟩ | exact VLe.refl _ | exact VLe.of_eq (by simp [Sto.upd, up, h, mTs]))); done) (by (repeat' (first | exact trivial | refine And.intro ?_ ?_ | refine ⟨_, rfl, _, rfl, _, rfl, ?_⟩ | exact VLe.refl _ | refine ⟨_, rfl, _, _, rfl, ?_, ?_⟩ | (simp [Sto.upd, up, h, mTs]; done))); done))
    · intro k hk hP
      have hk2 : k < t.args.length := by omega
      have hs2 := lsum_mem Tm.full (List.getElem_mem hk)
      have hs3 := lsum_mem Tm.full (List.getElem_mem hk2)
      have hs4 := t.full_eq
      have hup : up p.kind b ≤ b + 1 := by simp only [up]; split <;> omega
      have hup0 : 0 ≤ up p.kind b := by simp only [up]; split <;> omega
      have hc := ih p.args[k] t.args[k] (mTs ho (up p.kind b) (p.args.take k) (t.args.take k) m).2 (up p.kind b) (by omega) (by omega) hup0 (by omega) (shape_args hps _ (List.getElem_mem hk)) (shape_args hts _ (List.getElem_mem hk2)) (by omega)
        (vars_bd hpv (List.getElem_mem hk)) (vars_bd htv (List.getElem_mem hk2))
      have htk := mTs_take (m := m) hal hk hP
      repeat' (first | ((with_reducible refine D.nil ?_); first | refine AX.nilL ?_ | refine AX.nilD (by kernel_rfl) ?_) | ((with_reducible refine D.load ?_); first | refine L.ldb rfl rfl rfl rfl rfl rfl ?_ | refine L.lda rfl rfl rfl rfl rfl ?_) | ((with_reducible refine D.move ?_); refine L.mv rfl rfl rfl ?_) | ((with_reducible refine D.fieldAddr ?_); refine L.fab rfl rfl rfl rfl rfl ?_) | ((with_reducible refine D.assign ?_); refine L.asg rfl rfl rfl ?_) | ((with_reducible refine D.call ?_); (apply L.cb2 (hc) [0, 1] 0 rfl; rfl; rfl; rfl; rfl; rfl; rfl; (focus ((repeat' (first | exact trivial | refine And.intro ?_ ?_ | refine ⟨_, rfl, _, rfl, _, rfl, ?_⟩ | exact VLe.refl _ | refine ⟨_, rfl, _, _, rfl, ?_, ?_⟩ | with_reducible exact rfl)); done)); rfl; rfl; rfl; rfl)) | ((with_reducible refine D.alloc ?_); refine L.al rfl rfl rfl ?_) | ((with_reducible refine D.store ?_); refine L.st rfl rfl rfl rfl rfl rfl rfl rfl rfl ?_) | ((with_reducible refine D.indexAddr ?_); refine L.ixt _ rfl rfl rfl rfl rfl rfl rfl (by assumption) ?_) | ((with_reducible refine D.not ?_); refine L.nt rfl rfl rfl ?_) | ((with_reducible refine D.aw ?_); first | refine K.sq (AW.regL ?_) | refine K.sq (AW.regD mixed (by kernel_rfl) ?_) | refine AW.condS rfl (fun h => ?_) (fun h => ?_) | refine AW.skip ?_ | refine AW.ret ?_) | with_reducible refine K.tN ?_ | with_reducible refine K.bN ?_ | with_reducible refine K.tR ?_ | with_reducible refine K.bR ?_ | with_reducible refine K.gR ?_)
      · have h1 : (mT ho (up p.kind b) p.args[k] t.args[k] (mTs ho (up p.kind b) (p.args.take k) (t.args.take k) m).2).1 = false := by simpa using h
        have e := mTs_stop (m := m) hal hk hP h1
        rw [e]
        (exact K.n2 [some 0, some 1] rfl rfl rfl rfl rfl (by (repeat' (first | exact trivial | refine And.intro ?_ ?_ | refine ⟨_, rfl, _, rfl, _, rfl, ?_⟩ | exact VLe.refl _ | refine ⟨_, rfl, _, _, rfl, ?_, ?_⟩ | with_reducible exact rfl)); done) rfl (by simp [tupV, V.wk, V.wks, constV, Ty.view, Tm.view, h1]))
      · have h1 : (mT ho (up p.kind b) p.args[k] t.args[k] (mTs ho (up p.kind b) (p.args.take k) (t.args.take k) m).2).1 = true := by simpa using h
        refine ⟨rfl, by simp only [htk]; exact h1, ?_⟩
        simp only [htk]
        exact (Weak.mk [some 0, some 1, some 2, some 3] _ _ _ rfl rfl rfl rfl (by (repeat' (first | exact trivial | refine And.intro ?_ ?_ | refine ⟨_, rfl, _, rfl, ?_⟩ | exact VLe.refl _)); done) (by (repeat' (first | exact trivial | refine And.intro ?_ ?_ | refine ⟨_, rfl, _, rfl, _, rfl, ?_⟩ | exact VLe.refl _ | refine ⟨_, rfl, _, _, rfl, ?_, ?_⟩ | with_reducible exact rfl)); done))
    · intro hP
      have e : mTs ho (up p.kind b) p.args t.args m = (true, (mTs ho (up p.kind b) p.args t.args m).2) := by
        have h1 := hP
        rw [List.take_of_length_le (Nat.le_refl _), List.take_of_length_le (by omega)] at h1
        exact Prod.ext h1 rfl
      rw [List.take_of_length_le (Nat.le_refl _), List.take_of_length_le (show t.args.length ≤ p.args.length by omega)]
      rw [e]
      repeat' (first | ((with_reducible refine D.nil ?_); refine AX.nilL ?_) | ((with_reducible refine D.assign ?_); refine L.asg rfl rfl rfl ?_) | ((with_reducible refine D.aw ?_); first | refine K.sq (AW.regL ?_) | refine AW.ret ?_) | with_reducible refine K.tN ?_)
      (exact K.n2 [some 0, some 1] rfl rfl rfl rfl rfl (by (repeat' (first | exact trivial | refine And.intro ?_ ?_ | refine ⟨_, rfl, _, rfl, _, rfl, ?_⟩ | exact VLe.refl _ | refine ⟨_, rfl, _, _, rfl, ?_, ?_⟩ | with_reducible exact rfl)); done) rfl (by simp [tupV, V.wk, V.wks, constV, Ty.view, Tm.view, e]))
end Go.Ab
namespace Go.Ab
open Go Go.Proofs
set_option maxRecDepth 100000
set_option maxHeartbeats 4000000
set_option linter.all false
theorem formM_c (ho : Int) (hh : 0 ≤ ho ∧ ho ≤ 4096) : ∀ (n : Nat) (p f : Fm) (m : FMap) (b : Int), p.full ≤ n → n < 68719476736 → 0 ≤ b → b + n < 137438953472 → p.shape = true → f.shape = true → f.full < 68719476736 →
    p.nearE = true → f.nearE = true →
    AC E 50 [.ptr 0 0, .agg p.view, .agg f.view, .i b] ⟨2, [(0, .var [.i ho, .mp 1]), (1, .map .tm (m.map (·.1)) (m.map (·.2)))]⟩ (.bool (mF ho b p f m).1)
      ⟨2, [(0, .var [.i ho, .mp 1]), (1, .map .tm ((mF ho b p f m).2.map (·.1)) ((mF ho b p f m).2.map (·.2)))]⟩ := by
  intro n
  induction n with
  | zero => intro p; intros; have := p.full_pos; omega
  | succ n ih =>
  intro p f m b hsz hn hb hbn hps hfs hff hpv hfv
  have hsz' := p.full_eq
  have hlen := lsum_len Fm.full Fm.full_pos p.args
  have hlen2 := lsum_len Tm.full Tm.full_pos p.terms
  have hff' := f.full_eq
  have hmt := mF_eq ho b p f m
  have hq := quantifier_c p.kind
  have hty := sameTy2_c _ p.ty f.ty (Nat.le_refl _) (by omega)
  refine AC.mk Tryd.func50 rfl rfl rfl rfl rfl (Nat.le_of_ble_eq_true rfl) ?_
  repeat' (first | ((with_reducible refine D.nil ?_); refine AX.nilL ?_) | ((with_reducible refine D.assign ?_); refine L.asg rfl rfl rfl ?_) | ((with_reducible refine D.box ?_); refine L.bx rfl rfl rfl rfl ?_) | ((with_reducible refine D.aw ?_); (fail_if_success with_reducible refine D.stopR (id := 1) ?_); (fail_if_success with_reducible refine D.stopS (id := 1) ?_); refine K.sq (AW.regL ?_)) | with_reducible refine K.tN ?_)
  refine K.sq ?_
  refine AW.cut (ι := Unit) (fun _ => ([(0, .ptr 0 0), (3, .i b), (5, .ptr 2 0), (6, .ptr 3 0), (25, .bool (!decide (p.kind = f.kind ∧ p.ty = f.ty)))], ⟨4, [(0, .var [.i ho, .mp 1]), (1, .map .tm (m.map (·.1)) (m.map (·.2))), (2, .var p.view), (3, .var f.view)]⟩)) ?_ ?_
  · clear ih hmt hpv hfv hsz' hq hff'
    repeat' (first | ((with_reducible refine D.nil ?_); refine AX.nilL ?_) | ((with_reducible refine D.load ?_); first | refine L.ldb rfl rfl rfl rfl rfl rfl ?_ | refine AX.sk rfl rfl ?_) | ((with_reducible refine D.move ?_); refine L.mv rfl rfl rfl ?_) | ((with_reducible refine D.fieldAddr ?_); first | refine L.fab rfl rfl rfl rfl rfl ?_ | refine AX.sk rfl rfl ?_ | ((fail_if_success refine AX.wt rfl ?_); refine AX.gs rfl rfl (fun _ => trivial) (fun h => ?_) (fun h => ?_))) | ((with_reducible refine D.bin ?_); refine L.bn rfl rfl rfl rfl rfl ?_) | ((with_reducible refine D.call ?_); first | refine L.c2 (hty) rfl rfl rfl rfl ?_ | refine AX.sk rfl rfl ?_) | ((with_reducible refine D.not ?_); first | refine L.nt rfl rfl rfl ?_ | refine AX.sk rfl rfl ?_) | ((with_reducible refine D.pick ?_); refine L.pk rfl rfl rfl rfl ?_) | ((with_reducible refine D.aw ?_); refine AW.regL ?_))
    · have e : (!decide (p.kind = f.kind ∧ p.ty = f.ty)) = true := by
        simp only [bne_iff_ne, ne_eq] at h
        simp [h]
      rw [e]
      exact ⟨(), (Weak.mk [some 0, some 1, some 2, some 3] _ _ _ rfl rfl rfl rfl (by (repeat' (first | exact trivial | refine And.intro ?_ ?_ | refine ⟨_, rfl, _, rfl, ?_⟩ | exact VLe.refl _)); done) (by (repeat' (first | exact trivial | refine And.intro ?_ ?_ | refine ⟨_, rfl, _, rfl, _, rfl, ?_⟩ | exact VLe.refl _ | refine ⟨_, rfl, _, _, rfl, ?_, ?_⟩ | with_reducible exact rfl)); done))⟩
    · have e : (!decide (p.kind = f.kind ∧ p.ty = f.ty)) = !decide (p.ty = f.ty) := by
        simp only [bne_eq_false_iff_eq] at h
        simp [h]
      rw [e]
      exact ⟨(), (Weak.mk [some 0, some 1, some 2, some 3] _ _ _ rfl rfl rfl rfl (by (repeat' (first | exact trivial | refine And.intro ?_ ?_ | refine ⟨_, rfl, _, rfl, ?_⟩ | exact VLe.refl _)); done) (by (repeat' (first | exact trivial | refine And.intro ?_ ?_ | refine ⟨_, rfl, _, rfl, _, rfl, ?_⟩ | exact VLe.refl _ | refine ⟨_, rfl, _, _, rfl, ?_, ?_⟩ | with_reducible exact rfl)); done))⟩
  intro _
  by_cases hne : ¬ (p.kind = f.kind ∧ p.ty = f.ty)
  · rw [if_neg hne] at hmt
    have hd2 : (!decide (p.kind = f.kind ∧ p.ty = f.ty)) = true := by rw [decide_eq_false hne]; rfl
    rw [hd2, hmt]
    repeat' (first | ((with_reducible refine D.nil ?_); refine AX.nilL ?_) | ((with_reducible refine D.assign ?_); refine L.asg rfl rfl rfl ?_) | ((with_reducible refine D.aw ?_); first | refine K.sq (AW.regL ?_) | refine AW.condT rfl ?_ | refine AW.ret ?_) | with_reducible refine K.tN ?_ | with_reducible refine K.tR ?_)
    (exact K.n2 [some 0, some 1] rfl rfl rfl rfl rfl (by (repeat' (first | exact trivial | refine And.intro ?_ ?_ | refine ⟨_, rfl, _, rfl, _, rfl, ?_⟩ | exact VLe.refl _ | refine ⟨_, rfl, _, _, rfl, ?_, ?_⟩ | with_reducible exact rfl)); done) rfl (by simp [tupV, V.wk, V.wks, constV, Ty.view, Tm.view, hmt]))
  have heq := Classical.not_not.1 hne
  have hd2 : (!decide (p.kind = f.kind ∧ p.ty = f.ty)) = false := by rw [decide_eq_true heq]; rfl
  rw [if_pos heq] at hmt
  rw [hd2]
  have hal := head_fm hps hfs heq.1
  repeat' (first | ((with_reducible refine D.nil ?_); refine AX.nilL ?_) | ((with_reducible refine D.load ?_); refine L.ldb rfl rfl rfl rfl rfl rfl ?_) | ((with_reducible refine D.move ?_); refine L.mv rfl rfl rfl ?_) | ((with_reducible refine D.fieldAddr ?_); refine L.fab rfl rfl rfl rfl rfl ?_) | ((with_reducible refine D.call ?_); refine L.lnt rfl rfl rfl rfl ?_) | ((with_reducible refine D.aw ?_); first | refine K.sq (K.sq ?_) | refine AW.regL ?_ | refine AW.condF rfl ?_ | refine AW.skip ?_) | with_reducible refine K.tN ?_)
  refine AW.range p.terms.length (fun k => (mTs ho b (p.terms.take k) (f.terms.take k) m).1 = true)
    (fun k => ([(0, .ptr 0 0), (3, .i b), (5, .ptr 2 0), (6, .ptr 3 0), (27, .s .tm p.terms), (28, .i p.terms.length), (29, .i k)], ⟨4, [(0, .var [.i ho, .mp 1]), (1, .map .tm ((mTs ho b (p.terms.take k) (f.terms.take k) m).2.map (·.1)) ((mTs ho b (p.terms.take k) (f.terms.take k) m).2.map (·.2))), (2, .var p.view), (3, .var f.view)]⟩))
    (by omega) (fun m => rfl) (fun m => rfl) rfl rfl (Weak.mk [some 0, some 1, some 2, some 3] _ _ _ rfl rfl rfl rfl (by (repeat' (first | exact trivial | refine And.intro ?_ ?_ | refine ⟨_, rfl, _, rfl, ?_⟩ | exact VLe.refl _)); done) (by (repeat' (first | exact trivial | refine And.intro ?_ ?_ | refine ⟨_, rfl, _, rfl, _, rfl, ?_⟩ | exact VLe.refl _ | refine ⟨_, rfl, _, _, rfl, ?_, ?_⟩ | (simp [Sto.upd, mTs]; done))); done)) ?_ ?_
  · intro k hk hP
    have hk2 : k < f.terms.length := by omega
    have hs2 := lsum_mem Tm.full (List.getElem_mem hk)
    have hs3 := lsum_mem Tm.full (List.getElem_mem hk2)
    have hc := termM_c ho hh _ p.terms[k] f.terms[k] (mTs ho b (p.terms.take k) (f.terms.take k) m).2 b (Nat.le_refl _) (by omega) hb (by omega) (fshape_terms hps (List.getElem_mem hk)) (fshape_terms hfs (List.getElem_mem hk2)) (by omega)
      (nearE_terms hpv (List.getElem_mem hk)) (nearE_terms hfv (List.getElem_mem hk2))
    have htk := mTs_take (m := m) hal.1 hk hP
    repeat' (first | ((with_reducible refine D.nil ?_); first | refine AX.nilL ?_ | refine AX.nilD (by kernel_rfl) ?_) | ((with_reducible refine D.load ?_); first | refine L.ldb rfl rfl rfl rfl rfl rfl ?_ | refine L.lda rfl rfl rfl rfl rfl ?_) | ((with_reducible refine D.move ?_); refine L.mv rfl rfl rfl ?_) | ((with_reducible refine D.fieldAddr ?_); refine L.fab rfl rfl rfl rfl rfl ?_) | ((with_reducible refine D.assign ?_); refine L.asg rfl rfl rfl ?_) | ((with_reducible refine D.call ?_); (apply L.cb2 (hc) [0, 1] 0 rfl; rfl; rfl; rfl; rfl; rfl; rfl; (focus ((repeat' (first | exact trivial | refine And.intro ?_ ?_ | refine ⟨_, rfl, _, rfl, _, rfl, ?_⟩ | exact VLe.refl _ | refine ⟨_, rfl, _, _, rfl, ?_, ?_⟩ | with_reducible exact rfl)); done)); rfl; rfl; rfl; rfl)) | ((with_reducible refine D.alloc ?_); refine L.al rfl rfl rfl ?_) | ((with_reducible refine D.store ?_); refine L.st rfl rfl rfl rfl rfl rfl rfl rfl rfl ?_) | ((with_reducible refine D.indexAddr ?_); refine L.ixt _ rfl rfl rfl rfl rfl rfl rfl (by assumption) ?_) | ((with_reducible refine D.not ?_); refine L.nt rfl rfl rfl ?_) | ((with_reducible refine D.aw ?_); first | refine K.sq (AW.regL ?_) | refine K.sq (AW.regD mixed (by kernel_rfl) ?_) | refine AW.condS rfl (fun h => ?_) (fun h => ?_) | refine AW.skip ?_ | refine AW.ret ?_) | with_reducible refine K.tN ?_ | with_reducible refine K.bN ?_ | with_reducible refine K.tR ?_ | with_reducible refine K.bR ?_ | with_reducible refine K.gR ?_)
    · have h1 : (mT ho b p.terms[k] f.terms[k] (mTs ho b (p.terms.take k) (f.terms.take k) m).2).1 = false := by simpa using h
      have e := mTs_stop (m := m) hal.1 hk hP h1
      rw [e] at hmt
      rw [hmt]
      (exact K.n2 [some 0, some 1] rfl rfl rfl rfl rfl (by (repeat' (first | exact trivial | refine And.intro ?_ ?_ | refine ⟨_, rfl, _, rfl, _, rfl, ?_⟩ | exact VLe.refl _ | refine ⟨_, rfl, _, _, rfl, ?_, ?_⟩ | with_reducible exact rfl)); done) rfl (by simp [tupV, V.wk, V.wks, constV, Ty.view, Tm.view, h1]))
    · have h1 : (mT ho b p.terms[k] f.terms[k] (mTs ho b (p.terms.take k) (f.terms.take k) m).2).1 = true := by simpa using h
      refine ⟨rfl, by simp only [htk]; exact h1, ?_⟩
      simp only [htk]
      exact (Weak.mk [some 0, some 1, some 2, some 3] _ _ _ rfl rfl rfl rfl (by (repeat' (first | exact trivial | refine And.intro ?_ ?_ | refine ⟨_, rfl, _, rfl, ?_⟩ | exact VLe.refl _)); done) (by (repeat' (first | exact trivial | refine And.intro ?_ ?_ | refine ⟨_, rfl, _, rfl, _, rfl, ?_⟩ | exact VLe.refl _ | refine ⟨_, rfl, _, _, rfl, ?_, ?_⟩ | with_reducible exact rfl)); done))
  intro hP
  rw [List.take_of_length_le (Nat.le_refl _), List.take_of_length_le (by omega)] at hP
  rw [List.take_of_length_le (Nat.le_refl _), List.take_of_length_le (show f.terms.length ≤ p.terms.length by omega)]
  have e1 : mTs ho b p.terms f.terms m = (true, (mTs ho b p.terms f.terms m).2) := Prod.ext hP rfl
  have hmt2 : mF ho b p f m = mFs ho (upF p.kind b) p.args f.args (mTs ho b p.terms f.terms m).2 := by rw [hmt, e1]
  rw [hmt2]
  repeat' (first | ((with_reducible refine D.nil ?_); refine AX.nilL ?_) | ((with_reducible refine D.load ?_); refine L.ldb rfl rfl rfl rfl rfl rfl ?_) | ((with_reducible refine D.move ?_); refine L.mv rfl rfl rfl ?_) | ((with_reducible refine D.fieldAddr ?_); refine L.fab rfl rfl rfl rfl rfl ?_) | ((with_reducible refine D.assign ?_); refine L.asg rfl rfl rfl ?_) | ((with_reducible refine D.bin ?_); refine L.ad rfl rfl rfl rfl (by omega) ?_) | ((with_reducible refine D.call ?_); first | refine L.lnt rfl rfl rfl rfl ?_ | refine L.c2 (hq) rfl rfl rfl rfl ?_) | ((with_reducible refine D.aw ?_); first | refine K.sq (K.sq ?_) | refine AW.regL ?_ | refine AW.condS rfl (fun h => ?_) (fun h => ?_) | refine AW.skip ?_) | with_reducible refine K.tN ?_)
  all_goals
    refine AW.range p.args.length (fun k => (mFs ho (upF p.kind b) (p.args.take k) (f.args.take k) (mTs ho b p.terms f.terms m).2).1 = true)
      (fun k => ([(0, .ptr 0 0), (3, .i (upF p.kind b)), (5, .ptr 2 0), (6, .ptr 3 0), (51, .s .fm p.args), (52, .i p.args.length), (53, .i k)], ⟨4, [(0, .var [.i ho, .mp 1]), (1, .map .tm ((mFs ho (upF p.kind b) (p.args.take k) (f.args.take k) (mTs ho b p.terms f.terms m).2).2.map (·.1)) ((mFs ho (upF p.kind b) (p.args.take k) (f.args.take k) (mTs ho b p.terms f.terms m).2).2.map (·.2))), (2, .var p.view), (3, .var f.view)]⟩))
      (by omega) (fun m => rfl) (fun m => rfl) rfl rfl ?_ ?_ ?_
    · exact (Weak.mk [some 0, some 1, some 2, some 3] _ _ _ rfl rfl rfl rfl (by (repeat' (first | exact trivial | refine And.intro ?_ ?_ | refine ⟨_, rfl, _, rfl, ?_⟩ | exact VLe.refl _ | exact VLe.of_eq (by simp [Sto.upd, upF, h, mFs]))); done) (by (repeat' (first | exact trivial | refine And.intro ?_ ?_ | refine ⟨_, rfl, _, rfl, _, rfl, ?_⟩ | exact VLe.refl _ | refine ⟨_, rfl, _, _, rfl, ?_, ?_⟩ | (simp [Sto.upd, upF, h, mFs]; done))); done))
    · intro k hk hP
      have hk2 : k < f.args.length := by omega
      have hs2 := lsum_mem Fm.full (List.getElem_mem hk)
      have hs3 := lsum_mem Fm.full (List.getElem_mem hk2)
      have hup : upF p.kind b ≤ b + 1 := by simp only [upF]; split <;> omega
      have hup0 : 0 ≤ upF p.kind b := by simp only [upF]; split <;> omega
      have hc := ih p.args[k] f.args[k] (mFs ho (upF p.kind b) (p.args.take k) (f.args.take k) (mTs ho b p.terms f.terms m).2).2 (upF p.kind b) (by omega) (by omega) hup0 (by omega) (fshape_args hps (List.getElem_mem hk)) (fshape_args hfs (List.getElem_mem hk2)) (by omega)
        (nearE_args hpv (List.getElem_mem hk)) (nearE_args hfv (List.getElem_mem hk2))
      have htk := mFs_take (m := (mTs ho b p.terms f.terms m).2) hal.2 hk hP
      repeat' (first | ((with_reducible refine D.nil ?_); first | refine AX.nilL ?_ | refine AX.nilD (by kernel_rfl) ?_) | ((with_reducible refine D.load ?_); first | refine L.ldb rfl rfl rfl rfl rfl rfl ?_ | refine L.lda rfl rfl rfl rfl rfl ?_) | ((with_reducible refine D.move ?_); refine L.mv rfl rfl rfl ?_) | ((with_reducible refine D.fieldAddr ?_); refine L.fab rfl rfl rfl rfl rfl ?_) | ((with_reducible refine D.assign ?_); refine L.asg rfl rfl rfl ?_) | ((with_reducible refine D.call ?_); (apply L.cb2 (hc) [0, 1] 0 rfl; rfl; rfl; rfl; rfl; rfl; rfl; (focus ((repeat' (first | exact trivial | refine And.intro ?_ ?_ | refine ⟨_, rfl, _, rfl, _, rfl, ?_⟩ | exact VLe.refl _ | refine ⟨_, rfl, _, _, rfl, ?_, ?_⟩ | with_reducible exact rfl)); done)); rfl; rfl; rfl; rfl)) | ((with_reducible refine D.alloc ?_); refine L.al rfl rfl rfl ?_) | ((with_reducible refine D.store ?_); refine L.st rfl rfl rfl rfl rfl rfl rfl rfl rfl ?_) | ((with_reducible refine D.indexAddr ?_); refine L.ixt _ rfl rfl rfl rfl rfl rfl rfl (by assumption) ?_) | ((with_reducible refine D.not ?_); refine L.nt rfl rfl rfl ?_) | ((with_reducible refine D.aw ?_); first | refine K.sq (AW.regL ?_) | refine K.sq (AW.regD mixed (by kernel_rfl) ?_) | refine AW.condS rfl (fun h => ?_) (fun h => ?_) | refine AW.skip ?_ | refine AW.ret ?_) | with_reducible refine K.tN ?_ | with_reducible refine K.bN ?_ | with_reducible refine K.tR ?_ | with_reducible refine K.bR ?_ | with_reducible refine K.gR ?_)
      · have h1 : (mF ho (upF p.kind b) p.args[k] f.args[k] (mFs ho (upF p.kind b) (p.args.take k) (f.args.take k) (mTs ho b p.terms f.terms m).2).2).1 = false := by simpa using h
        have e := mFs_stop (m := (mTs ho b p.terms f.terms m).2) hal.2 hk hP h1
        rw [e]
        (exact K.n2 [some 0, some 1] rfl rfl rfl rfl rfl (by (repeat' (first | exact trivial | refine And.intro ?_ ?_ | refine ⟨_, rfl, _, rfl, _, rfl, ?_⟩ | exact VLe.refl _ | refine ⟨_, rfl, _, _, rfl, ?_, ?_⟩ | with_reducible exact rfl)); done) rfl (by simp [tupV, V.wk, V.wks, constV, Ty.view, Tm.view, h1]))
      · have h1 : (mF ho (upF p.kind b) p.args[k] f.args[k] (mFs ho (upF p.kind b) (p.args.take k) (f.args.take k) (mTs ho b p.terms f.terms m).2).2).1 = true := by simpa using h
        refine ⟨rfl, by simp only [htk]; exact h1, ?_⟩
        simp only [htk]
        exact (Weak.mk [some 0, some 1, some 2, some 3] _ _ _ rfl rfl rfl rfl (by (repeat' (first | exact trivial | refine And.intro ?_ ?_ | refine ⟨_, rfl, _, rfl, ?_⟩ | exact VLe.refl _)); done) (by (repeat' (first | exact trivial | refine And.intro ?_ ?_ | refine ⟨_, rfl, _, rfl, _, rfl, ?_⟩ | exact VLe.refl _ | refine ⟨_, rfl, _, _, rfl, ?_, ?_⟩ | with_reducible exact rfl)); done))
    · intro hP
      have e : mFs ho (upF p.kind b) p.args f.args (mTs ho b p.terms f.terms m).2 = (true, (mFs ho (upF p.kind b) p.args f.args (mTs ho b p.terms f.terms m).2).2) := by
        have h1 := hP
        rw [List.take_of_length_le (Nat.le_refl _), List.take_of_length_le (by omega)] at h1
        exact Prod.ext h1 rfl
      rw [List.take_of_length_le (Nat.le_refl _), List.take_of_length_le (show f.args.length ≤ p.args.length by omega)]
      rw [e]
      repeat' (first | ((with_reducible refine D.nil ?_); refine AX.nilL ?_) | ((with_reducible refine D.assign ?_); refine L.asg rfl rfl rfl ?_) | ((with_reducible refine D.aw ?_); first | refine K.sq (AW.regL ?_) | refine AW.ret ?_) | with_reducible refine K.tN ?_)
      (exact K.n2 [some 0, some 1] rfl rfl rfl rfl rfl (by (repeat' (first | exact trivial | refine And.intro ?_ ?_ | refine ⟨_, rfl, _, rfl, _, rfl, ?_⟩ | exact VLe.refl _ | refine ⟨_, rfl, _, _, rfl, ?_, ?_⟩ | with_reducible exact rfl)); done) rfl (by simp [tupV, V.wk, V.wks, constV, Ty.view, Tm.view, e]))
end Go.Ab
namespace Go.Ab
open Go Go.Proofs
set_option maxRecDepth 100000
set_option maxHeartbeats 4000000
set_option linter.all false
theorem fill_c (p : Fm) (l : List Tm) (hp : p.full < 137438953472) (hlen : l.length < 1099511627776) (hl : ∀ t ∈ l, t.full < 137438953472) : PC E 53 [.agg p.view, .s .tm l] (.tup [.agg (fill p l).1.view, .i (fill p l).2]) := by
  have h1 := fcheck_c p (by omega)
  have h2 := ownFm_c p (by omega)
  refine AC.mk Tryd.func53 rfl rfl rfl rfl rfl (Nat.le_of_ble_eq_true rfl) ?_
  repeat' (first | ((with_reducible refine D.nil ?_); refine AX.nilL ?_) | ((with_reducible refine D.load ?_); refine L.ldb rfl rfl rfl rfl rfl rfl ?_) | ((with_reducible refine D.move ?_); refine L.mv rfl rfl rfl ?_) | ((with_reducible refine D.assign ?_); refine L.asg rfl rfl rfl ?_) | ((with_reducible refine D.bin ?_); refine L.bn rfl rfl rfl rfl rfl ?_) | ((with_reducible refine D.call ?_); first | refine L.lnt rfl rfl rfl rfl ?_ | refine L.c2 (h1) rfl rfl rfl rfl ?_ | refine L.c2 (h2) rfl rfl rfl rfl ?_) | ((with_reducible refine D.box ?_); refine L.bx rfl rfl rfl rfl ?_) | ((with_reducible refine D.alloc ?_); refine L.al rfl rfl rfl ?_) | ((with_reducible refine D.store ?_); refine L.st rfl rfl rfl rfl rfl rfl rfl rfl rfl ?_) | ((with_reducible refine D.ax ?_); refine L.bd rfl rfl rfl rfl rfl ?_) | ((with_reducible refine D.aw ?_); first | refine K.sq (AW.regL ?_) | refine K.sq (K.sq ?_) | refine AW.regL ?_ | refine AW.condS rfl (fun h => ?_) (fun h => ?_) | refine AW.skip ?_ | refine AW.ret ?_) | with_reducible refine K.tN ?_ | with_reducible refine K.tR ?_ | with_reducible refine K.r1 (by with_unfolding_all rfl) (by with_unfolding_all rfl) ?_)
  · have e : p.err ≠ 0 := by simpa using h
    have e2 : fill p l = (noFm, p.err) := by simp only [fill]; rw [if_pos e]
    rw [e2]
    simp [tupV, V.wk, V.wks, constV, Ty.view, Fm.view, noFm]
  · rename_i h0
    have e : ¬ p.err ≠ 0 := by simpa using h0
    have e1 : 16 < l.length := by simp at h; omega
    have e2 : fill p l = (noFm, 1) := by simp only [fill]; rw [if_neg e, if_pos e1]
    rw [e2]
    simp [tupV, V.wk, V.wks, constV, Ty.view, Fm.view, noFm]
  rename_i h0
  have e : ¬ p.err ≠ 0 := by simpa using h0
  have e0 : p.err = 0 := Classical.not_not.1 e
  have e1 : ¬ 16 < l.length := by simp at h; omega
  have e2 : fill p l = fillF l.length l 0 p := by simp only [fill]; rw [if_neg e, if_neg e1]
  have hpf := ferr_full e0
  refine AW.range l.length (fun m => (fillF l.length (l.take m) 0 p).2 = 0)
    (fun m => ([(1, .s .tm l), (4, .ptr 1 0), (7, .ptr 2 0), (24, .s .tm l), (25, .i l.length), (26, .i m)], ⟨3, [(0, .var p.view), (1, .var [.i 0, .i 0, .slice .nil (.t .ty []), .slice .nil (.t .tm []), .slice .nil (.t .fm [])]), (2, .var (fillF l.length (l.take m) 0 p).1.view)]⟩))
    (by omega) (fun m => rfl) (fun m => rfl) rfl rfl (Weak.mk [some 0, some 1, some 2] _ _ _ rfl rfl rfl rfl (by (repeat' (first | exact trivial | refine And.intro ?_ ?_ | refine ⟨_, rfl, _, rfl, ?_⟩ | exact VLe.refl _)); done) (by (repeat' (first | exact trivial | refine And.intro ?_ ?_ | refine ⟨_, rfl, _, rfl, _, rfl, ?_⟩ | exact VLe.refl _)); done)) ?_ ?_
  · intro m hm hP
    have hb := fillF_bd l.length (l.take m) 0 p (by omega)
    have hg := fillF_go l.length l[m] [] (l.take m) 0 p hP
    have hg2 := fillF_go l.length l[m] (l.drop (m + 1)) (l.take m) 0 p hP
    rw [← take_drop_at l m hm] at hg2
    have hml : ((0 : Int) + (l.take m).length) = m := by simp; omega
    rw [hml] at hg hg2
    rw [List.take_append_getElem hm] at hg
    simp only [fillF] at hg hg2
    have hc := substLift_c l[m] 0 (l.length - 1 - m) (by have := hl l[m] (List.getElem_mem hm); omega)
    by_cases hl0 : liftErr l[m] 0 (l.length - 1 - m) = 0
    · have hc2 := fput_c (fillF l.length (l.take m) 0 p).1 0 (l[m].re (liftG 0 (l.length - 1 - m)) 0) (by omega) (by
        have h3 : l[m].err = 0 := by
          by_cases h4 : l[m].err = 0
          · exact h4
          · simp only [liftErr] at hl0; rw [if_pos h4] at hl0; exact absurd hl0 h4
        rw [lift_full _ _ _ _ (err_zero h3).1]
        have := hl l[m] (List.getElem_mem hm)
        omega)
      rw [if_pos hl0] at hc
      rw [if_neg (by simpa using hl0)] at hg hg2
      by_cases hp0 : putFErr (fillF l.length (l.take m) 0 p).1 0 (l[m].re (liftG 0 (l.length - 1 - m)) 0) = 0
      · rw [if_pos hp0] at hc2
        rw [if_neg (by simpa using hp0)] at hg hg2
        rw [hl0] at hc
        rw [hp0] at hc2
        repeat' (first | ((with_reducible refine D.nil ?_); refine AX.nilL ?_) | ((with_reducible refine D.load ?_); first | refine L.ldb rfl rfl rfl rfl rfl rfl ?_ | refine L.lda rfl rfl rfl rfl rfl ?_) | ((with_reducible refine D.move ?_); refine L.mv rfl rfl rfl ?_) | ((with_reducible refine D.assign ?_); refine L.asg rfl rfl rfl ?_) | ((with_reducible refine D.bin ?_); first | refine L.sb rfl rfl rfl rfl (by omega) ?_ | refine L.bn rfl rfl rfl rfl rfl ?_) | ((with_reducible refine D.call ?_); first | refine L.lnt rfl rfl rfl rfl ?_ | refine L.c2 (hc) rfl rfl rfl rfl ?_ | refine L.c2 (hc2) rfl rfl rfl rfl ?_) | ((with_reducible refine D.extract ?_); refine L.ex rfl rfl rfl rfl ?_) | ((with_reducible refine D.alloc ?_); refine L.al rfl rfl rfl ?_) | ((with_reducible refine D.store ?_); refine L.st rfl rfl rfl rfl rfl rfl rfl rfl rfl ?_) | ((with_reducible refine D.indexAddr ?_); refine L.ixt _ rfl rfl rfl rfl rfl rfl rfl (by assumption) ?_) | ((with_reducible refine D.aw ?_); first | refine K.sq (AW.regL ?_) | refine K.sq (K.sq ?_) | refine AW.regL ?_ | refine AW.condF rfl ?_ | refine AW.skip ?_) | with_reducible refine K.tN ?_ | with_reducible refine K.bN ?_)
        exact ⟨rfl, by simp only [hg], (Weak.mk [some 0, some 1, some 2] _ _ _ rfl rfl rfl rfl (by (repeat' (first | exact trivial | refine And.intro ?_ ?_ | refine ⟨_, rfl, _, rfl, ?_⟩ | exact VLe.refl _)); done) (by (repeat' (first | exact trivial | refine And.intro ?_ ?_ | refine ⟨_, rfl, _, rfl, _, rfl, ?_⟩ | exact VLe.refl _ | exact VLe.of_eq (by simp [Sto.upd, hg]))); done))⟩
      · rw [if_neg hp0] at hc2
        rw [if_pos (by simpa using hp0)] at hg hg2
        rw [hl0] at hc
        rw [e2, hg2]
        repeat' (first | ((with_reducible refine D.nil ?_); refine AX.nilL ?_) | ((with_reducible refine D.load ?_); first | refine L.ldb rfl rfl rfl rfl rfl rfl ?_ | refine L.lda rfl rfl rfl rfl rfl ?_) | ((with_reducible refine D.move ?_); refine L.mv rfl rfl rfl ?_) | ((with_reducible refine D.assign ?_); refine L.asg rfl rfl rfl ?_) | ((with_reducible refine D.bin ?_); first | refine L.sb rfl rfl rfl rfl (by omega) ?_ | refine L.bn rfl rfl rfl rfl rfl ?_) | ((with_reducible refine D.call ?_); first | refine L.lnt rfl rfl rfl rfl ?_ | refine L.c2 (hc) rfl rfl rfl rfl ?_ | refine L.c2 (hc2) rfl rfl rfl rfl ?_) | ((with_reducible refine D.extract ?_); refine L.ex rfl rfl rfl rfl ?_) | ((with_reducible refine D.alloc ?_); refine L.al rfl rfl rfl ?_) | ((with_reducible refine D.store ?_); refine L.st rfl rfl rfl rfl rfl rfl rfl rfl rfl ?_) | ((with_reducible refine D.indexAddr ?_); refine L.ixt _ rfl rfl rfl rfl rfl rfl rfl (by assumption) ?_) | ((with_reducible refine D.ax ?_); refine L.bd rfl rfl rfl rfl rfl ?_) | ((with_reducible refine D.aw ?_); first | refine K.sq (AW.regL ?_) | refine K.sq (K.sq ?_) | refine AW.regL ?_ | refine AW.condF rfl ?_ | refine AW.condS rfl (fun h => ?_) (fun h => ?_) | refine AW.skip ?_ | refine AW.ret ?_) | with_reducible refine K.tN ?_ | with_reducible refine K.bN ?_ | with_reducible refine K.tR ?_ | with_reducible refine K.bR ?_ | with_reducible refine K.gR ?_ | with_reducible refine K.r1 (by with_unfolding_all rfl) (by with_unfolding_all rfl) ?_)
        · simp [tupV, V.wk, V.wks, constV, Ty.view, Fm.view, noFm]
        · exfalso; simp [hp0] at h
    · rw [if_neg hl0] at hc
      rw [if_pos (by simpa using hl0)] at hg hg2
      rw [e2, hg2]
      repeat' (first | ((with_reducible refine D.nil ?_); refine AX.nilL ?_) | ((with_reducible refine D.load ?_); first | refine L.ldb rfl rfl rfl rfl rfl rfl ?_ | refine L.lda rfl rfl rfl rfl rfl ?_) | ((with_reducible refine D.move ?_); refine L.mv rfl rfl rfl ?_) | ((with_reducible refine D.assign ?_); refine L.asg rfl rfl rfl ?_) | ((with_reducible refine D.bin ?_); first | refine L.sb rfl rfl rfl rfl (by omega) ?_ | refine L.bn rfl rfl rfl rfl rfl ?_) | ((with_reducible refine D.call ?_); first | refine L.lnt rfl rfl rfl rfl ?_ | refine L.c2 (hc) rfl rfl rfl rfl ?_) | ((with_reducible refine D.extract ?_); refine L.ex rfl rfl rfl rfl ?_) | ((with_reducible refine D.alloc ?_); refine L.al rfl rfl rfl ?_) | ((with_reducible refine D.store ?_); refine L.st rfl rfl rfl rfl rfl rfl rfl rfl rfl ?_) | ((with_reducible refine D.indexAddr ?_); refine L.ixt _ rfl rfl rfl rfl rfl rfl rfl (by assumption) ?_) | ((with_reducible refine D.ax ?_); refine L.bd rfl rfl rfl rfl rfl ?_) | ((with_reducible refine D.aw ?_); first | refine K.sq (AW.regL ?_) | refine K.sq (K.sq ?_) | refine AW.regL ?_ | refine AW.condS rfl (fun h => ?_) (fun h => ?_) | refine AW.skip ?_ | refine AW.ret ?_) | with_reducible refine K.tN ?_ | with_reducible refine K.tR ?_ | with_reducible refine K.bR ?_ | with_reducible refine K.gR ?_ | with_reducible refine K.r1 (by with_unfolding_all rfl) (by with_unfolding_all rfl) ?_)
      · simp [tupV, V.wk, V.wks, constV, Ty.view, Fm.view, noFm]
      · exfalso; simp [hl0] at h
  · intro hP
    rw [List.take_of_length_le (Nat.le_refl _)] at hP
    rw [List.take_of_length_le (Nat.le_refl _)]
    rw [e2, hP]
    repeat' (first | ((with_reducible refine D.nil ?_); refine AX.nilL ?_) | ((with_reducible refine D.load ?_); refine L.ldb rfl rfl rfl rfl rfl rfl ?_) | ((with_reducible refine D.assign ?_); refine L.asg rfl rfl rfl ?_) | ((with_reducible refine D.store ?_); refine L.st rfl rfl rfl rfl rfl rfl rfl rfl rfl ?_) | ((with_reducible refine D.aw ?_); first | refine K.sq (AW.regL ?_) | refine AW.ret ?_) | with_reducible refine K.tN ?_ | with_reducible refine K.r1 (by with_unfolding_all rfl) (by with_unfolding_all rfl) ?_)
    rfl
end Go.Ab
namespace Go.Ab
open Go Go.Proofs
set_option maxRecDepth 100000
set_option maxHeartbeats 4000000
set_option linter.all false
theorem keyAt_look : ∀ {m : FMap} {k : Int}, (keyAt k (m.map (·.1)) = none → lookT m k = none) ∧ ∀ i, keyAt k (m.map (·.1)) = some i → lookT m k = (m.map (·.2))[i]?
  | [], k => ⟨fun _ => rfl, fun i h => by cases h⟩
  | p :: m, k => by
    obtain ⟨h1, h2⟩ := keyAt_look (m := m) (k := k)
    simp only [List.map_cons, keyAt, lookT]
    by_cases hp : p.1 = k
    · rw [if_pos hp, if_pos hp]
      exact ⟨fun h => by (exact absurd h (by simp)), fun i h => by cases h; rfl⟩
    · rw [if_neg hp, if_neg hp]
      refine ⟨fun h => h1 (by simpa using h), fun i h => ?_⟩
      rw [Option.map_eq_some_iff] at h
      obtain ⟨j, h3, rfl⟩ := h
      rw [h2 j h3, List.getElem?_cons_succ]
theorem outs_succ (m : FMap) (n : Nat) : outs m (n + 1) = outs m n ++ [(lookT m n).getD zeroT] := by simp [outs, List.range_succ]
theorem outs_len (m : FMap) (n : Nat) : (outs m n).length = n := by simp [outs]
theorem fill_bd {p : Fm} {l : List Tm} : (fill p l).1.full ≤ 1200000000 := by
  simp only [fill]
  split
  · simp [noFm, Fm.full, Fm.fulls, Ty.size, Ty.sizes]
  · split
    · simp [noFm, Fm.full, Fm.fulls, Ty.size, Ty.sizes]
    · rename_i h1 _
      have := ferr_full (Classical.not_not.1 h1)
      exact fillF_bd _ _ _ _ (by omega)
theorem match_c (p f : Fm) (ho : Int) (hp : p.full < 68719476736) (hf : f.full < 68719476736) : PC E 21 [.agg p.view, .i ho, .agg f.view] (.tup [.s .tm (matchF p ho f).1, .i (matchF p ho f).2]) := by
  have h1 := fcheck_c p (by omega)
  have h2 := fcheck_c f (by omega)
  have h3 := enear_c p (by omega)
  have h4 := enear_c f (by omega)
  by_cases e1 : p.err = 0
  rotate_left
  · have e : matchF p ho f = ([], p.err) := by simp only [matchF]; rw [if_pos e1]
    rw [e]
    refine AC.mk Tryd.func21 rfl rfl rfl rfl rfl (Nat.le_of_ble_eq_true rfl) ?_
    repeat' (first | ((with_reducible refine D.nil ?_); refine AX.nilL ?_) | ((with_reducible refine D.load ?_); refine L.ldb rfl rfl rfl rfl rfl rfl ?_) | ((with_reducible refine D.move ?_); refine L.mv rfl rfl rfl ?_) | ((with_reducible refine D.assign ?_); refine L.asg rfl rfl rfl ?_) | ((with_reducible refine D.bin ?_); refine L.bn rfl rfl rfl rfl rfl ?_) | ((with_reducible refine D.call ?_); refine L.c2 (h1) rfl rfl rfl rfl ?_) | ((with_reducible refine D.box ?_); refine L.bx rfl rfl rfl rfl ?_) | ((with_reducible refine D.aw ?_); (fail_if_success with_reducible refine D.stopR (id := 4) ?_); (fail_if_success with_reducible refine D.stopS (id := 4) ?_); first | refine K.sq (AW.regL ?_) | refine K.sq (K.sq ?_) | refine AW.regL ?_ | refine AW.condS rfl (fun h => ?_) (fun h => ?_) | refine AW.skip ?_ | refine AW.ret ?_) | with_reducible refine K.tN ?_ | with_reducible refine K.tR ?_ | with_reducible refine K.r1 (by with_unfolding_all rfl) (by with_unfolding_all rfl) ?_)
    · rfl
    · exfalso; simp [e1] at h
  by_cases e2 : f.err = 0
  rotate_left
  · have e : matchF p ho f = ([], f.err) := by simp only [matchF]; rw [if_neg (by simpa using e1), if_pos e2]
    rw [e1] at h1
    rw [e]
    refine AC.mk Tryd.func21 rfl rfl rfl rfl rfl (Nat.le_of_ble_eq_true rfl) ?_
    repeat' (first | ((with_reducible refine D.nil ?_); refine AX.nilL ?_) | ((with_reducible refine D.load ?_); refine L.ldb rfl rfl rfl rfl rfl rfl ?_) | ((with_reducible refine D.move ?_); refine L.mv rfl rfl rfl ?_) | ((with_reducible refine D.assign ?_); refine L.asg rfl rfl rfl ?_) | ((with_reducible refine D.bin ?_); refine L.bn rfl rfl rfl rfl rfl ?_) | ((with_reducible refine D.call ?_); first | refine L.c2 (h1) rfl rfl rfl rfl ?_ | refine L.c2 (h2) rfl rfl rfl rfl ?_) | ((with_reducible refine D.box ?_); refine L.bx rfl rfl rfl rfl ?_) | ((with_reducible refine D.aw ?_); (fail_if_success with_reducible refine D.stopR (id := 7) ?_); (fail_if_success with_reducible refine D.stopS (id := 7) ?_); first | refine K.sq (AW.regL ?_) | refine K.sq (K.sq ?_) | refine AW.regL ?_ | refine AW.condF rfl ?_ | refine AW.condS rfl (fun h => ?_) (fun h => ?_) | refine AW.skip ?_ | refine AW.ret ?_) | with_reducible refine K.tN ?_ | with_reducible refine K.tR ?_ | with_reducible refine K.r1 (by with_unfolding_all rfl) (by with_unfolding_all rfl) ?_)
    · rfl
    · exfalso; simp [e2] at h
  rw [e1] at h1
  rw [e2] at h2
  have hpf := ferr_full e1
  have hff := ferr_full e2
  have hps := ((Fm.err_iff p).1 e1).1
  have hfs := ((Fm.err_iff f).1 e2).1
  by_cases e3 : 0 ≤ ho ∧ ho ≤ 16 ∧ p.nearE = true ∧ f.nearE = true
  rotate_left
  · have e : matchF p ho f = ([], 1) := by
      simp only [matchF]; rw [if_neg (by simpa using e1), if_neg (by simpa using e2), if_pos]
      cases hn1 : p.nearE with
      | false => exact .inr (.inl rfl)
      | true =>
        cases hn2 : f.nearE with
        | false => exact .inr (.inr rfl)
        | true => exact .inl fun hc => e3 ⟨hc.1, hc.2, hn1, hn2⟩
    rw [e]
    refine AC.mk Tryd.func21 rfl rfl rfl rfl rfl (Nat.le_of_ble_eq_true rfl) ?_
    repeat' (first | ((with_reducible refine D.nil ?_); refine AX.nilL ?_) | ((with_reducible refine D.load ?_); first | refine L.ldb rfl rfl rfl rfl rfl rfl ?_ | refine AX.sk rfl rfl ?_ | ((fail_if_success refine AX.wt rfl ?_); refine AX.gs rfl rfl (fun _ => trivial) (fun h => ?_) (fun h => ?_))) | ((with_reducible refine D.move ?_); first | refine L.mv rfl rfl rfl ?_ | refine AX.sk rfl rfl ?_ | ((fail_if_success refine AX.wt rfl ?_); refine AX.gs rfl rfl (fun _ => trivial) (fun h => ?_) (fun h => ?_))) | ((with_reducible refine D.assign ?_); refine L.asg rfl rfl rfl ?_) | ((with_reducible refine D.bin ?_); first | refine L.bn rfl rfl rfl rfl rfl ?_ | refine AX.sk rfl rfl ?_) | ((with_reducible refine D.call ?_); first | refine L.c2 (h1) rfl rfl rfl rfl ?_ | refine L.c2 (h2) rfl rfl rfl rfl ?_ | refine L.c2 (h3) rfl rfl rfl rfl ?_ | refine L.c2 (h4) rfl rfl rfl rfl ?_ | refine AX.sk rfl rfl ?_) | ((with_reducible refine D.box ?_); refine L.bx rfl rfl rfl rfl ?_) | ((with_reducible refine D.not ?_); first | refine L.nt rfl rfl rfl ?_ | refine AX.sk rfl rfl ?_) | ((with_reducible refine D.pick ?_); refine L.pk rfl rfl rfl rfl ?_) | ((with_reducible refine D.aw ?_); (fail_if_success with_reducible refine D.stopR (id := 9) ?_); (fail_if_success with_reducible refine D.stopS (id := 9) ?_); first | refine K.sq (AW.regL ?_) | refine K.sq (K.sq ?_) | refine AW.regL ?_ | refine AW.condT rfl ?_ | refine AW.condF rfl ?_ | refine AW.condS rfl (fun h => ?_) (fun h => ?_) | refine AW.skip ?_ | refine AW.ret ?_) | with_reducible refine K.tN ?_ | with_reducible refine K.tR ?_ | with_reducible refine K.r1 (by with_unfolding_all rfl) (by with_unfolding_all rfl) ?_)
    all_goals first
      | rfl
      | (exfalso; apply e3; simp at *; omega)
      | (exfalso; apply e3; simp_all; done)
      | (exfalso; apply e3; simp_all; omega)
  obtain ⟨e3, e4, e5, e6⟩ := e3
  rw [e5] at h3
  rw [e6] at h4
  have h5 := formM_c ho (by omega) _ p f [] 0 (Nat.le_refl _) (by omega) (by omega) (by omega) hps hfs hf e5 e6
  simp only [List.map_nil] at h5
  have hob := outs_bd (p := p) (h := ho) e2 e6
  have em : matchF p ho f = if (mF ho 0 p f []).1 = false then ([], 11)
      else if (fill p (outs (mF ho 0 p f []).2 ho.toNat)).2 ≠ 0 ∨ (fill p (outs (mF ho 0 p f []).2 ho.toNat)).1 ≠ f then ([], 11)
      else if ((mF ho 0 p f []).2.length : Int) < ho then ([], 13) else (outs (mF ho 0 p f []).2 ho.toNat, 0) := by
    simp only [matchF]
    rw [if_neg (by simpa using e1), if_neg (by simpa using e2), if_neg]
    rintro (hc | hc | hc)
    · exact hc ⟨e3, e4⟩
    · rw [e5] at hc; cases hc
    · rw [e6] at hc; cases hc
  have hnew := mF_new ho 266240 p 0 f [] hfs e6 hff
  generalize mF ho 0 p f [] = r at *
  obtain ⟨ok, m⟩ := r
  have h6 := tof_c 4 []
  have hhn : (ho.toNat : Int) = ho := by omega
  refine AC.mk Tryd.func21 rfl rfl rfl rfl rfl (Nat.le_of_ble_eq_true rfl) ?_
  repeat' (first | ((with_reducible refine D.nil ?_); refine AX.nilL ?_) | ((with_reducible refine D.load ?_); first | refine L.ldb rfl rfl rfl rfl rfl rfl ?_ | refine AX.sk rfl rfl ?_ | ((fail_if_success refine AX.wt rfl ?_); refine AX.gs rfl rfl (fun _ => trivial) (fun h => ?_) (fun h => ?_))) | ((with_reducible refine D.move ?_); first | refine L.mv rfl rfl rfl ?_ | refine AX.sk rfl rfl ?_ | ((fail_if_success refine AX.wt rfl ?_); refine AX.gs rfl rfl (fun _ => trivial) (fun h => ?_) (fun h => ?_))) | ((with_reducible refine D.assign ?_); refine L.asg rfl rfl rfl ?_) | ((with_reducible refine D.bin ?_); first | refine L.bn rfl rfl rfl rfl rfl ?_ | refine AX.sk rfl rfl ?_) | ((with_reducible refine D.call ?_); first | refine L.c2 (h1) rfl rfl rfl rfl ?_ | refine L.c2 (h2) rfl rfl rfl rfl ?_ | refine L.c2 (h3) rfl rfl rfl rfl ?_ | refine L.c2 (h4) rfl rfl rfl rfl ?_ | (apply L.cb2 (h5) [3, 2] 0 rfl; rfl; rfl; rfl; rfl; rfl; rfl; (focus ((repeat' (first | exact trivial | refine And.intro ?_ ?_ | refine ⟨_, rfl, _, rfl, _, rfl, ?_⟩ | exact VLe.refl _ | refine ⟨_, rfl, _, _, rfl, ?_, ?_⟩ | with_reducible exact rfl)); done)); rfl; rfl; rfl; rfl) | refine AX.sk rfl rfl ?_) | ((with_reducible refine D.box ?_); refine L.bx rfl rfl rfl rfl ?_) | ((with_reducible refine D.not ?_); first | refine L.nt rfl rfl rfl ?_ | refine AX.sk rfl rfl ?_) | ((with_reducible refine D.pick ?_); refine L.pk rfl rfl rfl rfl ?_) | ((with_reducible refine D.ax ?_); first | refine L.bd rfl rfl rfl rfl rfl ?_ | refine L.mmT rfl rfl rfl rfl rfl ?_) | ((with_reducible refine D.aw ?_); first | refine K.sq (AW.regL ?_) | refine K.sq (K.sq ?_) | refine AW.regL ?_ | refine AW.condT rfl ?_ | refine AW.condF rfl ?_ | refine AW.condS rfl (fun h => ?_) (fun h => ?_) | refine AW.skip ?_ | refine AW.ret ?_) | with_reducible refine K.tN ?_ | with_reducible refine K.tR ?_ | with_reducible refine K.r1 (by with_unfolding_all rfl) (by with_unfolding_all rfl) ?_)
  · exfalso; simp at h; omega
  · exfalso; simp at h; omega
  · have hok : ok = false := by simpa using h
    rw [em]
    simp only [hok, if_true]
    rfl
  have hok : ok = true := by simpa using h
  simp only [hok, if_false, Bool.true_eq_false] at em
  refine AW.range ho.toNat (fun m => True)
    (fun k => ([(1, .i ho), (3, .ptr 0 0), (5, .ptr 1 0), (10, .ptr 3 0), (11, .slice (.own 4) (.t .tm (outs m k))), (52, .i ho), (53, .i k)], ⟨5, [(0, .var p.view), (1, .var f.view), (2, .map .tm (m.map (·.1)) (m.map (·.2))), (3, .var [.i ho, .mp 2]), (4, .row)]⟩))
    (by omega) (fun m => rfl) (fun m => by rw [← hhn]; rfl) rfl trivial (Weak.mk [some 0, some 1, some 2, some 3, none] _ _ _ rfl rfl rfl rfl (by (repeat' (first | exact trivial | refine And.intro ?_ ?_ | refine ⟨_, rfl, _, rfl, ?_⟩ | exact VLe.refl _)); done) (by (repeat' (first | exact trivial | exact Or.inl rfl | refine And.intro ?_ ?_ | refine ⟨_, rfl, _, rfl, _, rfl, ?_⟩ | exact VLe.refl _ | refine ⟨_, rfl, _, _, rfl, ?_, ?_⟩ | with_reducible exact rfl)); done)) ?_ ?_
  · intro k hk _
    have hlen := outs_len m k
    have hs := outs_succ m k
    have hkl := keyAt_look (m := m) (k := (k : Int))
    have hbk := hob (k : Int)
    cases hka : keyAt (k : Int) (m.map (·.1)) with
    | none =>
      rw [hkl.1 hka] at hs hbk
      have hc := ownTm_c _ zeroT (Nat.le_refl _) (by decide)
      repeat' (first | ((with_reducible refine D.nil ?_); refine AX.nilL ?_) | ((with_reducible refine D.load ?_); refine L.ldb rfl rfl rfl rfl rfl rfl ?_) | ((with_reducible refine D.move ?_); refine L.mv rfl rfl rfl ?_) | ((with_reducible refine D.fieldAddr ?_); refine L.fab rfl rfl rfl rfl rfl ?_) | ((with_reducible refine D.assign ?_); refine L.asg rfl rfl rfl ?_) | ((with_reducible refine D.call ?_); first | refine L.apt rfl rfl rfl rfl rfl rfl (by first | exact trivial | exact ⟨rfl, trivial⟩) rfl rfl (by first | omega | (simp; omega)) ?_ | refine L.c2 (h6) rfl rfl rfl rfl ?_ | refine L.c2 (hc) rfl rfl rfl rfl ?_) | ((with_reducible refine D.extract ?_); refine L.ex rfl rfl rfl rfl ?_) | ((with_reducible refine D.alloc ?_); refine L.al rfl rfl rfl ?_) | ((with_reducible refine D.store ?_); refine L.st rfl rfl rfl rfl rfl rfl rfl rfl rfl ?_) | ((with_reducible refine D.not ?_); refine L.nt rfl rfl rfl ?_) | ((with_reducible refine D.ax ?_); first | refine L.nc rfl rfl rfl rfl ?_ | refine L.bs1 rfl rfl rfl rfl rfl (EC.fold_of rfl) rfl rfl ?_ | refine L.lkn rfl rfl rfl rfl rfl rfl (by first | assumption | rfl) rfl rfl rfl ?_) | ((with_reducible refine D.aw ?_); first | refine K.sq (AW.regL ?_) | refine K.sq (K.sq ?_) | refine AW.regL ?_ | refine AW.condT rfl ?_) | with_reducible refine K.tN ?_ | with_reducible refine K.bN ?_)
      exact ⟨rfl, trivial, (Weak.mk [some 0, some 1, some 2, some 3, some 6] _ _ _ rfl rfl rfl rfl (by (repeat' (first | exact trivial | refine And.intro ?_ ?_ | refine ⟨_, rfl, _, rfl, ?_⟩ | exact VLe.refl _ | exact VLe.of_eq (by simp [Sto.upd, hs, zeroT]))); done) (by (repeat' (first | exact trivial | exact Or.inr ⟨_, rfl, rfl⟩ | refine And.intro ?_ ?_ | refine ⟨_, rfl, _, rfl, _, rfl, ?_⟩ | exact VLe.refl _ | refine ⟨_, rfl, _, _, rfl, ?_, ?_⟩ | with_reducible exact rfl)); done))⟩
    | some i =>
      have hil : i < m.length := by have := (keyAt_some hka).2; simpa using this
      have hc0 : (m.map (·.2))[i]? = some (m[i]).2 := by rw [List.getElem?_map, List.getElem?_eq_getElem hil]; rfl
      have h7 := hkl.2 i hka
      rw [hc0] at h7
      rw [h7] at hs hbk
      simp only [Option.getD_some] at hs hbk
      have hc := ownTm_c _ (m[i]).2 (Nat.le_refl _) (by omega)
      repeat' (first | ((with_reducible refine D.nil ?_); refine AX.nilL ?_) | ((with_reducible refine D.load ?_); refine L.ldb rfl rfl rfl rfl rfl rfl ?_) | ((with_reducible refine D.move ?_); refine L.mv rfl rfl rfl ?_) | ((with_reducible refine D.fieldAddr ?_); refine L.fab rfl rfl rfl rfl rfl ?_) | ((with_reducible refine D.assign ?_); refine L.asg rfl rfl rfl ?_) | ((with_reducible refine D.call ?_); first | refine L.apt rfl rfl rfl rfl rfl rfl (by first | exact trivial | exact ⟨rfl, trivial⟩) rfl rfl (by first | omega | (simp; omega)) ?_ | refine L.c2 (hc) rfl rfl rfl rfl ?_) | ((with_reducible refine D.extract ?_); refine L.ex rfl rfl rfl rfl ?_) | ((with_reducible refine D.alloc ?_); refine L.al rfl rfl rfl ?_) | ((with_reducible refine D.store ?_); refine L.st rfl rfl rfl rfl rfl rfl rfl rfl rfl ?_) | ((with_reducible refine D.not ?_); refine L.nt rfl rfl rfl ?_) | ((with_reducible refine D.ax ?_); first | refine L.nc rfl rfl rfl rfl ?_ | refine L.bs1 rfl rfl rfl rfl rfl (EC.fold_of rfl) rfl rfl ?_ | refine L.lkuT rfl rfl rfl rfl rfl rfl (by first | assumption | rfl) (by first | assumption | rfl) rfl ?_) | ((with_reducible refine D.aw ?_); first | refine K.sq (AW.regL ?_) | refine K.sq (K.sq ?_) | refine AW.regL ?_ | refine AW.condF rfl ?_ | refine AW.skip ?_) | with_reducible refine K.tN ?_ | with_reducible refine K.bN ?_)
      exact ⟨rfl, trivial, (Weak.mk [some 0, some 1, some 2, some 3, some 6] _ _ _ rfl rfl rfl rfl (by (repeat' (first | exact trivial | refine And.intro ?_ ?_ | refine ⟨_, rfl, _, rfl, ?_⟩ | exact VLe.refl _ | exact VLe.of_eq (by simp [Sto.upd, hs]))); done) (by (repeat' (first | exact trivial | exact Or.inr ⟨_, rfl, rfl⟩ | refine And.intro ?_ ?_ | refine ⟨_, rfl, _, rfl, _, rfl, ?_⟩ | exact VLe.refl _ | refine ⟨_, rfl, _, _, rfl, ?_, ?_⟩ | with_reducible exact rfl)); done))⟩
  · intro _
    have h8 := fill_c p (outs m ho.toNat) (by omega) (by rw [outs_len]; omega) (fun t ht => by
      obtain ⟨j, hj, rfl⟩ := List.mem_map.1 ht
      have := hob (j : Int)
      simp only at this; omega)
    have h9 := fsame_c (fill p (outs m ho.toNat)).1 f (by have := fill_bd (p := p) (l := outs m ho.toNat); omega)
    have hml : (m.map (·.2)).length = m.length := List.length_map ..
    repeat' (first | ((with_reducible refine D.nil ?_); refine AX.nilL ?_) | ((with_reducible refine D.load ?_); first | refine L.ldb rfl rfl rfl rfl rfl rfl ?_ | refine AX.sk rfl rfl ?_ | ((fail_if_success refine AX.wt rfl ?_); refine AX.gs rfl rfl (fun _ => trivial) (fun h => ?_) (fun h => ?_))) | ((with_reducible refine D.move ?_); refine L.mv rfl rfl rfl ?_) | ((with_reducible refine D.fieldAddr ?_); refine L.fab rfl rfl rfl rfl rfl ?_) | ((with_reducible refine D.assign ?_); refine L.asg rfl rfl rfl ?_) | ((with_reducible refine D.bin ?_); refine L.bn rfl rfl rfl rfl rfl ?_) | ((with_reducible refine D.call ?_); first | refine L.c2 (h8) rfl rfl rfl rfl ?_ | refine L.c2 (h9) rfl rfl rfl rfl ?_ | refine AX.sk rfl rfl ?_ | refine L.lnm rfl rfl rfl rfl rfl ?_) | ((with_reducible refine D.extract ?_); refine L.ex rfl rfl rfl rfl ?_) | ((with_reducible refine D.alloc ?_); refine L.al rfl rfl rfl ?_) | ((with_reducible refine D.store ?_); refine L.st rfl rfl rfl rfl rfl rfl rfl rfl rfl ?_) | ((with_reducible refine D.not ?_); first | refine L.nt rfl rfl rfl ?_ | refine AX.sk rfl rfl ?_) | ((with_reducible refine D.pick ?_); refine L.pk rfl rfl rfl rfl ?_) | ((with_reducible refine D.ax ?_); refine L.nc rfl rfl rfl rfl ?_) | ((with_reducible refine D.aw ?_); first | refine K.sq (AW.regL ?_) | refine K.sq (K.sq ?_) | refine AW.regL ?_ | refine AW.condT rfl ?_ | refine AW.condS rfl (fun h => ?_) (fun h => ?_) | refine AW.skip ?_ | refine AW.ret ?_) | with_reducible refine K.tN ?_ | with_reducible refine K.tR ?_ | with_reducible refine K.r1 (by with_unfolding_all rfl) (by with_unfolding_all rfl) ?_)
    · have hx : (fill p (outs m ho.toNat)).2 ≠ 0 := by simpa using h
      rw [em, if_pos (.inl hx)]
      rfl
    · have hx : (fill p (outs m ho.toNat)).1 ≠ f := by simpa using h
      rw [em, if_pos (.inr hx)]
      rfl
    · rename_i h10 h11
      have hx : ¬ (fill p (outs m ho.toNat)).2 ≠ 0 := by simpa using h10
      have hy : ¬ (fill p (outs m ho.toNat)).1 ≠ f := by simpa using h11
      have hz : (m.length : Int) < ho := by simpa using h
      rw [em, if_neg (fun hc => hc.elim hx hy), if_pos hz]
      rfl
    · rename_i h10 h11
      have hx : ¬ (fill p (outs m ho.toNat)).2 ≠ 0 := by simpa using h10
      have hy : ¬ (fill p (outs m ho.toNat)).1 ≠ f := by simpa using h11
      have hz : ¬ (m.length : Int) < ho := by simpa using h
      rw [em, if_neg (fun hc => hc.elim hx hy), if_neg hz]
      rfl
end Go.Ab
namespace Go.Ab
open Go Go.Proofs
set_option maxRecDepth 100000
set_option maxHeartbeats 4000000
set_option linter.all false
theorem sane18_c : PC E 5 [] (.bool true) := by
  have hm : matchF (eqF (.mk 1 0 (.mk 0 []) []) (numOf 0)) 1 (eqF (.mk 5 0 (.mk 0 []) [.mk 1 3 (.mk 0 []) []]) (numOf 0)) = ([.mk 5 0 (.mk 0 []) [.mk 1 3 (.mk 0 []) []]], 0) := by decide
  have hc := match_c (eqF (.mk 1 0 (.mk 0 []) []) (numOf 0)) (eqF (.mk 5 0 (.mk 0 []) [.mk 1 3 (.mk 0 []) []]) (numOf 0)) 1 (by decide) (by decide)
  rw [hm] at hc
  have h1 := eqFm_c (.mk 1 0 (.mk 0 []) []) (numOf 0) (by decide) (by decide)
  have h2 := eqFm_c (.mk 5 0 (.mk 0 []) [.mk 1 3 (.mk 0 []) []]) (numOf 0) (by decide) (by decide)
  have h3 := n_c 5 [.mk 1 3 (.mk 0 []) []] (by decide)
  have h4 := sameTm_c _ (.mk 5 0 (.mk 0 []) [.mk 1 3 (.mk 0 []) []]) (.mk 5 0 (.mk 0 []) [.mk 1 3 (.mk 0 []) []]) (Nat.le_refl _) (by decide)
  refine AC.mk Tryd.func5 rfl rfl rfl rfl rfl (Nat.le_of_ble_eq_true rfl) ?_
  repeat' (first | ((with_reducible refine D.nil ?_); first | refine AX.nilL ?_ | refine AX.nilD (by kernel_rfl) ?_) | ((with_reducible refine D.load ?_); refine L.lda rfl rfl rfl rfl rfl ?_) | ((with_reducible refine D.move ?_); refine L.mv rfl rfl rfl ?_) | ((with_reducible refine D.assign ?_); refine L.asg rfl rfl rfl ?_) | ((with_reducible refine D.bin ?_); refine L.bn rfl rfl rfl rfl rfl ?_) | ((with_reducible refine D.call ?_); first | refine L.lnt rfl rfl rfl rfl ?_ | refine L.c2 (var_c _) rfl rfl rfl rfl ?_ | refine L.c2 (num_c 0) rfl rfl rfl rfl ?_ | refine L.c2 (h1) rfl rfl rfl rfl ?_ | refine L.c2 (h2) rfl rfl rfl rfl ?_ | refine L.c2 (h3) rfl rfl rfl rfl ?_ | refine L.c2 (hc) rfl rfl rfl rfl ?_ | refine L.c2 (h4) rfl rfl rfl rfl ?_) | ((with_reducible refine D.extract ?_); refine L.ex rfl rfl rfl rfl ?_) | ((with_reducible refine D.indexAddr ?_); refine L.ixt _ rfl rfl rfl rfl rfl rfl rfl (by (simp only [Ty.args_mk, Tm.args_mk, List.length_cons, List.length_nil, List.getElem_cons_zero, List.getElem_cons_succ]; omega)) ?_) | ((with_reducible refine D.pick ?_); refine L.pk rfl rfl rfl rfl ?_) | ((with_reducible refine D.ax ?_); refine L.bs1 rfl rfl rfl rfl rfl (EC.fold_of rfl) rfl rfl ?_) | ((with_reducible refine D.aw ?_); first | refine K.sq (AW.regL ?_) | refine K.sq (AW.regD mixed (by kernel_rfl) ?_) | refine AW.ret ?_) | with_reducible refine K.tN ?_ | with_reducible refine K.r1 (by with_unfolding_all rfl) (by with_unfolding_all rfl) ?_)
  all_goals rfl
theorem elaborateParts_c (l : List Int) : PC E 3 [.s .int l] (.bool true) := by
  by_cases hl : l.length ≤ 500
  case neg =>
    have hf := few_f l hl
    refine AC.mk Tryd.func3 rfl rfl rfl rfl rfl (Nat.le_of_ble_eq_true rfl) ?_
    repeat' (first | ((with_reducible refine D.nil ?_); refine AX.nilL ?_) | ((with_reducible refine D.move ?_); refine L.mv rfl rfl rfl ?_) | ((with_reducible refine D.assign ?_); refine L.asg rfl rfl rfl ?_) | ((with_reducible refine D.call ?_); first | refine L.c2 (sane18_c) rfl rfl rfl rfl ?_ | refine L.c2 (hf) rfl rfl rfl rfl ?_) | ((with_reducible refine D.not ?_); refine L.nt rfl rfl rfl ?_) | ((with_reducible refine D.aw ?_); first | refine K.sq (AW.regL ?_) | refine K.sq (K.sq ?_) | refine AW.regL ?_ | refine AW.condT rfl ?_ | refine AW.condF rfl ?_ | refine AW.skip ?_ | refine AW.ret ?_) | with_reducible refine K.tN ?_ | with_reducible refine K.tR ?_ | with_reducible refine K.r1 (by with_unfolding_all rfl) (by with_unfolding_all rfl) ?_)
    rfl
  have hf := few_t l hl
  have hn := new_c l
  have d0 := deck_ok hl
  have hcx := context_c (Dk.mk l 0) d0
  have hg := Dk.ctx_smalls (Dk.mk l 0)
  have hgl := Dk.ctx_len (Dk.mk l 0)
  have d1 := Dk.ctx_ok d0
  generalize (Dk.mk l 0).ctx.1 = g at *
  generalize (Dk.mk l 0).ctx.2 = D1 at *
  have hmk := mkFm_c 3 D1 g 3 (by omega) rfl d1 hg (by omega)
  have hgood := Dk.fm_good 3 D1 g hg
  generalize (Dk.fm 3 D1 g).2 = D2 at *
  generalize (Dk.fm 3 D1 g).1 = f at *
  obtain ⟨hsh, hsz, hfu⟩ := hgood
  obtain ⟨qs, b, rfl, hb4, hb6, hbs, hqs⟩ := quFs_ex f hsh
  obtain ⟨ps, c, rfl, hc3, hcs, hps⟩ := imFs_ex b hbs
  have hfu' : (quFs qs (imFs ps c)).full ≤ 9600 := by have : (2 : Nat) ^ 3 = 8 := rfl; rw [this] at hfu; omega
  have hsz' : (quFs qs (imFs ps c)).size ≤ 4096 := by have : (2 : Nat) ^ 3 = 8 := rfl; rw [this] at hsz; omega
  have hP := Parts_c qs ps c (fun q hq => (hqs q hq).1) ⟨hb4, hb6⟩ hc3 (by omega) ((Fm.err_iff _).2 ⟨hsh, hsz'⟩)
  have hql := quFs_len qs (imFs ps c)
  have hpl := imFs_len ps c
  have hcf := imFs_full ps c
  refine AC.mk Tryd.func3 rfl rfl rfl rfl rfl (Nat.le_of_ble_eq_true rfl) ?_
  repeat' (first | ((with_reducible refine D.nil ?_); refine AX.nilL ?_) | ((with_reducible refine D.load ?_); first | refine L.ldb rfl rfl rfl rfl rfl rfl ?_ | refine AX.sk rfl rfl ?_) | ((with_reducible refine D.move ?_); first | refine L.mv rfl rfl rfl ?_ | refine AX.sk rfl rfl ?_ | ((fail_if_success refine AX.wt rfl ?_); refine AX.gs rfl rfl (fun _ => trivial) (fun h => ?_) (fun h => ?_))) | ((with_reducible refine D.fieldAddr ?_); first | refine L.fab rfl rfl rfl rfl rfl ?_ | refine AX.sk rfl rfl ?_ | ((fail_if_success refine AX.wt rfl ?_); refine AX.gs rfl rfl (fun _ => trivial) (fun h => ?_) (fun h => ?_))) | ((with_reducible refine D.assign ?_); refine L.asg rfl rfl rfl ?_) | ((with_reducible refine D.bin ?_); first | refine L.sb rfl rfl rfl rfl (by omega) ?_ | refine L.bn rfl rfl rfl rfl rfl ?_ | refine AX.sk rfl rfl ?_) | ((with_reducible refine D.call ?_); first | refine L.lnt rfl rfl rfl rfl ?_ | refine L.c2 (sane18_c) rfl rfl rfl rfl ?_ | refine L.c2 (hf) rfl rfl rfl rfl ?_ | (apply L.cb2 (hn) [] 1 rfl; rfl; rfl; rfl; rfl; rfl; rfl; (focus ((repeat' (first | exact trivial)); done)); rfl; rfl; rfl; rfl) | (apply L.cb2 (hcx) [0] 0 rfl; rfl; rfl; rfl; rfl; rfl; rfl; (focus ((repeat' (first | exact trivial | refine And.intro ?_ ?_ | refine ⟨_, rfl, _, rfl, _, rfl, ?_⟩ | exact VLe.refl _)); done)); rfl; rfl; rfl; rfl) | (apply L.cb2 (hmk) [0] 0 rfl; rfl; rfl; rfl; rfl; rfl; rfl; (focus ((repeat' (first | exact trivial | refine And.intro ?_ ?_ | refine ⟨_, rfl, _, rfl, _, rfl, ?_⟩ | exact VLe.refl _)); done)); rfl; rfl; rfl; rfl) | refine L.c2 (hP) rfl rfl rfl rfl ?_ | refine AX.sk rfl rfl ?_) | ((with_reducible refine D.extract ?_); refine L.ex rfl rfl rfl rfl ?_) | ((with_reducible refine D.alloc ?_); refine L.al rfl rfl rfl ?_) | ((with_reducible refine D.store ?_); refine L.st rfl rfl rfl rfl rfl rfl rfl rfl rfl ?_) | ((with_reducible refine D.not ?_); refine L.nt rfl rfl rfl ?_) | ((with_reducible refine D.pick ?_); first | refine L.pk rfl rfl rfl rfl ?_ | refine AX.sk rfl rfl ?_) | ((with_reducible refine D.aw ?_); first | refine K.sq (AW.regL ?_) | refine K.sq (K.sq ?_) | refine AW.regL ?_ | refine AW.condT rfl ?_ | refine AW.condF rfl ?_ | refine AW.condS rfl (fun h => ?_) (fun h => ?_) | refine AW.skip ?_ | refine AW.ret ?_) | with_reducible refine K.tN ?_ | with_reducible refine K.tR ?_ | with_reducible refine K.r1 (by with_unfolding_all rfl) (by with_unfolding_all rfl) ?_)
  · exfalso; exact hc3 (by simpa using h)
  · exfalso
    rename_i h0
    have hp0 : ps = [] := by simpa using h0
    rw [hp0] at hb4
    exact hb4 (by simpa [imFs] using h)
  · exfalso
    rename_i h1 h0 
    have hp0 : ps = [] := by simpa using h1
    rw [hp0] at hb6
    exact hb6 (by simpa [imFs] using h)
  all_goals
    refine AW.downG ps.length (fun m => True)
      (fun m => ([(5, .ptr 1 0), (6, .s .ty (qs.map (·.2))), (7, .s .fm ps), (10, .ptr 3 0), (11, .i ((m : Int) - 1))], ⟨4, [(0, .var D2.cells), (1, .var (quFs qs (imFs ps c)).view), (2, .var c.view), (3, .var (imFs (ps.drop m) c).view)]⟩))
      (by omega) (fun m => rfl) rfl trivial ?_ ?_ ?_
    · simp only [List.drop_length]
      exact (Weak.mk [some 0, some 1, some 2, some 3] _ _ _ rfl rfl rfl rfl (by (repeat' (first | exact trivial | refine And.intro ?_ ?_ | refine ⟨_, rfl, _, rfl, ?_⟩ | exact VLe.refl _)); done) (by (repeat' (first | exact trivial | refine And.intro ?_ ?_ | refine ⟨_, rfl, _, rfl, _, rfl, ?_⟩ | exact VLe.refl _)); done))
    · intro m hm _
      have e := imFs_drop (c := c) hm
      have hx := imFs_mem (c := c) hm
      have hd := imFs_full (ps.drop (m + 1)) c
      have hd2 : ((ps.drop (m + 1)).map fun p => 2 + p.full).sum ≤ (ps.map fun p => 2 + p.full).sum := lsum_drop_le _ _ _
      have hc := twoFm_c 3 ps[m] (imFs (ps.drop (m + 1)) c) (by omega) (by omega)
      rw [← e] at hc
      repeat' (first | ((with_reducible refine D.move ?_); refine L.mv rfl rfl rfl ?_) | ((with_reducible refine D.aw ?_); refine AW.regD mixed (by kernel_rfl) ?_))
      refine L.ixt m rfl rfl rfl rfl (by omega) rfl rfl hm ?_
      repeat' (first | ((with_reducible refine D.nil ?_); refine AX.nilD (by kernel_rfl) ?_) | ((with_reducible refine D.load ?_); first | refine L.ldb rfl rfl rfl rfl rfl rfl ?_ | refine L.lda rfl rfl rfl rfl rfl ?_) | ((with_reducible refine D.call ?_); refine L.c2 (hc) rfl rfl rfl rfl ?_) | ((with_reducible refine D.store ?_); refine L.st rfl rfl rfl rfl rfl rfl rfl rfl rfl ?_) | with_reducible refine K.bN ?_)
      exact ⟨rfl, trivial, (Weak.mk [some 0, some 1, some 2, some 3] _ _ _ rfl rfl rfl rfl (by (repeat' (first | exact trivial | refine And.intro ?_ ?_ | refine ⟨_, rfl, _, rfl, ?_⟩ | exact VLe.refl _)); done) (by (repeat' (first | exact trivial | refine And.intro ?_ ?_ | refine ⟨_, rfl, _, rfl, _, rfl, ?_⟩ | exact VLe.refl _)); done))⟩
    intro _
    simp only [List.drop_zero]
    repeat' (first | ((with_reducible refine D.nil ?_); refine AX.nilL ?_) | ((with_reducible refine D.load ?_); refine L.ldb rfl rfl rfl rfl rfl rfl ?_) | ((with_reducible refine D.move ?_); refine L.mv rfl rfl rfl ?_) | ((with_reducible refine D.call ?_); refine L.lnt rfl rfl rfl rfl ?_) | ((with_reducible refine D.alloc ?_); refine L.al rfl rfl rfl ?_) | ((with_reducible refine D.store ?_); refine L.st rfl rfl rfl rfl rfl rfl rfl rfl rfl ?_) | ((with_reducible refine D.aw ?_); first | refine K.sq (AW.regL ?_) | refine K.sq (K.sq ?_) | refine AW.regL ?_) | with_reducible refine K.tN ?_)
    refine AW.range qs.length (fun m => True)
      (fun m => ([(10, .ptr 3 0), (12, .ptr 4 0), (71, .s .ty (qs.map (·.2))), (72, .i qs.length), (73, .i m)], ⟨5, [(0, .var D2.cells), (1, .var (quFs qs (imFs ps c)).view), (2, .var c.view), (3, .var (imFs ps c).view), (4, .var (quFs (qs.drop m) (imFs ps c)).view)]⟩))
      (by omega) (fun m => rfl) (fun m => rfl) rfl trivial (Weak.mk [some 0, some 1, some 2, some 3, some 4] _ _ _ rfl rfl rfl rfl (by (repeat' (first | exact trivial | refine And.intro ?_ ?_ | refine ⟨_, rfl, _, rfl, ?_⟩ | exact VLe.refl _ | exact VLe.of_eq (by simp [Sto.upd, List.drop_zero]))); done) (by (repeat' (first | exact trivial | refine And.intro ?_ ?_ | refine ⟨_, rfl, _, rfl, _, rfl, ?_⟩ | exact VLe.refl _)); done)) ?_ ?_
    · intro m hm _
      have e := quFs_drop (b := imFs ps c) hm
      have hx := quFs_mem (b := imFs ps c) hm
      have hm2 : m < (qs.map (·.2)).length := by simpa using hm
      have hcs := sameTy_c _ qs[m].2 ((qs.map (·.2))[m]'hm2) (Nat.le_refl _) (by omega)
      rw [decide_eq_true (show qs[m].2 = (qs.map (·.2))[m]'hm2 by simp)] at hcs
      rcases (hqs _ (List.getElem_mem hm)).1 with h4 | h4
      · rw [h4] at e
        simp only [e]
        repeat' (first | ((with_reducible refine D.nil ?_); refine AX.nilL ?_) | ((with_reducible refine D.load ?_); first | refine L.ldb rfl rfl rfl rfl rfl rfl ?_ | refine L.lda rfl rfl rfl rfl rfl ?_ | refine AX.sk rfl rfl ?_) | ((with_reducible refine D.move ?_); refine L.mv rfl rfl rfl ?_) | ((with_reducible refine D.fieldAddr ?_); first | refine L.fab rfl rfl rfl rfl rfl ?_ | refine AX.sk rfl rfl ?_) | ((with_reducible refine D.bin ?_); first | refine L.bn rfl rfl rfl rfl rfl ?_ | refine AX.sk rfl rfl ?_) | ((with_reducible refine D.call ?_); refine L.c2 (hcs) rfl rfl rfl rfl ?_) | ((with_reducible refine D.alloc ?_); refine L.al rfl rfl rfl ?_) | ((with_reducible refine D.store ?_); refine L.st rfl rfl rfl rfl rfl rfl rfl rfl rfl ?_) | ((with_reducible refine D.indexAddr ?_); refine L.ixt _ rfl rfl rfl rfl rfl rfl rfl (by first | assumption | (simp; done)) ?_) | ((with_reducible refine D.not ?_); refine L.nt rfl rfl rfl ?_) | ((with_reducible refine D.pick ?_); refine L.pk rfl rfl rfl rfl ?_) | ((with_reducible refine D.aw ?_); first | refine K.sq (AW.regL ?_) | refine K.sq (K.sq ?_) | refine AW.regL ?_ | refine AW.condF rfl ?_ | refine AW.skip ?_) | with_reducible refine K.tN ?_ | with_reducible refine K.bN ?_)
        exact ⟨rfl, trivial, (Weak.mk [some 0, some 1, some 2, some 3, some 4] _ _ _ rfl rfl rfl rfl (by (repeat' (first | exact trivial | refine And.intro ?_ ?_ | refine ⟨_, rfl, _, rfl, ?_⟩ | exact VLe.refl _)); done) (by (repeat' (first | exact trivial | refine And.intro ?_ ?_ | refine ⟨_, rfl, _, rfl, _, rfl, ?_⟩ | exact VLe.refl _)); done))⟩
      · rw [h4] at e
        simp only [e]
        repeat' (first | ((with_reducible refine D.nil ?_); refine AX.nilL ?_) | ((with_reducible refine D.load ?_); first | refine L.ldb rfl rfl rfl rfl rfl rfl ?_ | refine L.lda rfl rfl rfl rfl rfl ?_) | ((with_reducible refine D.move ?_); refine L.mv rfl rfl rfl ?_) | ((with_reducible refine D.fieldAddr ?_); refine L.fab rfl rfl rfl rfl rfl ?_) | ((with_reducible refine D.bin ?_); refine L.bn rfl rfl rfl rfl rfl ?_) | ((with_reducible refine D.call ?_); refine L.c2 (hcs) rfl rfl rfl rfl ?_) | ((with_reducible refine D.alloc ?_); refine L.al rfl rfl rfl ?_) | ((with_reducible refine D.store ?_); refine L.st rfl rfl rfl rfl rfl rfl rfl rfl rfl ?_) | ((with_reducible refine D.indexAddr ?_); refine L.ixt _ rfl rfl rfl rfl rfl rfl rfl (by first | assumption | (simp; done)) ?_) | ((with_reducible refine D.not ?_); refine L.nt rfl rfl rfl ?_) | ((with_reducible refine D.pick ?_); refine L.pk rfl rfl rfl rfl ?_) | ((with_reducible refine D.aw ?_); first | refine K.sq (AW.regL ?_) | refine K.sq (K.sq ?_) | refine AW.regL ?_ | refine AW.condF rfl ?_ | refine AW.skip ?_) | with_reducible refine K.tN ?_ | with_reducible refine K.bN ?_)
        exact ⟨rfl, trivial, (Weak.mk [some 0, some 1, some 2, some 3, some 4] _ _ _ rfl rfl rfl rfl (by (repeat' (first | exact trivial | refine And.intro ?_ ?_ | refine ⟨_, rfl, _, rfl, ?_⟩ | exact VLe.refl _)); done) (by (repeat' (first | exact trivial | refine And.intro ?_ ?_ | refine ⟨_, rfl, _, rfl, _, rfl, ?_⟩ | exact VLe.refl _)); done))⟩
    · intro _
      have hs := sameFm_r _ (imFs ps c) (Nat.le_refl _) (by omega)
      simp only [List.drop_length]
      repeat' (first | ((with_reducible refine D.nil ?_); refine AX.nilL ?_) | ((with_reducible refine D.load ?_); refine L.ldb rfl rfl rfl rfl rfl rfl ?_) | ((with_reducible refine D.assign ?_); refine L.asg rfl rfl rfl ?_) | ((with_reducible refine D.call ?_); refine L.c2 (hs) rfl rfl rfl rfl ?_) | ((with_reducible refine D.aw ?_); first | refine K.sq (AW.regL ?_) | refine AW.ret ?_) | with_reducible refine K.tN ?_ | with_reducible refine K.r1 (by with_unfolding_all rfl) (by with_unfolding_all rfl) ?_)
      rfl
end Go.Ab
