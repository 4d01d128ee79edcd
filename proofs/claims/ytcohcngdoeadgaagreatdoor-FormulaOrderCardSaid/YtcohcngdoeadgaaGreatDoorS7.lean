/- A part of the proofs of this seat's statements: S171, S168. It has no conditions of its own. -/
import Derived.Test.YtcohcngdoeadgaaGreatDoorS4
import Derived.Test.YtcohcngdoeadgaaGreatDoorA3
import Derived.Test.YtcohcngdoeadgaaGreatDoorD1
import Derived.Test.YtcohcngdoeadgaaGreatDoorS2
namespace Go.Ab
open Go Go.Proofs
set_option maxRecDepth 100000
set_option maxHeartbeats 4000000
set_option linter.all false
abbrev fcs(f:Fm)(p:Value×Value):List V:=[.i f.kind,.i f.ty.kind,.s .ty f.ty.args,.raw p.1,.raw p.2]
abbrev zFm:List V:=[.i 0,.i 0,.slice .nil (.t .ty []),.slice .nil (.t .tm []),.slice .nil (.t .fm [])]
theorem app_isD(xs:List Tm)(x:Tm):(xs.flatMap Tm.view++x.view).all V.isD=true:=by rw[List.all_append,Bool.and_eq_true];exact⟨flat_isD .tm xs,view_isD .tm x⟩
theorem copyFmY:∀(b:Nat) (f:Fm),f.full≤b→b<1099511627776→YC E 29 [.agg f.view] (fun r y=>∃p:Value×Value,r= .agg (fcs f p)∧(y.map Prod.fst).Nodup∧∃yt,YMs True f.yn (fcs f p) yt∧yt.Perm y):=by
 intro b
 induction b with
 |zero=>intro f h;have:=f.full_pos;omega
 |succ b ih=>
 intro f hsz hb
 have hsz':=f.full_eq
 have hlen:=lsum_len Fm.full Fm.full_pos f.args
 have hlen2:=lsum_len Tm.full Tm.full_pos f.terms
 have hty:=copyTy_c _ f.ty (Nat.le_refl _) (by omega)
 refine YC.mk Tryz.func29 rfl rfl rfl rfl rfl ?_
 refine BW.seq (.of (AW.regL ?_))
 repeat'(first|((with_reducible refine D.nil ?_);refine AX.nilL ?_)|((with_reducible refine D.box ?_);refine L.bx U U U U ?_)|((with_reducible refine D.alloc ?_);refine L.al U U U ?_))
 refine K.yT (BW.seq (.of (AW.regD mixed (by kernel_rfl) ?_)))
 repeat'(first|((with_reducible refine D.nil ?_);refine AX.nilD (by kernel_rfl) ?_)|((with_reducible refine D.load ?_);refine L.ldb U U U U U U ?_)|((with_reducible refine D.fieldAddr ?_);refine L.fab U U U U U ?_)|((with_reducible refine D.call ?_);refine L.c2 (hty) U U U U ?_)|((with_reducible refine D.alloc ?_);refine L.al U U U ?_)|((with_reducible refine D.store ?_);refine L.st U U U U U U U U U ?_)|((with_reducible refine D.ax ?_);refine L.bd U U U U U ?_))
 refine K.yT (BW.seq (BW.seq (.of (AW.regL ?_))))
 repeat'(first|((with_reducible refine D.nil ?_);refine AX.nilL ?_)|((with_reducible refine D.load ?_);refine L.ldb U U U U U U ?_)|((with_reducible refine D.move ?_);refine L.mv U U U ?_)|((with_reducible refine D.fieldAddr ?_);refine L.fab U U U U U ?_)|((with_reducible refine D.call ?_);refine L.lnt U U U U ?_))
 refine K.yT ?_
 let A0:Nat→AF:=fun m=>[(1,.ptr 0 0),(2,.ptr 1 0),(3,.ptr 2 0),(15,.s .tm f.terms),(16,.i f.terms.length),(17,.i m)]
 let S0:Sto:=⟨3,[(0,.var f.view),(1,.var zFm),(2,.var [.i f.kind,.i f.ty.kind,.s .ty f.ty.args,.slice .nil (.t .tm []),.slice .nil (.t .fm [])])]⟩
 let S1:Nat→List V→Sto:=fun m cells=>⟨4,[(0,.var f.view),(1,.var zFm),(2,.var [.i f.kind,.i f.ty.kind,.s .ty f.ty.args,.arr 3 m 5,.slice .nil (.t .fm [])]),(3,.var cells)]⟩
 refine BW.range f.terms.length (fun m a σ y=>y=[]∧a=A0 m∧((m=0∧σ=S0)∨(0<m∧σ=S1 m ((f.terms.take m).flatMap Tm.view)))) (by omega) ?_ ?_ U (.ofW (Weak.mk [some 0,some 1,some 2] _ _ _ U U U U (by(repeat'(first|exact trivial|refine And.intro ?_ ?_|refine⟨_,U,_,U,?_⟩|exact VLe.refl _));done) (by(repeat'(first|exact trivial|refine And.intro ?_ ?_|refine⟨_,U,_,U,_,U,?_⟩|exact VLe.refl _));done)) ⟨rfl,U,.inl ⟨rfl,rfl⟩⟩) ?_ ?_
 ·rintro m a σ y ⟨_,rfl,_⟩;rfl
 ·rintro m a σ y ⟨_,rfl,_⟩;rfl
 ·rintro m a σ y hm ⟨rfl,rfl,hst⟩
  have hs2:=lsum_mem Tm.full (List.getElem_mem hm)
  have hc:=copyTm_c _ f.terms[m] (Nat.le_refl _) (by omega)
  have ht:(f.terms.take (m+1)).flatMap Tm.view=(f.terms.take m).flatMap Tm.view++f.terms[m].view:=by
   rw[←List.take_append_getElem hm,List.flatMap_append];simp
  rcases hst with⟨rfl,rfl⟩|⟨h0,rfl⟩
  ·refine BW.seq (.of (AW.regL ?_))
   repeat'(first|((with_reducible refine D.nil ?_);refine AX.nilL ?_)|((with_reducible refine D.load ?_);refine L.lda U U U U U ?_)|((with_reducible refine D.alloc ?_);refine L.al U U U ?_)|((with_reducible refine D.store ?_);refine L.st U U U U U U U U U ?_)|((with_reducible refine D.indexAddr ?_);refine L.ixt _ U U U U U U U (by first|assumption|fail) ?_))
   refine K.yT ?_
   refine .of (AW.regD mixed (by kernel_rfl) ?_)
   repeat'(first|((with_reducible refine D.nil ?_);refine AX.nilD (by kernel_rfl) ?_)|((with_reducible refine D.load ?_);refine L.ldb U U U U U U ?_)|((with_reducible refine D.fieldAddr ?_);refine L.fab U U U U U ?_)|((with_reducible refine D.call ?_);first|refine L.yN U U U U U U U U U U (by omega) (by omega) ?_|refine L.c2 (hc) U U U U ?_)|((with_reducible refine D.store ?_);refine L.st U U U U U U U U U ?_)|((with_reducible refine D.ax ?_);refine L.bsA1 0 U U U U U U U ?_))
   exact K.yB ⟨rfl,.ofW (a2:=A0 1) (σ2:=S1 1 f.terms[0].view) (Weak.mk [some 0,some 1,some 2,some 5] _ _ _ U U U U (by repeat'(first|exact trivial|refine And.intro ?_ ?_|refine⟨_,U,_,U,?_⟩|exact VLe.refl _)) (by repeat'(first|exact trivial|refine And.intro ?_ ?_|refine⟨_,U,_,U,_,U,?_⟩|refine⟨_,U,_,(YMs.ren (s:=False) (ym_dats _ (by first|exact flat_isD .tm _|exact view_isD .tm _|exact app_isD _ _)) _),_,U,?_⟩|exact VLe.refl _|exact VsLe.refl _|exact VLe.nilRaw _))) ⟨rfl,U,.inr ⟨by omega,by show S1 _ _=S1 _ _;rw[ht];rfl⟩⟩⟩
  ·refine BW.seq (.of (AW.regL ?_))
   repeat'(first|((with_reducible refine D.nil ?_);refine AX.nilL ?_)|((with_reducible refine D.load ?_);refine L.lda U U U U U ?_)|((with_reducible refine D.alloc ?_);refine L.al U U U ?_)|((with_reducible refine D.store ?_);refine L.st U U U U U U U U U ?_)|((with_reducible refine D.indexAddr ?_);refine L.ixt _ U U U U U U U (by first|assumption|fail) ?_))
   refine K.yT ?_
   have hcl:((f.terms.take m).flatMap Tm.view).length=m*5:=by have:=fview_len .tm (f.terms.take m);rw[List.length_take] at this;rw[show min m f.terms.length=m by omega] at this;exact this
   refine .of (AW.regD mixed (by kernel_rfl) ?_)
   repeat'(first|((with_reducible refine D.nil ?_);refine AX.nilD (by kernel_rfl) ?_)|((with_reducible refine D.load ?_);refine L.ldb U U U U U U ?_)|((with_reducible refine D.fieldAddr ?_);refine L.fab U U U U U ?_)|((with_reducible refine D.call ?_);first|refine L.yR U U U U U U U U hcl U U U (by omega) (by omega) ?_|refine L.c2 (hc) U U U U ?_)|((with_reducible refine D.store ?_);refine L.st U U U U U U U U U ?_)|((with_reducible refine D.ax ?_);refine L.bsA1 0 U U U U U U U ?_))
   exact K.yB ⟨rfl,.ofW (a2:=A0 (m+1)) (σ2:=S1 (m+1) ((f.terms.take m).flatMap Tm.view++f.terms[m].view)) (Weak.mk [some 0,some 1,some 2,some 6] _ _ _ U U U U (by repeat'(first|exact trivial|refine And.intro ?_ ?_|refine⟨_,U,_,U,?_⟩|exact VLe.refl _)) (by repeat'(first|exact trivial|refine And.intro ?_ ?_|refine⟨_,U,_,U,_,U,?_⟩|refine⟨_,U,_,(YMs.ren (s:=False) (ym_dats _ (by first|exact flat_isD .tm _|exact view_isD .tm _|exact app_isD _ _)) _),_,U,?_⟩|exact VLe.refl _|exact VsLe.refl _|exact VLe.nilRaw _))) ⟨rfl,U,.inr ⟨by omega,by show S1 _ _=S1 _ _;rw[ht]⟩⟩⟩
 ·rintro a σ y ⟨rfl,rfl,hst⟩
  refine K.yT (BW.weak (S:=fun a3 σ3 y3=>∃tv,YM True (dRow .tm f.terms) (.raw tv) y3∧(y3.map Prod.fst).Nodup∧a3=[(1,.ptr 0 0),(2,.ptr 1 0),(3,.ptr 2 0)]∧
   σ3=⟨3,[(0,.var f.view),(1,.var zFm),(2,.var [.i f.kind,.i f.ty.kind,.s .ty f.ty.args,.raw tv,.slice .nil (.t .fm [])])]⟩) ?_ ?_)
  ·rcases hst with⟨h0,rfl⟩|⟨h0,rfl⟩
   ·have hn:f.terms=[]:=List.eq_nil_of_length_eq_zero h0
    refine WeakB.ofW (Weak.mk [some 0,some 1,some 2] _ _ _ U U U U (by repeat'(first|exact trivial|refine And.intro ?_ ?_|refine⟨_,U,_,U,?_⟩|exact VLe.refl _)) (by repeat'(first|exact trivial|refine And.intro ?_ ?_|refine⟨_,U,_,U,_,U,?_⟩|refine⟨_,U,_,(YMs.ren (s:=False) (ym_dats _ (by first|exact flat_isD .tm _|exact view_isD .tm _|exact app_isD _ _)) _),_,U,?_⟩|exact VLe.refl _|exact VsLe.refl _|exact VLe.nilRaw _))) ⟨.slice none 0 0,by rw[hn];exact dRow_nil .tm,by simp,U,rfl⟩
   ·refine WeakB.trans (WeakB.giveA (n:=3) (len0:=f.terms.length) (sz:=5) (cs:=(f.terms.take f.terms.length).flatMap Tm.view) rfl (YMs.free (s:=False) (ym_dats _ (flat_isD .tm _))) (.inr ⟨2,_,3,rfl,rfl⟩) (fun b cap=>[(1,.ptr 0 0),(2,.ptr 1 0),(3,.ptr 2 0)])
     (fun b cap=>[(0,.var f.view),(1,.var zFm),(2,.var [.i f.kind,.i f.ty.kind,.s .ty f.ty.args,.rs b f.terms.length cap,.slice .nil (.t .fm [])]),(3,.gone)])
     (fun b cap=>AF.Cnv.get ⟨⟨_,rfl,.inl rfl⟩,⟨_,rfl,.inl rfl⟩,⟨_,rfl,.inl rfl⟩,trivial⟩)
     (fun b cap=>Es.Cnv.get ⟨⟨_,rfl,.same (fun _=> .inl rfl) _⟩,⟨_,rfl,.same (fun _=> .inl rfl) _⟩,⟨_,rfl,.var ⟨.inl rfl,.inl rfl,.inl rfl,.inr (.inr ⟨_,rfl,rfl⟩),.inl rfl,trivial⟩⟩,⟨_,rfl,trivial⟩,trivial⟩) (fun b cap=>rfl)) ?_
    rintro _ _ _ ⟨b,cap,hcap,hnb,rfl,rfl,rfl⟩
    rw[List.take_length]
    refine WeakB.ofW (Weak.mk [some 0,some 1,some 2] _ _ _ U U U U (by repeat'(first|exact trivial|refine And.intro ?_ ?_|refine⟨_,U,_,U,?_⟩|exact VLe.refl _)) (by repeat'(first|exact trivial|refine And.intro ?_ ?_|refine⟨_,U,_,U,_,U,?_⟩|refine⟨_,U,_,(YMs.ren (s:=False) (ym_dats _ (by first|exact flat_isD .tm _|exact view_isD .tm _|exact app_isD _ _)) _),_,U,?_⟩|exact VLe.refl _|exact VsLe.refl _|exact VLe.nilRaw _))) ⟨_,dRow_row .tm f.terms b _ cap (fun _=>rfl) hcap h0,by simp,U,rfl⟩
  rintro _ _ y1 ⟨tv,hy1,hnd1,rfl,rfl⟩
  refine BW.seq (BW.seq (.of (AW.regL ?_)))
  repeat'(first|((with_reducible refine D.nil ?_);refine AX.nilL ?_)|((with_reducible refine D.load ?_);refine L.ldb U U U U U U ?_)|((with_reducible refine D.move ?_);refine L.mv U U U ?_)|((with_reducible refine D.fieldAddr ?_);refine L.fab U U U U U ?_)|((with_reducible refine D.call ?_);refine L.lnt U U U U ?_))
  refine K.yT ?_
  let A2:Nat→AF:=fun m=>[(1,.ptr 0 0),(2,.ptr 1 0),(3,.ptr 2 0),(30,.s .fm f.args),(31,.i f.args.length),(32,.i m)]
  let S2:Sto:=⟨3,[(0,.var f.view),(1,.var zFm),(2,.var [.i f.kind,.i f.ty.kind,.s .ty f.ty.args,.raw tv,.slice .nil (.t .fm [])])]⟩
  let S3:Nat→List V→Sto:=fun m cells=>⟨4,[(0,.var f.view),(1,.var zFm),(2,.var [.i f.kind,.i f.ty.kind,.s .ty f.ty.args,.raw tv,.arr 3 m 5]),(3,.var cells)]⟩
  refine BW.range f.args.length (fun m a σ y=>∃cells yt,YMs True (Fm.yns (f.args.take m)) cells yt∧(yt++y1).Perm y∧(y.map Prod.fst).Nodup∧a=A2 m∧((m=0∧σ=S2)∨(0<m∧σ=S3 m cells))) (by omega) ?_ ?_ U (.ofW (Weak.mk [some 0,some 1,some 2] _ _ _ U U U U (by(repeat'(first|exact trivial|refine And.intro ?_ ?_|refine⟨_,U,_,U,?_⟩|exact VLe.refl _));done) (by(repeat'(first|exact trivial|refine And.intro ?_ ?_|refine⟨_,U,_,U,_,U,?_⟩|exact VLe.refl _));done)) ⟨[],[],.nil,.refl _,hnd1,U,.inl ⟨rfl,rfl⟩⟩) ?_ ?_
  ·rintro m a σ y ⟨cells,_,_,_,_,rfl,_⟩;rfl
  ·rintro m a σ y ⟨cells,_,_,_,_,rfl,_⟩;rfl
  ·rintro m a σ y hm ⟨cells,yt,hym,hpm,hnd,rfl,hst⟩
   have hs2:=lsum_mem Fm.full (List.getElem_mem hm)
   have hcl:cells.length=m*5:=by rw[hym.len,Fm.yns_len,List.length_take];omega
   have hc:=ih f.args[m] (by omega) (by omega)
   have hnx:∀(p:Value×Value) (y' yt':Ys),(y'.map Prod.fst).Nodup→(∀p∈y',∀q∈y,p.1≠q.1)→yt'.Perm y'→YMs True f.args[m].yn (fcs f.args[m] p) yt'→
    ∃yt2,YMs True (Fm.yns (f.args.take (m+1))) (cells++fcs f.args[m] p) yt2∧(yt2++y1).Perm (y'++y)∧((y'++y).map Prod.fst).Nodup:=by
    intro p y' yt' h1 h2 h3 h4
    refine⟨yt++yt',?_,?_,?_⟩
    ·rw [←List.take_append_getElem hm,Fm.yns_app]
     have:Fm.yns [f.args[m]]=f.args[m].yn:=by simp[Fm.yns]
     rw[this]
     exact hym.app h4
    ·refine ((List.perm_append_comm.append_right y1).trans ?_)
     rw[List.append_assoc]
     exact h3.append hpm
    ·rw [List.map_append,List.nodup_append]
     refine⟨h1,hnd,fun a ha b hb=> ?_⟩
     obtain⟨p,hp,rfl⟩:=List.mem_map.1 ha
     obtain⟨q,hq,rfl⟩:=List.mem_map.1 hb
     exact h2 p hp q hq
   rcases hst with⟨rfl,rfl⟩|⟨h0,rfl⟩
   ·refine BW.seq (.of (AW.regL ?_))
    repeat'(first|((with_reducible refine D.nil ?_);refine AX.nilL ?_)|((with_reducible refine D.load ?_);refine L.lda U U U U U ?_)|((with_reducible refine D.alloc ?_);refine L.al U U U ?_)|((with_reducible refine D.store ?_);refine L.st U U U U U U U U U ?_)|((with_reducible refine D.indexAddr ?_);refine L.ixt _ U U U U U U U (by first|assumption|fail) ?_))
    refine K.yT ?_
    refine BW.drawY (π:=Value×Value) (.slice none 0 0,.slice none 0 0) (l1:=[_,_,_]) (fun p=> .agg (fcs f.args[0] p)) _ _ hc mixed (by kernel_rfl) U U U _ (fun y'=>Plan.fab U U U U U (Plan.ldb U U U U U U (Plan.ldb U U U U U U (.nil _ _)))) ⟨_,_,U,U,(by(repeat'(first|exact VLe.refl _|exact VLe.any _ _|refine VLe.agg ?_|exact trivial|refine And.intro ?_ ?_));done)⟩ ?_
    intro p y'
    repeat'(first|((with_reducible refine D.nil ?_);refine AX.nilD (by kernel_rfl) ?_)|((with_reducible refine D.fieldAddr ?_);refine L.fab U U U U U ?_)|((with_reducible refine D.call ?_);refine L.yN U U U U U U U U U U (by omega) (by omega) ?_)|((with_reducible refine D.store ?_);refine L.st U U U U U U U U U ?_)|((with_reducible refine D.ax ?_);refine L.bsA1 0 U U U U U U U ?_))
    refine⟨rfl,?_⟩
    rintro y'' rfl ⟨hnd',yt',hvs,hpm'⟩ hne
    obtain⟨yt2,h1,h2,h3⟩:=hnx p _ _ hnd' hne hpm' hvs
    have hcn:cells=[]:=List.eq_nil_of_length_eq_zero (by omega)
    rw[hcn,List.nil_append] at h1
    exact K.yB ⟨rfl,.ofW (a2:=A2 1) (σ2:=S3 1 (fcs f.args[0] p)) (Weak.mk [some 0,some 1,some 2,some 5] _ _ _ U U U U (by repeat'(first|exact trivial|refine And.intro ?_ ?_|refine⟨_,U,_,U,?_⟩|exact VLe.refl _)) (by repeat'(first|exact trivial|refine And.intro ?_ ?_|refine⟨_,U,_,U,_,U,?_⟩|refine⟨_,U,_,h1.ren _,_,U,?_⟩|exact VLe.refl _|exact VsLe.refl _))) ⟨_,yt2,h1,h2,h3,U,.inr ⟨by omega,rfl⟩⟩⟩
   ·refine BW.seq (.of (AW.regL ?_))
    repeat'(first|((with_reducible refine D.nil ?_);refine AX.nilL ?_)|((with_reducible refine D.load ?_);refine L.lda U U U U U ?_)|((with_reducible refine D.alloc ?_);refine L.al U U U ?_)|((with_reducible refine D.store ?_);refine L.st U U U U U U U U U ?_)|((with_reducible refine D.indexAddr ?_);refine L.ixt _ U U U U U U U (by first|assumption|fail) ?_))
    refine K.yT ?_
    refine BW.drawY (π:=Value×Value) (.slice none 0 0,.slice none 0 0) (l1:=[_,_,_]) (fun p=> .agg (fcs f.args[m] p)) _ _ hc mixed (by kernel_rfl) U U U _ (fun y'=>Plan.fab U U U U U (Plan.ldb U U U U U U (Plan.ldb U U U U U U (.nil _ _)))) ⟨_,_,U,U,(by(repeat'(first|exact VLe.refl _|exact VLe.any _ _|refine VLe.agg ?_|exact trivial|refine And.intro ?_ ?_));done)⟩ ?_
    intro p y'
    repeat'(first|((with_reducible refine D.nil ?_);refine AX.nilD (by kernel_rfl) ?_)|((with_reducible refine D.fieldAddr ?_);refine L.fab U U U U U ?_)|((with_reducible refine D.call ?_);refine L.yR U U U U U U U U hcl U U U (by omega) (by omega) ?_)|((with_reducible refine D.store ?_);refine L.st U U U U U U U U U ?_)|((with_reducible refine D.ax ?_);refine L.bsA1 0 U U U U U U U ?_))
    refine⟨rfl,?_⟩
    rintro y'' rfl ⟨hnd',yt',hvs,hpm'⟩ hne
    obtain⟨yt2,h1,h2,h3⟩:=hnx p _ _ hnd' hne hpm' hvs
    exact K.yB ⟨rfl,.ofW (a2:=A2 (m+1)) (σ2:=S3 (m+1) (cells++fcs f.args[m] p)) (Weak.mk [some 0,some 1,some 2,some 6] _ _ _ U U U U (by repeat'(first|exact trivial|refine And.intro ?_ ?_|refine⟨_,U,_,U,?_⟩|exact VLe.refl _)) (by repeat'(first|exact trivial|refine And.intro ?_ ?_|refine⟨_,U,_,U,_,U,?_⟩|refine⟨_,U,_,h1.ren _,_,U,?_⟩|exact VLe.refl _|exact VsLe.refl _))) ⟨_,yt2,h1,h2,h3,U,.inr ⟨by omega,rfl⟩⟩⟩
  ·rintro a σ y ⟨cells,yt,hym,hpm,hnd,rfl,hst⟩
   rw[List.take_length] at hym
   rcases hst with⟨h0,rfl⟩|⟨h0,rfl⟩
   ·refine K.yT (BW.seq (.of (AW.regL ?_)))
    repeat'(first|((with_reducible refine D.nil ?_);refine AX.nilL ?_)|((with_reducible refine D.load ?_);refine L.ldb U U U U U U ?_)|((with_reducible refine D.store ?_);refine L.st U U U U U U U U U ?_))
    refine K.yT (BW.ret ?_)
    have hn:f.args=[]:=List.eq_nil_of_length_eq_zero h0
    refine⟨.agg (fcs f (tv,.slice none 0 0)),⟨(tv,.slice none 0 0),rfl,hnd,y1++[],.ofFm hy1 ?_,?_⟩,?_⟩
    ·rw [hn];exact .nil .fm
    ·rw [hn] at hym
     cases hym
     simpa using hpm
    ·exact ⟨_,U,[],U,U,U,U,trivial,_,U,VLe.agg (by repeat'(first|exact trivial|refine And.intro ?_ ?_|exact VLe.refl _|exact VLe.any _ _|exact VLe.nilRaw _))⟩
   ·refine K.yT (BW.weak (WeakB.giveA (n:=3) (len0:=f.args.length) (sz:=5) (cs:=cells) rfl hym.free (.inr ⟨2,_,4,rfl,rfl⟩) (fun b cap=>[(2,.ptr 1 0),(3,.ptr 2 0)])
     (fun b cap=>[(1,.var zFm),(2,.var (fcs f (tv,.slice (some ⟨b,0,none⟩) f.args.length cap))),(3,.gone)])
     (fun b cap=>AF.Cnv.get ⟨⟨_,rfl,.inl rfl⟩,⟨_,rfl,.inl rfl⟩,trivial⟩) (fun b cap=>Es.Cnv.get ⟨⟨_,rfl,.same (fun _=> .inl rfl) _⟩,⟨_,rfl,.var ⟨.inl rfl,.inl rfl,.inl rfl,.inl rfl,.inr (.inr ⟨_,rfl,rfl⟩),trivial⟩⟩,⟨_,rfl,trivial⟩,trivial⟩) (fun b cap=>rfl)) ?_)
    rintro a2 σ2 y2 ⟨b,cap,hcap,hnb,rfl,rfl,rfl⟩
    refine BW.seq (.of (AW.regL ?_))
    repeat'(first|((with_reducible refine D.nil ?_);refine AX.nilL ?_)|((with_reducible refine D.load ?_);refine L.ldb U U U U U U ?_)|((with_reducible refine D.store ?_);refine L.st U U U U U U U U U ?_))
    refine K.yT (BW.ret ?_)
    refine⟨.agg (fcs f (tv,.slice (some ⟨b,0,none⟩) f.args.length cap)),⟨_,rfl,?_,y1++((b,cap*5,cells)::yt),.ofFm hy1 ?_,?_⟩,?_⟩
    ·rw [List.map_cons,List.nodup_cons]
     refine⟨fun h=> ?_,hnd⟩
     obtain⟨p,hp,e⟩:=List.mem_map.1 h
     exact hnb p hp e
    ·exact .row .fm _ _ b _ cap _ _ (fun _=>rfl) hcap h0 (Fm.yns_len _) hym
    ·exact List.perm_middle.trans ((List.perm_append_comm.trans hpm).cons _)
    ·exact ⟨_,U,[],U,U,U,U,trivial,_,U,VLe.agg (by repeat'(first|exact trivial|refine And.intro ?_ ?_|exact VLe.refl _|exact VLe.any _ _))⟩
structure BI (c:EC) where
 n:Nat
 d:Dk
 F:c.sem→c.sem
 s:c.sem
 o:Option (Nat×Nat×List V×Ys)
def BI.ok{c:EC}(K:RK c)(W:(c.sem→c.sem)×c.sem×Dk)(y:Ys)(rc:List V)(r0:c.sem)(i:BI c):Prop:=
 K.walk i.n i.d i.F i.s=W∧i.d.ok∧K.sz i.s≤i.n∧K.sz i.s≤K.sz r0∧
  (match i.o with
  |none=>i.s=r0∧i.F=fun x=>x
  |some q=>Foc K y rc i.F q.1 q.2.1 i.s q.2.2.1 q.2.2.2)
def BI.x(o:Option (Nat×Nat×List V×Ys))(r:V):V:=match o with|none=>r|some q=> .rp q.1 q.2.1
theorem YM.sl{s:Prop}{c:EC}{n:Nat}{cells:List Yn}{sv:Value}{y:Ys}(h:YM s (.row c n cells) (.raw sv) y):∃ad cap,sv= .slice ad n cap:=by
 cases h with
 |nil=>exact⟨none,0,rfl⟩
 |row _ _ _ b room cap cs2 ys hroom hcap hn0 hl h5=>exact⟨_,cap,rfl⟩
theorem RK.walk_stop{c:EC}(K:RK c){n:Nat}{d:Dk}{F:c.sem→c.sem}{s:c.sem}(h:(K.args s).length=0):K.walk n d F s=(F,s,d):=by
 cases n with
 |zero=>rfl
 |succ n=>simp only[RK.walk];rw[if_pos h]
theorem RK.walk_here{c:EC}(K:RK c){n:Nat}{d:Dk}{F:c.sem→c.sem}{s:c.sem}(h:¬(K.args s).length=0)(h2:¬0<(d.next 3).1):K.walk (n+1) d F s=(F,s,(d.next 3).2):=by
 simp only[RK.walk];rw[if_neg h,if_neg h2]
theorem RK.walk_on{c:EC}(K:RK c){n:Nat}{d:Dk}{F:c.sem→c.sem}{s:c.sem}(h:¬(K.args s).length=0)(h2:0<(d.next 3).1){k:Nat}(hk:k<(K.args s).length)(e:((d.next 3).2.next ((K.args s).length:Int)).1=(k:Int)):
 K.walk (n+1) d F s=K.walk n ((d.next 3).2.next ((K.args s).length:Int)).2 (fun x=>F (K.at_ s k x)) ((K.args s)[k]):=by
 have e2:((d.next 3).2.next ((K.args s).length:Int)).1.toNat=k:=by rw[e];rfl
 simp only[RK.walk];rw[if_neg h,if_pos h2,dif_pos (by rw[e2];exact hk)]
 simp only[e2]
theorem AC.y{E:Env}{f:FuncId}{args:List V}{σ σ':Sto}{r:V}(y:Ys)(h:AC E f args σ r σ'):AC (E.y y) f args σ r σ':=h
def bentB(w:(Tm→Tm)×Tm×Dk):Tm×Dk:=
 let e:=w.2.2.next 5
 if e.1=0 then(w.1 (.mk (e.2.next 15).1 w.2.1.index w.2.1.ty w.2.1.args),(e.2.next 15).2)
 else if e.1=1 then(w.1 (.mk w.2.1.kind ((e.2.next 5).1-1) w.2.1.ty w.2.1.args),(e.2.next 5).2)
 else if e.1=2 then(w.1 (.mk w.2.1.kind w.2.1.index (e.2.type 1).1 w.2.1.args),(e.2.type 1).2)
 else if e.1=3 then(w.1 (.mk w.2.1.kind w.2.1.index w.2.1.ty (w.2.1.args++[vT 0])),e.2)
 else(w.1 (Dk.tm 3 (e.2.type 1).2 [] (e.2.type 1).1).1,(Dk.tm 3 (e.2.type 1).2 [] (e.2.type 1).1).2)
def bentT(d:Dk)(t:Tm):Tm×Dk:=bentB (tmK.walk t.full d (fun x=>x) t)
abbrev zTm:List V:=[.i 0,.i 0,.i 0,.slice .nil (.t .ty []),.slice .nil (.t .tm [])]
theorem nd_cons{y:Ys}{b room:Nat}{cs:List V}(h:(y.map Prod.fst).Nodup)(hb:∀p∈y,p.1≠b):(((b,room,cs)::y:Ys).map Prod.fst).Nodup:=by
 rw[List.map_cons,List.nodup_cons]
 refine⟨fun h=> ?_,h⟩
 obtain⟨p,hp,e⟩:=List.mem_map.1 h
 exact hb p hp e
end Go.Ab
