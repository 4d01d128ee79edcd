/- A part of the proofs of this seat's statements: S192, S171, S168, S172, S59. It has no conditions of its own. -/
import Derived.Test.YtfpadcmkjaopcaaGreatDoorS6
import Derived.Test.YtfpadcmkjaopcaaGreatDoorS5
import Derived.Test.YtfpadcmkjaopcaaGreatDoorA2
import Derived.Test.YtfpadcmkjaopcaaGreatDoorD1
import Derived.Test.YtfpadcmkjaopcaaGreatDoorS2
import Derived.Test.YtfpadcmkjaopcaaGreatDoorS4
namespace Go.Ab
open Go Go.Proofs
set_option maxRecDepth 100000
set_option maxHeartbeats 4000000
set_option linter.all false
theorem stR3_ex(t:Tm):∃(y:Tm) (b:Bool) (e:Int),stR3 t= .tup [.agg y.view,.bool b,.i e]∧((e=0∧y=stpT t)∨(e≠0∧stpT t=t)):=by
 unfold stR3 stpT
 by_cases he:t.err=0
 ·rw [if_neg (by simp[he])]
  cases hn:t.near with
  |false=>rw[if_pos rfl];exact⟨_,_,_,rfl,.inr ⟨by omega,by simp[he]⟩⟩
  |true=>
   rw[if_neg (by simp)]
   cases hr:nxR (4096-t.size) t with
   |none=>exact⟨_,_,_,rfl,.inl ⟨rfl,by simp[he]⟩⟩
   |some y=>
    obtain⟨y,f⟩:=y
    cases f with
    |true=>exact⟨_,_,_,rfl,.inl ⟨rfl,by simp[he]⟩⟩
    |false=>exact⟨_,_,_,rfl,.inr ⟨by omega,by simp[he]⟩⟩
 ·rw [if_pos he];exact⟨_,_,_,rfl,.inr ⟨he,by rw[if_pos he]⟩⟩
theorem reduced_c:∀(n:Nat) (f:Fm) (d:Dk),f.full≤n→n<100000000→d.ok→AC E 10 [.ptr 0 0,.agg f.view] ⟨1,[(0,.var d.cells)]⟩ (.agg (redF d f).1.view) ⟨1,[(0,.var (redF d f).2.cells)]⟩:=by
 intro n
 induction n with
 |zero=>intro f d h;have:=f.full_pos;omega
 |succ n ih=>
 intro f d hsz hn hd
 have hsz':=Fm.full_eq f
 have hl1:=lsum_len Tm.full Tm.full_pos f.terms
 have hl2:=lsum_len Fm.full Fm.full_pos f.args
 rw[redF_eq]
 have hd2:=redTs_ok f.terms d hd
 refine AC.mk Tryz.func10 rfl rfl rfl rfl rfl (Nat.le_of_ble_eq_true rfl) ?_
 repeat'(first|((with_reducible refine D.nil ?_);refine AX.nilL ?_)|((with_reducible refine D.load ?_);refine L.ldb U U U U U U ?_)|((with_reducible refine D.move ?_);refine L.mv U U U ?_)|((with_reducible refine D.fieldAddr ?_);refine L.fab U U U U U ?_)|((with_reducible refine D.call ?_);refine L.lnt U U U U ?_)|((with_reducible refine D.box ?_);refine L.bx U U U U ?_)|((with_reducible refine D.alloc ?_);refine L.al U U U ?_)|((with_reducible refine D.store ?_);refine L.st U U U U U U U U U ?_)|((with_reducible refine D.ax ?_);refine L.bd U U U U U ?_)|((with_reducible refine D.aw ?_);first|refine K.sq (AW.regL ?_)|refine K.sq (K.sq ?_)|refine AW.regL ?_)|with_reducible refine K.tN ?_)
 refine AW.range f.terms.length (fun m=>True)
  (fun m=>([(0,.ptr 0 0),(3,.ptr 1 0),(4,.ptr 2 0),(5,.ptr 3 0),(20,.s .tm f.terms),(21,.i f.terms.length),(22,.i m)],⟨5,[(0,.var (redTs d (f.terms.take m)).2.cells),(1,.var f.view),(2,.var [.i 0,.i 0,.slice .nil (.t .ty []),.slice .nil (.t .tm []),.slice .nil (.t .fm [])]),(3,.var [.i f.kind,.i f.ty.kind,.s .ty f.ty.args,.slice (.own 4) (.t .tm (redTs d (f.terms.take m)).1),.slice .nil (.t .fm [])]),(4,.row)]⟩))
  (by omega) (fun m=>rfl) (fun m=>rfl) rfl trivial ?_ ?_ ?_
 ·simp only[List.take_zero,redTs]
  exact(Weak.mk [some 0,some 1,some 2,some 3,none] _ _ _ U U U U (by(repeat'(first|exact trivial|refine And.intro ?_ ?_|refine⟨_,U,_,U,?_⟩|exact VLe.refl _));done) (by(repeat'(first|exact trivial|exact Or.inl U|refine And.intro ?_ ?_|refine⟨_,U,_,U,_,U,?_⟩|exact VLe.refl _));done))
 ·intro m hm hP
  have hs1:=lsum_mem Tm.full (List.getElem_mem hm)
  have e:=redTs_take d f.terms m hm
  have hdm:=redTs_ok (f.terms.take m) d hd
  have htf:(f.terms[m]).full<200000000:=by omega
  have h1:=next_c (redTs d (f.terms.take m)).2 4 hdm (by omega)
  have hb:=Dk.next_bd (redTs d (f.terms.take m)).2 4 (by omega)
  obtain⟨kk,hK⟩:=Int.eq_ofNat_of_zero_le hb.1
  simp only[redTm] at e
  rw[hK,Int.toNat_natCast] at e
  rw[hK] at h1 hb
  have hbl:(redTs d (f.terms.take m)).1.length=m:=by rw[redTs_len,List.length_take];omega
  repeat'(first|((with_reducible refine D.nil ?_);refine AX.nilL ?_)|((with_reducible refine D.load ?_);refine L.lda U U U U U ?_)|((with_reducible refine D.move ?_);refine L.mv U U U ?_)|((with_reducible refine D.assign ?_);refine L.asg U U U ?_)|((with_reducible refine D.call ?_);(apply L.cb2 (h1) [0] 0 rfl;rfl;rfl;rfl;rfl;rfl;rfl;(focus((repeat'(first|exact trivial|refine And.intro ?_ ?_|refine⟨_,U,_,U,_,U,?_⟩|exact VLe.refl _));done));rfl;rfl;rfl;rfl))|((with_reducible refine D.alloc ?_);refine L.al U U U ?_)|((with_reducible refine D.store ?_);refine L.st U U U U U U U U U ?_)|((with_reducible refine D.indexAddr ?_);refine L.ixt _ U U U U U U U (by first|assumption|fail) ?_)|((with_reducible refine D.aw ?_);first|refine K.sq (AW.regL ?_)|refine K.sq (K.sq ?_)|refine AW.regL ?_)|with_reducible refine K.tN ?_)
  refine AW.down kk (fun j=>j≤kk)
   (fun j=>([(0,.ptr 0 0),(3,.ptr 1 0),(4,.ptr 2 0),(5,.ptr 3 0),(7,.ptr 5 0),(8,.i j),(20,.s .tm f.terms),(21,.i f.terms.length),(22,.i m)],⟨6,[(0,.var ((redTs d (f.terms.take m)).2.next 4).2.cells),(1,.var f.view),(2,.var [.i 0,.i 0,.slice .nil (.t .ty []),.slice .nil (.t .tm []),.slice .nil (.t .fm [])]),(3,.var [.i f.kind,.i f.ty.kind,.s .ty f.ty.args,.slice (.own 4) (.t .tm (redTs d (f.terms.take m)).1),.slice .nil (.t .fm [])]),(4,.row),(5,.var (iterT (kk-j) f.terms[m]).view)]⟩))
   (by omega) (fun m=>rfl) rfl (Nat.le_refl _) ?_ ?_ ?_
  ·simp only[Nat.sub_self,iterT]
   exact(Weak.mk [some 0,some 1,some 2,some 3,some 4,some 5] _ _ _ U U U U (by(repeat'(first|exact trivial|refine And.intro ?_ ?_|refine⟨_,U,_,U,?_⟩|exact VLe.refl _));done) (by(repeat'(first|exact trivial|exact Or.inr ⟨_,U,rfl⟩|refine And.intro ?_ ?_|refine⟨_,U,_,U,_,U,?_⟩|exact VLe.refl _));done))
  ·intro j hj hP2
   have e2:=iterT_succ (kk-(j+1)) f.terms[m]
   rw[show kk-(j+1)+1=kk-j by omega] at e2
   have hfl:=iterT_bd (kk-(j+1)) f.terms[m]
   have hs:=rstep_c (iterT (kk-(j+1)) f.terms[m]) (by omega)
   obtain⟨y,b,er,hy,hq⟩:=stR3_ex (iterT (kk-(j+1)) f.terms[m])
   rw[hy] at hs
   rcases hq with⟨h0,h2⟩|⟨h0,h2⟩
   ·rw [←e2] at h2
    subst h0
    repeat'(first|((with_reducible refine D.nil ?_);refine AX.nilL ?_)|((with_reducible refine D.load ?_);refine L.ldb U U U U U U ?_)|((with_reducible refine D.move ?_);refine L.mv U U U ?_)|((with_reducible refine D.assign ?_);refine L.asg U U U ?_)|((with_reducible refine D.bin ?_);refine L.bn U U U U U ?_)|((with_reducible refine D.call ?_);refine L.c2 (hs) U U U U ?_)|((with_reducible refine D.extract ?_);refine L.ex U U U U ?_)|((with_reducible refine D.alloc ?_);refine L.al U U U ?_)|((with_reducible refine D.store ?_);refine L.st U U U U U U U U U ?_)|((with_reducible refine D.aw ?_);first|refine K.sq (AW.regL ?_)|refine AW.regL ?_|refine AW.condT U ?_)|with_reducible refine K.tN ?_|with_reducible refine K.bN ?_)
    all_goals first
     |(exfalso;simp at h;done)
     |skip
    refine⟨rfl,by omega,?_⟩
    simp only[←h2]
    exact(Weak.mk [some 0,some 1,some 2,some 3,some 4,some 5] _ _ _ U U U U (by(repeat'(first|exact trivial|refine And.intro ?_ ?_|refine⟨_,U,_,U,?_⟩|exact VLe.refl _));done) (by(repeat'(first|exact trivial|exact Or.inr ⟨_,U,rfl⟩|refine And.intro ?_ ?_|refine⟨_,U,_,U,_,U,?_⟩|exact VLe.refl _));done))
   ·rw [h2] at e2
    repeat'(first|((with_reducible refine D.nil ?_);refine AX.nilL ?_)|((with_reducible refine D.load ?_);refine L.ldb U U U U U U ?_)|((with_reducible refine D.move ?_);refine L.mv U U U ?_)|((with_reducible refine D.assign ?_);refine L.asg U U U ?_)|((with_reducible refine D.bin ?_);refine L.bn U U U U U ?_)|((with_reducible refine D.call ?_);refine L.c2 (hs) U U U U ?_)|((with_reducible refine D.extract ?_);refine L.ex U U U U ?_)|((with_reducible refine D.alloc ?_);refine L.al U U U ?_)|((with_reducible refine D.store ?_);refine L.st U U U U U U U U U ?_)|((with_reducible refine D.aw ?_);first|refine K.sq (AW.regL ?_)|refine AW.regL ?_|refine AW.condS U (fun h=> ?_) (fun h=> ?_)|refine AW.skip ?_)|with_reducible refine K.tN ?_|with_reducible refine K.bN ?_)
    all_goals first
     |(exfalso;simp at h;exact h0 h)
     |skip
    refine⟨rfl,by omega,?_⟩
    simp only[e2]
    exact(Weak.mk [some 0,some 1,some 2,some 3,some 4,some 5] _ _ _ U U U U (by(repeat'(first|exact trivial|refine And.intro ?_ ?_|refine⟨_,U,_,U,?_⟩|exact VLe.refl _));done) (by(repeat'(first|exact trivial|exact Or.inr ⟨_,U,rfl⟩|refine And.intro ?_ ?_|refine⟨_,U,_,U,_,U,?_⟩|exact VLe.refl _));done))
  ·intro _
   repeat'(first|((with_reducible refine D.nil ?_);refine AX.nilL ?_)|((with_reducible refine D.load ?_);refine L.ldb U U U U U U ?_)|((with_reducible refine D.fieldAddr ?_);refine L.fab U U U U U ?_)|((with_reducible refine D.call ?_);refine L.apt U U U U U U (by first|exact trivial|exact⟨rfl,trivial⟩) U U (by first|omega|(simp;omega)) ?_)|((with_reducible refine D.store ?_);refine L.st U U U U U U U U U ?_)|((with_reducible refine D.ax ?_);refine L.bs1 U U U U U (EC.fold_of U) U U ?_)|((with_reducible refine D.aw ?_);refine AW.regL ?_)|with_reducible refine K.tN ?_|with_reducible refine K.bN ?_)
   refine⟨rfl,trivial,?_⟩
   simp only[e]
   exact(Weak.mk [some 0,some 1,some 2,some 3,some 6] _ _ _ U U U U (by(repeat'(first|exact trivial|refine And.intro ?_ ?_|refine⟨_,U,_,U,?_⟩|exact VLe.refl _));done) (by(repeat'(first|exact trivial|exact Or.inr ⟨_,U,rfl⟩|refine And.intro ?_ ?_|refine⟨_,U,_,U,_,U,?_⟩|exact VLe.refl _));done))
 ·intro hP
  have hdl:=redTs_len f.terms d
  rw[List.take_length]
  repeat'(first|((with_reducible refine D.nil ?_);refine AX.nilL ?_)|((with_reducible refine D.load ?_);refine L.ldb U U U U U U ?_)|((with_reducible refine D.move ?_);refine L.mv U U U ?_)|((with_reducible refine D.fieldAddr ?_);refine L.fab U U U U U ?_)|((with_reducible refine D.call ?_);refine L.lnt U U U U ?_)|((with_reducible refine D.aw ?_);first|refine K.sq (K.sq ?_)|refine AW.regL ?_)|with_reducible refine K.tN ?_)
  refine AW.range f.args.length (fun m=>True)
   (fun m=>([(0,.ptr 0 0),(3,.ptr 1 0),(4,.ptr 2 0),(5,.ptr 3 0),(49,.s .fm f.args),(50,.i f.args.length),(51,.i m)],⟨6,[(0,.var (redFs (redTs d f.terms).2 (f.args.take m)).2.cells),(1,.var f.view),(2,.var [.i 0,.i 0,.slice .nil (.t .ty []),.slice .nil (.t .tm []),.slice .nil (.t .fm [])]),(3,.var [.i f.kind,.i f.ty.kind,.s .ty f.ty.args,.slice (.own 4) (.t .tm (redTs d f.terms).1),.slice (.own 5) (.t .fm (redFs (redTs d f.terms).2 (f.args.take m)).1)]),(4,.row),(5,.row)]⟩))
   (by omega) (fun m=>rfl) (fun m=>rfl) rfl trivial ?_ ?_ ?_
  ·simp only[List.take_zero,redFs]
   exact(Weak.mk [some 0,some 1,some 2,some 3,some 4,none] _ _ _ U U U U (by(repeat'(first|exact trivial|refine And.intro ?_ ?_|refine⟨_,U,_,U,?_⟩|exact VLe.refl _));done) (by(repeat'(first|exact trivial|exact Or.inl U|exact Or.inr ⟨_,U,rfl⟩|refine And.intro ?_ ?_|refine⟨_,U,_,U,_,U,?_⟩|exact VLe.refl _));done))
  ·intro m hm hP2
   have hs1:=lsum_mem Fm.full (List.getElem_mem hm)
   have e:=redFs_take (redTs d f.terms).2 f.args m hm
   have hbl:(redFs (redTs d f.terms).2 (f.args.take m)).1.length=m:=by rw[redFs_len,List.length_take];omega
   have h1:=ih f.args[m] (redFs (redTs d f.terms).2 (f.args.take m)).2 (by omega) (by omega) (redFs_ok _ _ hd2)
   repeat'(first|((with_reducible refine D.nil ?_);first|refine AX.nilL ?_|refine AX.nilD (by kernel_rfl) ?_)|((with_reducible refine D.load ?_);first|refine L.ldb U U U U U U ?_|refine L.lda U U U U U ?_)|((with_reducible refine D.move ?_);refine L.mv U U U ?_)|((with_reducible refine D.fieldAddr ?_);refine L.fab U U U U U ?_)|((with_reducible refine D.call ?_);first|refine L.apt U U U U U U (by first|exact trivial|exact⟨rfl,trivial⟩) U U (by first|omega|(simp;omega)) ?_|(apply L.cb2 (h1) [0] 0 rfl;rfl;rfl;rfl;rfl;rfl;rfl;(focus((repeat'(first|exact trivial|refine And.intro ?_ ?_|refine⟨_,U,_,U,_,U,?_⟩|exact VLe.refl _));done));rfl;rfl;rfl;rfl))|((with_reducible refine D.alloc ?_);refine L.al U U U ?_)|((with_reducible refine D.store ?_);refine L.st U U U U U U U U U ?_)|((with_reducible refine D.indexAddr ?_);refine L.ixt _ U U U U U U U (by first|assumption|fail) ?_)|((with_reducible refine D.ax ?_);refine L.bs1 U U U U U (EC.fold_of U) U U ?_)|((with_reducible refine D.aw ?_);first|refine K.sq (AW.regL ?_)|refine AW.regD mixed (by kernel_rfl) ?_)|with_reducible refine K.tN ?_|with_reducible refine K.bN ?_)
   refine⟨rfl,trivial,?_⟩
   simp only[e]
   exact(Weak.mk [some 0,some 1,some 2,some 3,some 4,some 7] _ _ _ U U U U (by(repeat'(first|exact trivial|refine And.intro ?_ ?_|refine⟨_,U,_,U,?_⟩|exact VLe.refl _));done) (by(repeat'(first|exact trivial|exact Or.inr ⟨_,U,rfl⟩|refine And.intro ?_ ?_|refine⟨_,U,_,U,_,U,?_⟩|exact VLe.refl _));done))
  ·intro hP2
   rw[List.take_length]
   repeat'(first|((with_reducible refine D.nil ?_);refine AX.nilL ?_)|((with_reducible refine D.load ?_);refine L.ldb U U U U U U ?_)|((with_reducible refine D.store ?_);refine L.st U U U U U U U U U ?_)|((with_reducible refine D.aw ?_);first|refine K.sq (AW.regL ?_)|refine AW.ret ?_)|with_reducible refine K.tN ?_)
   (exact K.n2 [some 0] U U U U U (by(repeat'(first|exact trivial|refine And.intro ?_ ?_|refine⟨_,U,_,U,_,U,?_⟩|exact VLe.refl _));done) U (by simp[tupV,V.wk,V.wks,constV,Ty.view,Tm.view,Fm.view]))
abbrev fcs(f:Fm)(p:Value×Value):List V:=[.i f.kind,.i f.ty.kind,.s .ty f.ty.args,.raw p.1,.raw p.2]
abbrev zFm:List V:=[.i 0,.i 0,.slice .nil (.t .ty []),.slice .nil (.t .tm []),.slice .nil (.t .fm [])]
structure BI (c:EC) where
 n:Nat
 d:Dk
 F:c.sem→c.sem
 s:c.sem
 o:Option (Nat×Nat×List V×Ys)
def BI.ok{c:EC}(K:RK c)(W:(c.sem→c.sem)×c.sem×Dk)(y:Ys)(rc:List V)(r0:c.sem)(i:BI c):Prop:=
 K.walk i.n i.d i.F i.s=W∧i.d.ok∧K.sz i.s≤i.n∧K.sz i.s≤K.sz r0∧
  (match i.o with
  |none=>i.s=r0∧i.F=fun x=>x
  |some q=>Foc K y rc i.F q.1 q.2.1 i.s q.2.2.1 q.2.2.2)
def BI.x(o:Option (Nat×Nat×List V×Ys))(r:V):V:=match o with|none=>r|some q=> .rp q.1 q.2.1
theorem AC.y{E:Env}{f:FuncId}{args:List V}{σ σ':Sto}{r:V}(y:Ys)(h:AC E f args σ r σ'):AC (E.y y) f args σ r σ':=h
def bentB(w:(Tm→Tm)×Tm×Dk):Tm×Dk:=
 let e:=w.2.2.next 5
 if e.1=0 then(w.1 (.mk (e.2.next 15).1 w.2.1.index w.2.1.ty w.2.1.args),(e.2.next 15).2)
 else if e.1=1 then(w.1 (.mk w.2.1.kind ((e.2.next 5).1-1) w.2.1.ty w.2.1.args),(e.2.next 5).2)
 else if e.1=2 then(w.1 (.mk w.2.1.kind w.2.1.index (e.2.type 1).1 w.2.1.args),(e.2.type 1).2)
 else if e.1=3 then(w.1 (.mk w.2.1.kind w.2.1.index w.2.1.ty (w.2.1.args++[vT 0])),e.2)
 else(w.1 (Dk.tm 3 (e.2.type 1).2 [] (e.2.type 1).1).1,(Dk.tm 3 (e.2.type 1).2 [] (e.2.type 1).1).2)
def bentT(d:Dk)(t:Tm):Tm×Dk:=bentB (tmK.walk t.full d (fun x=>x) t)
abbrev zTm:List V:=[.i 0,.i 0,.i 0,.slice .nil (.t .ty []),.slice .nil (.t .tm [])]
def bentFmB(w:(Fm→Fm)×Fm×Dk):Fm×Dk:=
 let e:=w.2.2.next 4
 if e.1=0 then(w.1 (.mk (e.2.next 9).1 w.2.1.ty w.2.1.terms w.2.1.args),(e.2.next 9).2)
 else if e.1=1 then(w.1 (.mk w.2.1.kind (e.2.type 1).1 w.2.1.terms w.2.1.args),(e.2.type 1).2)
 else if e.1=2 then(w.1 (.mk w.2.1.kind w.2.1.ty (w.2.1.terms++[vT (e.2.next 3).1]) w.2.1.args),(e.2.next 3).2)
 else(w.1 (Dk.fm 1 e.2.ctx.2 e.2.ctx.1).1,(Dk.fm 1 e.2.ctx.2 e.2.ctx.1).2)
def bentF(d:Dk)(t:Fm):Fm×Dk:=bentFmB (fmK.walk t.full d (fun x=>x) t)
abbrev mE(ho:Int)(s:MSt):Es:=[(0,.var [.i ho,.mp 1,.bool s.2]),(1,.map .tm (s.1.map (·.1)) (s.1.map (·.2)))]
end Go.Ab
