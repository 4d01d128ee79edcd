/- A part of the proofs of this seat's statements: S172, S59. It has no conditions of its own. -/
import Derived.Test.YtcohcngdoeadgaaGreatDoorS7
import Derived.Test.YtcohcngdoeadgaaGreatDoorS4
import Derived.Test.YtcohcngdoeadgaaGreatDoorA2
import Derived.Test.YtcohcngdoeadgaaGreatDoorD1
namespace Go.Ab
open Go Go.Proofs
set_option maxRecDepth 100000
set_option maxHeartbeats 4000000
set_option linter.all false
theorem YMs.fmC{s:Prop}{f:Fm}{vs:List V}{y:Ys}(h:YMs s f.yn vs y):∃p:Value×Value,vs=fcs f p∧∃y1 y2,y=y1++y2∧YM s (dRow .tm f.terms) (.raw p.1) y1∧YM s (.row .fm f.args.length (Fm.yns f.args)) (.raw p.2) y2:=by
 obtain⟨tv,sv,y1,y2,rfl,rfl,h1,h2⟩:=h.fm
 exact⟨(tv,sv),rfl,y1,y2,rfl,h1,h2⟩
theorem YMs.fmP{s:Prop}{f:Fm}{p:Value×Value}{y:Ys}(h:YMs s f.yn (fcs f p) y):∃y1 y2,y=y1++y2∧YM s (dRow .tm f.terms) (.raw p.1) y1∧YM s (.row .fm f.args.length (Fm.yns f.args)) (.raw p.2) y2:=by
 obtain⟨q,hq,h2⟩:=h.fmC
 obtain⟨a,b⟩:=p
 obtain⟨c,d⟩:=q
 simp only[fcs,List.cons.injEq,V.raw.injEq,and_true,true_and] at hq
 obtain⟨rfl,rfl⟩:=hq
 exact h2
theorem dRow_inv{s:Prop}{c:EC}{xs:List c.sem}{u:Value}{y:Ys}(h:YM s (dRow c xs) (.raw u) y):(xs=[]∧u= .slice none 0 0∧y=[])∨(0<xs.length∧∃b room cap,u= .slice (some ⟨b,0,none⟩) xs.length cap∧y=[(b,room,xs.flatMap c.view)]∧(s→room=cap*c.cells)∧xs.length≤cap):=by
 have hd:∀(cs:List V) (vs:List V) (y:Ys),YMs s (cs.map Yn.dat) vs y→vs=cs∧y=[]:=by
  intro cs
  induction cs with
  |nil=>intro vs y h;cases h;exact⟨rfl,rfl⟩
  |cons c cs ih=>
   intro vs y h
   obtain⟨v,vs,y1,y2,rfl,rfl,h1,h2⟩:=YMs.inv h
   cases h1
   obtain⟨rfl,rfl⟩:=ih _ _ h2
   exact⟨rfl,rfl⟩
 rcases Nat.eq_zero_or_pos xs.length with h0|h0
 ·have hx:xs=[]:=List.eq_nil_of_length_eq_zero h0
  subst hx
  obtain⟨rfl,rfl⟩:=YM.nil_inv h rfl
  exact .inl ⟨rfl,rfl,rfl⟩
 ·obtain ⟨b,room,cap,cs2,ys,hse,rfl,hroom,hcap,hl,hcs⟩:=YM.row_inv h h0
  injection hse with hse
  obtain⟨rfl,rfl⟩:=hd _ _ _ hcs
  exact .inr ⟨h0,b,room,cap,hse,rfl,hroom,hcap⟩
def bentFmB(w:(Fm→Fm)×Fm×Dk):Fm×Dk:=
 let e:=w.2.2.next 4
 if e.1=0 then(w.1 (.mk (e.2.next 9).1 w.2.1.ty w.2.1.terms w.2.1.args),(e.2.next 9).2)
 else if e.1=1 then(w.1 (.mk w.2.1.kind (e.2.type 1).1 w.2.1.terms w.2.1.args),(e.2.type 1).2)
 else if e.1=2 then(w.1 (.mk w.2.1.kind w.2.1.ty (w.2.1.terms++[vT (e.2.next 3).1]) w.2.1.args),(e.2.next 3).2)
 else(w.1 (Dk.fm 1 e.2.ctx.2 e.2.ctx.1).1,(Dk.fm 1 e.2.ctx.2 e.2.ctx.1).2)
def bentF(d:Dk)(t:Fm):Fm×Dk:=bentFmB (fmK.walk t.full d (fun x=>x) t)
theorem bentFm_c(d:Dk)(hd:d.ok)(t:Fm)(ht:t.full<1000000):AC E 11 [.ptr 0 0,.agg t.view] ⟨1,[(0,.var d.cells)]⟩ (.agg (bentF d t).1.view) ⟨1,[(0,.var (bentF d t).2.cells)]⟩:=by
 refine AC.mk Tryz.func11 rfl rfl rfl rfl rfl (Nat.le_of_ble_eq_true rfl) ?_
 refine AW.ofB rfl ?_
 refine BW.seq (.of (AW.regL ?_))
 repeat'(first|((with_reducible refine D.nil ?_);refine AX.nilL ?_)|((with_reducible refine D.box ?_);refine L.bx U U U U ?_)|((with_reducible refine D.alloc ?_);refine L.al U U U ?_))
 refine K.yT (BW.seq (BW.regY (l1:=[_]) _ _ (copyFmY _ t (Nat.le_refl _) (by omega)) rfl ?_))
 repeat'(first|((with_reducible refine D.nil ?_);refine AX.nilL ?_)|((with_reducible refine D.load ?_);refine L.ldb U U U U U U ?_))
 refine⟨rfl,⟨_,_,U,U,(by(repeat'(first|exact VLe.refl _|exact VLe.any _ _|refine VLe.agg ?_|exact trivial|refine And.intro ?_ ?_));done),trivial⟩,?_⟩
 rintro r y ⟨⟨tv,sv⟩,rfl,hnd,yt,hvs,hpm⟩ -
 rw[List.append_nil]
 have hrt:=hvs
 obtain⟨y1,y2,rfl,htv,hsv⟩:=hvs.fmP
 repeat'(first|((with_reducible refine D.nil ?_);refine AX.nilL ?_)|((with_reducible refine D.store ?_);refine L.st U U U U U U U U U ?_))
 refine⟨rfl,K.yT (BW.seq (.of (AW.regL ?_)))⟩
 repeat'(first|((with_reducible refine D.nil ?_);refine AX.nilL ?_)|((with_reducible refine D.assign ?_);refine L.asg U U U ?_))
 refine K.yT ?_
 obtain⟨rc,hrc⟩:∃rc:List V,rc=fcs t (tv,sv):=⟨_,rfl⟩
 obtain⟨W,hW⟩:∃W,W=fmK.walk t.full d (fun x=>x) t:=⟨_,rfl⟩
 let JJ:Dk→Option (Nat×Nat×List V×Ys)→AF×Sto:=fun d o=>([(0,.ptr 0 0),(3,.ptr 1 0),(4,.ptr 2 0),(5,BI.x o (.ptr 1 0))],⟨3,[(0,.var d.cells),(1,.var rc),(2,.var zFm)]⟩)
 refine BW.seq (BW.mono (Q:=fun e a σ y'=>e= .normal∧y'=y∧∃F s dd o,W=(F,s,dd)∧dd.ok∧fmK.sz s≤fmK.sz t∧(match o with
  |none=>s=t∧F=fun x=>x
  |some q=>Foc fmK y rc F q.1 q.2.1 s q.2.2.1 q.2.2.2)∧Weak E Tryz.f11.ntmps 1 a σ (JJ dd o).1 (JJ dd o).2) (.of (AW.block (AW.loop (ι:={i:BI .fm // i.ok fmK W y rc t}) (fun i=>JJ i.1.d i.1.o) (fun i=>i.1.n)
  ⟨⟨t.full,d,fun x=>x,t,none⟩,hW.symm,hd,Nat.le_refl _,Nat.le_refl _,rfl,rfl⟩ ?_ ?_))) ?_)
 ·subst hrc
  exact(Weak.mk [some 0,some 1,some 2] _ _ _ U U U U (by(repeat'(first|exact trivial|refine And.intro ?_ ?_|refine⟨_,U,_,U,?_⟩|exact VLe.refl _));done) (by(repeat'(first|exact trivial|refine And.intro ?_ ?_|refine⟨_,U,_,U,_,U,?_⟩|exact VLe.refl _));done))
 ·rintro ⟨⟨n,d',F,s,o⟩,h1,h2,h3,h4,h5⟩
  dsimp only at h1 h2 h3 h4 h5
  have hn3:=(next_c d' 3 h2 (by omega)).y y
  have hb3:=Dk.next_bd d' 3 (by omega)
  have h23:=Dk.next_ok h2 3
  have hfl:s.args.length≤s.full:=by have:=lsum_len Fm.full Fm.full_pos s.args;have:=Fm.full_eq s;omega
  have hfs:fmK.sz s=s.full:=rfl
  have hft:fmK.sz t=t.full:=rfl
  have hnl:=(next_c (d'.next 3).2 (s.args.length:Int) h23 (by omega)).y y
  have hak:fmK.args s=s.args:=rfl
  show AW (E.y y) _ _ _ [(0,.ptr 0 0),(3,.ptr 1 0),(4,.ptr 2 0),(5,BI.x o (.ptr 1 0))] ⟨3,[(0,.var d'.cells),(1,.var rc),(2,.var zFm)]⟩ _
  cases o with
  |none=>
   obtain⟨rfl,rfl⟩:=h5
   obtain⟨ad,cap,rfl⟩:=hsv.sl
   subst hrc
   by_cases e0:s.args.length=0
   ·have hw:=fmK.walk_stop (n:=n) (d:=d') (F:=fun x=>x) (s:=s) e0
    repeat'(first|((with_reducible refine D.nil ?_);refine AX.nilL ?_)|((with_reducible refine D.load ?_);refine L.ldb U U U U U U ?_)|((with_reducible refine D.move ?_);first|refine L.mv U U U ?_|refine AX.sk U U ?_|((fail_if_success refine AX.wt U ?_);refine AX.gs U U (fun _=>trivial) (fun h=> ?_) (fun h=> ?_)))|((with_reducible refine D.fieldAddr ?_);refine L.fab U U U U U ?_)|((with_reducible refine D.bin ?_);first|refine L.bn U U U U U ?_|refine AX.sk U U ?_)|((with_reducible refine D.call ?_);first|refine L.yz U U U U ?_|refine AX.sk U U ?_)|((with_reducible refine D.pick ?_);refine L.pk U U U U ?_)|((with_reducible refine D.ax ?_);refine L.nc U U U U ?_)|((with_reducible refine D.aw ?_);first|refine K.sq (K.sq ?_)|refine AW.regL ?_|refine AW.condF U ?_|refine AW.exit ?_)|with_reducible refine K.tN ?_|with_reducible refine K.tE ?_|with_reducible refine K.bX (by with_unfolding_all rfl) ?_|with_reducible refine K.lE ?_)
    ·exact absurd h (by simp[e0])
    ·exact ⟨rfl,U,_,s,d',none,h1.symm.trans hw,h2,h4,⟨rfl,rfl⟩,(Weak.mk [some 0,some 1,some 2] _ _ _ U U U U (by(repeat'(first|exact trivial|refine And.intro ?_ ?_|refine⟨_,U,_,U,?_⟩|exact VLe.refl _));done) (by(repeat'(first|exact trivial|refine And.intro ?_ ?_|refine⟨_,U,_,U,_,U,?_⟩|exact VLe.refl _));done))⟩
   ·by_cases e3:0<(d'.next 3).1
    ·obtain ⟨hb1,hb2⟩:=Dk.next_bd (d'.next 3).2 (s.args.length:Int) (by omega)
     obtain⟨k,hk⟩:=Int.eq_ofNat_of_zero_le hb1
     have hkl:k<s.args.length:=by omega
     obtain⟨cs0,b,cap',csL,yL,hc1,hc2,hfoc⟩:=Foc.first (KD:=fmK) hrt hpm hkl
     have hlast:=congrArg List.getLast? hc1
     simp only[fcs,List.getLast?_append,List.getLast?_singleton,List.getLast?_cons_cons,Option.some_or] at hlast
     injection hlast with hlast
     injection hlast with hlast
     injection hlast with hl1 hl2 hl3
     subst hl1;subst hl3
     obtain⟨n,rfl⟩:∃n',n=n'+1:=⟨n-1,by have:=s.full_pos;omega⟩
     have hw:=fmK.walk_on (n:=n) (d:=d') (F:=fun x=>x) (s:=s) e0 e3 hkl hk
     have hlt:=fmK.sz_lt s s.args[k] (List.getElem_mem hkl)
     repeat'(first|((with_reducible refine D.nil ?_);refine AX.nilL ?_)|((with_reducible refine D.load ?_);refine L.ldb U U U U U U ?_)|((with_reducible refine D.move ?_);first|refine L.mv U U U ?_|refine AX.sk U U ?_|((fail_if_success refine AX.wt U ?_);refine AX.gs U U (fun _=>trivial) (fun h=> ?_) (fun h=> ?_)))|((with_reducible refine D.fieldAddr ?_);refine L.fab U U U U U ?_)|((with_reducible refine D.bin ?_);first|refine L.bn U U U U U ?_|refine AX.sk U U ?_)|((with_reducible refine D.call ?_);first|refine L.yz U U U U ?_|(apply L.cb2 (hn3) [0] 0 rfl;rfl;rfl;rfl;rfl;rfl;rfl;(focus((repeat'(first|exact trivial|refine And.intro ?_ ?_|refine⟨_,U,_,U,_,U,?_⟩|exact VLe.refl _));done));rfl;rfl;rfl;rfl)|refine AX.sk U U ?_)|((with_reducible refine D.pick ?_);refine L.pk U U U U ?_)|((with_reducible refine D.ax ?_);refine L.nc U U U U ?_)|((with_reducible refine D.aw ?_);first|refine K.sq (K.sq ?_)|refine AW.regL ?_|refine AW.condF U ?_|refine AW.condS U (fun h=> ?_) (fun h=> ?_)|refine AW.skip ?_|refine AW.exit ?_)|with_reducible refine K.tN ?_|with_reducible refine K.tE ?_|with_reducible refine K.bX (by with_unfolding_all rfl) ?_|with_reducible refine K.lE ?_)
     ·refine AW.block (AW.regD mixed (by kernel_rfl) ?_)
      repeat'(first|((with_reducible refine D.nil ?_);refine AX.nilD (by kernel_rfl) ?_)|((with_reducible refine D.load ?_);refine L.ldb U U U U U U ?_)|((with_reducible refine D.move ?_);refine L.mv U U U ?_)|((with_reducible refine D.fieldAddr ?_);refine L.fab U U U U U ?_)|((with_reducible refine D.assign ?_);refine L.asg U U U ?_)|((with_reducible refine D.call ?_);first|refine L.yz U U U U ?_|(apply L.cb2 (hnl) [0] 0 rfl;rfl;rfl;rfl;rfl;rfl;rfl;(focus((repeat'(first|exact trivial|refine And.intro ?_ ?_|refine⟨_,U,_,U,_,U,?_⟩|exact VLe.refl _));done));rfl;rfl;rfl;rfl))|((with_reducible refine D.indexAddr ?_);refine L.yi k U U U U hk hkl U ?_)|((with_reducible refine D.ax ?_);refine L.nc U U U U ?_)|with_reducible refine K.bN ?_)
      exact⟨⟨⟨n,((d'.next 3).2.next (s.args.length:Int)).2,_,s.args[k],some (b,k*5,csL,yL)⟩,hw.symm.trans h1,Dk.next_ok h23 _,by dsimp only;omega,by dsimp only;omega,hfoc⟩,Nat.lt_succ_self n,(Weak.mk [some 0,some 1,some 2] _ _ _ U U U U (by(repeat'(first|exact trivial|refine And.intro ?_ ?_|refine⟨_,U,_,U,?_⟩|exact VLe.refl _));done) (by(repeat'(first|exact trivial|refine And.intro ?_ ?_|refine⟨_,U,_,U,_,U,?_⟩|exact VLe.refl _));done))⟩
     ·exact absurd h (by simp[e3])
     ·exact absurd (of_decide_eq_false h) (by omega)
    ·obtain ⟨n,rfl⟩:∃n',n=n'+1:=⟨n-1,by have:=s.full_pos;omega⟩
     repeat'(first|((with_reducible refine D.nil ?_);refine AX.nilL ?_)|((with_reducible refine D.load ?_);refine L.ldb U U U U U U ?_)|((with_reducible refine D.move ?_);first|refine L.mv U U U ?_|refine AX.sk U U ?_|((fail_if_success refine AX.wt U ?_);refine AX.gs U U (fun _=>trivial) (fun h=> ?_) (fun h=> ?_)))|((with_reducible refine D.fieldAddr ?_);refine L.fab U U U U U ?_)|((with_reducible refine D.bin ?_);first|refine L.bn U U U U U ?_|refine AX.sk U U ?_)|((with_reducible refine D.call ?_);first|refine L.yz U U U U ?_|(apply L.cb2 (hn3) [0] 0 rfl;rfl;rfl;rfl;rfl;rfl;rfl;(focus((repeat'(first|exact trivial|refine And.intro ?_ ?_|refine⟨_,U,_,U,_,U,?_⟩|exact VLe.refl _));done));rfl;rfl;rfl;rfl)|refine AX.sk U U ?_)|((with_reducible refine D.pick ?_);refine L.pk U U U U ?_)|((with_reducible refine D.ax ?_);refine L.nc U U U U ?_)|((with_reducible refine D.aw ?_);first|refine K.sq (K.sq ?_)|refine AW.regL ?_|refine AW.condF U ?_|refine AW.condS U (fun h=> ?_) (fun h=> ?_)|refine AW.skip ?_|refine AW.exit ?_)|with_reducible refine K.tN ?_|with_reducible refine K.tE ?_|with_reducible refine K.bX (by with_unfolding_all rfl) ?_|with_reducible refine K.lE ?_)
     ·exact absurd (of_decide_eq_true h) (by omega)
     ·exact ⟨rfl,U,_,s,(d'.next 3).2,none,h1.symm.trans (fmK.walk_here (s:=s) e0 e3),h23,h4,⟨rfl,rfl⟩,(Weak.mk [some 0,some 1,some 2] _ _ _ U U U U (by(repeat'(first|exact trivial|refine And.intro ?_ ?_|refine⟨_,U,_,U,?_⟩|exact VLe.refl _));done) (by(repeat'(first|exact trivial|refine And.intro ?_ ?_|refine⟨_,U,_,U,_,U,?_⟩|exact VLe.refl _));done))⟩
     ·exact absurd (of_decide_eq_false h) (by omega)
  |some q=>
   obtain⟨b0,off,csL0,yL0⟩:=q
   subst hrc
   dsimp only at h5
   have h5':=h5
   obtain⟨capF,csA,csB,yc,lA,lL,hyl,hper,hfr,wand⟩:=h5'
   have hmem:(b0,capF*EC.fm.cells,csA++csL0++csB)∈y:=hper.mem_iff.2 (by simp)
   obtain⟨⟨tv0,sv0⟩,rfl,y01,y02,rfl,htv0,hsv0⟩:=YMs.fmC hyl
   obtain⟨ad0,cap0,rfl⟩:=hsv0.sl
   by_cases e0:s.args.length=0
   ·have hw:=fmK.walk_stop (n:=n) (d:=d') (F:=F) (s:=s) e0
    repeat'(first|((with_reducible refine D.nil ?_);refine AX.nilL ?_)|((with_reducible refine D.load ?_);refine L.ylm 4 U U U hmem lA U U U ?_)|((with_reducible refine D.move ?_);first|refine L.mv U U U ?_|refine AX.sk U U ?_|((fail_if_success refine AX.wt U ?_);refine AX.gs U U (fun _=>trivial) (fun h=> ?_) (fun h=> ?_)))|((with_reducible refine D.fieldAddr ?_);refine L.yf U U U U U ?_)|((with_reducible refine D.bin ?_);first|refine L.bn U U U U U ?_|refine AX.sk U U ?_)|((with_reducible refine D.call ?_);first|refine L.yz U U U U ?_|refine AX.sk U U ?_)|((with_reducible refine D.pick ?_);refine L.pk U U U U ?_)|((with_reducible refine D.ax ?_);refine L.yn U U U ?_)|((with_reducible refine D.aw ?_);first|refine K.sq (K.sq ?_)|refine AW.regL ?_|refine AW.condF U ?_|refine AW.exit ?_)|with_reducible refine K.tN ?_|with_reducible refine K.tE ?_|with_reducible refine K.bX (by with_unfolding_all rfl) ?_|with_reducible refine K.lE ?_)
    ·exact absurd h (by simp[e0])
    ·exact ⟨rfl,U,_,s,d',some _,h1.symm.trans hw,h2,h4,h5,(Weak.mk [some 0,some 1,some 2] _ _ _ U U U U (by(repeat'(first|exact trivial|refine And.intro ?_ ?_|refine⟨_,U,_,U,?_⟩|exact VLe.refl _));done) (by(repeat'(first|exact trivial|refine And.intro ?_ ?_|refine⟨_,U,_,U,_,U,?_⟩|exact VLe.refl _));done))⟩
   ·by_cases e3:0<(d'.next 3).1
    ·obtain ⟨hb1,hb2⟩:=Dk.next_bd (d'.next 3).2 (s.args.length:Int) (by omega)
     obtain⟨k,hk⟩:=Int.eq_ofNat_of_zero_le hb1
     have hkl:k<s.args.length:=by omega
     obtain⟨cs0,b,cap',csL,yL,hc1,hc2,hfoc⟩:=Foc.next (KD:=fmK) h5 hkl
     have hlast:=congrArg List.getLast? hc1
     simp only[fcs,List.getLast?_append,List.getLast?_singleton,List.getLast?_cons_cons,Option.some_or] at hlast
     injection hlast with hlast
     injection hlast with hlast
     injection hlast with hl1 hl2 hl3
     subst hl1;subst hl3
     obtain⟨n,rfl⟩:∃n',n=n'+1:=⟨n-1,by have:=s.full_pos;omega⟩
     have hw:=fmK.walk_on (n:=n) (d:=d') (F:=F) (s:=s) e0 e3 hkl hk
     have hlt:=fmK.sz_lt s s.args[k] (List.getElem_mem hkl)
     repeat'(first|((with_reducible refine D.nil ?_);refine AX.nilL ?_)|((with_reducible refine D.load ?_);refine L.ylm 4 U U U hmem lA U U U ?_)|((with_reducible refine D.move ?_);first|refine L.mv U U U ?_|refine AX.sk U U ?_|((fail_if_success refine AX.wt U ?_);refine AX.gs U U (fun _=>trivial) (fun h=> ?_) (fun h=> ?_)))|((with_reducible refine D.fieldAddr ?_);refine L.yf U U U U U ?_)|((with_reducible refine D.bin ?_);first|refine L.bn U U U U U ?_|refine AX.sk U U ?_)|((with_reducible refine D.call ?_);first|refine L.yz U U U U ?_|(apply L.cb2 (hn3) [0] 0 rfl;rfl;rfl;rfl;rfl;rfl;rfl;(focus((repeat'(first|exact trivial|refine And.intro ?_ ?_|refine⟨_,U,_,U,_,U,?_⟩|exact VLe.refl _));done));rfl;rfl;rfl;rfl)|refine AX.sk U U ?_)|((with_reducible refine D.pick ?_);refine L.pk U U U U ?_)|((with_reducible refine D.ax ?_);refine L.yn U U U ?_)|((with_reducible refine D.aw ?_);first|refine K.sq (K.sq ?_)|refine AW.regL ?_|refine AW.condF U ?_|refine AW.condS U (fun h=> ?_) (fun h=> ?_)|refine AW.skip ?_|refine AW.exit ?_)|with_reducible refine K.tN ?_|with_reducible refine K.tE ?_|with_reducible refine K.bX (by with_unfolding_all rfl) ?_|with_reducible refine K.lE ?_)
     ·refine AW.block (AW.regD mixed (by kernel_rfl) ?_)
      repeat'(first|((with_reducible refine D.nil ?_);refine AX.nilD (by kernel_rfl) ?_)|((with_reducible refine D.load ?_);refine L.ylm 4 U U U hmem lA U U U ?_)|((with_reducible refine D.move ?_);refine L.mv U U U ?_)|((with_reducible refine D.fieldAddr ?_);refine L.yf U U U U U ?_)|((with_reducible refine D.assign ?_);refine L.asg U U U ?_)|((with_reducible refine D.call ?_);first|refine L.yz U U U U ?_|(apply L.cb2 (hnl) [0] 0 rfl;rfl;rfl;rfl;rfl;rfl;rfl;(focus((repeat'(first|exact trivial|refine And.intro ?_ ?_|refine⟨_,U,_,U,_,U,?_⟩|exact VLe.refl _));done));rfl;rfl;rfl;rfl))|((with_reducible refine D.indexAddr ?_);refine L.yi k U U U U hk hkl U ?_)|((with_reducible refine D.ax ?_);refine L.yn U U U ?_)|with_reducible refine K.bN ?_)
      exact⟨⟨⟨n,((d'.next 3).2.next (s.args.length:Int)).2,_,s.args[k],some (b,k*5,csL,yL)⟩,hw.symm.trans h1,Dk.next_ok h23 _,by dsimp only;omega,by dsimp only;omega,hfoc⟩,Nat.lt_succ_self n,(Weak.mk [some 0,some 1,some 2] _ _ _ U U U U (by(repeat'(first|exact trivial|refine And.intro ?_ ?_|refine⟨_,U,_,U,?_⟩|exact VLe.refl _));done) (by(repeat'(first|exact trivial|refine And.intro ?_ ?_|refine⟨_,U,_,U,_,U,?_⟩|exact VLe.refl _));done))⟩
     ·exact absurd h (by simp[e3])
     ·exact absurd (of_decide_eq_false h) (by omega)
    ·obtain ⟨n,rfl⟩:∃n',n=n'+1:=⟨n-1,by have:=s.full_pos;omega⟩
     repeat'(first|((with_reducible refine D.nil ?_);refine AX.nilL ?_)|((with_reducible refine D.load ?_);refine L.ylm 4 U U U hmem lA U U U ?_)|((with_reducible refine D.move ?_);first|refine L.mv U U U ?_|refine AX.sk U U ?_|((fail_if_success refine AX.wt U ?_);refine AX.gs U U (fun _=>trivial) (fun h=> ?_) (fun h=> ?_)))|((with_reducible refine D.fieldAddr ?_);refine L.yf U U U U U ?_)|((with_reducible refine D.bin ?_);first|refine L.bn U U U U U ?_|refine AX.sk U U ?_)|((with_reducible refine D.call ?_);first|refine L.yz U U U U ?_|(apply L.cb2 (hn3) [0] 0 rfl;rfl;rfl;rfl;rfl;rfl;rfl;(focus((repeat'(first|exact trivial|refine And.intro ?_ ?_|refine⟨_,U,_,U,_,U,?_⟩|exact VLe.refl _));done));rfl;rfl;rfl;rfl)|refine AX.sk U U ?_)|((with_reducible refine D.pick ?_);refine L.pk U U U U ?_)|((with_reducible refine D.ax ?_);refine L.yn U U U ?_)|((with_reducible refine D.aw ?_);first|refine K.sq (K.sq ?_)|refine AW.regL ?_|refine AW.condF U ?_|refine AW.condS U (fun h=> ?_) (fun h=> ?_)|refine AW.skip ?_|refine AW.exit ?_)|with_reducible refine K.tN ?_|with_reducible refine K.tE ?_|with_reducible refine K.bX (by with_unfolding_all rfl) ?_|with_reducible refine K.lE ?_)
     ·exact absurd (of_decide_eq_true h) (by omega)
     ·exact ⟨rfl,U,_,s,(d'.next 3).2,some _,h1.symm.trans (fmK.walk_here (s:=s) e0 e3),h23,h4,h5,(Weak.mk [some 0,some 1,some 2] _ _ _ U U U U (by(repeat'(first|exact trivial|refine And.intro ?_ ?_|refine⟨_,U,_,U,?_⟩|exact VLe.refl _));done) (by(repeat'(first|exact trivial|refine And.intro ?_ ?_|refine⟨_,U,_,U,_,U,?_⟩|exact VLe.refl _));done))⟩
     ·exact absurd (of_decide_eq_false h) (by omega)
 ·rintro e a σ y' ⟨rfl,hyy,F,s,dd,o,hWe,hdd,hss,ho,hwk⟩
  obtain rfl:y=y':=hyy.symm
  refine K.yT (BW.weakW hwk ?_)
  have hn5:=next_c dd 4 hdd (by omega)
  have hb5:=Dk.next_bd dd 4 (by omega)
  have h5:=Dk.next_ok hdd 4
  have hbe:bentF d t=bentFmB (F,s,dd):=by unfold bentF;rw[←hW,hWe]
  obtain⟨v,hv⟩:∃v,v=(dd.next 4).1:=⟨_,rfl⟩
  rw[←hv] at hn5 hb5
  have hv5:v=0∨v=1∨v=2∨v=3:=by omega
  have hty:=type1_c (dd.next 4).2 h5
  have h9:=next_c (dd.next 4).2 9 h5 (by omega)
  have h3:=next_c (dd.next 4).2 3 h5 (by omega)
  have hvr:=var_c ((dd.next 4).2.next 3).1
  have hcx:=context_c (dd.next 4).2 h5
  have hfm:=mkFm_c 1 (dd.next 4).2.ctx.2 (dd.next 4).2.ctx.1 1 (by omega) rfl (Dk.ctx_ok h5) (Dk.ctx_smalls _) (by have:=Dk.ctx_len (dd.next 4).2;omega)
  have hfl:s.terms.length<1000000000:=by
   have h1:s.full≤t.full:=hss
   have:=lsum_len Tm.full Tm.full_pos s.terms
   have:=Fm.full_eq s
   omega
  have hvw:∀q:Int,(s.terms++[vT q]).flatMap Tm.view=s.terms.flatMap Tm.view++[.i 1,.i q,.i 0,.s .ty [],.s .tm []]:=fun q=>by rw[List.flatMap_append];rfl
  have hc2:(s.terms.flatMap Tm.view).length=s.terms.length*5:=fview_len .tm s.terms
  cases o with
  |none=>
   obtain⟨rfl,rfl⟩:=ho
   subst hrc
   have hn5y:=hn5.y y
   have h9:=h9.y y
   have h3:=h3.y
   have hty:=hty.y y
   have hcx:=hcx.y y
   have hfm:=hfm.y y
   have hpm:(y1++y2).Perm y:=hpm
   show BW E _ _ _ [(0,.ptr 0 0),(3,.ptr 1 0),(4,.ptr 2 0),(5,.ptr 1 0)] ⟨3,[(0,.var dd.cells),(1,.var [.i s.kind,.i s.ty.kind,.s .ty s.ty.args,.raw tv,.raw sv]),(2,.var zFm)]⟩ y _
   rcases hv5 with rfl|rfl|rfl|rfl
   ·have hz:bentF d s=(.mk ((dd.next 4).2.next 9).1 s.ty s.terms s.args,((dd.next 4).2.next 9).2):=by rw[hbe];simp[bentFmB,←hv]
    rw[hz]
    refine BW.seq (BW.mono (Q:=fun e a σ y=>e= .normal∧y=[]∧a=[(0,.ptr 0 0),(3,.ptr 1 0),(4,.ptr 2 0)]∧σ=⟨3,[(0,.var (((dd.next 4).2.next 9).2).cells),(1,.var (Fm.view (.mk ((dd.next 4).2.next 9).1 s.ty s.terms s.args))),(2,.var zFm)]⟩) (BW.after (.of ?_)) ?_)
    ·repeat' (first|((with_reducible refine D.nil ?_);refine AX.nilL ?_)|((with_reducible refine D.move ?_);refine L.mv U U U ?_)|((with_reducible refine D.fieldAddr ?_);refine L.fab U U U U U ?_)|((with_reducible refine D.assign ?_);refine L.asg U U U ?_)|((with_reducible refine D.bin ?_);refine L.bn U U U U U ?_)|((with_reducible refine D.call ?_);first|(apply L.cb2 (hn5y) [0] 0 rfl;rfl;rfl;rfl;rfl;rfl;rfl;(focus((repeat'(first|exact trivial|refine And.intro ?_ ?_|refine⟨_,U,_,U,_,U,?_⟩|exact VLe.refl _));done));rfl;rfl;rfl;rfl)|(apply L.cb2 (h9) [0] 0 rfl;rfl;rfl;rfl;rfl;rfl;rfl;(focus((repeat'(first|exact trivial|refine And.intro ?_ ?_|refine⟨_,U,_,U,_,U,?_⟩|exact VLe.refl _));done));rfl;rfl;rfl;rfl))|((with_reducible refine D.store ?_);refine L.st U U U U U U U U U ?_)|((with_reducible refine D.ax ?_);refine L.nc U U U U ?_)|((with_reducible refine D.aw ?_);first|((with_reducible refine D.blk ?_);refine AW.block ?_)|refine K.sq (AW.regL ?_)|refine AW.regL ?_|refine AW.condT U ?_)|with_reducible refine K.tN ?_|with_reducible refine K.bN ?_)
     exact(fin_w (c:= .fm) (X:=Fm.yn (.mk ((dd.next 4).2.next 9).1 s.ty s.terms s.args)) (YMs.ofFm (f:= .mk ((dd.next 4).2.next 9).1 s.ty s.terms s.args) (htv.weak fun h=>h.elim) (hsv.weak fun h=>h.elim)) (Fm.er _) (fun p h=>hpm.mem_iff.1 h) hnd (fun _=>rfl) (fun _=>rfl) rfl rfl rfl rfl rfl rfl rfl).mono fun a σ y h=>⟨rfl,h⟩
    ·rintro e a σ y' ⟨rfl,rfl,rfl,rfl⟩
     refine K.yT (BW.seq (.of (AW.regL ?_)))
     repeat'(first|((with_reducible refine D.nil ?_);refine AX.nilL ?_)|((with_reducible refine D.load ?_);refine L.ldb U U U U U U ?_)|((with_reducible refine D.store ?_);refine L.st U U U U U U U U U ?_))
     refine K.yT (BW.ret ⟨rfl,?_⟩)
     (exact K.n2 [some 0] U U U U U (by(repeat'(first|exact trivial|refine And.intro ?_ ?_|refine⟨_,U,_,U,_,U,?_⟩|exact VLe.refl _));done) U (by simp[tupV,V.wk,V.wks,constV,Ty.view,Tm.view,Fm.kind_mk,Fm.view,zFm]))
   ·have hz:bentF d s=(.mk s.kind ((dd.next 4).2.type 1).1 s.terms s.args,((dd.next 4).2.type 1).2):=by rw[hbe];simp[bentFmB,←hv]
    rw[hz]
    refine BW.seq (BW.mono (Q:=fun e a σ y=>e= .normal∧y=[]∧a=[(0,.ptr 0 0),(3,.ptr 1 0),(4,.ptr 2 0)]∧σ=⟨3,[(0,.var (((dd.next 4).2.type 1).2).cells),(1,.var (Fm.view (.mk s.kind ((dd.next 4).2.type 1).1 s.terms s.args))),(2,.var zFm)]⟩) (BW.after (.of ?_)) ?_)
    ·repeat' (first|((with_reducible refine D.nil ?_);refine AX.nilL ?_)|((with_reducible refine D.move ?_);refine L.mv U U U ?_)|((with_reducible refine D.fieldAddr ?_);refine L.fab U U U U U ?_)|((with_reducible refine D.assign ?_);refine L.asg U U U ?_)|((with_reducible refine D.bin ?_);refine L.bn U U U U U ?_)|((with_reducible refine D.call ?_);first|(apply L.cb2 (hn5y) [0] 0 rfl;rfl;rfl;rfl;rfl;rfl;rfl;(focus((repeat'(first|exact trivial|refine And.intro ?_ ?_|refine⟨_,U,_,U,_,U,?_⟩|exact VLe.refl _));done));rfl;rfl;rfl;rfl)|(apply L.cb2 (hty) [0] 0 rfl;rfl;rfl;rfl;rfl;rfl;rfl;(focus((repeat'(first|exact trivial|refine And.intro ?_ ?_|refine⟨_,U,_,U,_,U,?_⟩|exact VLe.refl _));done));rfl;rfl;rfl;rfl))|((with_reducible refine D.store ?_);refine L.st U U U U U U U U U ?_)|((with_reducible refine D.ax ?_);refine L.nc U U U U ?_)|((with_reducible refine D.aw ?_);first|((with_reducible refine D.blk ?_);refine AW.block ?_)|refine K.sq (AW.regL ?_)|refine AW.regL ?_|refine AW.condT U ?_|refine AW.condF U ?_)|with_reducible refine K.tN ?_|with_reducible refine K.bN ?_)
     exact(fin_w (c:= .fm) (X:=Fm.yn (.mk s.kind ((dd.next 4).2.type 1).1 s.terms s.args)) (YMs.ofFm (f:= .mk s.kind ((dd.next 4).2.type 1).1 s.terms s.args) (htv.weak fun h=>h.elim) (hsv.weak fun h=>h.elim)) (Fm.er _) (fun p h=>hpm.mem_iff.1 h) hnd (fun _=>rfl) (fun _=>rfl) rfl rfl rfl rfl rfl rfl rfl).mono fun a σ y h=>⟨rfl,h⟩
    ·rintro e a σ y' ⟨rfl,rfl,rfl,rfl⟩
     refine K.yT (BW.seq (.of (AW.regL ?_)))
     repeat'(first|((with_reducible refine D.nil ?_);refine AX.nilL ?_)|((with_reducible refine D.load ?_);refine L.ldb U U U U U U ?_)|((with_reducible refine D.store ?_);refine L.st U U U U U U U U U ?_))
     refine K.yT (BW.ret ⟨rfl,?_⟩)
     (exact K.n2 [some 0] U U U U U (by(repeat'(first|exact trivial|refine And.intro ?_ ?_|refine⟨_,U,_,U,_,U,?_⟩|exact VLe.refl _));done) U (by simp[tupV,V.wk,V.wks,constV,Ty.view,Tm.view,Fm.kind_mk,Fm.view,zFm]))
   ·have hz:bentF d s=(.mk s.kind s.ty (s.terms++[vT ((dd.next 4).2.next 3).1]) s.args,((dd.next 4).2.next 3).2):=by rw[hbe];simp[bentFmB,←hv]
    rw[hz]
    refine BW.seq (BW.mono (Q:=fun e a σ y=>e= .normal∧y=[]∧a=[(0,.ptr 0 0),(3,.ptr 1 0),(4,.ptr 2 0)]∧σ=⟨3,[(0,.var (((dd.next 4).2.next 3).2).cells),(1,.var (Fm.view (.mk s.kind s.ty (s.terms++[vT ((dd.next 4).2.next 3).1]) s.args))),(2,.var zFm)]⟩) (BW.after ?_) ?_)
    ·rcases dRow_inv htv with⟨e0,rfl,rfl⟩|⟨e0,b2,room,cap,rfl,rfl,hroom,hcap⟩
     ·have h3:=h3 y
      refine BW.weakW (a2:=[(0,.ptr 0 0),(3,.ptr 1 0),(4,.ptr 2 0),(5,.ptr 1 0)]) (σ2:=⟨3,[(0,.var dd.cells),(1,.var [.i s.kind,.i s.ty.kind,.s .ty s.ty.args,.slice .nil (.t .tm []),.raw sv]),(2,.var zFm)]⟩) (Weak.mk [some 0,some 1,some 2] _ _ _ U U U U (by repeat'(first|exact trivial|refine And.intro ?_ ?_|refine⟨_,U,_,U,?_⟩|exact VLe.refl _)) (by repeat'(first|exact trivial|refine And.intro ?_ ?_|refine⟨_,U,_,U,_,U,?_⟩|exact VLe.refl _|exact VLe.rawNil U))) (.of ?_)
      repeat'(first|((with_reducible refine D.nil ?_);first|refine AX.nilL ?_|refine AX.nilD (by kernel_rfl) ?_)|((with_reducible refine D.load ?_);refine L.ldb U U U U U U ?_)|((with_reducible refine D.move ?_);refine L.mv U U U ?_)|((with_reducible refine D.fieldAddr ?_);refine L.fab U U U U U ?_)|((with_reducible refine D.assign ?_);refine L.asg U U U ?_)|((with_reducible refine D.bin ?_);refine L.bn U U U U U ?_)|((with_reducible refine D.call ?_);first|refine L.yN U U U U U U U U U U (by omega) (by omega) ?_|refine L.lnt U U U U ?_|(apply L.cb2 (hn5y) [0] 0 rfl;rfl;rfl;rfl;rfl;rfl;rfl;(focus((repeat'(first|exact trivial|refine And.intro ?_ ?_|refine⟨_,U,_,U,_,U,?_⟩|exact VLe.refl _));done));rfl;rfl;rfl;rfl)|(apply L.cb2 (h3) [0] 0 rfl;rfl;rfl;rfl;rfl;rfl;rfl;(focus((repeat'(first|exact trivial|refine And.intro ?_ ?_|refine⟨_,U,_,U,_,U,?_⟩|exact VLe.refl _));done));rfl;rfl;rfl;rfl)|refine L.c2 (hvr) U U U U ?_)|((with_reducible refine D.store ?_);refine L.st U U U U U U U U U ?_)|((with_reducible refine D.indexAddr ?_);refine L.ixr 0 U U U U U (by omega) U ?_)|((with_reducible refine D.ax ?_);first|refine L.bsC zTm U U U U U U ?_|refine L.nc U U U U ?_)|((with_reducible refine D.aw ?_);first|((with_reducible refine D.blk ?_);refine AW.block ?_)|refine K.sq (AW.regL ?_)|refine AW.regD mixed (by kernel_rfl) ?_|refine AW.condT U ?_|refine AW.condF U ?_)|with_reducible refine K.tN ?_|with_reducible refine K.bN ?_)
      refine WeakB.trans (WeakB.giveA (n:=4) (len0:=1) (sz:=5) (cs:=[.i 1,.i ((dd.next 4).2.next 3).1,.i 0,.s .ty [],.s .tm []]) rfl (YMs.free (s:=False) (ym_dats _ rfl)) (.inr ⟨1,_,3,rfl,rfl⟩) (fun b cap=>[(0,.ptr 0 0),(3,.ptr 1 0),(4,.ptr 2 0)]) (fun b cap=>[(0,.var (((dd.next 4).2.next 3).2).cells),(1,.var [.i s.kind,.i s.ty.kind,.s .ty s.ty.args,.rs b 1 cap,.raw sv]),(2,.var zFm),(4,.gone)]) (fun b cap=>AF.Cnv.get ⟨⟨_,rfl,.inl rfl⟩,⟨_,rfl,.inl rfl⟩,⟨_,rfl,.inl rfl⟩,trivial⟩) (fun b cap=>Es.Cnv.get ⟨⟨_,rfl,.same (fun _=> .inl rfl) _⟩,⟨_,rfl,.var ⟨.inl rfl,.inl rfl,.inl rfl,.inr (.inr ⟨_,rfl,rfl⟩),.inl rfl,trivial⟩⟩,⟨_,rfl,.same (fun _=> .inl rfl) _⟩,⟨_,rfl,trivial⟩,trivial⟩) (fun b cap=>rfl)) ?_
      rintro _ _ _ ⟨b,cap,hcap,hnb,rfl,rfl,rfl⟩
      have e1:s.terms++[vT ((dd.next 4).2.next 3).1]=[vT ((dd.next 4).2.next 3).1]:=by rw[e0];rfl
      exact(fin_w (c:= .fm) (X:=Fm.yn (.mk s.kind s.ty (s.terms++[vT ((dd.next 4).2.next 3).1]) s.args)) (YMs.ofFm (s:=False) (f:= .mk s.kind s.ty (s.terms++[vT ((dd.next 4).2.next 3).1]) s.args) (y1:=[(b,cap*5,[.i 1,.i ((dd.next 4).2.next 3).1,.i 0,.s .ty [],.s .tm []])]) (by show YM False (dRow .tm (s.terms++[vT ((dd.next 4).2.next 3).1])) _ _;rw[e1];exact dRow_row .tm [vT ((dd.next 4).2.next 3).1] b _ cap (fun h=>h.elim) hcap (by simp)) (hsv.weak fun h=>h.elim)) (Fm.er _) (fun p h=>by rcases List.mem_cons.1 h with rfl|h;exact List.mem_cons_self;exact List.mem_cons_of_mem _ (hpm.mem_iff.1 h)) (nd_cons hnd hnb) (fun _=>rfl) (fun _=>rfl) rfl rfl rfl rfl rfl rfl rfl).mono fun a σ y h=>⟨rfl,h⟩
     ·obtain rfl:=hroom trivial
      have h3:=h3 y2
      have hn5z:=hn5.y y2
      have hnd3:(y2.map Prod.fst).Nodup:=by have:=(hpm.symm.map Prod.fst).nodup hnd;simp only[List.cons_append,List.nil_append,List.map_cons,List.nodup_cons] at this;exact this.2
      refine BW.weak (WeakB.take (b:=b2) (cap:=cap) (sz:=5) (cs:=s.terms.flatMap Tm.view) (y1:=y2) hpm.symm hnd [(0,.ptr 0 0),(3,.ptr 1 0),(4,.ptr 2 0),(5,.ptr 1 0)] [(0,.var dd.cells),(1,.var [.i s.kind,.i s.ty.kind,.s .ty s.ty.args,.arr 3 s.terms.length 5,.raw sv]),(2,.var zFm),(3,.var (s.terms.flatMap Tm.view))] (AF.Cnv.get ⟨⟨_,rfl,.inl rfl⟩,⟨_,rfl,.inl rfl⟩,⟨_,rfl,.inl rfl⟩,⟨_,rfl,.inl rfl⟩,trivial⟩) (Es.CnvN.get ⟨.inr ⟨_,rfl,.same (fun _=> .inl rfl) _⟩,.inr ⟨_,rfl,.var ⟨.inl rfl,.inl rfl,.inl rfl,.inr (.inr ⟨_,hcap,rfl,rfl⟩),.inl rfl,trivial⟩⟩,.inr ⟨_,rfl,.same (fun _=> .inl rfl) _⟩,.inl ⟨rfl,rfl⟩,trivial⟩)) ?_
      rintro _ _ _ ⟨rfl,rfl,rfl⟩
      refine .of ?_
      repeat'(first|((with_reducible refine D.nil ?_);first|refine AX.nilL ?_|refine AX.nilD (by kernel_rfl) ?_)|((with_reducible refine D.load ?_);refine L.ldb U U U U U U ?_)|((with_reducible refine D.move ?_);refine L.mv U U U ?_)|((with_reducible refine D.fieldAddr ?_);refine L.fab U U U U U ?_)|((with_reducible refine D.assign ?_);refine L.asg U U U ?_)|((with_reducible refine D.bin ?_);refine L.bn U U U U U ?_)|((with_reducible refine D.call ?_);first|refine L.lnR U U U U ?_|refine L.yR U U U U U U U U hc2 U U U (by omega) (by omega) ?_|(apply L.cb2 (hn5z) [0] 0 rfl;rfl;rfl;rfl;rfl;rfl;rfl;(focus((repeat'(first|exact trivial|refine And.intro ?_ ?_|refine⟨_,U,_,U,_,U,?_⟩|exact VLe.refl _));done));rfl;rfl;rfl;rfl)|(apply L.cb2 (h3) [0] 0 rfl;rfl;rfl;rfl;rfl;rfl;rfl;(focus((repeat'(first|exact trivial|refine And.intro ?_ ?_|refine⟨_,U,_,U,_,U,?_⟩|exact VLe.refl _));done));rfl;rfl;rfl;rfl)|refine L.c2 (hvr) U U U U ?_)|((with_reducible refine D.store ?_);first|refine L.ste U U U U U U U hc2 U U ?_|refine L.st U U U U U U U U U ?_)|((with_reducible refine D.indexAddr ?_);refine L.ixr s.terms.length U U U U U (by omega) U ?_)|((with_reducible refine D.ax ?_);first|refine L.bsC zTm U U U U U U ?_|refine L.nc U U U U ?_)|((with_reducible refine D.aw ?_);first|((with_reducible refine D.blk ?_);refine AW.block ?_)|refine K.sq (AW.regL ?_)|refine AW.regD mixed (by kernel_rfl) ?_|refine AW.condT U ?_|refine AW.condF U ?_)|with_reducible refine K.tN ?_|with_reducible refine K.bN ?_)
      refine WeakB.trans (WeakB.giveA (n:=5) (len0:=s.terms.length+1) (sz:=5) (cs:=s.terms.flatMap Tm.view++[.i 1,.i ((dd.next 4).2.next 3).1,.i 0,.s .ty [],.s .tm []]) rfl (by rw[←hvw];exact YMs.free (s:=False) (ym_dats _ (flat_isD .tm _))) (.inr ⟨1,_,3,rfl,rfl⟩) (fun b cap=>[(0,.ptr 0 0),(3,.ptr 1 0),(4,.ptr 2 0)]) (fun b cap=>[(0,.var (((dd.next 4).2.next 3).2).cells),(1,.var [.i s.kind,.i s.ty.kind,.s .ty s.ty.args,.rs b (s.terms.length+1) cap,.raw sv]),(2,.var zFm),(5,.gone)]) (fun b cap=>AF.Cnv.get ⟨⟨_,rfl,.inl rfl⟩,⟨_,rfl,.inl rfl⟩,⟨_,rfl,.inl rfl⟩,trivial⟩) (fun b cap=>Es.Cnv.get ⟨⟨_,rfl,.same (fun _=> .inl rfl) _⟩,⟨_,rfl,.var ⟨.inl rfl,.inl rfl,.inl rfl,.inr (.inr ⟨_,rfl,rfl⟩),.inl rfl,trivial⟩⟩,⟨_,rfl,.same (fun _=> .inl rfl) _⟩,⟨_,rfl,trivial⟩,trivial⟩) (fun b cap=>rfl)) ?_
      rintro _ _ _ ⟨b,cap',hcap',hnb,rfl,rfl,rfl⟩
      have hrw:YM False (dRow .tm (s.terms++[vT ((dd.next 4).2.next 3).1])) (.rs b (s.terms.length+1) cap') [(b,cap'*5,s.terms.flatMap Tm.view++[.i 1,.i ((dd.next 4).2.next 3).1,.i 0,.s .ty [],.s .tm []])]:=by
       have:=dRow_row (s:=False) .tm (s.terms++[vT ((dd.next 4).2.next 3).1]) b (cap'*5) cap' (fun h=>h.elim) (by simpa using hcap') (by simp)
       rw[List.length_append,List.length_singleton] at this
       rw[←hvw];exact this
      exact(fin_w (c:= .fm) (X:=Fm.yn (.mk s.kind s.ty (s.terms++[vT ((dd.next 4).2.next 3).1]) s.args)) (YMs.ofFm (s:=False) (f:= .mk s.kind s.ty (s.terms++[vT ((dd.next 4).2.next 3).1]) s.args) hrw (hsv.weak fun h=>h.elim)) (Fm.er _) (fun p h=>h) (nd_cons hnd3 hnb) (fun _=>rfl) (fun _=>rfl) rfl rfl rfl rfl rfl rfl rfl).mono fun a σ y h=>⟨rfl,h⟩
    ·rintro e a σ y' ⟨rfl,rfl,rfl,rfl⟩
     refine K.yT (BW.seq (.of (AW.regL ?_)))
     repeat'(first|((with_reducible refine D.nil ?_);refine AX.nilL ?_)|((with_reducible refine D.load ?_);refine L.ldb U U U U U U ?_)|((with_reducible refine D.store ?_);refine L.st U U U U U U U U U ?_))
     refine K.yT (BW.ret ⟨rfl,?_⟩)
     (exact K.n2 [some 0] U U U U U (by(repeat'(first|exact trivial|refine And.intro ?_ ?_|refine⟨_,U,_,U,_,U,?_⟩|exact VLe.refl _));done) U (by simp[tupV,V.wk,V.wks,constV,Ty.view,Tm.view,Fm.kind_mk,Fm.view,zFm]))
   ·have hz:bentF d s=((Dk.fm 1 (dd.next 4).2.ctx.2 (dd.next 4).2.ctx.1).1,(Dk.fm 1 (dd.next 4).2.ctx.2 (dd.next 4).2.ctx.1).2):=by rw[hbe];simp[bentFmB,←hv]
    rw[hz]
    refine BW.seq (BW.mono (Q:=fun e a σ y=>e= .normal∧y=[]∧a=[(0,.ptr 0 0),(3,.ptr 1 0),(4,.ptr 2 0)]∧σ=⟨3,[(0,.var ((Dk.fm 1 (dd.next 4).2.ctx.2 (dd.next 4).2.ctx.1).2).cells),(1,.var (Fm.view ((Dk.fm 1 (dd.next 4).2.ctx.2 (dd.next 4).2.ctx.1).1))),(2,.var zFm)]⟩) (BW.after (.of ?_)) ?_)
    ·repeat' (first|((with_reducible refine D.nil ?_);refine AX.nilL ?_)|((with_reducible refine D.move ?_);refine L.mv U U U ?_)|((with_reducible refine D.assign ?_);refine L.asg U U U ?_)|((with_reducible refine D.bin ?_);refine L.bn U U U U U ?_)|((with_reducible refine D.call ?_);first|(apply L.cb2 (hn5y) [0] 0 rfl;rfl;rfl;rfl;rfl;rfl;rfl;(focus((repeat'(first|exact trivial|refine And.intro ?_ ?_|refine⟨_,U,_,U,_,U,?_⟩|exact VLe.refl _));done));rfl;rfl;rfl;rfl)|(apply L.cb2 (hcx) [0] 0 rfl;rfl;rfl;rfl;rfl;rfl;rfl;(focus((repeat'(first|exact trivial|refine And.intro ?_ ?_|refine⟨_,U,_,U,_,U,?_⟩|exact VLe.refl _));done));rfl;rfl;rfl;rfl)|(apply L.cb2 (hfm) [0] 0 rfl;rfl;rfl;rfl;rfl;rfl;rfl;(focus((repeat'(first|exact trivial|refine And.intro ?_ ?_|refine⟨_,U,_,U,_,U,?_⟩|exact VLe.refl _));done));rfl;rfl;rfl;rfl))|((with_reducible refine D.store ?_);refine L.st U U U U U U U U U ?_)|((with_reducible refine D.ax ?_);refine L.nc U U U U ?_)|((with_reducible refine D.aw ?_);first|((with_reducible refine D.blk ?_);refine AW.block ?_)|refine K.sq (AW.regL ?_)|refine AW.regL ?_|refine AW.condF U ?_)|with_reducible refine K.tN ?_|with_reducible refine K.bN ?_)
     exact(fin_w (c:= .fm) (X:=(Fm.view ((Dk.fm 1 (dd.next 4).2.ctx.2 (dd.next 4).2.ctx.1).1)).map Yn.dat) (ym_dats _ (view_isD .fm _)) (er_dats _ (view_isD .fm _)) (fun p h=>by cases h) hnd (fun _=>rfl) (fun _=>rfl) rfl rfl rfl rfl rfl rfl rfl).mono fun a σ y h=>⟨rfl,h⟩
    ·rintro e a σ y' ⟨rfl,rfl,rfl,rfl⟩
     refine K.yT (BW.seq (.of (AW.regL ?_)))
     repeat'(first|((with_reducible refine D.nil ?_);refine AX.nilL ?_)|((with_reducible refine D.load ?_);refine L.ldb U U U U U U ?_)|((with_reducible refine D.store ?_);refine L.st U U U U U U U U U ?_))
     refine K.yT (BW.ret ⟨rfl,?_⟩)
     (exact K.n2 [some 0] U U U U U (by(repeat'(first|exact trivial|refine And.intro ?_ ?_|refine⟨_,U,_,U,_,U,?_⟩|exact VLe.refl _));done) U (by simp[tupV,V.wk,V.wks,constV,Ty.view,Tm.view,Fm.kind_mk,Fm.view,zFm]))
  |some q=>
   obtain⟨b0,off,csL0,yL0⟩:=q
   dsimp only at ho
   obtain⟨capF,csA,csB,yc,lA,lL,hyl,hper,⟨hfA,hfB⟩,wand⟩:=ho
   obtain⟨⟨tv0,sv0⟩,rfl,y01,y02,rfl,htv0,hsv0⟩:=YMs.fmC hyl
   have hper:y.Perm ((b0,capF*5,csA++[.i s.kind,.i s.ty.kind,.s .ty s.ty.args,.raw tv0,.raw sv0]++csB)::((y01++y02)++yc)):=hper
   have hren:∀ρ,renVs ρ rc=some rc:=by subst hrc;exact fun ρ=>rfl
   have hnd0:=(hper.map Prod.fst).nodup hnd
   simp only[List.map_cons,List.nodup_cons] at hnd0
   have hndc:∀(room:Nat) (cs:List V),(((b0,room,cs)::((y01++y02)++yc):Ys).map Prod.fst).Nodup:=fun room cs=>by rw[List.map_cons,List.nodup_cons];exact hnd0
   have hfr:∀csL:List V,(∀v∈csL,V.free v)→∀v∈csA++csL++csB,V.free v:=fun csL h v hv=>by
    rcases List.mem_append.1 hv with hv|hv
    ·rcases List.mem_append.1 hv with hv|hv
     ·exact hfA v hv
     ·exact h v hv
    ·exact hfB v hv
   have hn5y:=hn5.y ((y01++y02)++yc)
   have h9:=h9.y ((y01++y02)++yc)
   have h3:=h3.y
   have hty:=hty.y ((y01++y02)++yc)
   have hcx:=hcx.y ((y01++y02)++yc)
   have hfm:=hfm.y ((y01++y02)++yc)
   show BW E _ _ _ [(0,.ptr 0 0),(3,.ptr 1 0),(4,.ptr 2 0),(5,.rp b0 off)] ⟨3,[(0,.var dd.cells),(1,.var rc),(2,.var zFm)]⟩ y _
   rcases hv5 with rfl|rfl|rfl|rfl
   ·have hz:bentF d t=(F (.mk ((dd.next 4).2.next 9).1 s.ty s.terms s.args),((dd.next 4).2.next 9).2):=by rw[hbe];simp[bentFmB,←hv]
    rw[hz]
    refine BW.seq (BW.mono (Q:=fun e a σ y=>e= .normal∧y=[]∧a=[(0,.ptr 0 0),(3,.ptr 1 0),(4,.ptr 2 0)]∧σ=⟨3,[(0,.var (((dd.next 4).2.next 9).2).cells),(1,.var (Fm.view (F (.mk ((dd.next 4).2.next 9).1 s.ty s.terms s.args)))),(2,.var zFm)]⟩) (BW.after (BW.taken (b:=b0) (cap:=capF) (sz:=5) (cs:=csA++[.i s.kind,.i s.ty.kind,.s .ty s.ty.args,.raw tv0,.raw sv0]++csB) (y1:=(y01++y02)++yc) hper hnd [(0,.ptr 0 0),(3,.ptr 1 0),(4,.ptr 2 0),(5,.ptr 3 off)] [(0,.var dd.cells),(1,.var rc),(2,.var zFm),(3,.var (csA++[.i s.kind,.i s.ty.kind,.s .ty s.ty.args,.raw tv0,.raw sv0]++csB))] (AF.Cnv.get ⟨⟨_,rfl,.inl rfl⟩,⟨_,rfl,.inl rfl⟩,⟨_,rfl,.inl rfl⟩,⟨_,rfl,.inr (.inl ⟨_,rfl,rfl⟩)⟩,trivial⟩) (Es.CnvN.get ⟨.inr ⟨_,rfl,.same (fun _=> .inl rfl) _⟩,.inr ⟨_,rfl,.same (fun _=> .inl rfl) _⟩,.inr ⟨_,rfl,.same (fun _=> .inl rfl) _⟩,.inl ⟨rfl,rfl⟩,trivial⟩) (.of ?_))) ?_)
    ·repeat' (first|((with_reducible refine D.nil ?_);refine AX.nilL ?_)|((with_reducible refine D.move ?_);refine L.mv U U U ?_)|((with_reducible refine D.fieldAddr ?_);refine L.fab U U U U U ?_)|((with_reducible refine D.assign ?_);refine L.asg U U U ?_)|((with_reducible refine D.bin ?_);refine L.bn U U U U U ?_)|((with_reducible refine D.call ?_);first|(apply L.cb2 (hn5y) [0] 0 rfl;rfl;rfl;rfl;rfl;rfl;rfl;(focus((repeat'(first|exact trivial|refine And.intro ?_ ?_|refine⟨_,U,_,U,_,U,?_⟩|exact VLe.refl _));done));rfl;rfl;rfl;rfl)|(apply L.cb2 (h9) [0] 0 rfl;rfl;rfl;rfl;rfl;rfl;rfl;(focus((repeat'(first|exact trivial|refine And.intro ?_ ?_|refine⟨_,U,_,U,_,U,?_⟩|exact VLe.refl _));done));rfl;rfl;rfl;rfl))|((with_reducible refine D.store ?_);refine L.stm 0 U U U U U U U lA U U ?_)|((with_reducible refine D.ax ?_);refine L.nc U U U U ?_)|((with_reducible refine D.aw ?_);first|((with_reducible refine D.blk ?_);refine AW.block ?_)|refine K.sq (AW.regL ?_)|refine AW.regL ?_|refine AW.condT U ?_)|with_reducible refine K.tN ?_|with_reducible refine K.bN ?_)
     refine⟨_,[(0,.ptr 0 0),(3,.ptr 1 0),(4,.ptr 2 0)],[(0,.var (((dd.next 4).2.next 9).2).cells),(1,.var rc),(2,.var zFm),(3,.gone)],rfl,hfr _ (YMs.free (YMs.ofFm (s:=True) (f:= .mk ((dd.next 4).2.next 9).1 s.ty s.terms s.args) htv0 hsv0)),AF.Cnv.get ⟨⟨_,rfl,.inl rfl⟩,⟨_,rfl,.inl rfl⟩,⟨_,rfl,.inl rfl⟩,trivial⟩,Es.Cnv.get ⟨⟨_,rfl,.same (fun _=> .inl rfl) _⟩,⟨_,rfl,.same (fun _=> .inl rfl) _⟩,⟨_,rfl,.same (fun _=> .inl rfl) _⟩,⟨_,rfl,trivial⟩,trivial⟩,rfl,fun hne=> ?_⟩
     obtain⟨X,yX,w1,w2,w3⟩:=wand _ _ (y01++y02) (.mk ((dd.next 4).2.next 9).1 s.ty s.terms s.args) rfl (YMs.ofFm (f:= .mk ((dd.next 4).2.next 9).1 s.ty s.terms s.args) (htv0.weak fun h=>h.elim) (hsv0.weak fun h=>h.elim)) (Fm.er (.mk ((dd.next 4).2.next 9).1 s.ty s.terms s.args))
     exact(fin_w (c:= .fm) (X:=X) w1 w2 (fun p h=>w3.mem_iff.1 h) (hndc _ _) (fun _=>rfl) (fun _=>rfl) rfl rfl rfl rfl rfl rfl rfl).mono fun a σ y h=>⟨rfl,h⟩
    ·rintro e a σ y' ⟨rfl,rfl,rfl,rfl⟩
     refine K.yT (BW.seq (.of (AW.regL ?_)))
     repeat'(first|((with_reducible refine D.nil ?_);refine AX.nilL ?_)|((with_reducible refine D.load ?_);refine L.ldb U U U U U U ?_)|((with_reducible refine D.store ?_);refine L.st U U U U U U U U U ?_))
     refine K.yT (BW.ret ⟨rfl,?_⟩)
     (exact K.n2 [some 0] U U U U U (by(repeat'(first|exact trivial|refine And.intro ?_ ?_|refine⟨_,U,_,U,_,U,?_⟩|exact VLe.refl _));done) U (by simp[tupV,V.wk,V.wks,constV,Ty.view,Tm.view,Fm.kind_mk,Fm.view,zFm]))
   ·have hz:bentF d t=(F (.mk s.kind ((dd.next 4).2.type 1).1 s.terms s.args),((dd.next 4).2.type 1).2):=by rw[hbe];simp[bentFmB,←hv]
    rw[hz]
    refine BW.seq (BW.mono (Q:=fun e a σ y=>e= .normal∧y=[]∧a=[(0,.ptr 0 0),(3,.ptr 1 0),(4,.ptr 2 0)]∧σ=⟨3,[(0,.var (((dd.next 4).2.type 1).2).cells),(1,.var (Fm.view (F (.mk s.kind ((dd.next 4).2.type 1).1 s.terms s.args)))),(2,.var zFm)]⟩) (BW.after (BW.taken (b:=b0) (cap:=capF) (sz:=5) (cs:=csA++[.i s.kind,.i s.ty.kind,.s .ty s.ty.args,.raw tv0,.raw sv0]++csB) (y1:=(y01++y02)++yc) hper hnd [(0,.ptr 0 0),(3,.ptr 1 0),(4,.ptr 2 0),(5,.ptr 3 off)] [(0,.var dd.cells),(1,.var rc),(2,.var zFm),(3,.var (csA++[.i s.kind,.i s.ty.kind,.s .ty s.ty.args,.raw tv0,.raw sv0]++csB))] (AF.Cnv.get ⟨⟨_,rfl,.inl rfl⟩,⟨_,rfl,.inl rfl⟩,⟨_,rfl,.inl rfl⟩,⟨_,rfl,.inr (.inl ⟨_,rfl,rfl⟩)⟩,trivial⟩) (Es.CnvN.get ⟨.inr ⟨_,rfl,.same (fun _=> .inl rfl) _⟩,.inr ⟨_,rfl,.same (fun _=> .inl rfl) _⟩,.inr ⟨_,rfl,.same (fun _=> .inl rfl) _⟩,.inl ⟨rfl,rfl⟩,trivial⟩) (.of ?_))) ?_)
    ·repeat' (first|((with_reducible refine D.nil ?_);refine AX.nilL ?_)|((with_reducible refine D.move ?_);refine L.mv U U U ?_)|((with_reducible refine D.fieldAddr ?_);refine L.fab U U U U U ?_)|((with_reducible refine D.assign ?_);refine L.asg U U U ?_)|((with_reducible refine D.bin ?_);refine L.bn U U U U U ?_)|((with_reducible refine D.call ?_);first|(apply L.cb2 (hn5y) [0] 0 rfl;rfl;rfl;rfl;rfl;rfl;rfl;(focus((repeat'(first|exact trivial|refine And.intro ?_ ?_|refine⟨_,U,_,U,_,U,?_⟩|exact VLe.refl _));done));rfl;rfl;rfl;rfl)|(apply L.cb2 (hty) [0] 0 rfl;rfl;rfl;rfl;rfl;rfl;rfl;(focus((repeat'(first|exact trivial|refine And.intro ?_ ?_|refine⟨_,U,_,U,_,U,?_⟩|exact VLe.refl _));done));rfl;rfl;rfl;rfl))|((with_reducible refine D.store ?_);refine L.stm 1 U U U U U U U lA U U ?_)|((with_reducible refine D.ax ?_);refine L.nc U U U U ?_)|((with_reducible refine D.aw ?_);first|((with_reducible refine D.blk ?_);refine AW.block ?_)|refine K.sq (AW.regL ?_)|refine AW.regL ?_|refine AW.condT U ?_|refine AW.condF U ?_)|with_reducible refine K.tN ?_|with_reducible refine K.bN ?_)
     refine⟨_,[(0,.ptr 0 0),(3,.ptr 1 0),(4,.ptr 2 0)],[(0,.var (((dd.next 4).2.type 1).2).cells),(1,.var rc),(2,.var zFm),(3,.gone)],rfl,hfr _ (YMs.free (YMs.ofFm (s:=True) (f:= .mk s.kind ((dd.next 4).2.type 1).1 s.terms s.args) htv0 hsv0)),AF.Cnv.get ⟨⟨_,rfl,.inl rfl⟩,⟨_,rfl,.inl rfl⟩,⟨_,rfl,.inl rfl⟩,trivial⟩,Es.Cnv.get ⟨⟨_,rfl,.same (fun _=> .inl rfl) _⟩,⟨_,rfl,.same (fun _=> .inl rfl) _⟩,⟨_,rfl,.same (fun _=> .inl rfl) _⟩,⟨_,rfl,trivial⟩,trivial⟩,rfl,fun hne=> ?_⟩
     obtain⟨X,yX,w1,w2,w3⟩:=wand _ _ (y01++y02) (.mk s.kind ((dd.next 4).2.type 1).1 s.terms s.args) rfl (YMs.ofFm (f:= .mk s.kind ((dd.next 4).2.type 1).1 s.terms s.args) (htv0.weak fun h=>h.elim) (hsv0.weak fun h=>h.elim)) (Fm.er (.mk s.kind ((dd.next 4).2.type 1).1 s.terms s.args))
     exact(fin_w (c:= .fm) (X:=X) w1 w2 (fun p h=>w3.mem_iff.1 h) (hndc _ _) (fun _=>rfl) (fun _=>rfl) rfl rfl rfl rfl rfl rfl rfl).mono fun a σ y h=>⟨rfl,h⟩
    ·rintro e a σ y' ⟨rfl,rfl,rfl,rfl⟩
     refine K.yT (BW.seq (.of (AW.regL ?_)))
     repeat'(first|((with_reducible refine D.nil ?_);refine AX.nilL ?_)|((with_reducible refine D.load ?_);refine L.ldb U U U U U U ?_)|((with_reducible refine D.store ?_);refine L.st U U U U U U U U U ?_))
     refine K.yT (BW.ret ⟨rfl,?_⟩)
     (exact K.n2 [some 0] U U U U U (by(repeat'(first|exact trivial|refine And.intro ?_ ?_|refine⟨_,U,_,U,_,U,?_⟩|exact VLe.refl _));done) U (by simp[tupV,V.wk,V.wks,constV,Ty.view,Tm.view,Fm.kind_mk,Fm.view,zFm]))
   ·have hz:bentF d t=(F (.mk s.kind s.ty (s.terms++[vT ((dd.next 4).2.next 3).1]) s.args),((dd.next 4).2.next 3).2):=by rw[hbe];simp[bentFmB,←hv]
    rw[hz]
    refine BW.seq (BW.mono (Q:=fun e a σ y=>e= .normal∧y=[]∧a=[(0,.ptr 0 0),(3,.ptr 1 0),(4,.ptr 2 0)]∧σ=⟨3,[(0,.var (((dd.next 4).2.next 3).2).cells),(1,.var (Fm.view (F (.mk s.kind s.ty (s.terms++[vT ((dd.next 4).2.next 3).1]) s.args)))),(2,.var zFm)]⟩) (BW.after (BW.taken (b:=b0) (cap:=capF) (sz:=5) (cs:=csA++[.i s.kind,.i s.ty.kind,.s .ty s.ty.args,.raw tv0,.raw sv0]++csB) (y1:=(y01++y02)++yc) hper hnd [(0,.ptr 0 0),(3,.ptr 1 0),(4,.ptr 2 0),(5,.ptr 3 off)] [(0,.var dd.cells),(1,.var rc),(2,.var zFm),(3,.var (csA++[.i s.kind,.i s.ty.kind,.s .ty s.ty.args,.raw tv0,.raw sv0]++csB))] (AF.Cnv.get ⟨⟨_,rfl,.inl rfl⟩,⟨_,rfl,.inl rfl⟩,⟨_,rfl,.inl rfl⟩,⟨_,rfl,.inr (.inl ⟨_,rfl,rfl⟩)⟩,trivial⟩) (Es.CnvN.get ⟨.inr ⟨_,rfl,.same (fun _=> .inl rfl) _⟩,.inr ⟨_,rfl,.same (fun _=> .inl rfl) _⟩,.inr ⟨_,rfl,.same (fun _=> .inl rfl) _⟩,.inl ⟨rfl,rfl⟩,trivial⟩) (BW.after ?_))) ?_)
    ·rcases dRow_inv htv0 with⟨e0,rfl,rfl⟩|⟨e0,b2,room,cap2,rfl,rfl,hroom,hcap⟩
     ·have h3:=h3 (([]++y02)++yc)
      refine BW.weak (WeakB.cnv [(0,.ptr 0 0),(3,.ptr 1 0),(4,.ptr 2 0),(5,.ptr 3 off)] [(0,.var dd.cells),(1,.var rc),(2,.var zFm),(3,.var (csA++[.i s.kind,.i s.ty.kind,.s .ty s.ty.args,.slice .nil (.t .tm []),.raw sv0]++csB))] (AF.Cnv.get ⟨⟨_,rfl,.refl _⟩,⟨_,rfl,.refl _⟩,⟨_,rfl,.refl _⟩,⟨_,rfl,.refl _⟩,trivial⟩) (Es.Cnv.get ⟨⟨_,rfl,.same VLe.refl _⟩,⟨_,rfl,.same VLe.refl _⟩,⟨_,rfl,.same VLe.refl _⟩,⟨_,rfl,.var (CvL.app (CvL.app (.refl (fun _=> .refl _) csA) ⟨.refl _,.refl _,.refl _,.rawNil rfl,.refl _,trivial⟩) (.refl (fun _=> .refl _) csB))⟩,trivial⟩)) ?_
      rintro _ _ _ ⟨rfl,rfl,rfl⟩
      refine .of ?_
      repeat'(first|((with_reducible refine D.nil ?_);first|refine AX.nilL ?_|refine AX.nilD (by kernel_rfl) ?_)|((with_reducible refine D.load ?_);refine L.ldm 3 U U U U lA U U U ?_)|((with_reducible refine D.move ?_);refine L.mv U U U ?_)|((with_reducible refine D.fieldAddr ?_);refine L.fab U U U U U ?_)|((with_reducible refine D.assign ?_);refine L.asg U U U ?_)|((with_reducible refine D.bin ?_);refine L.bn U U U U U ?_)|((with_reducible refine D.call ?_);first|refine L.yN U U U U U U U U U U (by omega) (by omega) ?_|refine L.lnt U U U U ?_|(apply L.cb2 (hn5y) [0] 0 rfl;rfl;rfl;rfl;rfl;rfl;rfl;(focus((repeat'(first|exact trivial|refine And.intro ?_ ?_|refine⟨_,U,_,U,_,U,?_⟩|exact VLe.refl _));done));rfl;rfl;rfl;rfl)|(apply L.cb2 (h3) [0] 0 rfl;rfl;rfl;rfl;rfl;rfl;rfl;(focus((repeat'(first|exact trivial|refine And.intro ?_ ?_|refine⟨_,U,_,U,_,U,?_⟩|exact VLe.refl _));done));rfl;rfl;rfl;rfl)|refine L.c2 (hvr) U U U U ?_)|((with_reducible refine D.store ?_);first|refine L.stm 3 U U U U U U U lA U U ?_|refine L.st U U U U U U U U U ?_)|((with_reducible refine D.indexAddr ?_);refine L.ixr 0 U U U U U (by omega) U ?_)|((with_reducible refine D.ax ?_);first|refine L.bsC zTm U U U U U U ?_|refine L.nc U U U U ?_)|((with_reducible refine D.aw ?_);first|((with_reducible refine D.blk ?_);refine AW.block ?_)|refine K.sq (AW.regL ?_)|refine AW.regD mixed (by kernel_rfl) ?_|refine AW.condT U ?_|refine AW.condF U ?_)|with_reducible refine K.tN ?_|with_reducible refine K.bN ?_)
      have e1:s.terms++[vT ((dd.next 4).2.next 3).1]=[vT ((dd.next 4).2.next 3).1]:=by rw[e0];rfl
      refine WeakB.trans (WeakB.giveA (n:=5) (len0:=1) (sz:=5) (cs:=[.i 1,.i ((dd.next 4).2.next 3).1,.i 0,.s .ty [],.s .tm []]) rfl (YMs.free (s:=False) (ym_dats [.i 1,.i ((dd.next 4).2.next 3).1,.i 0,.s .ty [],.s .tm []] rfl)) (.inl ⟨64,rfl⟩) (fun b cap=>[(0,.ptr 0 0),(3,.ptr 1 0),(4,.ptr 2 0)]) (fun b cap=>[(0,.var (((dd.next 4).2.next 3).2).cells),(1,.var rc),(2,.var zFm),(3,.var (csA++[.i s.kind,.i s.ty.kind,.s .ty s.ty.args,.rs b (1) cap,.raw sv0]++csB)),(5,.gone)]) (fun b cap=>AF.Cnv.get ⟨⟨_,rfl,.inl rfl⟩,⟨_,rfl,.inl rfl⟩,⟨_,rfl,.inl rfl⟩,trivial⟩) (fun b cap=>Es.Cnv.get ⟨⟨_,rfl,.same (fun _=> .inl rfl) _⟩,⟨_,rfl,.same (fun _=> .inl rfl) _⟩,⟨_,rfl,.same (fun _=> .inl rfl) _⟩,⟨_,rfl,.var (CvL.app (CvL.app (.refl (fun _=> .inl rfl) csA) ⟨.inl rfl,.inl rfl,.inl rfl,.inr (.inr ⟨_,rfl,rfl⟩),.inl rfl,trivial⟩) (.refl (fun _=> .inl rfl) csB))⟩,⟨_,rfl,trivial⟩,trivial⟩) (fun b cap=>rfl)) ?_
      rintro _ _ _ ⟨b,cap',hcap',hnb,rfl,rfl,rfl⟩
      have hrw:YM False (dRow .tm (s.terms++[vT ((dd.next 4).2.next 3).1])) (.rs b 1 cap') [(b,cap'*5,[.i 1,.i ((dd.next 4).2.next 3).1,.i 0,.s .ty [],.s .tm []])]:=by rw[e1];exact dRow_row .tm [vT ((dd.next 4).2.next 3).1] b _ cap' (fun h=>h.elim) hcap' (by simp)
      have hym:=YMs.ofFm (s:=False) (f:= .mk s.kind s.ty (s.terms++[vT ((dd.next 4).2.next 3).1]) s.args) hrw (hsv0.weak fun h=>h.elim)
      refine WeakB.keep ⟨_,[(0,.ptr 0 0),(3,.ptr 1 0),(4,.ptr 2 0)],[(0,.var (((dd.next 4).2.next 3).2).cells),(1,.var rc),(2,.var zFm),(3,.gone)],rfl,hfr _ hym.free,AF.Cnv.get ⟨⟨_,rfl,.inl rfl⟩,⟨_,rfl,.inl rfl⟩,⟨_,rfl,.inl rfl⟩,trivial⟩,Es.Cnv.get ⟨⟨_,rfl,.same (fun _=> .inl rfl) _⟩,⟨_,rfl,.same (fun _=> .inl rfl) _⟩,⟨_,rfl,.same (fun _=> .inl rfl) _⟩,⟨_,rfl,trivial⟩,trivial⟩,rfl,fun hne=> ?_⟩
      obtain⟨X,yX,w1,w2,w3⟩:=wand _ _ _ (.mk s.kind s.ty (s.terms++[vT ((dd.next 4).2.next 3).1]) s.args) rfl hym (Fm.er _)
      exact(fin_w (c:= .fm) (X:=X) w1 w2 (fun p h=>by simpa [EC.cells] using w3.mem_iff.1 h) (nd_cons (nd_cons hnd0.2 hnb) hne) (fun _=>rfl) (fun _=>rfl) rfl rfl rfl rfl rfl rfl rfl).mono fun a σ y h=>⟨rfl,h⟩
     ·obtain rfl:=hroom trivial
      have h3:=h3 (y02++yc)
      have hn5z:=hn5.y (y02++yc)
      have hnd3:((y02++yc).map Prod.fst).Nodup:=by have:=hnd0.2;simp only[List.cons_append,List.nil_append,List.map_cons,List.nodup_cons] at this;exact this.2
      refine BW.weak (WeakB.take (b:=b2) (cap:=cap2) (sz:=5) (cs:=s.terms.flatMap Tm.view) (y1:=y02++yc) (.refl _) hnd0.2 [(0,.ptr 0 0),(3,.ptr 1 0),(4,.ptr 2 0),(5,.ptr 3 off)] [(0,.var dd.cells),(1,.var rc),(2,.var zFm),(3,.var (csA++[.i s.kind,.i s.ty.kind,.s .ty s.ty.args,.arr 4 s.terms.length 5,.raw sv0]++csB)),(4,.var (s.terms.flatMap Tm.view))] (AF.Cnv.get ⟨⟨_,rfl,.inl rfl⟩,⟨_,rfl,.inl rfl⟩,⟨_,rfl,.inl rfl⟩,⟨_,rfl,.inl rfl⟩,trivial⟩) (Es.CnvN.get ⟨.inr ⟨_,rfl,.same (fun _=> .inl rfl) _⟩,.inr ⟨_,rfl,.same (fun _=> .inl rfl) _⟩,.inr ⟨_,rfl,.same (fun _=> .inl rfl) _⟩,.inr ⟨_,rfl,.var (CvL.app (CvL.app (.refl (fun _=> .inl rfl) csA) ⟨.inl rfl,.inl rfl,.inl rfl,.inr (.inr ⟨_,hcap,rfl,rfl⟩),.inl rfl,trivial⟩) (.refl (fun _=> .inl rfl) csB))⟩,.inl ⟨rfl,rfl⟩,trivial⟩)) ?_
      rintro _ _ _ ⟨rfl,rfl,rfl⟩
      refine .of ?_
      repeat'(first|((with_reducible refine D.nil ?_);first|refine AX.nilL ?_|refine AX.nilD (by kernel_rfl) ?_)|((with_reducible refine D.load ?_);refine L.ldm 3 U U U U lA U U U ?_)|((with_reducible refine D.move ?_);refine L.mv U U U ?_)|((with_reducible refine D.fieldAddr ?_);refine L.fab U U U U U ?_)|((with_reducible refine D.assign ?_);refine L.asg U U U ?_)|((with_reducible refine D.bin ?_);refine L.bn U U U U U ?_)|((with_reducible refine D.call ?_);first|refine L.lnR U U U U ?_|refine L.yR U U U U U U U U hc2 U U U (by omega) (by omega) ?_|(apply L.cb2 (hn5z) [0] 0 rfl;rfl;rfl;rfl;rfl;rfl;rfl;(focus((repeat'(first|exact trivial|refine And.intro ?_ ?_|refine⟨_,U,_,U,_,U,?_⟩|exact VLe.refl _));done));rfl;rfl;rfl;rfl)|(apply L.cb2 (h3) [0] 0 rfl;rfl;rfl;rfl;rfl;rfl;rfl;(focus((repeat'(first|exact trivial|refine And.intro ?_ ?_|refine⟨_,U,_,U,_,U,?_⟩|exact VLe.refl _));done));rfl;rfl;rfl;rfl)|refine L.c2 (hvr) U U U U ?_)|((with_reducible refine D.store ?_);first|refine L.ste U U U U U U U hc2 U U ?_|refine L.stm 3 U U U U U U U lA U U ?_)|((with_reducible refine D.indexAddr ?_);refine L.ixr s.terms.length U U U U U (by omega) U ?_)|((with_reducible refine D.ax ?_);first|refine L.bsC zTm U U U U U U ?_|refine L.nc U U U U ?_)|((with_reducible refine D.aw ?_);first|((with_reducible refine D.blk ?_);refine AW.block ?_)|refine K.sq (AW.regL ?_)|refine AW.regD mixed (by kernel_rfl) ?_|refine AW.condT U ?_|refine AW.condF U ?_)|with_reducible refine K.tN ?_|with_reducible refine K.bN ?_)
      refine WeakB.trans (WeakB.giveA (n:=6) (len0:=s.terms.length+1) (sz:=5) (cs:=s.terms.flatMap Tm.view++[.i 1,.i ((dd.next 4).2.next 3).1,.i 0,.s .ty [],.s .tm []]) rfl (by rw[←hvw];exact YMs.free (s:=False) (ym_dats _ (flat_isD .tm _))) (.inl ⟨64,rfl⟩) (fun b cap=>[(0,.ptr 0 0),(3,.ptr 1 0),(4,.ptr 2 0)]) (fun b cap=>[(0,.var (((dd.next 4).2.next 3).2).cells),(1,.var rc),(2,.var zFm),(3,.var (csA++[.i s.kind,.i s.ty.kind,.s .ty s.ty.args,.rs b (s.terms.length+1) cap,.raw sv0]++csB)),(6,.gone)]) (fun b cap=>AF.Cnv.get ⟨⟨_,rfl,.inl rfl⟩,⟨_,rfl,.inl rfl⟩,⟨_,rfl,.inl rfl⟩,trivial⟩) (fun b cap=>Es.Cnv.get ⟨⟨_,rfl,.same (fun _=> .inl rfl) _⟩,⟨_,rfl,.same (fun _=> .inl rfl) _⟩,⟨_,rfl,.same (fun _=> .inl rfl) _⟩,⟨_,rfl,.var (CvL.app (CvL.app (.refl (fun _=> .inl rfl) csA) ⟨.inl rfl,.inl rfl,.inl rfl,.inr (.inr ⟨_,rfl,rfl⟩),.inl rfl,trivial⟩) (.refl (fun _=> .inl rfl) csB))⟩,⟨_,rfl,trivial⟩,trivial⟩) (fun b cap=>rfl)) ?_
      rintro _ _ _ ⟨b,cap',hcap',hnb,rfl,rfl,rfl⟩
      have hrw:YM False (dRow .tm (s.terms++[vT ((dd.next 4).2.next 3).1])) (.rs b (s.terms.length+1) cap') [(b,cap'*5,s.terms.flatMap Tm.view++[.i 1,.i ((dd.next 4).2.next 3).1,.i 0,.s .ty [],.s .tm []])]:=by
       have:=dRow_row (s:=False) .tm (s.terms++[vT ((dd.next 4).2.next 3).1]) b (cap'*5) cap' (fun h=>h.elim) (by simpa using hcap') (by simp)
       rw[List.length_append,List.length_singleton] at this
       rw[←hvw];exact this
      have hym:=YMs.ofFm (s:=False) (f:= .mk s.kind s.ty (s.terms++[vT ((dd.next 4).2.next 3).1]) s.args) hrw (hsv0.weak fun h=>h.elim)
      refine WeakB.keep ⟨_,[(0,.ptr 0 0),(3,.ptr 1 0),(4,.ptr 2 0)],[(0,.var (((dd.next 4).2.next 3).2).cells),(1,.var rc),(2,.var zFm),(3,.gone)],rfl,hfr _ hym.free,AF.Cnv.get ⟨⟨_,rfl,.inl rfl⟩,⟨_,rfl,.inl rfl⟩,⟨_,rfl,.inl rfl⟩,trivial⟩,Es.Cnv.get ⟨⟨_,rfl,.same (fun _=> .inl rfl) _⟩,⟨_,rfl,.same (fun _=> .inl rfl) _⟩,⟨_,rfl,.same (fun _=> .inl rfl) _⟩,⟨_,rfl,trivial⟩,trivial⟩,rfl,fun hne=> ?_⟩
      obtain⟨X,yX,w1,w2,w3⟩:=wand _ _ _ (.mk s.kind s.ty (s.terms++[vT ((dd.next 4).2.next 3).1]) s.args) rfl hym (Fm.er _)
      exact(fin_w (c:= .fm) (X:=X) w1 w2 (fun p h=>by simpa [EC.cells] using w3.mem_iff.1 h) (nd_cons (nd_cons hnd3 hnb) hne) (fun _=>rfl) (fun _=>rfl) rfl rfl rfl rfl rfl rfl rfl).mono fun a σ y h=>⟨rfl,h⟩
    ·rintro e a σ y' ⟨rfl,rfl,rfl,rfl⟩
     refine K.yT (BW.seq (.of (AW.regL ?_)))
     repeat'(first|((with_reducible refine D.nil ?_);refine AX.nilL ?_)|((with_reducible refine D.load ?_);refine L.ldb U U U U U U ?_)|((with_reducible refine D.store ?_);refine L.st U U U U U U U U U ?_))
     refine K.yT (BW.ret ⟨rfl,?_⟩)
     (exact K.n2 [some 0] U U U U U (by(repeat'(first|exact trivial|refine And.intro ?_ ?_|refine⟨_,U,_,U,_,U,?_⟩|exact VLe.refl _));done) U (by simp[tupV,V.wk,V.wks,constV,Ty.view,Tm.view,Fm.kind_mk,Fm.view,zFm]))
   ·have hz:bentF d t=(F ((Dk.fm 1 (dd.next 4).2.ctx.2 (dd.next 4).2.ctx.1).1),(Dk.fm 1 (dd.next 4).2.ctx.2 (dd.next 4).2.ctx.1).2):=by rw[hbe];simp[bentFmB,←hv]
    rw[hz]
    refine BW.seq (BW.mono (Q:=fun e a σ y=>e= .normal∧y=[]∧a=[(0,.ptr 0 0),(3,.ptr 1 0),(4,.ptr 2 0)]∧σ=⟨3,[(0,.var ((Dk.fm 1 (dd.next 4).2.ctx.2 (dd.next 4).2.ctx.1).2).cells),(1,.var (Fm.view (F ((Dk.fm 1 (dd.next 4).2.ctx.2 (dd.next 4).2.ctx.1).1)))),(2,.var zFm)]⟩) (BW.after (BW.taken (b:=b0) (cap:=capF) (sz:=5) (cs:=csA++[.i s.kind,.i s.ty.kind,.s .ty s.ty.args,.raw tv0,.raw sv0]++csB) (y1:=(y01++y02)++yc) hper hnd [(0,.ptr 0 0),(3,.ptr 1 0),(4,.ptr 2 0),(5,.ptr 3 off)] [(0,.var dd.cells),(1,.var rc),(2,.var zFm),(3,.var (csA++[.i s.kind,.i s.ty.kind,.s .ty s.ty.args,.raw tv0,.raw sv0]++csB))] (AF.Cnv.get ⟨⟨_,rfl,.inl rfl⟩,⟨_,rfl,.inl rfl⟩,⟨_,rfl,.inl rfl⟩,⟨_,rfl,.inr (.inl ⟨_,rfl,rfl⟩)⟩,trivial⟩) (Es.CnvN.get ⟨.inr ⟨_,rfl,.same (fun _=> .inl rfl) _⟩,.inr ⟨_,rfl,.same (fun _=> .inl rfl) _⟩,.inr ⟨_,rfl,.same (fun _=> .inl rfl) _⟩,.inl ⟨rfl,rfl⟩,trivial⟩) (.of ?_))) ?_)
    ·repeat' (first|((with_reducible refine D.nil ?_);refine AX.nilL ?_)|((with_reducible refine D.move ?_);refine L.mv U U U ?_)|((with_reducible refine D.assign ?_);refine L.asg U U U ?_)|((with_reducible refine D.bin ?_);refine L.bn U U U U U ?_)|((with_reducible refine D.call ?_);first|(apply L.cb2 (hn5y) [0] 0 rfl;rfl;rfl;rfl;rfl;rfl;rfl;(focus((repeat'(first|exact trivial|refine And.intro ?_ ?_|refine⟨_,U,_,U,_,U,?_⟩|exact VLe.refl _));done));rfl;rfl;rfl;rfl)|(apply L.cb2 (hcx) [0] 0 rfl;rfl;rfl;rfl;rfl;rfl;rfl;(focus((repeat'(first|exact trivial|refine And.intro ?_ ?_|refine⟨_,U,_,U,_,U,?_⟩|exact VLe.refl _));done));rfl;rfl;rfl;rfl)|(apply L.cb2 (hfm) [0] 0 rfl;rfl;rfl;rfl;rfl;rfl;rfl;(focus((repeat'(first|exact trivial|refine And.intro ?_ ?_|refine⟨_,U,_,U,_,U,?_⟩|exact VLe.refl _));done));rfl;rfl;rfl;rfl))|((with_reducible refine D.store ?_);refine L.stm 0 U U U U U U U lA U U ?_)|((with_reducible refine D.ax ?_);refine L.nc U U U U ?_)|((with_reducible refine D.aw ?_);first|((with_reducible refine D.blk ?_);refine AW.block ?_)|refine K.sq (AW.regL ?_)|refine AW.regL ?_|refine AW.condF U ?_)|with_reducible refine K.tN ?_|with_reducible refine K.bN ?_)
     refine⟨_,[(0,.ptr 0 0),(3,.ptr 1 0),(4,.ptr 2 0)],[(0,.var ((Dk.fm 1 (dd.next 4).2.ctx.2 (dd.next 4).2.ctx.1).2).cells),(1,.var rc),(2,.var zFm),(3,.gone)],rfl,hfr _ (YMs.free (s:=False) (ym_dats _ (view_isD .fm ((Dk.fm 1 (dd.next 4).2.ctx.2 (dd.next 4).2.ctx.1).1)))),AF.Cnv.get ⟨⟨_,rfl,.inl rfl⟩,⟨_,rfl,.inl rfl⟩,⟨_,rfl,.inl rfl⟩,trivial⟩,Es.Cnv.get ⟨⟨_,rfl,.same (fun _=> .inl rfl) _⟩,⟨_,rfl,.same (fun _=> .inl rfl) _⟩,⟨_,rfl,.same (fun _=> .inl rfl) _⟩,⟨_,rfl,trivial⟩,trivial⟩,rfl,fun hne=> ?_⟩
     obtain⟨X,yX,w1,w2,w3⟩:=wand _ _ [] ((Dk.fm 1 (dd.next 4).2.ctx.2 (dd.next 4).2.ctx.1).1) (EC.view_len .fm _) (ym_dats (Fm.view ((Dk.fm 1 (dd.next 4).2.ctx.2 (dd.next 4).2.ctx.1).1)) (view_isD .fm _)) (er_dats (Fm.view ((Dk.fm 1 (dd.next 4).2.ctx.2 (dd.next 4).2.ctx.1).1)) (view_isD .fm _))
     exact(fin_w (c:= .fm) (X:=X) w1 w2 (fun p h=>by have:=w3.mem_iff.1 h;rw[List.nil_append] at this;exact List.mem_cons.2 ((List.mem_cons.1 this).imp id (fun h=>List.mem_append_right _ h))) (hndc _ _) (fun _=>rfl) (fun _=>rfl) rfl rfl rfl rfl rfl rfl rfl).mono fun a σ y h=>⟨rfl,h⟩
    ·rintro e a σ y' ⟨rfl,rfl,rfl,rfl⟩
     refine K.yT (BW.seq (.of (AW.regL ?_)))
     repeat'(first|((with_reducible refine D.nil ?_);refine AX.nilL ?_)|((with_reducible refine D.load ?_);refine L.ldb U U U U U U ?_)|((with_reducible refine D.store ?_);refine L.st U U U U U U U U U ?_))
     refine K.yT (BW.ret ⟨rfl,?_⟩)
     (exact K.n2 [some 0] U U U U U (by(repeat'(first|exact trivial|refine And.intro ?_ ?_|refine⟨_,U,_,U,_,U,?_⟩|exact VLe.refl _));done) U (by simp[tupV,V.wk,V.wks,constV,Ty.view,Tm.view,Fm.kind_mk,Fm.view,zFm]))
abbrev mE(ho:Int)(s:MSt):Es:=[(0,.var [.i ho,.mp 1,.bool s.2]),(1,.map .tm (s.1.map (·.1)) (s.1.map (·.2)))]
end Go.Ab
