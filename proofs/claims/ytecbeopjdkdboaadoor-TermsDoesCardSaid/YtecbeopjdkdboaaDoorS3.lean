/- A part of the proofs of this seat's statements: S168. It has no conditions of its own. -/
import Derived.Test.YtecbeopjdkdboaaDoorS1
import Derived.Test.YtecbeopjdkdboaaDoorS2
import Derived.Test.YtecbeopjdkdboaaDoorA3
import Derived.Test.YtecbeopjdkdboaaDoorD1
namespace Go.Ab
open Go Go.Proofs
set_option maxRecDepth 100000
set_option maxHeartbeats 4000000
set_option linter.all false
structure BI (c:EC) where
 n:Nat
 d:Dk
 F:c.sem→c.sem
 s:c.sem
 o:Option (Nat×Nat×List V×Ys)
def BI.ok{c:EC}(K:RK c)(W:(c.sem→c.sem)×c.sem×Dk)(y:Ys)(rc:List V)(r0:c.sem)(i:BI c):Prop:=
 K.walk i.n i.d i.F i.s=W∧i.d.ok∧K.sz i.s≤i.n∧K.sz i.s≤K.sz r0∧
  (match i.o with
  |none=>i.s=r0∧i.F=fun x=>x
  |some q=>Foc K y rc i.F q.1 q.2.1 i.s q.2.2.1 q.2.2.2)
def BI.x(o:Option (Nat×Nat×List V×Ys))(r:V):V:=match o with|none=>r|some q=> .rp q.1 q.2.1
theorem YM.sl{s:Prop}{c:EC}{n:Nat}{cells:List Yn}{sv:Value}{y:Ys}(h:YM s (.row c n cells) (.raw sv) y):∃ad cap,sv= .slice ad n cap:=by
 cases h with
 |nil=>exact⟨none,0,rfl⟩
 |row _ _ _ b room cap cs2 ys hroom hcap hn0 hl h5=>exact⟨_,cap,rfl⟩
theorem RK.walk_stop{c:EC}(K:RK c){n:Nat}{d:Dk}{F:c.sem→c.sem}{s:c.sem}(h:(K.args s).length=0):K.walk n d F s=(F,s,d):=by
 cases n with
 |zero=>rfl
 |succ n=>simp only[RK.walk];rw[if_pos h]
theorem RK.walk_here{c:EC}(K:RK c){n:Nat}{d:Dk}{F:c.sem→c.sem}{s:c.sem}(h:¬(K.args s).length=0)(h2:¬0<(d.next 3).1):K.walk (n+1) d F s=(F,s,(d.next 3).2):=by
 simp only[RK.walk];rw[if_neg h,if_neg h2]
theorem RK.walk_on{c:EC}(K:RK c){n:Nat}{d:Dk}{F:c.sem→c.sem}{s:c.sem}(h:¬(K.args s).length=0)(h2:0<(d.next 3).1){k:Nat}(hk:k<(K.args s).length)(e:((d.next 3).2.next ((K.args s).length:Int)).1=(k:Int)):
 K.walk (n+1) d F s=K.walk n ((d.next 3).2.next ((K.args s).length:Int)).2 (fun x=>F (K.at_ s k x)) ((K.args s)[k]):=by
 have e2:((d.next 3).2.next ((K.args s).length:Int)).1.toNat=k:=by rw[e];rfl
 simp only[RK.walk];rw[if_neg h,if_pos h2,dif_pos (by rw[e2];exact hk)]
 simp only[e2]
theorem AC.y{E:Env}{f:FuncId}{args:List V}{σ σ':Sto}{r:V}(y:Ys)(h:AC E f args σ r σ'):AC (E.y y) f args σ r σ':=h
def bentB(w:(Tm→Tm)×Tm×Dk):Tm×Dk:=
 let e:=w.2.2.next 5
 if e.1=0 then(w.1 (.mk (e.2.next 15).1 w.2.1.index w.2.1.ty w.2.1.args),(e.2.next 15).2)
 else if e.1=1 then(w.1 (.mk w.2.1.kind ((e.2.next 5).1-1) w.2.1.ty w.2.1.args),(e.2.next 5).2)
 else if e.1=2 then(w.1 (.mk w.2.1.kind w.2.1.index (e.2.type 1).1 w.2.1.args),(e.2.type 1).2)
 else if e.1=3 then(w.1 (.mk w.2.1.kind w.2.1.index w.2.1.ty (w.2.1.args++[vT 0])),e.2)
 else(w.1 (Dk.tm 3 (e.2.type 1).2 [] (e.2.type 1).1).1,(Dk.tm 3 (e.2.type 1).2 [] (e.2.type 1).1).2)
def bentT(d:Dk)(t:Tm):Tm×Dk:=bentB (tmK.walk t.full d (fun x=>x) t)
abbrev zTm:List V:=[.i 0,.i 0,.i 0,.slice .nil (.t .ty []),.slice .nil (.t .tm [])]
theorem nd_cons{y:Ys}{b room:Nat}{cs:List V}(h:(y.map Prod.fst).Nodup)(hb:∀p∈y,p.1≠b):(((b,room,cs)::y:Ys).map Prod.fst).Nodup:=by
 rw[List.map_cons,List.nodup_cons]
 refine⟨fun h=> ?_,h⟩
 obtain⟨p,hp,e⟩:=List.mem_map.1 h
 exact hb p hp e
theorem er_app(s:Tm):Ers (([.i s.kind,.i s.index,.i s.ty.kind,.s .ty s.ty.args]:List V).map Yn.dat++[.row .tm (s.args.length+1) (Tm.yns s.args++[.dat (.i 1),.dat (.i 0),.dat (.i 0),.dat (.s .ty []),.dat (.s .tm [])])]) (Tm.view (.mk s.kind s.index s.ty (s.args++[vT 0]))):=by
 refine .cons (.dat _ rfl) (.cons (.dat _ rfl) (.cons (.dat _ rfl) (.cons (.dat _ rfl) (.cons (.row .tm _ _ (s.args++[vT 0]) (by simp) ?_) .nil))))
 rw[List.flatMap_append]
 exact(Tm.ers s.args).app (er_dats [.i 1,.i 0,.i 0,.s .ty [],.s .tm []] rfl)
theorem er_app0(s:Tm)(h:s.args.length=0):Ers (([.i s.kind,.i s.index,.i s.ty.kind,.s .ty s.ty.args]:List V).map Yn.dat++[.row .tm 1 [.dat (.i 1),.dat (.i 0),.dat (.i 0),.dat (.s .ty []),.dat (.s .tm [])]]) (Tm.view (.mk s.kind s.index s.ty (s.args++[vT 0]))):=by
 have h1:=er_app s
 have h2:Tm.yns s.args=[]:=by rw[List.eq_nil_of_length_eq_zero h];rfl
 rw[h2,h] at h1
 exact h1
theorem bentTm_c(d:Dk)(hd:d.ok)(t:Tm)(ht:t.full<1000000):AC E 12 [.ptr 0 0,.agg t.view] ⟨1,[(0,.var d.cells)]⟩ (.agg (bentT d t).1.view) ⟨1,[(0,.var (bentT d t).2.cells)]⟩:=by
 refine AC.mk Tryd.func12 rfl rfl rfl rfl rfl (Nat.le_of_ble_eq_true rfl) ?_
 refine AW.ofB rfl ?_
 refine BW.seq (.of (AW.regL ?_))
 repeat'(first|((with_reducible refine D.nil ?_);refine AX.nilL ?_)|((with_reducible refine D.box ?_);refine L.bx U U U U ?_)|((with_reducible refine D.alloc ?_);refine L.al U U U ?_))
 refine K.yT (BW.seq (BW.regY (l1:=[_]) _ _ (copyTmY _ t (Nat.le_refl _) (by omega)) rfl ?_))
 repeat'(first|((with_reducible refine D.nil ?_);refine AX.nilL ?_)|((with_reducible refine D.load ?_);refine L.ldb U U U U U U ?_))
 refine⟨rfl,⟨_,_,U,U,(by(repeat'(first|exact VLe.refl _|exact VLe.any _ _|refine VLe.agg ?_|exact trivial|refine And.intro ?_ ?_));done),trivial⟩,?_⟩
 rintro r y ⟨hnd,vs,yt,rfl,hvs,hpm⟩ -
 rw[List.append_nil]
 obtain⟨sv,rfl,hsv⟩:=hvs.tm
 have hrt:=YMs.ofTm hsv
 repeat'(first|((with_reducible refine D.nil ?_);refine AX.nilL ?_)|((with_reducible refine D.store ?_);refine L.st U U U U U U U U U ?_))
 refine⟨rfl,K.yT (BW.seq (.of (AW.regL ?_)))⟩
 repeat'(first|((with_reducible refine D.nil ?_);refine AX.nilL ?_)|((with_reducible refine D.assign ?_);refine L.asg U U U ?_))
 refine K.yT ?_
 obtain⟨rc,hrc⟩:∃rc:List V,rc=[.i t.kind,.i t.index,.i t.ty.kind,.s .ty t.ty.args,.raw sv]:=⟨_,rfl⟩
 obtain⟨W,hW⟩:∃W,W=tmK.walk t.full d (fun x=>x) t:=⟨_,rfl⟩
 let JJ:Dk→Option (Nat×Nat×List V×Ys)→AF×Sto:=fun d o=>([(0,.ptr 0 0),(3,.ptr 1 0),(4,.ptr 2 0),(5,BI.x o (.ptr 1 0))],⟨3,[(0,.var d.cells),(1,.var rc),(2,.var [.i 0,.i 0,.i 0,.slice .nil (.t .ty []),.slice .nil (.t .tm [])])]⟩)
 refine BW.seq (BW.mono (Q:=fun e a σ y'=>e= .normal∧y'=y∧∃F s dd o,W=(F,s,dd)∧dd.ok∧tmK.sz s≤tmK.sz t∧(match o with
  |none=>s=t∧F=fun x=>x
  |some q=>Foc tmK y rc F q.1 q.2.1 s q.2.2.1 q.2.2.2)∧Weak E Tryd.f12.ntmps 1 a σ (JJ dd o).1 (JJ dd o).2) (.of (AW.block (AW.loop (ι:={i:BI .tm // i.ok tmK W y rc t}) (fun i=>JJ i.1.d i.1.o) (fun i=>i.1.n)
  ⟨⟨t.full,d,fun x=>x,t,none⟩,hW.symm,hd,Nat.le_refl _,Nat.le_refl _,rfl,rfl⟩ ?_ ?_))) ?_)
 ·subst hrc
  exact(Weak.mk [some 0,some 1,some 2] _ _ _ U U U U (by(repeat'(first|exact trivial|refine And.intro ?_ ?_|refine⟨_,U,_,U,?_⟩|exact VLe.refl _));done) (by(repeat'(first|exact trivial|refine And.intro ?_ ?_|refine⟨_,U,_,U,_,U,?_⟩|exact VLe.refl _));done))
 ·rintro ⟨⟨n,d',F,s,o⟩,h1,h2,h3,h4,h5⟩
  dsimp only at h1 h2 h3 h4 h5
  have hn3:=(next_c d' 3 h2 (by omega)).y y
  have hb3:=Dk.next_bd d' 3 (by omega)
  have h23:=Dk.next_ok h2 3
  have hfl:s.args.length≤s.full:=by have:=lsum_len Tm.full Tm.full_pos s.args;have:=Tm.full_eq s;omega
  have hfs:tmK.sz s=s.full:=rfl
  have hft:tmK.sz t=t.full:=rfl
  have hnl:=(next_c (d'.next 3).2 (s.args.length:Int) h23 (by omega)).y y
  have hak:tmK.args s=s.args:=rfl
  show AW (E.y y) _ _ _ [(0,.ptr 0 0),(3,.ptr 1 0),(4,.ptr 2 0),(5,BI.x o (.ptr 1 0))] ⟨3,[(0,.var d'.cells),(1,.var rc),(2,.var [.i 0,.i 0,.i 0,.slice .nil (.t .ty []),.slice .nil (.t .tm [])])]⟩ _
  cases o with
  |none=>
   obtain⟨rfl,rfl⟩:=h5
   obtain⟨ad,cap,rfl⟩:=hsv.sl
   subst hrc
   by_cases e0:s.args.length=0
   ·have hw:=tmK.walk_stop (n:=n) (d:=d') (F:=fun x=>x) (s:=s) e0
    repeat'(first|((with_reducible refine D.nil ?_);refine AX.nilL ?_)|((with_reducible refine D.load ?_);refine L.ldb U U U U U U ?_)|((with_reducible refine D.move ?_);first|refine L.mv U U U ?_|refine AX.sk U U ?_|((fail_if_success refine AX.wt U ?_);refine AX.gs U U (fun _=>trivial) (fun h=> ?_) (fun h=> ?_)))|((with_reducible refine D.fieldAddr ?_);refine L.fab U U U U U ?_)|((with_reducible refine D.bin ?_);first|refine L.bn U U U U U ?_|refine AX.sk U U ?_)|((with_reducible refine D.call ?_);first|refine L.yz U U U U ?_|refine AX.sk U U ?_)|((with_reducible refine D.pick ?_);refine L.pk U U U U ?_)|((with_reducible refine D.ax ?_);refine L.nc U U U U ?_)|((with_reducible refine D.aw ?_);first|refine K.sq (K.sq ?_)|refine AW.regL ?_|refine AW.condF U ?_|refine AW.exit ?_)|with_reducible refine K.tN ?_|with_reducible refine K.tE ?_|with_reducible refine K.bX (by with_unfolding_all rfl) ?_|with_reducible refine K.lE ?_)
    ·exact absurd h (by simp[e0])
    ·exact ⟨rfl,U,_,s,d',none,h1.symm.trans hw,h2,h4,⟨rfl,rfl⟩,(Weak.mk [some 0,some 1,some 2] _ _ _ U U U U (by(repeat'(first|exact trivial|refine And.intro ?_ ?_|refine⟨_,U,_,U,?_⟩|exact VLe.refl _));done) (by(repeat'(first|exact trivial|refine And.intro ?_ ?_|refine⟨_,U,_,U,_,U,?_⟩|exact VLe.refl _));done))⟩
   ·by_cases e3:0<(d'.next 3).1
    ·obtain ⟨hb1,hb2⟩:=Dk.next_bd (d'.next 3).2 (s.args.length:Int) (by omega)
     obtain⟨k,hk⟩:=Int.eq_ofNat_of_zero_le hb1
     have hkl:k<s.args.length:=by omega
     obtain⟨cs0,b,cap',csL,yL,hc1,hc2,hfoc⟩:=Foc.first (KD:=tmK) hrt hpm hkl
     have hlast:=congrArg List.getLast? hc1
     simp only[List.getLast?_append,List.getLast?_singleton,List.getLast?_cons_cons,Option.some_or] at hlast
     injection hlast with hlast
     injection hlast with hlast
     injection hlast with hl1 hl2 hl3
     subst hl1;subst hl3
     obtain⟨n,rfl⟩:∃n',n=n'+1:=⟨n-1,by have:=s.full_pos;omega⟩
     have hw:=tmK.walk_on (n:=n) (d:=d') (F:=fun x=>x) (s:=s) e0 e3 hkl hk
     have hlt:=tmK.sz_lt s s.args[k] (List.getElem_mem hkl)
     repeat'(first|((with_reducible refine D.nil ?_);refine AX.nilL ?_)|((with_reducible refine D.load ?_);refine L.ldb U U U U U U ?_)|((with_reducible refine D.move ?_);first|refine L.mv U U U ?_|refine AX.sk U U ?_|((fail_if_success refine AX.wt U ?_);refine AX.gs U U (fun _=>trivial) (fun h=> ?_) (fun h=> ?_)))|((with_reducible refine D.fieldAddr ?_);refine L.fab U U U U U ?_)|((with_reducible refine D.bin ?_);first|refine L.bn U U U U U ?_|refine AX.sk U U ?_)|((with_reducible refine D.call ?_);first|refine L.yz U U U U ?_|(apply L.cb2 (hn3) [0] 0 rfl;rfl;rfl;rfl;rfl;rfl;rfl;(focus((repeat'(first|exact trivial|refine And.intro ?_ ?_|refine⟨_,U,_,U,_,U,?_⟩|exact VLe.refl _));done));rfl;rfl;rfl;rfl)|refine AX.sk U U ?_)|((with_reducible refine D.pick ?_);refine L.pk U U U U ?_)|((with_reducible refine D.ax ?_);refine L.nc U U U U ?_)|((with_reducible refine D.aw ?_);first|refine K.sq (K.sq ?_)|refine AW.regL ?_|refine AW.condF U ?_|refine AW.condS U (fun h=> ?_) (fun h=> ?_)|refine AW.skip ?_|refine AW.exit ?_)|with_reducible refine K.tN ?_|with_reducible refine K.tE ?_|with_reducible refine K.bX (by with_unfolding_all rfl) ?_|with_reducible refine K.lE ?_)
     ·refine AW.block (AW.regD mixed (by kernel_rfl) ?_)
      repeat'(first|((with_reducible refine D.nil ?_);refine AX.nilD (by kernel_rfl) ?_)|((with_reducible refine D.load ?_);refine L.ldb U U U U U U ?_)|((with_reducible refine D.move ?_);refine L.mv U U U ?_)|((with_reducible refine D.fieldAddr ?_);refine L.fab U U U U U ?_)|((with_reducible refine D.assign ?_);refine L.asg U U U ?_)|((with_reducible refine D.call ?_);first|refine L.yz U U U U ?_|(apply L.cb2 (hnl) [0] 0 rfl;rfl;rfl;rfl;rfl;rfl;rfl;(focus((repeat'(first|exact trivial|refine And.intro ?_ ?_|refine⟨_,U,_,U,_,U,?_⟩|exact VLe.refl _));done));rfl;rfl;rfl;rfl))|((with_reducible refine D.indexAddr ?_);refine L.yi k U U U U hk hkl U ?_)|((with_reducible refine D.ax ?_);refine L.nc U U U U ?_)|with_reducible refine K.bN ?_)
      exact⟨⟨⟨n,((d'.next 3).2.next (s.args.length:Int)).2,_,s.args[k],some (b,k*5,csL,yL)⟩,hw.symm.trans h1,Dk.next_ok h23 _,by dsimp only;omega,by dsimp only;omega,hfoc⟩,Nat.lt_succ_self n,(Weak.mk [some 0,some 1,some 2] _ _ _ U U U U (by(repeat'(first|exact trivial|refine And.intro ?_ ?_|refine⟨_,U,_,U,?_⟩|exact VLe.refl _));done) (by(repeat'(first|exact trivial|refine And.intro ?_ ?_|refine⟨_,U,_,U,_,U,?_⟩|exact VLe.refl _));done))⟩
     ·exact absurd h (by simp[e3])
     ·exact absurd (of_decide_eq_false h) (by omega)
    ·obtain ⟨n,rfl⟩:∃n',n=n'+1:=⟨n-1,by have:=s.full_pos;omega⟩
     repeat'(first|((with_reducible refine D.nil ?_);refine AX.nilL ?_)|((with_reducible refine D.load ?_);refine L.ldb U U U U U U ?_)|((with_reducible refine D.move ?_);first|refine L.mv U U U ?_|refine AX.sk U U ?_|((fail_if_success refine AX.wt U ?_);refine AX.gs U U (fun _=>trivial) (fun h=> ?_) (fun h=> ?_)))|((with_reducible refine D.fieldAddr ?_);refine L.fab U U U U U ?_)|((with_reducible refine D.bin ?_);first|refine L.bn U U U U U ?_|refine AX.sk U U ?_)|((with_reducible refine D.call ?_);first|refine L.yz U U U U ?_|(apply L.cb2 (hn3) [0] 0 rfl;rfl;rfl;rfl;rfl;rfl;rfl;(focus((repeat'(first|exact trivial|refine And.intro ?_ ?_|refine⟨_,U,_,U,_,U,?_⟩|exact VLe.refl _));done));rfl;rfl;rfl;rfl)|refine AX.sk U U ?_)|((with_reducible refine D.pick ?_);refine L.pk U U U U ?_)|((with_reducible refine D.ax ?_);refine L.nc U U U U ?_)|((with_reducible refine D.aw ?_);first|refine K.sq (K.sq ?_)|refine AW.regL ?_|refine AW.condF U ?_|refine AW.condS U (fun h=> ?_) (fun h=> ?_)|refine AW.skip ?_|refine AW.exit ?_)|with_reducible refine K.tN ?_|with_reducible refine K.tE ?_|with_reducible refine K.bX (by with_unfolding_all rfl) ?_|with_reducible refine K.lE ?_)
     ·exact absurd (of_decide_eq_true h) (by omega)
     ·exact ⟨rfl,U,_,s,(d'.next 3).2,none,h1.symm.trans (tmK.walk_here (s:=s) e0 e3),h23,h4,⟨rfl,rfl⟩,(Weak.mk [some 0,some 1,some 2] _ _ _ U U U U (by(repeat'(first|exact trivial|refine And.intro ?_ ?_|refine⟨_,U,_,U,?_⟩|exact VLe.refl _));done) (by(repeat'(first|exact trivial|refine And.intro ?_ ?_|refine⟨_,U,_,U,_,U,?_⟩|exact VLe.refl _));done))⟩
     ·exact absurd (of_decide_eq_false h) (by omega)
  |some q=>
   obtain⟨b0,off,csL0,yL0⟩:=q
   subst hrc
   dsimp only at h5
   have h5':=h5
   obtain⟨capF,csA,csB,yc,lA,lL,hyl,hper,hfr,wand⟩:=h5'
   have hmem:(b0,capF*EC.tm.cells,csA++csL0++csB)∈y:=hper.mem_iff.2 (by simp)
   obtain⟨sv0,rfl,hsv0⟩:=YMs.tm hyl
   obtain⟨ad0,cap0,rfl⟩:=hsv0.sl
   by_cases e0:s.args.length=0
   ·have hw:=tmK.walk_stop (n:=n) (d:=d') (F:=F) (s:=s) e0
    repeat'(first|((with_reducible refine D.nil ?_);refine AX.nilL ?_)|((with_reducible refine D.load ?_);refine L.ylm 4 U U U hmem lA U U U ?_)|((with_reducible refine D.move ?_);first|refine L.mv U U U ?_|refine AX.sk U U ?_|((fail_if_success refine AX.wt U ?_);refine AX.gs U U (fun _=>trivial) (fun h=> ?_) (fun h=> ?_)))|((with_reducible refine D.fieldAddr ?_);refine L.yf U U U U U ?_)|((with_reducible refine D.bin ?_);first|refine L.bn U U U U U ?_|refine AX.sk U U ?_)|((with_reducible refine D.call ?_);first|refine L.yz U U U U ?_|refine AX.sk U U ?_)|((with_reducible refine D.pick ?_);refine L.pk U U U U ?_)|((with_reducible refine D.ax ?_);refine L.yn U U U ?_)|((with_reducible refine D.aw ?_);first|refine K.sq (K.sq ?_)|refine AW.regL ?_|refine AW.condF U ?_|refine AW.exit ?_)|with_reducible refine K.tN ?_|with_reducible refine K.tE ?_|with_reducible refine K.bX (by with_unfolding_all rfl) ?_|with_reducible refine K.lE ?_)
    ·exact absurd h (by simp[e0])
    ·exact ⟨rfl,U,_,s,d',some _,h1.symm.trans hw,h2,h4,h5,(Weak.mk [some 0,some 1,some 2] _ _ _ U U U U (by(repeat'(first|exact trivial|refine And.intro ?_ ?_|refine⟨_,U,_,U,?_⟩|exact VLe.refl _));done) (by(repeat'(first|exact trivial|refine And.intro ?_ ?_|refine⟨_,U,_,U,_,U,?_⟩|exact VLe.refl _));done))⟩
   ·by_cases e3:0<(d'.next 3).1
    ·obtain ⟨hb1,hb2⟩:=Dk.next_bd (d'.next 3).2 (s.args.length:Int) (by omega)
     obtain⟨k,hk⟩:=Int.eq_ofNat_of_zero_le hb1
     have hkl:k<s.args.length:=by omega
     obtain⟨cs0,b,cap',csL,yL,hc1,hc2,hfoc⟩:=Foc.next (KD:=tmK) h5 hkl
     have hlast:=congrArg List.getLast? hc1
     simp only[List.getLast?_append,List.getLast?_singleton,List.getLast?_cons_cons,Option.some_or] at hlast
     injection hlast with hlast
     injection hlast with hlast
     injection hlast with hl1 hl2 hl3
     subst hl1;subst hl3
     obtain⟨n,rfl⟩:∃n',n=n'+1:=⟨n-1,by have:=s.full_pos;omega⟩
     have hw:=tmK.walk_on (n:=n) (d:=d') (F:=F) (s:=s) e0 e3 hkl hk
     have hlt:=tmK.sz_lt s s.args[k] (List.getElem_mem hkl)
     repeat'(first|((with_reducible refine D.nil ?_);refine AX.nilL ?_)|((with_reducible refine D.load ?_);refine L.ylm 4 U U U hmem lA U U U ?_)|((with_reducible refine D.move ?_);first|refine L.mv U U U ?_|refine AX.sk U U ?_|((fail_if_success refine AX.wt U ?_);refine AX.gs U U (fun _=>trivial) (fun h=> ?_) (fun h=> ?_)))|((with_reducible refine D.fieldAddr ?_);refine L.yf U U U U U ?_)|((with_reducible refine D.bin ?_);first|refine L.bn U U U U U ?_|refine AX.sk U U ?_)|((with_reducible refine D.call ?_);first|refine L.yz U U U U ?_|(apply L.cb2 (hn3) [0] 0 rfl;rfl;rfl;rfl;rfl;rfl;rfl;(focus((repeat'(first|exact trivial|refine And.intro ?_ ?_|refine⟨_,U,_,U,_,U,?_⟩|exact VLe.refl _));done));rfl;rfl;rfl;rfl)|refine AX.sk U U ?_)|((with_reducible refine D.pick ?_);refine L.pk U U U U ?_)|((with_reducible refine D.ax ?_);refine L.yn U U U ?_)|((with_reducible refine D.aw ?_);first|refine K.sq (K.sq ?_)|refine AW.regL ?_|refine AW.condF U ?_|refine AW.condS U (fun h=> ?_) (fun h=> ?_)|refine AW.skip ?_|refine AW.exit ?_)|with_reducible refine K.tN ?_|with_reducible refine K.tE ?_|with_reducible refine K.bX (by with_unfolding_all rfl) ?_|with_reducible refine K.lE ?_)
     ·refine AW.block (AW.regD mixed (by kernel_rfl) ?_)
      repeat'(first|((with_reducible refine D.nil ?_);refine AX.nilD (by kernel_rfl) ?_)|((with_reducible refine D.load ?_);refine L.ylm 4 U U U hmem lA U U U ?_)|((with_reducible refine D.move ?_);refine L.mv U U U ?_)|((with_reducible refine D.fieldAddr ?_);refine L.yf U U U U U ?_)|((with_reducible refine D.assign ?_);refine L.asg U U U ?_)|((with_reducible refine D.call ?_);first|refine L.yz U U U U ?_|(apply L.cb2 (hnl) [0] 0 rfl;rfl;rfl;rfl;rfl;rfl;rfl;(focus((repeat'(first|exact trivial|refine And.intro ?_ ?_|refine⟨_,U,_,U,_,U,?_⟩|exact VLe.refl _));done));rfl;rfl;rfl;rfl))|((with_reducible refine D.indexAddr ?_);refine L.yi k U U U U hk hkl U ?_)|((with_reducible refine D.ax ?_);refine L.yn U U U ?_)|with_reducible refine K.bN ?_)
      exact⟨⟨⟨n,((d'.next 3).2.next (s.args.length:Int)).2,_,s.args[k],some (b,k*5,csL,yL)⟩,hw.symm.trans h1,Dk.next_ok h23 _,by dsimp only;omega,by dsimp only;omega,hfoc⟩,Nat.lt_succ_self n,(Weak.mk [some 0,some 1,some 2] _ _ _ U U U U (by(repeat'(first|exact trivial|refine And.intro ?_ ?_|refine⟨_,U,_,U,?_⟩|exact VLe.refl _));done) (by(repeat'(first|exact trivial|refine And.intro ?_ ?_|refine⟨_,U,_,U,_,U,?_⟩|exact VLe.refl _));done))⟩
     ·exact absurd h (by simp[e3])
     ·exact absurd (of_decide_eq_false h) (by omega)
    ·obtain ⟨n,rfl⟩:∃n',n=n'+1:=⟨n-1,by have:=s.full_pos;omega⟩
     repeat'(first|((with_reducible refine D.nil ?_);refine AX.nilL ?_)|((with_reducible refine D.load ?_);refine L.ylm 4 U U U hmem lA U U U ?_)|((with_reducible refine D.move ?_);first|refine L.mv U U U ?_|refine AX.sk U U ?_|((fail_if_success refine AX.wt U ?_);refine AX.gs U U (fun _=>trivial) (fun h=> ?_) (fun h=> ?_)))|((with_reducible refine D.fieldAddr ?_);refine L.yf U U U U U ?_)|((with_reducible refine D.bin ?_);first|refine L.bn U U U U U ?_|refine AX.sk U U ?_)|((with_reducible refine D.call ?_);first|refine L.yz U U U U ?_|(apply L.cb2 (hn3) [0] 0 rfl;rfl;rfl;rfl;rfl;rfl;rfl;(focus((repeat'(first|exact trivial|refine And.intro ?_ ?_|refine⟨_,U,_,U,_,U,?_⟩|exact VLe.refl _));done));rfl;rfl;rfl;rfl)|refine AX.sk U U ?_)|((with_reducible refine D.pick ?_);refine L.pk U U U U ?_)|((with_reducible refine D.ax ?_);refine L.yn U U U ?_)|((with_reducible refine D.aw ?_);first|refine K.sq (K.sq ?_)|refine AW.regL ?_|refine AW.condF U ?_|refine AW.condS U (fun h=> ?_) (fun h=> ?_)|refine AW.skip ?_|refine AW.exit ?_)|with_reducible refine K.tN ?_|with_reducible refine K.tE ?_|with_reducible refine K.bX (by with_unfolding_all rfl) ?_|with_reducible refine K.lE ?_)
     ·exact absurd (of_decide_eq_true h) (by omega)
     ·exact ⟨rfl,U,_,s,(d'.next 3).2,some _,h1.symm.trans (tmK.walk_here (s:=s) e0 e3),h23,h4,h5,(Weak.mk [some 0,some 1,some 2] _ _ _ U U U U (by(repeat'(first|exact trivial|refine And.intro ?_ ?_|refine⟨_,U,_,U,?_⟩|exact VLe.refl _));done) (by(repeat'(first|exact trivial|refine And.intro ?_ ?_|refine⟨_,U,_,U,_,U,?_⟩|exact VLe.refl _));done))⟩
     ·exact absurd (of_decide_eq_false h) (by omega)
 ·rintro e a σ y' ⟨rfl,hyy,F,s,dd,o,hWe,hdd,hss,ho,hwk⟩
  obtain rfl:y=y':=hyy.symm
  refine K.yT (BW.weakW hwk ?_)
  have hn5:=next_c dd 5 hdd (by omega)
  have hb5:=Dk.next_bd dd 5 (by omega)
  have h5:=Dk.next_ok hdd 5
  have hbe:bentT d t=bentB (F,s,dd):=by unfold bentT;rw[←hW,hWe]
  obtain⟨v,hv⟩:∃v,v=(dd.next 5).1:=⟨_,rfl⟩
  rw[←hv] at hn5 hb5
  have hv5:v=0∨v=1∨v=2∨v=3∨v=4:=by omega
  have hty:=type1_c (dd.next 5).2 h5
  have hty:=type1_c (dd.next 5).2 h5
  have hty:=type1_c (dd.next 5).2 h5
  have hty:=type1_c (dd.next 5).2 h5
  have hty:=type1_c (dd.next 5).2 h5
  have hty:=type1_c (dd.next 5).2 h5
  have hty:=type1_c (dd.next 5).2 h5
  have h15:=next_c (dd.next 5).2 15 h5 (by omega)
  have h55:=next_c (dd.next 5).2 5 h5 (by omega)
  have hb55:=Dk.next_bd (dd.next 5).2 5 (by omega)
  have hvr:=var_c 0
  have hfl:s.args.length<1000000000:=by
   have h1:s.full≤t.full:=hss
   have:=lsum_len Tm.full Tm.full_pos s.args
   have:=Tm.full_eq s
   omega
  cases o with
  |none=>
   obtain⟨rfl,rfl⟩:=ho
   subst hrc
   have hn5y:=hn5.y y
   have h15:=h15.y y
   have h55:=h55.y y
   have hty:=hty.y y
   show BW E _ _ _ [(0,.ptr 0 0),(3,.ptr 1 0),(4,.ptr 2 0),(5,.ptr 1 0)] ⟨3,[(0,.var dd.cells),(1,.var [.i s.kind,.i s.index,.i s.ty.kind,.s .ty s.ty.args,.raw sv]),(2,.var [.i 0,.i 0,.i 0,.slice .nil (.t .ty []),.slice .nil (.t .tm [])])]⟩ y _
   rcases hv5 with rfl|rfl|rfl|rfl|rfl
   ·have hz:bentT d s=(.mk ((dd.next 5).2.next 15).1 s.index s.ty s.args,((dd.next 5).2.next 15).2):=by rw[hbe];simp[bentB,←hv]
    rw[hz]
    refine BW.seq (BW.mono (Q:=fun e a σ y=>e= .normal∧y=[]∧a=[(0,.ptr 0 0),(3,.ptr 1 0),(4,.ptr 2 0)]∧σ=⟨3,[(0,.var (((dd.next 5).2.next 15).2).cells),(1,.var (Tm.view (.mk ((dd.next 5).2.next 15).1 s.index s.ty s.args))),(2,.var [.i 0,.i 0,.i 0,.slice .nil (.t .ty []),.slice .nil (.t .tm [])])]⟩) (BW.after (.of ?_)) ?_)
    ·repeat' (first|((with_reducible refine D.nil ?_);refine AX.nilL ?_)|((with_reducible refine D.move ?_);refine L.mv U U U ?_)|((with_reducible refine D.fieldAddr ?_);refine L.fab U U U U U ?_)|((with_reducible refine D.assign ?_);refine L.asg U U U ?_)|((with_reducible refine D.bin ?_);refine L.bn U U U U U ?_)|((with_reducible refine D.call ?_);first|(apply L.cb2 (hn5y) [0] 0 rfl;rfl;rfl;rfl;rfl;rfl;rfl;(focus((repeat'(first|exact trivial|refine And.intro ?_ ?_|refine⟨_,U,_,U,_,U,?_⟩|exact VLe.refl _));done));rfl;rfl;rfl;rfl)|(apply L.cb2 (h15) [0] 0 rfl;rfl;rfl;rfl;rfl;rfl;rfl;(focus((repeat'(first|exact trivial|refine And.intro ?_ ?_|refine⟨_,U,_,U,_,U,?_⟩|exact VLe.refl _));done));rfl;rfl;rfl;rfl))|((with_reducible refine D.store ?_);refine L.st U U U U U U U U U ?_)|((with_reducible refine D.ax ?_);refine L.nc U U U U ?_)|((with_reducible refine D.aw ?_);first|((with_reducible refine D.blk ?_);refine AW.block ?_)|refine K.sq (AW.regL ?_)|refine AW.regL ?_|refine AW.condT U ?_)|with_reducible refine K.tN ?_|with_reducible refine K.bN ?_)
     exact(fin_w (c:= .tm) (X:=Tm.yn (.mk ((dd.next 5).2.next 15).1 s.index s.ty s.args)) (YMs.ofTm (hsv.weak fun h=>h.elim)) (Tm.er _) (fun p h=>hpm.mem_iff.1 h) hnd (fun _=>rfl) (fun _=>rfl) rfl rfl rfl rfl rfl rfl rfl).mono fun a σ y h=>⟨rfl,h⟩
    ·rintro e a σ y' ⟨rfl,rfl,rfl,rfl⟩
     refine K.yT (BW.seq (.of (AW.regL ?_)))
     repeat'(first|((with_reducible refine D.nil ?_);refine AX.nilL ?_)|((with_reducible refine D.load ?_);refine L.ldb U U U U U U ?_)|((with_reducible refine D.store ?_);refine L.st U U U U U U U U U ?_))
     refine K.yT (BW.ret ⟨rfl,?_⟩)
     (exact K.n2 [some 0] U U U U U (by(repeat'(first|exact trivial|refine And.intro ?_ ?_|refine⟨_,U,_,U,_,U,?_⟩|exact VLe.refl _));done) U (by simp[tupV,V.wk,V.wks,constV,Ty.view,Tm.view,Tm.kind_mk]))
   ·have hz:bentT d s=(.mk s.kind (((dd.next 5).2.next 5).1-1) s.ty s.args,((dd.next 5).2.next 5).2):=by rw[hbe];simp[bentB,←hv]
    rw[hz]
    refine BW.seq (BW.mono (Q:=fun e a σ y=>e= .normal∧y=[]∧a=[(0,.ptr 0 0),(3,.ptr 1 0),(4,.ptr 2 0)]∧σ=⟨3,[(0,.var (((dd.next 5).2.next 5).2).cells),(1,.var (Tm.view (.mk s.kind (((dd.next 5).2.next 5).1-1) s.ty s.args))),(2,.var [.i 0,.i 0,.i 0,.slice .nil (.t .ty []),.slice .nil (.t .tm [])])]⟩) (BW.after (.of ?_)) ?_)
    ·repeat' (first|((with_reducible refine D.nil ?_);refine AX.nilL ?_)|((with_reducible refine D.move ?_);refine L.mv U U U ?_)|((with_reducible refine D.fieldAddr ?_);refine L.fab U U U U U ?_)|((with_reducible refine D.assign ?_);refine L.asg U U U ?_)|((with_reducible refine D.bin ?_);first|refine L.sb U U U U (by omega) ?_|refine L.bn U U U U U ?_)|((with_reducible refine D.call ?_);first|(apply L.cb2 (hn5y) [0] 0 rfl;rfl;rfl;rfl;rfl;rfl;rfl;(focus((repeat'(first|exact trivial|refine And.intro ?_ ?_|refine⟨_,U,_,U,_,U,?_⟩|exact VLe.refl _));done));rfl;rfl;rfl;rfl)|(apply L.cb2 (h55) [0] 0 rfl;rfl;rfl;rfl;rfl;rfl;rfl;(focus((repeat'(first|exact trivial|refine And.intro ?_ ?_|refine⟨_,U,_,U,_,U,?_⟩|exact VLe.refl _));done));rfl;rfl;rfl;rfl))|((with_reducible refine D.store ?_);refine L.st U U U U U U U U U ?_)|((with_reducible refine D.ax ?_);refine L.nc U U U U ?_)|((with_reducible refine D.aw ?_);first|((with_reducible refine D.blk ?_);refine AW.block ?_)|refine K.sq (AW.regL ?_)|refine AW.regL ?_|refine AW.condT U ?_|refine AW.condF U ?_)|with_reducible refine K.tN ?_|with_reducible refine K.bN ?_)
     exact(fin_w (c:= .tm) (X:=Tm.yn (.mk s.kind (((dd.next 5).2.next 5).1-1) s.ty s.args)) (YMs.ofTm (hsv.weak fun h=>h.elim)) (Tm.er _) (fun p h=>hpm.mem_iff.1 h) hnd (fun _=>rfl) (fun _=>rfl) rfl rfl rfl rfl rfl rfl rfl).mono fun a σ y h=>⟨rfl,h⟩
    ·rintro e a σ y' ⟨rfl,rfl,rfl,rfl⟩
     refine K.yT (BW.seq (.of (AW.regL ?_)))
     repeat'(first|((with_reducible refine D.nil ?_);refine AX.nilL ?_)|((with_reducible refine D.load ?_);refine L.ldb U U U U U U ?_)|((with_reducible refine D.store ?_);refine L.st U U U U U U U U U ?_))
     refine K.yT (BW.ret ⟨rfl,?_⟩)
     (exact K.n2 [some 0] U U U U U (by(repeat'(first|exact trivial|refine And.intro ?_ ?_|refine⟨_,U,_,U,_,U,?_⟩|exact VLe.refl _));done) U (by simp[tupV,V.wk,V.wks,constV,Ty.view,Tm.view,Tm.kind_mk]))
   ·have hz:bentT d s=(.mk s.kind s.index ((dd.next 5).2.type 1).1 s.args,((dd.next 5).2.type 1).2):=by rw[hbe];simp[bentB,←hv]
    rw[hz]
    refine BW.seq (BW.mono (Q:=fun e a σ y=>e= .normal∧y=[]∧a=[(0,.ptr 0 0),(3,.ptr 1 0),(4,.ptr 2 0)]∧σ=⟨3,[(0,.var (((dd.next 5).2.type 1).2).cells),(1,.var (Tm.view (.mk s.kind s.index ((dd.next 5).2.type 1).1 s.args))),(2,.var [.i 0,.i 0,.i 0,.slice .nil (.t .ty []),.slice .nil (.t .tm [])])]⟩) (BW.after (.of ?_)) ?_)
    ·repeat' (first|((with_reducible refine D.nil ?_);refine AX.nilL ?_)|((with_reducible refine D.move ?_);refine L.mv U U U ?_)|((with_reducible refine D.fieldAddr ?_);refine L.fab U U U U U ?_)|((with_reducible refine D.assign ?_);refine L.asg U U U ?_)|((with_reducible refine D.bin ?_);refine L.bn U U U U U ?_)|((with_reducible refine D.call ?_);first|(apply L.cb2 (hn5y) [0] 0 rfl;rfl;rfl;rfl;rfl;rfl;rfl;(focus((repeat'(first|exact trivial|refine And.intro ?_ ?_|refine⟨_,U,_,U,_,U,?_⟩|exact VLe.refl _));done));rfl;rfl;rfl;rfl)|(apply L.cb2 (hty) [0] 0 rfl;rfl;rfl;rfl;rfl;rfl;rfl;(focus((repeat'(first|exact trivial|refine And.intro ?_ ?_|refine⟨_,U,_,U,_,U,?_⟩|exact VLe.refl _));done));rfl;rfl;rfl;rfl))|((with_reducible refine D.store ?_);refine L.st U U U U U U U U U ?_)|((with_reducible refine D.ax ?_);refine L.nc U U U U ?_)|((with_reducible refine D.aw ?_);first|((with_reducible refine D.blk ?_);refine AW.block ?_)|refine K.sq (AW.regL ?_)|refine AW.regL ?_|refine AW.condT U ?_|refine AW.condF U ?_)|with_reducible refine K.tN ?_|with_reducible refine K.bN ?_)
     exact(fin_w (c:= .tm) (X:=Tm.yn (.mk s.kind s.index ((dd.next 5).2.type 1).1 s.args)) (YMs.ofTm (hsv.weak fun h=>h.elim)) (Tm.er _) (fun p h=>hpm.mem_iff.1 h) hnd (fun _=>rfl) (fun _=>rfl) rfl rfl rfl rfl rfl rfl rfl).mono fun a σ y h=>⟨rfl,h⟩
    ·rintro e a σ y' ⟨rfl,rfl,rfl,rfl⟩
     refine K.yT (BW.seq (.of (AW.regL ?_)))
     repeat'(first|((with_reducible refine D.nil ?_);refine AX.nilL ?_)|((with_reducible refine D.load ?_);refine L.ldb U U U U U U ?_)|((with_reducible refine D.store ?_);refine L.st U U U U U U U U U ?_))
     refine K.yT (BW.ret ⟨rfl,?_⟩)
     (exact K.n2 [some 0] U U U U U (by(repeat'(first|exact trivial|refine And.intro ?_ ?_|refine⟨_,U,_,U,_,U,?_⟩|exact VLe.refl _));done) U (by simp[tupV,V.wk,V.wks,constV,Ty.view,Tm.view,Tm.kind_mk]))
   ·have hz:bentT d s=(.mk s.kind s.index s.ty (s.args++[vT 0]),(dd.next 5).2):=by rw[hbe];simp[bentB,←hv]
    rw[hz]
    refine BW.seq (BW.mono (Q:=fun e a σ y=>e= .normal∧y=[]∧a=[(0,.ptr 0 0),(3,.ptr 1 0),(4,.ptr 2 0)]∧σ=⟨3,[(0,.var ((dd.next 5).2).cells),(1,.var (Tm.view (.mk s.kind s.index s.ty (s.args++[vT 0])))),(2,.var [.i 0,.i 0,.i 0,.slice .nil (.t .ty []),.slice .nil (.t .tm [])])]⟩) (BW.after ?_) ?_)
    ·rcases Nat.eq_zero_or_pos s.args.length with e0|e0
     ·obtain ⟨rfl,rfl⟩:=hsv.nil_inv e0
      refine BW.weakW (a2:=[(0,.ptr 0 0),(3,.ptr 1 0),(4,.ptr 2 0),(5,.ptr 1 0)]) (σ2:=⟨3,[(0,.var dd.cells),(1,.var [.i s.kind,.i s.index,.i s.ty.kind,.s .ty s.ty.args,.slice .nil (.t .tm [])]),(2,.var [.i 0,.i 0,.i 0,.slice .nil (.t .ty []),.slice .nil (.t .tm [])])]⟩) (Weak.mk [some 0,some 1,some 2] _ _ _ U U U U (by repeat'(first|exact trivial|refine And.intro ?_ ?_|refine⟨_,U,_,U,?_⟩|exact VLe.refl _)) (by repeat'(first|exact trivial|refine And.intro ?_ ?_|refine⟨_,U,_,U,_,U,?_⟩|exact VLe.refl _|exact VLe.rawNil U))) (.of ?_)
      repeat'(first|((with_reducible refine D.nil ?_);first|refine AX.nilL ?_|refine AX.nilD (by kernel_rfl) ?_)|((with_reducible refine D.load ?_);refine L.ldb U U U U U U ?_)|((with_reducible refine D.move ?_);refine L.mv U U U ?_)|((with_reducible refine D.fieldAddr ?_);refine L.fab U U U U U ?_)|((with_reducible refine D.assign ?_);refine L.asg U U U ?_)|((with_reducible refine D.bin ?_);refine L.bn U U U U U ?_)|((with_reducible refine D.call ?_);first|refine L.yN U U U U U U U U U U (by omega) (by omega) ?_|refine L.lnt U U U U ?_|(apply L.cb2 (hn5y) [0] 0 rfl;rfl;rfl;rfl;rfl;rfl;rfl;(focus((repeat'(first|exact trivial|refine And.intro ?_ ?_|refine⟨_,U,_,U,_,U,?_⟩|exact VLe.refl _));done));rfl;rfl;rfl;rfl)|refine L.c2 (hvr) U U U U ?_)|((with_reducible refine D.store ?_);refine L.st U U U U U U U U U ?_)|((with_reducible refine D.indexAddr ?_);refine L.ixr 0 U U U U U (by omega) U ?_)|((with_reducible refine D.ax ?_);first|refine L.bsC zTm U U U U U U ?_|refine L.nc U U U U ?_)|((with_reducible refine D.aw ?_);first|((with_reducible refine D.blk ?_);refine AW.block ?_)|refine K.sq (AW.regL ?_)|refine AW.regD mixed (by kernel_rfl) ?_|refine AW.condT U ?_|refine AW.condF U ?_)|with_reducible refine K.tN ?_|with_reducible refine K.bN ?_)
      refine WeakB.trans (WeakB.giveA (n:=4) (len0:=1) (sz:=5) (cs:=[.i 1,.i 0,.i 0,.s .ty [],.s .tm []]) rfl (YMs.free (s:=False) (ym_dats _ rfl)) (.inr ⟨1,_,4,rfl,rfl⟩) (fun b cap=>[(0,.ptr 0 0),(3,.ptr 1 0),(4,.ptr 2 0)]) (fun b cap=>[(0,.var ((dd.next 5).2).cells),(1,.var [.i s.kind,.i s.index,.i s.ty.kind,.s .ty s.ty.args,.rs b 1 cap]),(2,.var [.i 0,.i 0,.i 0,.slice .nil (.t .ty []),.slice .nil (.t .tm [])]),(4,.gone)]) (fun b cap=>AF.Cnv.get ⟨⟨_,rfl,.inl rfl⟩,⟨_,rfl,.inl rfl⟩,⟨_,rfl,.inl rfl⟩,trivial⟩) (fun b cap=>Es.Cnv.get ⟨⟨_,rfl,.same (fun _=> .inl rfl) _⟩,⟨_,rfl,.var ⟨.inl rfl,.inl rfl,.inl rfl,.inl rfl,.inr (.inr ⟨_,rfl,rfl⟩),trivial⟩⟩,⟨_,rfl,.same (fun _=> .inl rfl) _⟩,⟨_,rfl,trivial⟩,trivial⟩) (fun b cap=>rfl)) ?_
      rintro _ _ _ ⟨b,cap,hcap,hnb,rfl,rfl,rfl⟩
      exact(fin_w (c:= .tm) (X:=([.i s.kind,.i s.index,.i s.ty.kind,.s .ty s.ty.args].map Yn.dat++[.row .tm 1 [.dat (.i 1),.dat (.i 0),.dat (.i 0),.dat (.s .ty []),.dat (.s .tm [])]])) (ym_pre (cs:=[.i s.kind,.i s.index,.i s.ty.kind,.s .ty s.ty.args]) rfl (.row .tm 1 [.dat (.i 1),.dat (.i 0),.dat (.i 0),.dat (.s .ty []),.dat (.s .tm [])] b (cap*5) cap [.i 1,.i 0,.i 0,.s .ty [],.s .tm []] [] (fun h=>h.elim) hcap (by omega) rfl (ym_dats [.i 1,.i 0,.i 0,.s .ty [],.s .tm []] rfl))) (er_app0 s e0) (fun p h=>by simp only[List.mem_cons,List.not_mem_nil,or_false] at h;rw[h];exact List.mem_cons_self) (nd_cons hnd hnb) (fun _=>rfl) (fun _=>rfl) rfl rfl rfl rfl rfl rfl rfl).mono fun a σ y h=>⟨rfl,h⟩
     ·obtain ⟨b2,room,cap,cs2,ys,hse,rfl,hroom,hcap,hl,hcs⟩:=hsv.row_inv e0
      injection hse with hse
      subst hse
      obtain rfl:=hroom trivial
      have hc2:cs2.length=s.args.length*5:=by rw[hcs.len];exact hl
      have hn5z:=hn5.y ys
      have hnd3:(ys.map Prod.fst).Nodup:=by have:=(hpm.symm.map Prod.fst).nodup hnd;simp only[List.map_cons,List.nodup_cons] at this;exact this.2
      refine BW.weak (WeakB.take (b:=b2) (cap:=cap) (sz:=5) (cs:=cs2) (y1:=ys) hpm.symm hnd [(0,.ptr 0 0),(3,.ptr 1 0),(4,.ptr 2 0),(5,.ptr 1 0)] [(0,.var dd.cells),(1,.var [.i s.kind,.i s.index,.i s.ty.kind,.s .ty s.ty.args,.arr 3 s.args.length 5]),(2,.var [.i 0,.i 0,.i 0,.slice .nil (.t .ty []),.slice .nil (.t .tm [])]),(3,.var cs2)] (AF.Cnv.get ⟨⟨_,rfl,.inl rfl⟩,⟨_,rfl,.inl rfl⟩,⟨_,rfl,.inl rfl⟩,⟨_,rfl,.inl rfl⟩,trivial⟩) (Es.CnvN.get ⟨.inr ⟨_,rfl,.same (fun _=> .inl rfl) _⟩,.inr ⟨_,rfl,.var ⟨.inl rfl,.inl rfl,.inl rfl,.inl rfl,.inr (.inr ⟨_,hcap,rfl,rfl⟩),trivial⟩⟩,.inr ⟨_,rfl,.same (fun _=> .inl rfl) _⟩,.inl ⟨rfl,rfl⟩,trivial⟩)) ?_
      rintro _ _ _ ⟨rfl,rfl,rfl⟩
      refine .of ?_
      repeat'(first|((with_reducible refine D.nil ?_);first|refine AX.nilL ?_|refine AX.nilD (by kernel_rfl) ?_)|((with_reducible refine D.load ?_);refine L.ldb U U U U U U ?_)|((with_reducible refine D.move ?_);refine L.mv U U U ?_)|((with_reducible refine D.fieldAddr ?_);refine L.fab U U U U U ?_)|((with_reducible refine D.assign ?_);refine L.asg U U U ?_)|((with_reducible refine D.bin ?_);refine L.bn U U U U U ?_)|((with_reducible refine D.call ?_);first|refine L.lnR U U U U ?_|refine L.yR U U U U U U U U hc2 U U U (by omega) (by omega) ?_|(apply L.cb2 (hn5z) [0] 0 rfl;rfl;rfl;rfl;rfl;rfl;rfl;(focus((repeat'(first|exact trivial|refine And.intro ?_ ?_|refine⟨_,U,_,U,_,U,?_⟩|exact VLe.refl _));done));rfl;rfl;rfl;rfl)|refine L.c2 (hvr) U U U U ?_)|((with_reducible refine D.store ?_);first|refine L.ste U U U U U U U hc2 U U ?_|refine L.st U U U U U U U U U ?_)|((with_reducible refine D.indexAddr ?_);refine L.ixr s.args.length U U U U U (by omega) U ?_)|((with_reducible refine D.ax ?_);first|refine L.bsC zTm U U U U U U ?_|refine L.nc U U U U ?_)|((with_reducible refine D.aw ?_);first|((with_reducible refine D.blk ?_);refine AW.block ?_)|refine K.sq (AW.regL ?_)|refine AW.regD mixed (by kernel_rfl) ?_|refine AW.condT U ?_|refine AW.condF U ?_)|with_reducible refine K.tN ?_|with_reducible refine K.bN ?_)
      refine WeakB.trans (WeakB.giveA (n:=5) (len0:=s.args.length+1) (sz:=5) (cs:=cs2++[.i 1,.i 0,.i 0,.s .ty [],.s .tm []]) rfl (YMs.free (s:=False) ((hcs.weak fun h=>h.elim).app (ym_dats _ rfl))) (.inr ⟨1,_,4,rfl,rfl⟩) (fun b cap=>[(0,.ptr 0 0),(3,.ptr 1 0),(4,.ptr 2 0)]) (fun b cap=>[(0,.var ((dd.next 5).2).cells),(1,.var [.i s.kind,.i s.index,.i s.ty.kind,.s .ty s.ty.args,.rs b (s.args.length+1) cap]),(2,.var [.i 0,.i 0,.i 0,.slice .nil (.t .ty []),.slice .nil (.t .tm [])]),(5,.gone)]) (fun b cap=>AF.Cnv.get ⟨⟨_,rfl,.inl rfl⟩,⟨_,rfl,.inl rfl⟩,⟨_,rfl,.inl rfl⟩,trivial⟩) (fun b cap=>Es.Cnv.get ⟨⟨_,rfl,.same (fun _=> .inl rfl) _⟩,⟨_,rfl,.var ⟨.inl rfl,.inl rfl,.inl rfl,.inl rfl,.inr (.inr ⟨_,rfl,rfl⟩),trivial⟩⟩,⟨_,rfl,.same (fun _=> .inl rfl) _⟩,⟨_,rfl,trivial⟩,trivial⟩) (fun b cap=>rfl)) ?_
      rintro _ _ _ ⟨b,cap',hcap',hnb,rfl,rfl,rfl⟩
      exact(fin_w (c:= .tm) (X:=([.i s.kind,.i s.index,.i s.ty.kind,.s .ty s.ty.args].map Yn.dat++[.row .tm (s.args.length+1) (Tm.yns s.args++[.dat (.i 1),.dat (.i 0),.dat (.i 0),.dat (.s .ty []),.dat (.s .tm [])])])) (ym_pre (cs:=[.i s.kind,.i s.index,.i s.ty.kind,.s .ty s.ty.args]) rfl (.row .tm (s.args.length+1) _ b (cap'*5) cap' _ _ (fun h=>h.elim) hcap' (by omega) (by simp[Tm.yns_len,EC.cells];omega) ((hcs.weak fun h=>h.elim).app (ym_dats [.i 1,.i 0,.i 0,.s .ty [],.s .tm []] rfl)))) (er_app s) (fun p h=>by simpa using h) (nd_cons hnd3 hnb) (fun _=>rfl) (fun _=>rfl) rfl rfl rfl rfl rfl rfl rfl).mono fun a σ y h=>⟨rfl,h⟩
    ·rintro e a σ y' ⟨rfl,rfl,rfl,rfl⟩
     refine K.yT (BW.seq (.of (AW.regL ?_)))
     repeat'(first|((with_reducible refine D.nil ?_);refine AX.nilL ?_)|((with_reducible refine D.load ?_);refine L.ldb U U U U U U ?_)|((with_reducible refine D.store ?_);refine L.st U U U U U U U U U ?_))
     refine K.yT (BW.ret ⟨rfl,?_⟩)
     (exact K.n2 [some 0] U U U U U (by(repeat'(first|exact trivial|refine And.intro ?_ ?_|refine⟨_,U,_,U,_,U,?_⟩|exact VLe.refl _));done) U (by simp[tupV,V.wk,V.wks,constV,Ty.view,Tm.view,Tm.kind_mk]))
   ·have hz:bentT d s=((Dk.tm 3 ((dd.next 5).2.type 1).2 [] ((dd.next 5).2.type 1).1).1,(Dk.tm 3 ((dd.next 5).2.type 1).2 [] ((dd.next 5).2.type 1).1).2):=by rw[hbe];simp[bentB,←hv]
    rw[hz]
    have hts:=Dk.type1 ((dd.next 5).2)
    have htm:=(term_c 3 (by omega) ((dd.next 5).2.type 1).2 [] ((dd.next 5).2.type 1).1 1 (by omega) (Dk.type_ok 1 _ h5) smalls_nil hts (by omega) (by omega) (by simp)).y y
    refine BW.seq (BW.mono (Q:=fun e a σ y=>e= .normal∧y=[]∧a=[(0,.ptr 0 0),(3,.ptr 1 0),(4,.ptr 2 0)]∧σ=⟨3,[(0,.var ((Dk.tm 3 ((dd.next 5).2.type 1).2 [] ((dd.next 5).2.type 1).1).2).cells),(1,.var (Tm.view ((Dk.tm 3 ((dd.next 5).2.type 1).2 [] ((dd.next 5).2.type 1).1).1))),(2,.var [.i 0,.i 0,.i 0,.slice .nil (.t .ty []),.slice .nil (.t .tm [])])]⟩) (BW.after (.of ?_)) ?_)
    ·repeat' (first|((with_reducible refine D.nil ?_);refine AX.nilL ?_)|((with_reducible refine D.move ?_);refine L.mv U U U ?_)|((with_reducible refine D.assign ?_);refine L.asg U U U ?_)|((with_reducible refine D.bin ?_);refine L.bn U U U U U ?_)|((with_reducible refine D.call ?_);first|(apply L.cb2 (hn5y) [0] 0 rfl;rfl;rfl;rfl;rfl;rfl;rfl;(focus((repeat'(first|exact trivial|refine And.intro ?_ ?_|refine⟨_,U,_,U,_,U,?_⟩|exact VLe.refl _));done));rfl;rfl;rfl;rfl)|(apply L.cb2 (hty) [0] 0 rfl;rfl;rfl;rfl;rfl;rfl;rfl;(focus((repeat'(first|exact trivial|refine And.intro ?_ ?_|refine⟨_,U,_,U,_,U,?_⟩|exact VLe.refl _));done));rfl;rfl;rfl;rfl)|(apply L.cb2 (htm) [0] 0 rfl;rfl;rfl;rfl;rfl;rfl;rfl;(focus((repeat'(first|exact trivial|refine And.intro ?_ ?_|refine⟨_,U,_,U,_,U,?_⟩|exact VLe.refl _));done));rfl;rfl;rfl;rfl))|((with_reducible refine D.store ?_);refine L.st U U U U U U U U U ?_)|((with_reducible refine D.ax ?_);refine L.nc U U U U ?_)|((with_reducible refine D.aw ?_);first|((with_reducible refine D.blk ?_);refine AW.block ?_)|refine K.sq (AW.regL ?_)|refine AW.regL ?_|refine AW.condF U ?_)|with_reducible refine K.tN ?_|with_reducible refine K.bN ?_)
     exact(fin_w (c:= .tm) (X:=(Tm.view ((Dk.tm 3 ((dd.next 5).2.type 1).2 [] ((dd.next 5).2.type 1).1).1)).map Yn.dat) (ym_dats _ (view_isD .tm _)) (er_dats _ (view_isD .tm _)) (fun p h=>by cases h) hnd (fun _=>rfl) (fun _=>rfl) rfl rfl rfl rfl rfl rfl rfl).mono fun a σ y h=>⟨rfl,h⟩
    ·rintro e a σ y' ⟨rfl,rfl,rfl,rfl⟩
     refine K.yT (BW.seq (.of (AW.regL ?_)))
     repeat'(first|((with_reducible refine D.nil ?_);refine AX.nilL ?_)|((with_reducible refine D.load ?_);refine L.ldb U U U U U U ?_)|((with_reducible refine D.store ?_);refine L.st U U U U U U U U U ?_))
     refine K.yT (BW.ret ⟨rfl,?_⟩)
     (exact K.n2 [some 0] U U U U U (by(repeat'(first|exact trivial|refine And.intro ?_ ?_|refine⟨_,U,_,U,_,U,?_⟩|exact VLe.refl _));done) U (by simp[tupV,V.wk,V.wks,constV,Ty.view,Tm.view,Tm.kind_mk]))
  |some q=>
   obtain⟨b0,off,csL0,yL0⟩:=q
   dsimp only at ho
   obtain⟨capF,csA,csB,yc,lA,lL,hyl,hper,⟨hfA,hfB⟩,wand⟩:=ho
   obtain⟨sv0,rfl,hsv0⟩:=YMs.tm hyl
   have hper:y.Perm ((b0,capF*5,csA++[.i s.kind,.i s.index,.i s.ty.kind,.s .ty s.ty.args,.raw sv0]++csB)::(yL0++yc)):=hper
   have hren:∀ρ,renVs ρ rc=some rc:=by subst hrc;exact fun ρ=>rfl
   have hnd0:=(hper.map Prod.fst).nodup hnd
   simp only[List.map_cons,List.nodup_cons] at hnd0
   have hndc:∀(room:Nat) (cs:List V),(((b0,room,cs)::(yL0++yc):Ys).map Prod.fst).Nodup:=fun room cs=>by rw[List.map_cons,List.nodup_cons];exact hnd0
   have hfr:∀csL:List V,(∀v∈csL,V.free v)→∀v∈csA++csL++csB,V.free v:=fun csL h v hv=>by
    rcases List.mem_append.1 hv with hv|hv
    ·rcases List.mem_append.1 hv with hv|hv
     ·exact hfA v hv
     ·exact h v hv
    ·exact hfB v hv
   have hn5y:=hn5.y (yL0++yc)
   have h15:=h15.y (yL0++yc)
   have h55:=h55.y (yL0++yc)
   have hty:=hty.y (yL0++yc)
   show BW E _ _ _ [(0,.ptr 0 0),(3,.ptr 1 0),(4,.ptr 2 0),(5,.rp b0 off)] ⟨3,[(0,.var dd.cells),(1,.var rc),(2,.var [.i 0,.i 0,.i 0,.slice .nil (.t .ty []),.slice .nil (.t .tm [])])]⟩ y _
   rcases hv5 with rfl|rfl|rfl|rfl|rfl
   ·have hz:bentT d t=(F (.mk ((dd.next 5).2.next 15).1 s.index s.ty s.args),((dd.next 5).2.next 15).2):=by rw[hbe];simp[bentB,←hv]
    rw[hz]
    refine BW.seq (BW.mono (Q:=fun e a σ y=>e= .normal∧y=[]∧a=[(0,.ptr 0 0),(3,.ptr 1 0),(4,.ptr 2 0)]∧σ=⟨3,[(0,.var (((dd.next 5).2.next 15).2).cells),(1,.var (Tm.view (F (.mk ((dd.next 5).2.next 15).1 s.index s.ty s.args)))),(2,.var [.i 0,.i 0,.i 0,.slice .nil (.t .ty []),.slice .nil (.t .tm [])])]⟩) (BW.after (BW.taken (b:=b0) (cap:=capF) (sz:=5) (cs:=csA++[.i s.kind,.i s.index,.i s.ty.kind,.s .ty s.ty.args,.raw sv0]++csB) (y1:=yL0++yc) hper hnd [(0,.ptr 0 0),(3,.ptr 1 0),(4,.ptr 2 0),(5,.ptr 3 off)] [(0,.var dd.cells),(1,.var rc),(2,.var [.i 0,.i 0,.i 0,.slice .nil (.t .ty []),.slice .nil (.t .tm [])]),(3,.var (csA++[.i s.kind,.i s.index,.i s.ty.kind,.s .ty s.ty.args,.raw sv0]++csB))] (AF.Cnv.get ⟨⟨_,rfl,.inl rfl⟩,⟨_,rfl,.inl rfl⟩,⟨_,rfl,.inl rfl⟩,⟨_,rfl,.inr (.inl ⟨_,rfl,rfl⟩)⟩,trivial⟩) (Es.CnvN.get ⟨.inr ⟨_,rfl,.same (fun _=> .inl rfl) _⟩,.inr ⟨_,rfl,.same (fun _=> .inl rfl) _⟩,.inr ⟨_,rfl,.same (fun _=> .inl rfl) _⟩,.inl ⟨rfl,rfl⟩,trivial⟩) (.of ?_))) ?_)
    ·repeat' (first|((with_reducible refine D.nil ?_);refine AX.nilL ?_)|((with_reducible refine D.move ?_);refine L.mv U U U ?_)|((with_reducible refine D.fieldAddr ?_);refine L.fab U U U U U ?_)|((with_reducible refine D.assign ?_);refine L.asg U U U ?_)|((with_reducible refine D.bin ?_);refine L.bn U U U U U ?_)|((with_reducible refine D.call ?_);first|(apply L.cb2 (hn5y) [0] 0 rfl;rfl;rfl;rfl;rfl;rfl;rfl;(focus((repeat'(first|exact trivial|refine And.intro ?_ ?_|refine⟨_,U,_,U,_,U,?_⟩|exact VLe.refl _));done));rfl;rfl;rfl;rfl)|(apply L.cb2 (h15) [0] 0 rfl;rfl;rfl;rfl;rfl;rfl;rfl;(focus((repeat'(first|exact trivial|refine And.intro ?_ ?_|refine⟨_,U,_,U,_,U,?_⟩|exact VLe.refl _));done));rfl;rfl;rfl;rfl))|((with_reducible refine D.store ?_);refine L.stm 0 U U U U U U U lA U U ?_)|((with_reducible refine D.ax ?_);refine L.nc U U U U ?_)|((with_reducible refine D.aw ?_);first|((with_reducible refine D.blk ?_);refine AW.block ?_)|refine K.sq (AW.regL ?_)|refine AW.regL ?_|refine AW.condT U ?_)|with_reducible refine K.tN ?_|with_reducible refine K.bN ?_)
     refine⟨_,[(0,.ptr 0 0),(3,.ptr 1 0),(4,.ptr 2 0)],[(0,.var (((dd.next 5).2.next 15).2).cells),(1,.var rc),(2,.var [.i 0,.i 0,.i 0,.slice .nil (.t .ty []),.slice .nil (.t .tm [])]),(3,.gone)],rfl,hfr _ (YMs.free (YMs.ofTm (s:=True) (t:= .mk ((dd.next 5).2.next 15).1 s.index s.ty s.args) hsv0)),AF.Cnv.get ⟨⟨_,rfl,.inl rfl⟩,⟨_,rfl,.inl rfl⟩,⟨_,rfl,.inl rfl⟩,trivial⟩,Es.Cnv.get ⟨⟨_,rfl,.same (fun _=> .inl rfl) _⟩,⟨_,rfl,.same (fun _=> .inl rfl) _⟩,⟨_,rfl,.same (fun _=> .inl rfl) _⟩,⟨_,rfl,trivial⟩,trivial⟩,rfl,fun hne=> ?_⟩
     obtain⟨X,yX,w1,w2,w3⟩:=wand _ _ yL0 (.mk ((dd.next 5).2.next 15).1 s.index s.ty s.args) rfl (YMs.ofTm (t:= .mk ((dd.next 5).2.next 15).1 s.index s.ty s.args) (hsv0.weak fun h=>h.elim)) (Tm.er (.mk ((dd.next 5).2.next 15).1 s.index s.ty s.args))
     exact(fin_w (c:= .tm) (X:=X) w1 w2 (fun p h=>w3.mem_iff.1 h) (hndc _ _) (fun _=>rfl) (fun _=>rfl) rfl rfl rfl rfl rfl rfl rfl).mono fun a σ y h=>⟨rfl,h⟩
    ·rintro e a σ y' ⟨rfl,rfl,rfl,rfl⟩
     refine K.yT (BW.seq (.of (AW.regL ?_)))
     repeat'(first|((with_reducible refine D.nil ?_);refine AX.nilL ?_)|((with_reducible refine D.load ?_);refine L.ldb U U U U U U ?_)|((with_reducible refine D.store ?_);refine L.st U U U U U U U U U ?_))
     refine K.yT (BW.ret ⟨rfl,?_⟩)
     (exact K.n2 [some 0] U U U U U (by(repeat'(first|exact trivial|refine And.intro ?_ ?_|refine⟨_,U,_,U,_,U,?_⟩|exact VLe.refl _));done) U (by simp[tupV,V.wk,V.wks,constV,Ty.view,Tm.view,Tm.kind_mk]))
   ·have hz:bentT d t=(F (.mk s.kind (((dd.next 5).2.next 5).1-1) s.ty s.args),((dd.next 5).2.next 5).2):=by rw[hbe];simp[bentB,←hv]
    rw[hz]
    refine BW.seq (BW.mono (Q:=fun e a σ y=>e= .normal∧y=[]∧a=[(0,.ptr 0 0),(3,.ptr 1 0),(4,.ptr 2 0)]∧σ=⟨3,[(0,.var (((dd.next 5).2.next 5).2).cells),(1,.var (Tm.view (F (.mk s.kind (((dd.next 5).2.next 5).1-1) s.ty s.args)))),(2,.var [.i 0,.i 0,.i 0,.slice .nil (.t .ty []),.slice .nil (.t .tm [])])]⟩) (BW.after (BW.taken (b:=b0) (cap:=capF) (sz:=5) (cs:=csA++[.i s.kind,.i s.index,.i s.ty.kind,.s .ty s.ty.args,.raw sv0]++csB) (y1:=yL0++yc) hper hnd [(0,.ptr 0 0),(3,.ptr 1 0),(4,.ptr 2 0),(5,.ptr 3 off)] [(0,.var dd.cells),(1,.var rc),(2,.var [.i 0,.i 0,.i 0,.slice .nil (.t .ty []),.slice .nil (.t .tm [])]),(3,.var (csA++[.i s.kind,.i s.index,.i s.ty.kind,.s .ty s.ty.args,.raw sv0]++csB))] (AF.Cnv.get ⟨⟨_,rfl,.inl rfl⟩,⟨_,rfl,.inl rfl⟩,⟨_,rfl,.inl rfl⟩,⟨_,rfl,.inr (.inl ⟨_,rfl,rfl⟩)⟩,trivial⟩) (Es.CnvN.get ⟨.inr ⟨_,rfl,.same (fun _=> .inl rfl) _⟩,.inr ⟨_,rfl,.same (fun _=> .inl rfl) _⟩,.inr ⟨_,rfl,.same (fun _=> .inl rfl) _⟩,.inl ⟨rfl,rfl⟩,trivial⟩) (.of ?_))) ?_)
    ·repeat' (first|((with_reducible refine D.nil ?_);refine AX.nilL ?_)|((with_reducible refine D.move ?_);refine L.mv U U U ?_)|((with_reducible refine D.fieldAddr ?_);refine L.fab U U U U U ?_)|((with_reducible refine D.assign ?_);refine L.asg U U U ?_)|((with_reducible refine D.bin ?_);first|refine L.sb U U U U (by omega) ?_|refine L.bn U U U U U ?_)|((with_reducible refine D.call ?_);first|(apply L.cb2 (hn5y) [0] 0 rfl;rfl;rfl;rfl;rfl;rfl;rfl;(focus((repeat'(first|exact trivial|refine And.intro ?_ ?_|refine⟨_,U,_,U,_,U,?_⟩|exact VLe.refl _));done));rfl;rfl;rfl;rfl)|(apply L.cb2 (h55) [0] 0 rfl;rfl;rfl;rfl;rfl;rfl;rfl;(focus((repeat'(first|exact trivial|refine And.intro ?_ ?_|refine⟨_,U,_,U,_,U,?_⟩|exact VLe.refl _));done));rfl;rfl;rfl;rfl))|((with_reducible refine D.store ?_);refine L.stm 1 U U U U U U U lA U U ?_)|((with_reducible refine D.ax ?_);refine L.nc U U U U ?_)|((with_reducible refine D.aw ?_);first|((with_reducible refine D.blk ?_);refine AW.block ?_)|refine K.sq (AW.regL ?_)|refine AW.regL ?_|refine AW.condT U ?_|refine AW.condF U ?_)|with_reducible refine K.tN ?_|with_reducible refine K.bN ?_)
     refine⟨_,[(0,.ptr 0 0),(3,.ptr 1 0),(4,.ptr 2 0)],[(0,.var (((dd.next 5).2.next 5).2).cells),(1,.var rc),(2,.var [.i 0,.i 0,.i 0,.slice .nil (.t .ty []),.slice .nil (.t .tm [])]),(3,.gone)],rfl,hfr _ (YMs.free (YMs.ofTm (s:=True) (t:= .mk s.kind (((dd.next 5).2.next 5).1-1) s.ty s.args) hsv0)),AF.Cnv.get ⟨⟨_,rfl,.inl rfl⟩,⟨_,rfl,.inl rfl⟩,⟨_,rfl,.inl rfl⟩,trivial⟩,Es.Cnv.get ⟨⟨_,rfl,.same (fun _=> .inl rfl) _⟩,⟨_,rfl,.same (fun _=> .inl rfl) _⟩,⟨_,rfl,.same (fun _=> .inl rfl) _⟩,⟨_,rfl,trivial⟩,trivial⟩,rfl,fun hne=> ?_⟩
     obtain⟨X,yX,w1,w2,w3⟩:=wand _ _ yL0 (.mk s.kind (((dd.next 5).2.next 5).1-1) s.ty s.args) rfl (YMs.ofTm (t:= .mk s.kind (((dd.next 5).2.next 5).1-1) s.ty s.args) (hsv0.weak fun h=>h.elim)) (Tm.er (.mk s.kind (((dd.next 5).2.next 5).1-1) s.ty s.args))
     exact(fin_w (c:= .tm) (X:=X) w1 w2 (fun p h=>w3.mem_iff.1 h) (hndc _ _) (fun _=>rfl) (fun _=>rfl) rfl rfl rfl rfl rfl rfl rfl).mono fun a σ y h=>⟨rfl,h⟩
    ·rintro e a σ y' ⟨rfl,rfl,rfl,rfl⟩
     refine K.yT (BW.seq (.of (AW.regL ?_)))
     repeat'(first|((with_reducible refine D.nil ?_);refine AX.nilL ?_)|((with_reducible refine D.load ?_);refine L.ldb U U U U U U ?_)|((with_reducible refine D.store ?_);refine L.st U U U U U U U U U ?_))
     refine K.yT (BW.ret ⟨rfl,?_⟩)
     (exact K.n2 [some 0] U U U U U (by(repeat'(first|exact trivial|refine And.intro ?_ ?_|refine⟨_,U,_,U,_,U,?_⟩|exact VLe.refl _));done) U (by simp[tupV,V.wk,V.wks,constV,Ty.view,Tm.view,Tm.kind_mk]))
   ·have hz:bentT d t=(F (.mk s.kind s.index ((dd.next 5).2.type 1).1 s.args),((dd.next 5).2.type 1).2):=by rw[hbe];simp[bentB,←hv]
    rw[hz]
    refine BW.seq (BW.mono (Q:=fun e a σ y=>e= .normal∧y=[]∧a=[(0,.ptr 0 0),(3,.ptr 1 0),(4,.ptr 2 0)]∧σ=⟨3,[(0,.var (((dd.next 5).2.type 1).2).cells),(1,.var (Tm.view (F (.mk s.kind s.index ((dd.next 5).2.type 1).1 s.args)))),(2,.var [.i 0,.i 0,.i 0,.slice .nil (.t .ty []),.slice .nil (.t .tm [])])]⟩) (BW.after (BW.taken (b:=b0) (cap:=capF) (sz:=5) (cs:=csA++[.i s.kind,.i s.index,.i s.ty.kind,.s .ty s.ty.args,.raw sv0]++csB) (y1:=yL0++yc) hper hnd [(0,.ptr 0 0),(3,.ptr 1 0),(4,.ptr 2 0),(5,.ptr 3 off)] [(0,.var dd.cells),(1,.var rc),(2,.var [.i 0,.i 0,.i 0,.slice .nil (.t .ty []),.slice .nil (.t .tm [])]),(3,.var (csA++[.i s.kind,.i s.index,.i s.ty.kind,.s .ty s.ty.args,.raw sv0]++csB))] (AF.Cnv.get ⟨⟨_,rfl,.inl rfl⟩,⟨_,rfl,.inl rfl⟩,⟨_,rfl,.inl rfl⟩,⟨_,rfl,.inr (.inl ⟨_,rfl,rfl⟩)⟩,trivial⟩) (Es.CnvN.get ⟨.inr ⟨_,rfl,.same (fun _=> .inl rfl) _⟩,.inr ⟨_,rfl,.same (fun _=> .inl rfl) _⟩,.inr ⟨_,rfl,.same (fun _=> .inl rfl) _⟩,.inl ⟨rfl,rfl⟩,trivial⟩) (.of ?_))) ?_)
    ·repeat' (first|((with_reducible refine D.nil ?_);refine AX.nilL ?_)|((with_reducible refine D.move ?_);refine L.mv U U U ?_)|((with_reducible refine D.fieldAddr ?_);refine L.fab U U U U U ?_)|((with_reducible refine D.assign ?_);refine L.asg U U U ?_)|((with_reducible refine D.bin ?_);refine L.bn U U U U U ?_)|((with_reducible refine D.call ?_);first|(apply L.cb2 (hn5y) [0] 0 rfl;rfl;rfl;rfl;rfl;rfl;rfl;(focus((repeat'(first|exact trivial|refine And.intro ?_ ?_|refine⟨_,U,_,U,_,U,?_⟩|exact VLe.refl _));done));rfl;rfl;rfl;rfl)|(apply L.cb2 (hty) [0] 0 rfl;rfl;rfl;rfl;rfl;rfl;rfl;(focus((repeat'(first|exact trivial|refine And.intro ?_ ?_|refine⟨_,U,_,U,_,U,?_⟩|exact VLe.refl _));done));rfl;rfl;rfl;rfl))|((with_reducible refine D.store ?_);refine L.stm 2 U U U U U U U lA U U ?_)|((with_reducible refine D.ax ?_);refine L.nc U U U U ?_)|((with_reducible refine D.aw ?_);first|((with_reducible refine D.blk ?_);refine AW.block ?_)|refine K.sq (AW.regL ?_)|refine AW.regL ?_|refine AW.condT U ?_|refine AW.condF U ?_)|with_reducible refine K.tN ?_|with_reducible refine K.bN ?_)
     refine⟨_,[(0,.ptr 0 0),(3,.ptr 1 0),(4,.ptr 2 0)],[(0,.var (((dd.next 5).2.type 1).2).cells),(1,.var rc),(2,.var [.i 0,.i 0,.i 0,.slice .nil (.t .ty []),.slice .nil (.t .tm [])]),(3,.gone)],rfl,hfr _ (YMs.free (YMs.ofTm (s:=True) (t:= .mk s.kind s.index ((dd.next 5).2.type 1).1 s.args) hsv0)),AF.Cnv.get ⟨⟨_,rfl,.inl rfl⟩,⟨_,rfl,.inl rfl⟩,⟨_,rfl,.inl rfl⟩,trivial⟩,Es.Cnv.get ⟨⟨_,rfl,.same (fun _=> .inl rfl) _⟩,⟨_,rfl,.same (fun _=> .inl rfl) _⟩,⟨_,rfl,.same (fun _=> .inl rfl) _⟩,⟨_,rfl,trivial⟩,trivial⟩,rfl,fun hne=> ?_⟩
     obtain⟨X,yX,w1,w2,w3⟩:=wand _ _ yL0 (.mk s.kind s.index ((dd.next 5).2.type 1).1 s.args) rfl (YMs.ofTm (t:= .mk s.kind s.index ((dd.next 5).2.type 1).1 s.args) (hsv0.weak fun h=>h.elim)) (Tm.er (.mk s.kind s.index ((dd.next 5).2.type 1).1 s.args))
     exact(fin_w (c:= .tm) (X:=X) w1 w2 (fun p h=>w3.mem_iff.1 h) (hndc _ _) (fun _=>rfl) (fun _=>rfl) rfl rfl rfl rfl rfl rfl rfl).mono fun a σ y h=>⟨rfl,h⟩
    ·rintro e a σ y' ⟨rfl,rfl,rfl,rfl⟩
     refine K.yT (BW.seq (.of (AW.regL ?_)))
     repeat'(first|((with_reducible refine D.nil ?_);refine AX.nilL ?_)|((with_reducible refine D.load ?_);refine L.ldb U U U U U U ?_)|((with_reducible refine D.store ?_);refine L.st U U U U U U U U U ?_))
     refine K.yT (BW.ret ⟨rfl,?_⟩)
     (exact K.n2 [some 0] U U U U U (by(repeat'(first|exact trivial|refine And.intro ?_ ?_|refine⟨_,U,_,U,_,U,?_⟩|exact VLe.refl _));done) U (by simp[tupV,V.wk,V.wks,constV,Ty.view,Tm.view,Tm.kind_mk]))
   ·have hz:bentT d t=(F (.mk s.kind s.index s.ty (s.args++[vT 0])),(dd.next 5).2):=by rw[hbe];simp[bentB,←hv]
    rw[hz]
    refine BW.seq (BW.mono (Q:=fun e a σ y=>e= .normal∧y=[]∧a=[(0,.ptr 0 0),(3,.ptr 1 0),(4,.ptr 2 0)]∧σ=⟨3,[(0,.var ((dd.next 5).2).cells),(1,.var (Tm.view (F (.mk s.kind s.index s.ty (s.args++[vT 0]))))),(2,.var [.i 0,.i 0,.i 0,.slice .nil (.t .ty []),.slice .nil (.t .tm [])])]⟩) (BW.after (BW.taken (b:=b0) (cap:=capF) (sz:=5) (cs:=csA++[.i s.kind,.i s.index,.i s.ty.kind,.s .ty s.ty.args,.raw sv0]++csB) (y1:=yL0++yc) hper hnd [(0,.ptr 0 0),(3,.ptr 1 0),(4,.ptr 2 0),(5,.ptr 3 off)] [(0,.var dd.cells),(1,.var rc),(2,.var [.i 0,.i 0,.i 0,.slice .nil (.t .ty []),.slice .nil (.t .tm [])]),(3,.var (csA++[.i s.kind,.i s.index,.i s.ty.kind,.s .ty s.ty.args,.raw sv0]++csB))] (AF.Cnv.get ⟨⟨_,rfl,.inl rfl⟩,⟨_,rfl,.inl rfl⟩,⟨_,rfl,.inl rfl⟩,⟨_,rfl,.inr (.inl ⟨_,rfl,rfl⟩)⟩,trivial⟩) (Es.CnvN.get ⟨.inr ⟨_,rfl,.same (fun _=> .inl rfl) _⟩,.inr ⟨_,rfl,.same (fun _=> .inl rfl) _⟩,.inr ⟨_,rfl,.same (fun _=> .inl rfl) _⟩,.inl ⟨rfl,rfl⟩,trivial⟩) (BW.after ?_))) ?_)
    ·rcases Nat.eq_zero_or_pos s.args.length with e0|e0
     ·obtain ⟨rfl,rfl⟩:=hsv0.nil_inv e0
      refine BW.weak (WeakB.cnv [(0,.ptr 0 0),(3,.ptr 1 0),(4,.ptr 2 0),(5,.ptr 3 off)] [(0,.var dd.cells),(1,.var rc),(2,.var [.i 0,.i 0,.i 0,.slice .nil (.t .ty []),.slice .nil (.t .tm [])]),(3,.var (csA++[.i s.kind,.i s.index,.i s.ty.kind,.s .ty s.ty.args,.slice .nil (.t .tm [])]++csB))] (AF.Cnv.get ⟨⟨_,rfl,.refl _⟩,⟨_,rfl,.refl _⟩,⟨_,rfl,.refl _⟩,⟨_,rfl,.refl _⟩,trivial⟩) (Es.Cnv.get ⟨⟨_,rfl,.same VLe.refl _⟩,⟨_,rfl,.same VLe.refl _⟩,⟨_,rfl,.same VLe.refl _⟩,⟨_,rfl,.var (CvL.app (CvL.app (.refl (fun _=> .refl _) csA) ⟨.refl _,.refl _,.refl _,.refl _,.rawNil rfl,trivial⟩) (.refl (fun _=> .refl _) csB))⟩,trivial⟩)) ?_
      rintro _ _ _ ⟨rfl,rfl,rfl⟩
      refine .of ?_
      repeat'(first|((with_reducible refine D.nil ?_);first|refine AX.nilL ?_|refine AX.nilD (by kernel_rfl) ?_)|((with_reducible refine D.load ?_);refine L.ldm 4 U U U U lA U U U ?_)|((with_reducible refine D.move ?_);refine L.mv U U U ?_)|((with_reducible refine D.fieldAddr ?_);refine L.fab U U U U U ?_)|((with_reducible refine D.assign ?_);refine L.asg U U U ?_)|((with_reducible refine D.bin ?_);refine L.bn U U U U U ?_)|((with_reducible refine D.call ?_);first|refine L.yN U U U U U U U U U U (by omega) (by omega) ?_|refine L.lnt U U U U ?_|(apply L.cb2 (hn5y) [0] 0 rfl;rfl;rfl;rfl;rfl;rfl;rfl;(focus((repeat'(first|exact trivial|refine And.intro ?_ ?_|refine⟨_,U,_,U,_,U,?_⟩|exact VLe.refl _));done));rfl;rfl;rfl;rfl)|refine L.c2 (hvr) U U U U ?_)|((with_reducible refine D.store ?_);first|refine L.stm 4 U U U U U U U lA U U ?_|refine L.st U U U U U U U U U ?_)|((with_reducible refine D.indexAddr ?_);refine L.ixr 0 U U U U U (by omega) U ?_)|((with_reducible refine D.ax ?_);first|refine L.bsC zTm U U U U U U ?_|refine L.nc U U U U ?_)|((with_reducible refine D.aw ?_);first|((with_reducible refine D.blk ?_);refine AW.block ?_)|refine K.sq (AW.regL ?_)|refine AW.regD mixed (by kernel_rfl) ?_|refine AW.condT U ?_|refine AW.condF U ?_)|with_reducible refine K.tN ?_|with_reducible refine K.bN ?_)
      refine WeakB.trans (WeakB.giveA (n:=5) (len0:=1) (sz:=5) (cs:=[.i 1,.i 0,.i 0,.s .ty [],.s .tm []]) rfl (YMs.free (s:=False) (ym_dats [.i 1,.i 0,.i 0,.s .ty [],.s .tm []] rfl)) (.inl ⟨70,rfl⟩) (fun b cap=>[(0,.ptr 0 0),(3,.ptr 1 0),(4,.ptr 2 0)]) (fun b cap=>[(0,.var ((dd.next 5).2).cells),(1,.var rc),(2,.var [.i 0,.i 0,.i 0,.slice .nil (.t .ty []),.slice .nil (.t .tm [])]),(3,.var (csA++[.i s.kind,.i s.index,.i s.ty.kind,.s .ty s.ty.args,.rs b (1) cap]++csB)),(5,.gone)]) (fun b cap=>AF.Cnv.get ⟨⟨_,rfl,.inl rfl⟩,⟨_,rfl,.inl rfl⟩,⟨_,rfl,.inl rfl⟩,trivial⟩) (fun b cap=>Es.Cnv.get ⟨⟨_,rfl,.same (fun _=> .inl rfl) _⟩,⟨_,rfl,.same (fun _=> .inl rfl) _⟩,⟨_,rfl,.same (fun _=> .inl rfl) _⟩,⟨_,rfl,.var (CvL.app (CvL.app (.refl (fun _=> .inl rfl) csA) ⟨.inl rfl,.inl rfl,.inl rfl,.inl rfl,.inr (.inr ⟨_,rfl,rfl⟩),trivial⟩) (.refl (fun _=> .inl rfl) csB))⟩,⟨_,rfl,trivial⟩,trivial⟩) (fun b cap=>rfl)) ?_
      rintro _ _ _ ⟨b,cap',hcap',hnb,rfl,rfl,rfl⟩
      have hym:YMs False ([.i s.kind,.i s.index,.i s.ty.kind,.s .ty s.ty.args].map Yn.dat++[.row .tm 1 [.dat (.i 1),.dat (.i 0),.dat (.i 0),.dat (.s .ty []),.dat (.s .tm [])]]) [.i s.kind,.i s.index,.i s.ty.kind,.s .ty s.ty.args,.rs b (1) cap'] [(b,cap'*5,[.i 1,.i 0,.i 0,.s .ty [],.s .tm []])]:=ym_pre (cs:=[.i s.kind,.i s.index,.i s.ty.kind,.s .ty s.ty.args]) rfl (.row .tm 1 [.dat (.i 1),.dat (.i 0),.dat (.i 0),.dat (.s .ty []),.dat (.s .tm [])] b (cap'*5) cap' [.i 1,.i 0,.i 0,.s .ty [],.s .tm []] [] (fun h=>h.elim) hcap' (by omega) rfl (ym_dats [.i 1,.i 0,.i 0,.s .ty [],.s .tm []] rfl))
      refine WeakB.keep ⟨_,[(0,.ptr 0 0),(3,.ptr 1 0),(4,.ptr 2 0)],[(0,.var ((dd.next 5).2).cells),(1,.var rc),(2,.var [.i 0,.i 0,.i 0,.slice .nil (.t .ty []),.slice .nil (.t .tm [])]),(3,.gone)],rfl,hfr _ hym.free,AF.Cnv.get ⟨⟨_,rfl,.inl rfl⟩,⟨_,rfl,.inl rfl⟩,⟨_,rfl,.inl rfl⟩,trivial⟩,Es.Cnv.get ⟨⟨_,rfl,.same (fun _=> .inl rfl) _⟩,⟨_,rfl,.same (fun _=> .inl rfl) _⟩,⟨_,rfl,.same (fun _=> .inl rfl) _⟩,⟨_,rfl,trivial⟩,trivial⟩,rfl,fun hne=> ?_⟩
      obtain⟨X,yX,w1,w2,w3⟩:=wand _ _ [(b,cap'*5,[.i 1,.i 0,.i 0,.s .ty [],.s .tm []])] (.mk s.kind s.index s.ty (s.args++[vT 0])) rfl hym (er_app0 s e0)
      exact(fin_w (c:= .tm) (X:=X) w1 w2 (fun p h=>by simpa [EC.cells] using w3.mem_iff.1 h) (nd_cons (nd_cons hnd0.2 hnb) hne) (fun _=>rfl) (fun _=>rfl) rfl rfl rfl rfl rfl rfl rfl).mono fun a σ y h=>⟨rfl,h⟩
     ·obtain ⟨b2,room,cap2,cs2,ys2,hse,rfl,hroom,hcap,hl,hcs⟩:=hsv0.row_inv e0
      injection hse with hse
      subst hse
      obtain rfl:=hroom trivial
      have hc2:cs2.length=s.args.length*5:=by rw[hcs.len];exact hl
      have hn5z:=hn5.y (ys2++yc)
      have hnd3:((ys2++yc).map Prod.fst).Nodup:=by have:=hnd0.2;rw[List.cons_append,List.map_cons,List.nodup_cons] at this;exact this.2
      refine BW.weak (WeakB.take (b:=b2) (cap:=cap2) (sz:=5) (cs:=cs2) (y1:=ys2++yc) (.refl _) hnd0.2 [(0,.ptr 0 0),(3,.ptr 1 0),(4,.ptr 2 0),(5,.ptr 3 off)] [(0,.var dd.cells),(1,.var rc),(2,.var [.i 0,.i 0,.i 0,.slice .nil (.t .ty []),.slice .nil (.t .tm [])]),(3,.var (csA++[.i s.kind,.i s.index,.i s.ty.kind,.s .ty s.ty.args,.arr 4 s.args.length 5]++csB)),(4,.var cs2)] (AF.Cnv.get ⟨⟨_,rfl,.inl rfl⟩,⟨_,rfl,.inl rfl⟩,⟨_,rfl,.inl rfl⟩,⟨_,rfl,.inl rfl⟩,trivial⟩) (Es.CnvN.get ⟨.inr ⟨_,rfl,.same (fun _=> .inl rfl) _⟩,.inr ⟨_,rfl,.same (fun _=> .inl rfl) _⟩,.inr ⟨_,rfl,.same (fun _=> .inl rfl) _⟩,.inr ⟨_,rfl,.var (CvL.app (CvL.app (.refl (fun _=> .inl rfl) csA) ⟨.inl rfl,.inl rfl,.inl rfl,.inl rfl,.inr (.inr ⟨_,hcap,rfl,rfl⟩),trivial⟩) (.refl (fun _=> .inl rfl) csB))⟩,.inl ⟨rfl,rfl⟩,trivial⟩)) ?_
      rintro _ _ _ ⟨rfl,rfl,rfl⟩
      refine .of ?_
      repeat'(first|((with_reducible refine D.nil ?_);first|refine AX.nilL ?_|refine AX.nilD (by kernel_rfl) ?_)|((with_reducible refine D.load ?_);refine L.ldm 4 U U U U lA U U U ?_)|((with_reducible refine D.move ?_);refine L.mv U U U ?_)|((with_reducible refine D.fieldAddr ?_);refine L.fab U U U U U ?_)|((with_reducible refine D.assign ?_);refine L.asg U U U ?_)|((with_reducible refine D.bin ?_);refine L.bn U U U U U ?_)|((with_reducible refine D.call ?_);first|refine L.lnR U U U U ?_|refine L.yR U U U U U U U U hc2 U U U (by omega) (by omega) ?_|(apply L.cb2 (hn5z) [0] 0 rfl;rfl;rfl;rfl;rfl;rfl;rfl;(focus((repeat'(first|exact trivial|refine And.intro ?_ ?_|refine⟨_,U,_,U,_,U,?_⟩|exact VLe.refl _));done));rfl;rfl;rfl;rfl)|refine L.c2 (hvr) U U U U ?_)|((with_reducible refine D.store ?_);first|refine L.ste U U U U U U U hc2 U U ?_|refine L.stm 4 U U U U U U U lA U U ?_)|((with_reducible refine D.indexAddr ?_);refine L.ixr s.args.length U U U U U (by omega) U ?_)|((with_reducible refine D.ax ?_);first|refine L.bsC zTm U U U U U U ?_|refine L.nc U U U U ?_)|((with_reducible refine D.aw ?_);first|((with_reducible refine D.blk ?_);refine AW.block ?_)|refine K.sq (AW.regL ?_)|refine AW.regD mixed (by kernel_rfl) ?_|refine AW.condT U ?_|refine AW.condF U ?_)|with_reducible refine K.tN ?_|with_reducible refine K.bN ?_)
      refine WeakB.trans (WeakB.giveA (n:=6) (len0:=s.args.length+1) (sz:=5) (cs:=cs2++[.i 1,.i 0,.i 0,.s .ty [],.s .tm []]) rfl (YMs.free (s:=False) ((hcs.weak fun h=>h.elim).app (ym_dats [.i 1,.i 0,.i 0,.s .ty [],.s .tm []] rfl))) (.inl ⟨70,rfl⟩) (fun b cap=>[(0,.ptr 0 0),(3,.ptr 1 0),(4,.ptr 2 0)]) (fun b cap=>[(0,.var ((dd.next 5).2).cells),(1,.var rc),(2,.var [.i 0,.i 0,.i 0,.slice .nil (.t .ty []),.slice .nil (.t .tm [])]),(3,.var (csA++[.i s.kind,.i s.index,.i s.ty.kind,.s .ty s.ty.args,.rs b (s.args.length+1) cap]++csB)),(6,.gone)]) (fun b cap=>AF.Cnv.get ⟨⟨_,rfl,.inl rfl⟩,⟨_,rfl,.inl rfl⟩,⟨_,rfl,.inl rfl⟩,trivial⟩) (fun b cap=>Es.Cnv.get ⟨⟨_,rfl,.same (fun _=> .inl rfl) _⟩,⟨_,rfl,.same (fun _=> .inl rfl) _⟩,⟨_,rfl,.same (fun _=> .inl rfl) _⟩,⟨_,rfl,.var (CvL.app (CvL.app (.refl (fun _=> .inl rfl) csA) ⟨.inl rfl,.inl rfl,.inl rfl,.inl rfl,.inr (.inr ⟨_,rfl,rfl⟩),trivial⟩) (.refl (fun _=> .inl rfl) csB))⟩,⟨_,rfl,trivial⟩,trivial⟩) (fun b cap=>rfl)) ?_
      rintro _ _ _ ⟨b,cap',hcap',hnb,rfl,rfl,rfl⟩
      have hym:YMs False ([.i s.kind,.i s.index,.i s.ty.kind,.s .ty s.ty.args].map Yn.dat++[.row .tm (s.args.length+1) (Tm.yns s.args++[.dat (.i 1),.dat (.i 0),.dat (.i 0),.dat (.s .ty []),.dat (.s .tm [])])]) [.i s.kind,.i s.index,.i s.ty.kind,.s .ty s.ty.args,.rs b (s.args.length+1) cap'] ((b,cap'*5,cs2++[.i 1,.i 0,.i 0,.s .ty [],.s .tm []])::(ys2++[])):=ym_pre (cs:=[.i s.kind,.i s.index,.i s.ty.kind,.s .ty s.ty.args]) rfl (.row .tm (s.args.length+1) _ b (cap'*5) cap' _ _ (fun h=>h.elim) hcap' (by omega) (by simp[Tm.yns_len,EC.cells];omega) ((hcs.weak fun h=>h.elim).app (ym_dats [.i 1,.i 0,.i 0,.s .ty [],.s .tm []] rfl)))
      refine WeakB.keep ⟨_,[(0,.ptr 0 0),(3,.ptr 1 0),(4,.ptr 2 0)],[(0,.var ((dd.next 5).2).cells),(1,.var rc),(2,.var [.i 0,.i 0,.i 0,.slice .nil (.t .ty []),.slice .nil (.t .tm [])]),(3,.gone)],rfl,hfr _ hym.free,AF.Cnv.get ⟨⟨_,rfl,.inl rfl⟩,⟨_,rfl,.inl rfl⟩,⟨_,rfl,.inl rfl⟩,trivial⟩,Es.Cnv.get ⟨⟨_,rfl,.same (fun _=> .inl rfl) _⟩,⟨_,rfl,.same (fun _=> .inl rfl) _⟩,⟨_,rfl,.same (fun _=> .inl rfl) _⟩,⟨_,rfl,trivial⟩,trivial⟩,rfl,fun hne=> ?_⟩
      obtain⟨X,yX,w1,w2,w3⟩:=wand _ _ ((b,cap'*5,cs2++[.i 1,.i 0,.i 0,.s .ty [],.s .tm []])::(ys2++[])) (.mk s.kind s.index s.ty (s.args++[vT 0])) rfl hym (er_app s)
      exact(fin_w (c:= .tm) (X:=X) w1 w2 (fun p h=>by simpa [EC.cells] using w3.mem_iff.1 h) (nd_cons (nd_cons hnd3 hnb) hne) (fun _=>rfl) (fun _=>rfl) rfl rfl rfl rfl rfl rfl rfl).mono fun a σ y h=>⟨rfl,h⟩
    ·rintro e a σ y' ⟨rfl,rfl,rfl,rfl⟩
     refine K.yT (BW.seq (.of (AW.regL ?_)))
     repeat'(first|((with_reducible refine D.nil ?_);refine AX.nilL ?_)|((with_reducible refine D.load ?_);refine L.ldb U U U U U U ?_)|((with_reducible refine D.store ?_);refine L.st U U U U U U U U U ?_))
     refine K.yT (BW.ret ⟨rfl,?_⟩)
     (exact K.n2 [some 0] U U U U U (by(repeat'(first|exact trivial|refine And.intro ?_ ?_|refine⟨_,U,_,U,_,U,?_⟩|exact VLe.refl _));done) U (by simp[tupV,V.wk,V.wks,constV,Ty.view,Tm.view,Tm.kind_mk]))
   ·have hz:bentT d t=(F ((Dk.tm 3 ((dd.next 5).2.type 1).2 [] ((dd.next 5).2.type 1).1).1),(Dk.tm 3 ((dd.next 5).2.type 1).2 [] ((dd.next 5).2.type 1).1).2):=by rw[hbe];simp[bentB,←hv]
    rw[hz]
    have hts:=Dk.type1 ((dd.next 5).2)
    have htm:=(term_c 3 (by omega) ((dd.next 5).2.type 1).2 [] ((dd.next 5).2.type 1).1 1 (by omega) (Dk.type_ok 1 _ h5) smalls_nil hts (by omega) (by omega) (by simp)).y (yL0++yc)
    refine BW.seq (BW.mono (Q:=fun e a σ y=>e= .normal∧y=[]∧a=[(0,.ptr 0 0),(3,.ptr 1 0),(4,.ptr 2 0)]∧σ=⟨3,[(0,.var ((Dk.tm 3 ((dd.next 5).2.type 1).2 [] ((dd.next 5).2.type 1).1).2).cells),(1,.var (Tm.view (F ((Dk.tm 3 ((dd.next 5).2.type 1).2 [] ((dd.next 5).2.type 1).1).1)))),(2,.var [.i 0,.i 0,.i 0,.slice .nil (.t .ty []),.slice .nil (.t .tm [])])]⟩) (BW.after (BW.taken (b:=b0) (cap:=capF) (sz:=5) (cs:=csA++[.i s.kind,.i s.index,.i s.ty.kind,.s .ty s.ty.args,.raw sv0]++csB) (y1:=yL0++yc) hper hnd [(0,.ptr 0 0),(3,.ptr 1 0),(4,.ptr 2 0),(5,.ptr 3 off)] [(0,.var dd.cells),(1,.var rc),(2,.var [.i 0,.i 0,.i 0,.slice .nil (.t .ty []),.slice .nil (.t .tm [])]),(3,.var (csA++[.i s.kind,.i s.index,.i s.ty.kind,.s .ty s.ty.args,.raw sv0]++csB))] (AF.Cnv.get ⟨⟨_,rfl,.inl rfl⟩,⟨_,rfl,.inl rfl⟩,⟨_,rfl,.inl rfl⟩,⟨_,rfl,.inr (.inl ⟨_,rfl,rfl⟩)⟩,trivial⟩) (Es.CnvN.get ⟨.inr ⟨_,rfl,.same (fun _=> .inl rfl) _⟩,.inr ⟨_,rfl,.same (fun _=> .inl rfl) _⟩,.inr ⟨_,rfl,.same (fun _=> .inl rfl) _⟩,.inl ⟨rfl,rfl⟩,trivial⟩) (.of ?_))) ?_)
    ·repeat' (first|((with_reducible refine D.nil ?_);refine AX.nilL ?_)|((with_reducible refine D.move ?_);refine L.mv U U U ?_)|((with_reducible refine D.assign ?_);refine L.asg U U U ?_)|((with_reducible refine D.bin ?_);refine L.bn U U U U U ?_)|((with_reducible refine D.call ?_);first|(apply L.cb2 (hn5y) [0] 0 rfl;rfl;rfl;rfl;rfl;rfl;rfl;(focus((repeat'(first|exact trivial|refine And.intro ?_ ?_|refine⟨_,U,_,U,_,U,?_⟩|exact VLe.refl _));done));rfl;rfl;rfl;rfl)|(apply L.cb2 (hty) [0] 0 rfl;rfl;rfl;rfl;rfl;rfl;rfl;(focus((repeat'(first|exact trivial|refine And.intro ?_ ?_|refine⟨_,U,_,U,_,U,?_⟩|exact VLe.refl _));done));rfl;rfl;rfl;rfl)|(apply L.cb2 (htm) [0] 0 rfl;rfl;rfl;rfl;rfl;rfl;rfl;(focus((repeat'(first|exact trivial|refine And.intro ?_ ?_|refine⟨_,U,_,U,_,U,?_⟩|exact VLe.refl _));done));rfl;rfl;rfl;rfl))|((with_reducible refine D.store ?_);refine L.stm 0 U U U U U U U lA U U ?_)|((with_reducible refine D.ax ?_);refine L.nc U U U U ?_)|((with_reducible refine D.aw ?_);first|((with_reducible refine D.blk ?_);refine AW.block ?_)|refine K.sq (AW.regL ?_)|refine AW.regL ?_|refine AW.condF U ?_)|with_reducible refine K.tN ?_|with_reducible refine K.bN ?_)
     refine⟨_,[(0,.ptr 0 0),(3,.ptr 1 0),(4,.ptr 2 0)],[(0,.var ((Dk.tm 3 ((dd.next 5).2.type 1).2 [] ((dd.next 5).2.type 1).1).2).cells),(1,.var rc),(2,.var [.i 0,.i 0,.i 0,.slice .nil (.t .ty []),.slice .nil (.t .tm [])]),(3,.gone)],rfl,hfr _ (YMs.free (s:=False) (ym_dats _ (view_isD .tm ((Dk.tm 3 ((dd.next 5).2.type 1).2 [] ((dd.next 5).2.type 1).1).1)))),AF.Cnv.get ⟨⟨_,rfl,.inl rfl⟩,⟨_,rfl,.inl rfl⟩,⟨_,rfl,.inl rfl⟩,trivial⟩,Es.Cnv.get ⟨⟨_,rfl,.same (fun _=> .inl rfl) _⟩,⟨_,rfl,.same (fun _=> .inl rfl) _⟩,⟨_,rfl,.same (fun _=> .inl rfl) _⟩,⟨_,rfl,trivial⟩,trivial⟩,rfl,fun hne=> ?_⟩
     obtain⟨X,yX,w1,w2,w3⟩:=wand _ _ [] ((Dk.tm 3 ((dd.next 5).2.type 1).2 [] ((dd.next 5).2.type 1).1).1) (EC.view_len .tm _) (ym_dats (Tm.view ((Dk.tm 3 ((dd.next 5).2.type 1).2 [] ((dd.next 5).2.type 1).1).1)) (view_isD .tm _)) (er_dats (Tm.view ((Dk.tm 3 ((dd.next 5).2.type 1).2 [] ((dd.next 5).2.type 1).1).1)) (view_isD .tm _))
     exact(fin_w (c:= .tm) (X:=X) w1 w2 (fun p h=>by have:=w3.mem_iff.1 h;rw[List.nil_append] at this;exact List.mem_cons.2 ((List.mem_cons.1 this).imp id (fun h=>List.mem_append_right _ h))) (hndc _ _) (fun _=>rfl) (fun _=>rfl) rfl rfl rfl rfl rfl rfl rfl).mono fun a σ y h=>⟨rfl,h⟩
    ·rintro e a σ y' ⟨rfl,rfl,rfl,rfl⟩
     refine K.yT (BW.seq (.of (AW.regL ?_)))
     repeat'(first|((with_reducible refine D.nil ?_);refine AX.nilL ?_)|((with_reducible refine D.load ?_);refine L.ldb U U U U U U ?_)|((with_reducible refine D.store ?_);refine L.st U U U U U U U U U ?_))
     refine K.yT (BW.ret ⟨rfl,?_⟩)
     (exact K.n2 [some 0] U U U U U (by(repeat'(first|exact trivial|refine And.intro ?_ ?_|refine⟨_,U,_,U,_,U,?_⟩|exact VLe.refl _));done) U (by simp[tupV,V.wk,V.wks,constV,Ty.view,Tm.view,Tm.kind_mk]))
end Go.Ab
