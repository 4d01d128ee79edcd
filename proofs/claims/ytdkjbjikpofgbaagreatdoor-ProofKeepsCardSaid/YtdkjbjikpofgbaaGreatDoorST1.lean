/- A part of the proofs of this seat's statements: S78, S79, S97b, S98, S99. It has no conditions of its own. -/
import Derived.Test.YtdkjbjikpofgbaaGreatDoorS3
import Derived.Test.YtdkjbjikpofgbaaGreatDoorAT1
import Derived.Test.YtdkjbjikpofgbaaGreatDoorDT1
import Derived.Test.YtdkjbjikpofgbaaGreatDoorA2
import Derived.Test.YtdkjbjikpofgbaaGreatDoorS4
import Derived.Test.YtdkjbjikpofgbaaGreatDoorS1
import Derived.Test.YtdkjbjikpofgbaaGreatDoorD1
namespace Go.Ab
open Go Go.Proofs
set_option maxRecDepth 100000
set_option maxHeartbeats 4000000
set_option linter.all false
def srJ(r:Nat):List Int→AF×Sto
 |[]=>([(3,.slice .nil (.t .int [])),(7,.raw (.pointer (some ⟨r,0,none⟩)))],⟨1,[(0,.gone)]⟩)
 |x::d=>([(3,.arr 1 (d.length+1) 1),(7,.raw (.pointer (some ⟨r,0,none⟩)))],⟨2,[(1,.var ((yj (x::d)).flatMap EC.int.view)),(0,.gone)]⟩)
theorem Zwh(r:Nat)(d:List Int)(q:Int):srJ r (d++[q])=([(3,.arr 1 (d.length+1) 1),(7,.raw (.pointer (some ⟨r,0,none⟩)))],⟨2,[(1,.var ((yj (d++[q])).flatMap EC.int.view)),(0,.gone)]⟩):=by
 cases d with
 |nil=>rfl
 |cons x d=>simp[srJ]
def srL(r:Nat)(l:List Int)(q:Int)(i:Nat):AF×Sto:=([(3,.arr 1 (l.length+1) 1),(4,.i q),(5,.i i),(7,.raw (.pointer (some ⟨r,0,none⟩)))],⟨2,[(1,.var ((Zd8 (yj l) q i).flatMap EC.int.view)),(0,.gone)]⟩)
theorem Zlu{ks:List Int}(hnd:ks.Nodup)(hlen:ks.length<549755813888):AC E 227 [.mp 0] ⟨1,[(0,.map .bl ks (List.replicate ks.length true))]⟩ (.s .int (yj ks)) ⟨1,[(0,.map .bl ks (List.replicate ks.length true))]⟩:=by
 refine AC.mk Tryz.func227 rfl rfl rfl rfl rfl (Nat.le_of_ble_eq_true rfl) ?_
 repeat'(first|((with_reducible refine D.nil ?_);refine AX.nilL ?_)|((with_reducible refine D.assign ?_);refine L.asg U U U ?_)|((with_reducible refine D.aw ?_);(fail_if_success with_reducible refine D.stopR (id:=2) ?_);(fail_if_success with_reducible refine D.stopS (id:=2) ?_);refine K.sq (AW.regL ?_))|with_reducible refine K.tN ?_)
 refine K.sq (AW.rangeM (n:=0) (c:= .bl) (ks:=ks) (xs:=List.replicate ks.length true) (kt:=3) (et:=4) (J:=srJ) ?_ ?_ ?_ ?_ hnd ?_ ?_ ?_ ?_ ?_ ?_ ?_)
 ·rfl
 ·rfl
 ·exact Nat.lt_succ_self 0
 ·kernel_rfl
 ·rfl
 ·intro r l;cases l<;>rfl
 ·intro r l t ht
  simp only[List.mem_cons,List.not_mem_nil,or_false] at ht
  rcases ht with rfl|rfl|rfl|rfl|rfl<;>cases l<;>rfl
 ·intro r l e he;cases l<;>cases he<;>rfl
 ·intro r
  exact(Weak.mk [some 0] _ _ _ U U U U (by(repeat'(first|exact trivial|refine And.intro ?_ ?_|refine⟨_,U,_,U,?_⟩|exact VLe.refl _));done) (by(repeat'(first|exact trivial|refine And.intro ?_ ?_|exact Eq.refl true));done))
 ·intro r l q hl hlk hq hql
  have hll:=Zke hl hlk
  have hsl:=Zdj l
  rw[Zwh]
  have tail:∀(i:Nat),i≤l.length→(∀x∈(yj l).drop i,q<x)→(∀(hi:0<i) (hl:i-1<(yj l).length),(yj l)[i-1]≤q)→((Zd8 (yj l) q i).set i q)=yj (l++[q]):=fun i hi h1 h2=>by
   rw[Zry (by omega)];exact Zti h1 h2 (by omega)
  have hE:Zd8 (yj l) q l.length=yj l++[q]:=by rw[←hsl];exact Zxe _ _
  have hat:∀j (h:j<l.length) (h':j<(Zd8 (yj l) q (j+1)).length),(Zd8 (yj l) q (j+1))[j]=(yj l)[j]'(by omega):=fun j h h'=>Zyz (by omega) h'
  have hst:∀j (h:j<l.length),(Zd8 (yj l) q (j+1)).set (j+1) ((yj l)[j]'(by omega))=Zd8 (yj l) q j:=fun j h=>Zr7 (by omega)
  have hln:∀i,i≤l.length→(Zd8 (yj l) q i).length=l.length+1:=fun i hi=>by rw[Zv8 (by omega),hsl]
  cases l with
  |nil=>
   repeat'(first|((with_reducible refine D.nil ?_);refine AX.nilL ?_)|((with_reducible refine D.move ?_);refine L.mv U U U ?_)|((with_reducible refine D.assign ?_);refine L.asg U U U ?_)|((with_reducible refine D.call ?_);refine L.lnt U U U U ?_)|((with_reducible refine D.aw ?_);(fail_if_success with_reducible refine D.stopR (id:=6) ?_);(fail_if_success with_reducible refine D.stopS (id:=6) ?_);refine K.sq (AW.regL ?_))|with_reducible refine K.tN ?_)
   refine K.sq (AW.regL ?_)
   refine L.mv rfl rfl rfl ?_
   refine L.mv rfl rfl rfl ?_
   refine L.bs1 rfl rfl rfl rfl rfl (EC.fold_of rfl) rfl rfl ?_
   refine L.apA (te:=3) (e:= .int) (l:=[q]) rfl rfl rfl rfl (by kernel_rfl) rfl rfl rfl rfl (by simp) (by simp) ?_
   repeat'(first|((with_reducible refine D.nil ?_);refine AX.nilL ?_)|((with_reducible refine D.assign ?_);refine L.asg U U U ?_)|with_reducible refine K.tN ?_)
   refine K.sq (AW.block (AW.loop (ι:={i:Nat // i≤0∧∀x∈(yj []).drop i,q<x}) (fun i=>srL r [] q i.1) (fun i=>i.1) ⟨0,Nat.le_refl _,by simp[Zda]⟩ ?_ ?_))
   ·show Weak _ _ _ _ _ (srL r [] q 0).1 (srL r [] q 0).2
    simp only[srL]
    rw[show Zd8 (yj []) q 0=[q] from hE.trans (by rw[Zda];rfl)]
    exact(Weak.mk [some 0,some 1] _ _ _ U U U U (by(repeat'(first|exact trivial|refine And.intro ?_ ?_|refine⟨_,U,_,U,?_⟩|exact VLe.refl _));done) (by(repeat'(first|exact trivial|refine And.intro ?_ ?_|refine⟨_,U,_,U,_,U,?_⟩|exact VLe.refl _|exact Eq.refl true));done))
   ·rintro ⟨i,hi,h1⟩
    obtain rfl:i=0:=by omega
    repeat'(first|((with_reducible refine D.nil ?_);refine AX.nilL ?_)|((with_reducible refine D.load ?_);refine AX.sk U U ?_)|((with_reducible refine D.move ?_);first|refine L.mv U U U ?_|refine AX.sk U U ?_)|((with_reducible refine D.bin ?_);first|refine L.bn U U U U U ?_|refine AX.sk U U ?_)|((with_reducible refine D.indexAddr ?_);refine AX.sk U U ?_)|((with_reducible refine D.pick ?_);refine L.pk U U U U ?_)|((with_reducible refine D.aw ?_);first|refine K.sq (K.sq ?_)|refine AW.regL ?_|refine AW.condF U ?_|refine AW.exit ?_)|with_reducible refine K.tN ?_|with_reducible refine K.tE ?_|with_reducible refine K.bX (by with_unfolding_all rfl) ?_|with_reducible refine K.lE ?_)
    refine L.ixr 0 rfl rfl rfl rfl rfl (by decide) rfl ?_
    refine L.sta (c:= .int) (l:=Zd8 (yj []) q 0) (u:=q) 0 rfl rfl rfl rfl rfl rfl rfl rfl (by rw[hln 0 (Nat.le_refl _)];decide) rfl ?_
    repeat'(first|((with_reducible refine D.nil ?_);refine AX.nilL ?_))
    refine⟨rfl,?_⟩
    simp only[tail 0 (Nat.le_refl _) h1 (fun h=>absurd h (by decide))]
    exact(Weak.mk [some 0,some 1] _ _ _ U U U U (by(repeat'(first|exact trivial|refine And.intro ?_ ?_|refine⟨_,U,_,U,?_⟩|exact VLe.refl _));done) (by(repeat'(first|exact trivial|refine And.intro ?_ ?_|exact VsLe.refl _|exact Eq.refl true|refine⟨_,U,_,yh _ _ _,_,U,?_⟩));done))
  |cons x d=>
   skip
   refine K.sq (AW.regL ?_)
   refine L.mv rfl rfl rfl ?_
   refine L.lnR rfl rfl rfl rfl ?_
   repeat'(first|((with_reducible refine D.nil ?_);refine AX.nilL ?_)|((with_reducible refine D.assign ?_);refine L.asg U U U ?_)|with_reducible refine K.tN ?_)
   refine K.sq (AW.regL ?_)
   refine L.mv rfl rfl rfl ?_
   refine L.mv rfl rfl rfl ?_
   refine L.bs1 rfl rfl rfl rfl rfl (EC.fold_of rfl) rfl rfl ?_
   refine L.apR (te:=3) (e:= .int) (l:=[q]) rfl rfl rfl rfl (by kernel_rfl) rfl rfl (by rw[u5,hsl];rfl) rfl rfl rfl (by simp) (by simp only[List.length_cons,List.length_nil] at hll ⊢;omega) ?_
   rw[←List.flatMap_append]
   repeat'(first|((with_reducible refine D.nil ?_);refine AX.nilL ?_)|((with_reducible refine D.assign ?_);refine L.asg U U U ?_)|with_reducible refine K.tN ?_)
   refine K.sq (AW.block (AW.loop (ι:={i:Nat // i≤(x::d).length∧∀y∈(yj (x::d)).drop i,q<y}) (fun i=>srL r (x::d) q i.1) (fun i=>i.1) ⟨(x::d).length,Nat.le_refl _,by rw[←hsl,List.drop_length];intro y hy;cases hy⟩ ?_ ?_))
   ·show Weak _ _ _ _ _ (srL r (x::d) q (x::d).length).1 (srL r (x::d) q (x::d).length).2
    simp only[srL]
    rw[hE]
    exact(Weak.mk [some 0,some 2] _ _ _ U U U U (by(repeat'(first|exact trivial|refine And.intro ?_ ?_|refine⟨_,U,_,U,?_⟩|exact VLe.refl _));done) (by(repeat'(first|exact trivial|refine And.intro ?_ ?_|exact VsLe.refl _|exact Eq.refl true|refine⟨_,U,_,yh _ _ _,_,U,?_⟩));done))
   ·rintro ⟨i,hi,h1⟩
    cases i with
    |zero=>
     repeat'(first|((with_reducible refine D.nil ?_);refine AX.nilL ?_)|((with_reducible refine D.load ?_);refine AX.sk U U ?_)|((with_reducible refine D.move ?_);first|refine L.mv U U U ?_|refine AX.sk U U ?_)|((with_reducible refine D.bin ?_);first|refine L.bn U U U U U ?_|refine AX.sk U U ?_)|((with_reducible refine D.indexAddr ?_);refine AX.sk U U ?_)|((with_reducible refine D.pick ?_);refine L.pk U U U U ?_)|((with_reducible refine D.aw ?_);first|refine K.sq (K.sq ?_)|refine AW.regL ?_|refine AW.condF U ?_|refine AW.exit ?_)|with_reducible refine K.tN ?_|with_reducible refine K.tE ?_|with_reducible refine K.bX (by with_unfolding_all rfl) ?_|with_reducible refine K.lE ?_)
     refine L.ixr 0 rfl rfl rfl rfl rfl (Nat.succ_pos _) rfl ?_
     refine L.sta (c:= .int) (l:=Zd8 (yj (x::d)) q 0) (u:=q) 0 rfl rfl rfl rfl rfl rfl rfl rfl (by rw[hln 0 (Nat.zero_le _)];exact Nat.succ_pos _) rfl ?_
     repeat'(first|((with_reducible refine D.nil ?_);refine AX.nilL ?_))
     refine⟨rfl,?_⟩
     simp only[tail 0 (Nat.zero_le _) h1 (fun h=>absurd h (by decide))]
     exact(Weak.mk [some 0,some 1] _ _ _ U U U U (by(repeat'(first|exact trivial|refine And.intro ?_ ?_|refine⟨_,U,_,U,?_⟩|exact VLe.refl _));done) (by(repeat'(first|exact trivial|refine And.intro ?_ ?_|exact VsLe.refl _|exact Eq.refl true|refine⟨_,U,_,yh _ _ _,_,U,?_⟩));done))
    |succ i=>
     have hi':i<(x::d).length:=by omega
     have hsi:i<(yj (x::d)).length:=by omega
     have hdl:(x::d).length=d.length+1:=rfl
     have hl0:=hln (i+1) hi
     have hl1:i<(Zd8 (yj (x::d)) q (i+1)).length:=by omega
     have ha:=hat i hi' hl1
     have hs:=hst i hi'
     show AW _ _ _ _ (srL r (x::d) q (i+1)).1 (srL r (x::d) q (i+1)).2 _
     repeat'(first|((with_reducible refine D.nil ?_);refine AX.nilL ?_)|((with_reducible refine D.load ?_);refine AX.sk U U ?_)|((with_reducible refine D.move ?_);first|refine L.mv U U U ?_|refine AX.sk U U ?_|((fail_if_success refine AX.wt U ?_);refine AX.gs U U (fun _=>trivial) (fun h=> ?_) (fun h=> ?_)))|((with_reducible refine D.bin ?_);first|refine L.sb U U U U (by omega) ?_|refine L.bn U U U U U ?_|refine AX.sk U U ?_)|((with_reducible refine D.indexAddr ?_);refine AX.sk U U ?_)|((with_reducible refine D.pick ?_);refine L.pk U U U U ?_)|((with_reducible refine D.aw ?_);first|refine K.sq (K.sq ?_)|refine AW.regL ?_|refine AW.condF U ?_|refine AW.exit ?_)|with_reducible refine K.tN ?_|with_reducible refine K.tE ?_|with_reducible refine K.bX (by with_unfolding_all rfl) ?_|with_reducible refine K.lE ?_)
     ·refine L.ixr i rfl rfl rfl rfl (by simp) (by omega) rfl ?_
      refine L.ldr (c:= .int) (l:=Zd8 (yj (x::d)) q (i+1)) i rfl rfl rfl rfl rfl hl1 rfl rfl rfl ?_
      rw[ha]
      repeat'(first|((with_reducible refine D.nil ?_);refine AX.nilL ?_)|((with_reducible refine D.move ?_);refine L.mv U U U ?_)|((with_reducible refine D.bin ?_);refine L.bn U U U U U ?_)|((with_reducible refine D.pick ?_);refine L.pk U U U U ?_)|((with_reducible refine D.aw ?_);first|refine AW.regL ?_|refine AW.condS U (fun h=> ?_) (fun h=> ?_)|refine AW.skip ?_|refine AW.exit ?_)|with_reducible refine K.tN ?_|with_reducible refine K.tE ?_|with_reducible refine K.bX (by with_unfolding_all rfl) ?_|with_reducible refine K.lE ?_)
      ·have hgt:q<(yj (x::d))[i]:=by simpa using h
       repeat'(first|((with_reducible refine D.move ?_);refine L.mv U U U ?_)|((with_reducible refine D.bin ?_);refine L.sb U U U U (by omega) ?_)|((with_reducible refine D.aw ?_);first|((with_reducible refine D.blk ?_);refine AW.block ?_)|refine K.sq (AW.regL ?_)))
       refine L.ixr i rfl rfl rfl rfl (by simp) (by omega) rfl ?_
       refine L.ldr (c:= .int) (l:=Zd8 (yj (x::d)) q (i+1)) i rfl rfl rfl rfl rfl hl1 rfl rfl rfl ?_
       rw[ha]
       refine L.ixr (i+1) rfl rfl rfl rfl rfl (by omega) rfl ?_
       refine L.sta (c:= .int) (l:=Zd8 (yj (x::d)) q (i+1)) (u:=(yj (x::d))[i]) (i+1) rfl rfl rfl rfl rfl rfl rfl rfl (by omega) rfl ?_
       rw[hs]
       repeat'(first|((with_reducible refine D.nil ?_);refine AX.nilL ?_)|((with_reducible refine D.move ?_);refine L.mv U U U ?_)|((with_reducible refine D.assign ?_);refine L.asg U U U ?_)|((with_reducible refine D.bin ?_);refine L.sb U U U U (by omega) ?_)|((with_reducible refine D.aw ?_);refine AW.regL ?_)|with_reducible refine K.tN ?_|with_reducible refine K.bN ?_)
       refine⟨⟨i,by omega,fun y hy=> ?_⟩,by show i<i+1;omega,?_⟩
       ·rw [List.drop_eq_getElem_cons hsi] at hy
        rcases List.mem_cons.1 hy with rfl|hy
        ·exact hgt
        ·exact h1 y hy
       ·simp only[srL,show(((i+1:Nat):Int)-1)=(i:Int) by omega]
        exact(Weak.mk [some 0,some 1] _ _ _ U U U U (by(repeat'(first|exact trivial|refine And.intro ?_ ?_|refine⟨_,U,_,U,?_⟩|exact VLe.refl _));done) (by(repeat'(first|exact trivial|refine And.intro ?_ ?_|exact VsLe.refl _|exact Eq.refl true|refine⟨_,U,_,yh _ _ _,_,U,?_⟩));done))
      ·have hle:(yj (x::d))[i]≤q:=by simpa using h
       refine L.ixr (i+1) rfl rfl rfl rfl rfl (by omega) rfl ?_
       refine L.sta (c:= .int) (l:=Zd8 (yj (x::d)) q (i+1)) (u:=q) (i+1) rfl rfl rfl rfl rfl rfl rfl rfl (by omega) rfl ?_
       repeat'(first|((with_reducible refine D.nil ?_);refine AX.nilL ?_))
       refine⟨rfl,?_⟩
       simp only[tail (i+1) hi h1 (fun _ _=>hle)]
       exact(Weak.mk [some 0,some 1] _ _ _ U U U U (by(repeat'(first|exact trivial|refine And.intro ?_ ?_|refine⟨_,U,_,U,?_⟩|exact VLe.refl _));done) (by(repeat'(first|exact trivial|refine And.intro ?_ ?_|exact VsLe.refl _|exact Eq.refl true|refine⟨_,U,_,yh _ _ _,_,U,?_⟩));done))
     ·exfalso
      simp at h
 ·intro r l hp
  cases l with
  |nil=>
   have hk0:ks=[]:=by simpa using hp.symm.eq_nil
   subst hk0
   simp only[srJ,Zda]
   repeat'(first|((with_reducible refine D.nil ?_);refine AX.nilL ?_)|((with_reducible refine D.move ?_);refine L.mv U U U ?_)|((with_reducible refine D.assign ?_);refine L.asg U U U ?_)|((with_reducible refine D.aw ?_);first|refine K.sq (AW.regL ?_)|refine AW.ret ?_)|with_reducible refine K.tN ?_)
   (exact K.n2 [some 0] U U U U U (by(repeat'(first|exact trivial|refine And.intro ?_ ?_|refine⟨_,U,_,_,U,?_,?_⟩|with_reducible exact rfl));done) U (by simp[zi,V.wk,V.wks,za,Ty.view,Tm.view,Zda]))
  |cons x d=>
   have hk0:yj (x::d)=yj ks:=Zjt hp
   simp only[srJ,hk0]
   refine AW.frz (c:= .int) 1 (d.length+1) (yj ks) U (by rw[←hk0,Zdj];rfl) (by(repeat'(first|exact trivial|exact fun _=>rfl|exact fun h=>absurd U h|exact fun h=>absurd h (by decide)|refine And.intro ?_ ?_|intro _));done) (by(repeat'(first|exact trivial|exact fun _=>rfl|exact fun h=>absurd U h|exact fun h=>absurd h (by decide)|refine And.intro ?_ ?_|intro _));done) ?_
   repeat'(first|((with_reducible refine D.nil ?_);refine AX.nilL ?_)|((with_reducible refine D.move ?_);refine L.mv U U U ?_)|((with_reducible refine D.assign ?_);refine L.asg U U U ?_)|((with_reducible refine D.aw ?_);first|refine K.sq (AW.regL ?_)|refine AW.ret ?_)|with_reducible refine K.tN ?_)
   (exact K.n2 [some 0] U U U U U (by(repeat'(first|exact trivial|refine And.intro ?_ ?_|refine⟨_,U,_,_,U,?_,?_⟩|with_reducible exact rfl));done) U (by simp[zi,V.wk,V.wks,za,Ty.view,Tm.view,V.frz]))
theorem Zye:∀(n:Nat) (t:Tm) (ks:List Int) (bl:Int),t.full≤n→n<1099511627776→0≤bl→bl+n<1099511627776→(∀p∈t.vars bl,0≤p.1∧p.1<9223372036854775808)→
 AC E 261 [.agg t.view,.i bl,.mp 0] ⟨1,[(0,.map .bl ks (List.replicate ks.length true))]⟩ (.tup []) ⟨1,[(0,.map .bl (nub ks (fre (t.vars bl))) (List.replicate (nub ks (fre (t.vars bl))).length true))]⟩:=by
 intro n
 induction n with
 |zero=>intro t b bl h;have:=t.full_pos;omega
 |succ n ih=>
 intro t ks bl hsz hb hbl hbn hix
 have hsz':=Tm.full_eq t
 have hlen:=zc Tm.full Tm.full_pos t.args
 have hv:=Tm.vars_eq bl t
 have hbe:=Zdl t
 have hup:=Zrf t.kind bl
 have hpl:=Zg6 t.kind bl
 have hi:t.kind=1→0≤t.index∧t.index<9223372036854775808:=fun h=>by simpa using hix (t.index,bl) (by rw[hv];simp[h])
 have loopE:∀m (hm:m<t.args.length) ks',AC E 261 [.agg (t.args[m]).view,.i (bl+up t.kind 0),.mp 0] ⟨1,[(0,.map .bl ks' (List.replicate ks'.length true))]⟩ (.tup []) ⟨1,[(0,.map .bl (nub ks' (fre ((t.args[m]).vars (up t.kind bl)))) (List.replicate (nub ks' (fre ((t.args[m]).vars (up t.kind bl)))).length true))]⟩:=fun m hm ks'=>by
  have hs2:=zb Tm.full (List.getElem_mem hm)
  have:=ih t.args[m] ks' (up t.kind bl) (by omega) (by omega) (by omega) (by omega) (fun p hp=>hix p (by rw[hv];exact List.mem_append_right _ (List.mem_flatMap.2 ⟨_,List.getElem_mem hm,hp⟩)))
  rw[←hpl] at this ⊢;exact this
 obtain⟨k0,hk0⟩:∃k0,k0=nub ks (fre (if t.kind=1 then [(t.index,bl)] else [])):=⟨_,rfl⟩
 have hk1:t.kind=1→t.index≥bl→k0=ve (t.index-bl) ks:=fun h1 h2=>by rw[hk0,if_pos h1,Zs7,if_pos h2];exact Zjr _ _
 have hk2:¬(t.kind=1∧t.index≥bl)→k0=ks:=fun h1=>by
  rw[hk0]
  by_cases h2:t.kind=1
  ·rw [if_pos h2,Zs7,if_neg (fun h3=>h1 ⟨h2,h3⟩)];rfl
  ·rw [if_neg h2];rfl
 have hend:nub ks (fre (t.vars bl))=nub k0 (fre (t.args.flatMap (Tm.vars (up t.kind bl)))):=by rw[hv,Zm2,Zeu,hk0]
 rw[hend]
 by_cases hv1:t.kind=1∧t.index≥bl
 ·have e:=hk1 hv1.1 hv1.2
  have hi':=hi hv1.1
  refine M.F Tryz.func261 ?_
  repeat'(first|refine M.gw ?_|((fail_if_success refine AX.wt U ?_);refine AX.gs U U (fun _=>trivial) (fun h=> ?_) (fun h=> ?_))|refine AW.condS U (fun h=> ?_) (fun h=> ?_)|fail)
  rotate_left
  ·exfalso;simp at h;omega
  ·exfalso;simp at h;exact h hv1.1
  refine AW.range t.args.length (fun m=>True)
   (fun m=>([(1,.i bl),(2,.mp 0),(3,.ptr 1 0),(23,.s .tm t.args),(24,.i t.args.length),(25,.i m)],⟨2,[(0,.map .bl (nub k0 (fre ((t.args.take m).flatMap (Tm.vars (up t.kind bl))))) (List.replicate (nub k0 (fre ((t.args.take m).flatMap (Tm.vars (up t.kind bl))))).length true)),(1,.var t.view)]⟩))
   (by omega) (fun m=>rfl) (fun m=>rfl) rfl trivial ?_ ?_ ?_
  ·simp only[List.take_zero,List.flatMap_nil,Zt7,Zbd]
   rw[e];rw[←uq];exact(M.W [some 0,some 1])
  ·intro m hm hP
   have hc:=loopE m hm (nub k0 (fre ((t.args.take m).flatMap (Tm.vars (up t.kind bl)))))
   repeat'(first|refine M.gw ?_|refine M.c2 (hbe) ?_|refine M.cb (hc) [0] 0 ?_|fail)
   refine⟨rfl,trivial,?_⟩
   exact(M.W [some 0,some 1] (he:=(by(repeat'(first|exact trivial|refine And.intro ?_ ?_|refine⟨_,U,_,U,_,U,?_⟩|exact VLe.refl _|refine⟨_,U,_,_,U,?_,?_⟩|(simp[Sto.upd,Zm2,Zeu,Zav _ _ _ hm];done)));done)))
  ·intro hP
   simp only[List.take_length]
   skip
   (exact M.n2 [some 0] (h8:=(by simp[zi,V.wk,V.wks,za,Ty.view,Tm.view,V.frz])))
 ·have e:=hk2 hv1
  refine M.F Tryz.func261 ?_
  repeat'(first|refine M.gw ?_|((fail_if_success refine AX.wt U ?_);refine AX.gs U U (fun _=>trivial) (fun h=> ?_) (fun h=> ?_))|refine AW.condS U (fun h=> ?_) (fun h=> ?_)|fail)
  ·rename_i h1'
   exfalso;exact hv1 ⟨by simpa using h1',by simpa using h⟩
  all_goals
   refine AW.range t.args.length (fun m=>True)
    (fun m=>([(1,.i bl),(2,.mp 0),(3,.ptr 1 0),(23,.s .tm t.args),(24,.i t.args.length),(25,.i m)],⟨2,[(0,.map .bl (nub k0 (fre ((t.args.take m).flatMap (Tm.vars (up t.kind bl))))) (List.replicate (nub k0 (fre ((t.args.take m).flatMap (Tm.vars (up t.kind bl))))).length true)),(1,.var t.view)]⟩))
    (by omega) (fun m=>rfl) (fun m=>rfl) rfl trivial ?_ ?_ ?_
   ·simp only[List.take_zero,List.flatMap_nil,Zt7,Zbd]
    rw[e];exact(M.W [some 0,some 1])
   ·intro m hm hP
    have hc:=loopE m hm (nub k0 (fre ((t.args.take m).flatMap (Tm.vars (up t.kind bl)))))
    repeat'(first|refine M.gw ?_|refine M.c2 (hbe) ?_|refine M.cb (hc) [0] 0 ?_|fail)
    refine⟨rfl,trivial,?_⟩
    exact(M.W [some 0,some 1] (he:=(by(repeat'(first|exact trivial|refine And.intro ?_ ?_|refine⟨_,U,_,U,_,U,?_⟩|exact VLe.refl _|refine⟨_,U,_,_,U,?_,?_⟩|(simp[Sto.upd,Zm2,Zeu,Zav _ _ _ hm];done)));done)))
   ·intro hP
    simp only[List.take_length]
    skip
    (exact M.n2 [some 0] (h8:=(by simp[zi,V.wk,V.wks,za,Ty.view,Tm.view,V.frz])))
theorem Zy5(t:Tm)(ht:t.full<549755813888)(hix:t.err=0→∀p∈t.vars 0,0≤p.1∧p.1<9223372036854775808):PC E 245 [.agg t.view] (.tup [.s .int (if t.err=0 then Zpn t else []),.i t.err]):=by
 have h1:=vn t (by omega)
 have hc:t.err=0→_:=fun h=>Zye _ t [] 0 (Nat.le_refl _) (by omega) (by omega) (by omega) (hix h)
 have hu:nub [] (fre (t.vars 0))=Zxy t:=rfl
 simp only[List.length_nil,List.replicate_zero,hu] at hc
 have hlen:=Zv1 t
 have hsz:=t.size_le_full
 have hs:=Zlu (Zh4 t) (by omega)
 have e0:yj (Zxy t)=Zpn t:=rfl
 rw[e0] at hs
 refine M.F Tryz.func245 ?_
 repeat'(first|refine M.gw ?_|refine M.c2 (h1) ?_|refine M.cb (hc (by simpa using h)) [1] 0 ?_|refine M.cb (hs) [1] 0 ?_|refine AW.condS U (fun h=> ?_) (fun h=> ?_)|fail)
 ·have e:¬t.err=0:=by simpa using h
  rw[if_neg e];simp[zi,V.wk,V.wks];rfl
 ·have e:t.err=0:=by simpa using h
  rw[if_pos e];simp[zi,V.wk,V.wks,e]
theorem Zck(k:Int):PC E 119 [.i k] (.tup [.agg (ruC k),.bool (ndP k).isSome]):=by
 by_cases hk:1≤k∧k≤20
 ·have:k=1∨k=2∨k=3∨k=4∨k=5∨k=6∨k=7∨k=8∨k=9∨k=10∨k=11∨k=12∨k=13∨k=14∨k=15∨k=16∨k=17∨k=18∨k=19∨k=20:=by omega
  rcases this with rfl|rfl|rfl|rfl|rfl|rfl|rfl|rfl|rfl|rfl|rfl|rfl|rfl|rfl|rfl|rfl|rfl|rfl|rfl|rfl
  all_goals(refine M.F Tryz.func119 ?_)
  all_goals(repeat'(first|refine M.gw ?_|refine L.lkb U U U U U U U U U U ?_|((fail_if_success refine AX.wt U ?_);refine AX.gs U U (fun _=>trivial) (fun h=> ?_) (fun h=> ?_))|((with_reducible refine D.sblk ?_);refine K.sq (AW.block ?_))|((with_reducible refine D.blk ?_);refine AW.block ?_)|refine K.sq (AW.condS U (fun h=> ?_) (fun h=> ?_))|refine AW.condS U (fun h=> ?_) (fun h=> ?_)|((with_reducible show @LE.le Nat _ _ _);omega)|((with_reducible show @LT.lt Nat _ _ _);omega)|fail))
  ·refine L.ixa 1 rfl rfl rfl rfl rfl ?_ ?_ rfl ?_
   ·decide
   ·decide
   repeat'(first|refine M.gw ?_|refine L.lkb U U U U U U U U U U ?_|((fail_if_success refine AX.wt U ?_);refine AX.gs U U (fun _=>trivial) (fun h=> ?_) (fun h=> ?_))|((with_reducible refine D.sblk ?_);refine K.sq (AW.block ?_))|((with_reducible refine D.blk ?_);refine AW.block ?_)|refine K.sq (AW.condS U (fun h=> ?_) (fun h=> ?_))|refine AW.condS U (fun h=> ?_) (fun h=> ?_)|((with_reducible show @LE.le Nat _ _ _);omega)|((with_reducible show @LT.lt Nat _ _ _);omega)|fail)
   rfl
  ·refine L.ixa 2 rfl rfl rfl rfl rfl ?_ ?_ rfl ?_
   ·decide
   ·decide
   repeat'(first|refine M.gw ?_|refine L.lkb U U U U U U U U U U ?_|((fail_if_success refine AX.wt U ?_);refine AX.gs U U (fun _=>trivial) (fun h=> ?_) (fun h=> ?_))|((with_reducible refine D.sblk ?_);refine K.sq (AW.block ?_))|((with_reducible refine D.blk ?_);refine AW.block ?_)|refine K.sq (AW.condS U (fun h=> ?_) (fun h=> ?_))|refine AW.condS U (fun h=> ?_) (fun h=> ?_)|((with_reducible show @LE.le Nat _ _ _);omega)|((with_reducible show @LT.lt Nat _ _ _);omega)|fail)
   rfl
  ·refine L.ixa 3 rfl rfl rfl rfl rfl ?_ ?_ rfl ?_
   ·decide
   ·decide
   repeat'(first|refine M.gw ?_|refine L.lkb U U U U U U U U U U ?_|((fail_if_success refine AX.wt U ?_);refine AX.gs U U (fun _=>trivial) (fun h=> ?_) (fun h=> ?_))|((with_reducible refine D.sblk ?_);refine K.sq (AW.block ?_))|((with_reducible refine D.blk ?_);refine AW.block ?_)|refine K.sq (AW.condS U (fun h=> ?_) (fun h=> ?_))|refine AW.condS U (fun h=> ?_) (fun h=> ?_)|((with_reducible show @LE.le Nat _ _ _);omega)|((with_reducible show @LT.lt Nat _ _ _);omega)|fail)
   rfl
  ·refine L.ixa 4 rfl rfl rfl rfl rfl ?_ ?_ rfl ?_
   ·decide
   ·decide
   repeat'(first|refine M.gw ?_|refine L.lkb U U U U U U U U U U ?_|((fail_if_success refine AX.wt U ?_);refine AX.gs U U (fun _=>trivial) (fun h=> ?_) (fun h=> ?_))|((with_reducible refine D.sblk ?_);refine K.sq (AW.block ?_))|((with_reducible refine D.blk ?_);refine AW.block ?_)|refine K.sq (AW.condS U (fun h=> ?_) (fun h=> ?_))|refine AW.condS U (fun h=> ?_) (fun h=> ?_)|((with_reducible show @LE.le Nat _ _ _);omega)|((with_reducible show @LT.lt Nat _ _ _);omega)|fail)
   rfl
  ·refine L.ixa 5 rfl rfl rfl rfl rfl ?_ ?_ rfl ?_
   ·decide
   ·decide
   repeat'(first|refine M.gw ?_|refine L.lkb U U U U U U U U U U ?_|((fail_if_success refine AX.wt U ?_);refine AX.gs U U (fun _=>trivial) (fun h=> ?_) (fun h=> ?_))|((with_reducible refine D.sblk ?_);refine K.sq (AW.block ?_))|((with_reducible refine D.blk ?_);refine AW.block ?_)|refine K.sq (AW.condS U (fun h=> ?_) (fun h=> ?_))|refine AW.condS U (fun h=> ?_) (fun h=> ?_)|((with_reducible show @LE.le Nat _ _ _);omega)|((with_reducible show @LT.lt Nat _ _ _);omega)|fail)
   rfl
  ·refine L.ixa 6 rfl rfl rfl rfl rfl ?_ ?_ rfl ?_
   ·decide
   ·decide
   repeat'(first|refine M.gw ?_|refine L.lkb U U U U U U U U U U ?_|((fail_if_success refine AX.wt U ?_);refine AX.gs U U (fun _=>trivial) (fun h=> ?_) (fun h=> ?_))|((with_reducible refine D.sblk ?_);refine K.sq (AW.block ?_))|((with_reducible refine D.blk ?_);refine AW.block ?_)|refine K.sq (AW.condS U (fun h=> ?_) (fun h=> ?_))|refine AW.condS U (fun h=> ?_) (fun h=> ?_)|((with_reducible show @LE.le Nat _ _ _);omega)|((with_reducible show @LT.lt Nat _ _ _);omega)|fail)
   rfl
  ·refine L.ixa 7 rfl rfl rfl rfl rfl ?_ ?_ rfl ?_
   ·decide
   ·decide
   repeat'(first|refine M.gw ?_|refine L.lkb U U U U U U U U U U ?_|((fail_if_success refine AX.wt U ?_);refine AX.gs U U (fun _=>trivial) (fun h=> ?_) (fun h=> ?_))|((with_reducible refine D.sblk ?_);refine K.sq (AW.block ?_))|((with_reducible refine D.blk ?_);refine AW.block ?_)|refine K.sq (AW.condS U (fun h=> ?_) (fun h=> ?_))|refine AW.condS U (fun h=> ?_) (fun h=> ?_)|((with_reducible show @LE.le Nat _ _ _);omega)|((with_reducible show @LT.lt Nat _ _ _);omega)|fail)
   rfl
  ·refine L.ixa 8 rfl rfl rfl rfl rfl ?_ ?_ rfl ?_
   ·decide
   ·decide
   repeat'(first|refine M.gw ?_|refine L.lkb U U U U U U U U U U ?_|((fail_if_success refine AX.wt U ?_);refine AX.gs U U (fun _=>trivial) (fun h=> ?_) (fun h=> ?_))|((with_reducible refine D.sblk ?_);refine K.sq (AW.block ?_))|((with_reducible refine D.blk ?_);refine AW.block ?_)|refine K.sq (AW.condS U (fun h=> ?_) (fun h=> ?_))|refine AW.condS U (fun h=> ?_) (fun h=> ?_)|((with_reducible show @LE.le Nat _ _ _);omega)|((with_reducible show @LT.lt Nat _ _ _);omega)|fail)
   rfl
  ·refine L.ixa 9 rfl rfl rfl rfl rfl ?_ ?_ rfl ?_
   ·decide
   ·decide
   repeat'(first|refine M.gw ?_|refine L.lkb U U U U U U U U U U ?_|((fail_if_success refine AX.wt U ?_);refine AX.gs U U (fun _=>trivial) (fun h=> ?_) (fun h=> ?_))|((with_reducible refine D.sblk ?_);refine K.sq (AW.block ?_))|((with_reducible refine D.blk ?_);refine AW.block ?_)|refine K.sq (AW.condS U (fun h=> ?_) (fun h=> ?_))|refine AW.condS U (fun h=> ?_) (fun h=> ?_)|((with_reducible show @LE.le Nat _ _ _);omega)|((with_reducible show @LT.lt Nat _ _ _);omega)|fail)
   rfl
  ·refine L.ixa 10 rfl rfl rfl rfl rfl ?_ ?_ rfl ?_
   ·decide
   ·decide
   repeat'(first|refine M.gw ?_|refine L.lkb U U U U U U U U U U ?_|((fail_if_success refine AX.wt U ?_);refine AX.gs U U (fun _=>trivial) (fun h=> ?_) (fun h=> ?_))|((with_reducible refine D.sblk ?_);refine K.sq (AW.block ?_))|((with_reducible refine D.blk ?_);refine AW.block ?_)|refine K.sq (AW.condS U (fun h=> ?_) (fun h=> ?_))|refine AW.condS U (fun h=> ?_) (fun h=> ?_)|((with_reducible show @LE.le Nat _ _ _);omega)|((with_reducible show @LT.lt Nat _ _ _);omega)|fail)
   rfl
  ·refine L.ixa 11 rfl rfl rfl rfl rfl ?_ ?_ rfl ?_
   ·decide
   ·decide
   repeat'(first|refine M.gw ?_|refine L.lkb U U U U U U U U U U ?_|((fail_if_success refine AX.wt U ?_);refine AX.gs U U (fun _=>trivial) (fun h=> ?_) (fun h=> ?_))|((with_reducible refine D.sblk ?_);refine K.sq (AW.block ?_))|((with_reducible refine D.blk ?_);refine AW.block ?_)|refine K.sq (AW.condS U (fun h=> ?_) (fun h=> ?_))|refine AW.condS U (fun h=> ?_) (fun h=> ?_)|((with_reducible show @LE.le Nat _ _ _);omega)|((with_reducible show @LT.lt Nat _ _ _);omega)|fail)
   rfl
  ·refine L.ixa 12 rfl rfl rfl rfl rfl ?_ ?_ rfl ?_
   ·decide
   ·decide
   repeat'(first|refine M.gw ?_|refine L.lkb U U U U U U U U U U ?_|((fail_if_success refine AX.wt U ?_);refine AX.gs U U (fun _=>trivial) (fun h=> ?_) (fun h=> ?_))|((with_reducible refine D.sblk ?_);refine K.sq (AW.block ?_))|((with_reducible refine D.blk ?_);refine AW.block ?_)|refine K.sq (AW.condS U (fun h=> ?_) (fun h=> ?_))|refine AW.condS U (fun h=> ?_) (fun h=> ?_)|((with_reducible show @LE.le Nat _ _ _);omega)|((with_reducible show @LT.lt Nat _ _ _);omega)|fail)
   rfl
  ·refine L.ixa 13 rfl rfl rfl rfl rfl ?_ ?_ rfl ?_
   ·decide
   ·decide
   repeat'(first|refine M.gw ?_|refine L.lkb U U U U U U U U U U ?_|((fail_if_success refine AX.wt U ?_);refine AX.gs U U (fun _=>trivial) (fun h=> ?_) (fun h=> ?_))|((with_reducible refine D.sblk ?_);refine K.sq (AW.block ?_))|((with_reducible refine D.blk ?_);refine AW.block ?_)|refine K.sq (AW.condS U (fun h=> ?_) (fun h=> ?_))|refine AW.condS U (fun h=> ?_) (fun h=> ?_)|((with_reducible show @LE.le Nat _ _ _);omega)|((with_reducible show @LT.lt Nat _ _ _);omega)|fail)
   rfl
  ·refine L.ixa 14 rfl rfl rfl rfl rfl ?_ ?_ rfl ?_
   ·decide
   ·decide
   repeat'(first|refine M.gw ?_|refine L.lkb U U U U U U U U U U ?_|((fail_if_success refine AX.wt U ?_);refine AX.gs U U (fun _=>trivial) (fun h=> ?_) (fun h=> ?_))|((with_reducible refine D.sblk ?_);refine K.sq (AW.block ?_))|((with_reducible refine D.blk ?_);refine AW.block ?_)|refine K.sq (AW.condS U (fun h=> ?_) (fun h=> ?_))|refine AW.condS U (fun h=> ?_) (fun h=> ?_)|((with_reducible show @LE.le Nat _ _ _);omega)|((with_reducible show @LT.lt Nat _ _ _);omega)|fail)
   rfl
  ·refine L.ixa 15 rfl rfl rfl rfl rfl ?_ ?_ rfl ?_
   ·decide
   ·decide
   repeat'(first|refine M.gw ?_|refine L.lkb U U U U U U U U U U ?_|((fail_if_success refine AX.wt U ?_);refine AX.gs U U (fun _=>trivial) (fun h=> ?_) (fun h=> ?_))|((with_reducible refine D.sblk ?_);refine K.sq (AW.block ?_))|((with_reducible refine D.blk ?_);refine AW.block ?_)|refine K.sq (AW.condS U (fun h=> ?_) (fun h=> ?_))|refine AW.condS U (fun h=> ?_) (fun h=> ?_)|((with_reducible show @LE.le Nat _ _ _);omega)|((with_reducible show @LT.lt Nat _ _ _);omega)|fail)
   rfl
  ·refine L.ixa 16 rfl rfl rfl rfl rfl ?_ ?_ rfl ?_
   ·decide
   ·decide
   repeat'(first|refine M.gw ?_|refine L.lkb U U U U U U U U U U ?_|((fail_if_success refine AX.wt U ?_);refine AX.gs U U (fun _=>trivial) (fun h=> ?_) (fun h=> ?_))|((with_reducible refine D.sblk ?_);refine K.sq (AW.block ?_))|((with_reducible refine D.blk ?_);refine AW.block ?_)|refine K.sq (AW.condS U (fun h=> ?_) (fun h=> ?_))|refine AW.condS U (fun h=> ?_) (fun h=> ?_)|((with_reducible show @LE.le Nat _ _ _);omega)|((with_reducible show @LT.lt Nat _ _ _);omega)|fail)
   rfl
  ·refine L.ixa 17 rfl rfl rfl rfl rfl ?_ ?_ rfl ?_
   ·decide
   ·decide
   repeat'(first|refine M.gw ?_|refine L.lkb U U U U U U U U U U ?_|((fail_if_success refine AX.wt U ?_);refine AX.gs U U (fun _=>trivial) (fun h=> ?_) (fun h=> ?_))|((with_reducible refine D.sblk ?_);refine K.sq (AW.block ?_))|((with_reducible refine D.blk ?_);refine AW.block ?_)|refine K.sq (AW.condS U (fun h=> ?_) (fun h=> ?_))|refine AW.condS U (fun h=> ?_) (fun h=> ?_)|((with_reducible show @LE.le Nat _ _ _);omega)|((with_reducible show @LT.lt Nat _ _ _);omega)|fail)
   rfl
  ·refine L.ixa 18 rfl rfl rfl rfl rfl ?_ ?_ rfl ?_
   ·decide
   ·decide
   repeat'(first|refine M.gw ?_|refine L.lkb U U U U U U U U U U ?_|((fail_if_success refine AX.wt U ?_);refine AX.gs U U (fun _=>trivial) (fun h=> ?_) (fun h=> ?_))|((with_reducible refine D.sblk ?_);refine K.sq (AW.block ?_))|((with_reducible refine D.blk ?_);refine AW.block ?_)|refine K.sq (AW.condS U (fun h=> ?_) (fun h=> ?_))|refine AW.condS U (fun h=> ?_) (fun h=> ?_)|((with_reducible show @LE.le Nat _ _ _);omega)|((with_reducible show @LT.lt Nat _ _ _);omega)|fail)
   rfl
  ·refine L.ixa 19 rfl rfl rfl rfl rfl ?_ ?_ rfl ?_
   ·decide
   ·decide
   repeat'(first|refine M.gw ?_|refine L.lkb U U U U U U U U U U ?_|((fail_if_success refine AX.wt U ?_);refine AX.gs U U (fun _=>trivial) (fun h=> ?_) (fun h=> ?_))|((with_reducible refine D.sblk ?_);refine K.sq (AW.block ?_))|((with_reducible refine D.blk ?_);refine AW.block ?_)|refine K.sq (AW.condS U (fun h=> ?_) (fun h=> ?_))|refine AW.condS U (fun h=> ?_) (fun h=> ?_)|((with_reducible show @LE.le Nat _ _ _);omega)|((with_reducible show @LT.lt Nat _ _ _);omega)|fail)
   rfl
  ·refine L.ixa 20 rfl rfl rfl rfl rfl ?_ ?_ rfl ?_
   ·decide
   ·decide
   repeat'(first|refine M.gw ?_|refine L.lkb U U U U U U U U U U ?_|((fail_if_success refine AX.wt U ?_);refine AX.gs U U (fun _=>trivial) (fun h=> ?_) (fun h=> ?_))|((with_reducible refine D.sblk ?_);refine K.sq (AW.block ?_))|((with_reducible refine D.blk ?_);refine AW.block ?_)|refine K.sq (AW.condS U (fun h=> ?_) (fun h=> ?_))|refine AW.condS U (fun h=> ?_) (fun h=> ?_)|((with_reducible show @LE.le Nat _ _ _);omega)|((with_reducible show @LT.lt Nat _ _ _);omega)|fail)
   rfl
 ·have e:ndP k=none:=by
   unfold ndP
   repeat rw[if_neg (by omega)]
  have e2:ruC k=[.bool false,.bool false,.i 0,.i 0,.i 0,.i 0,.i 0,.i 0]:=by unfold ruC;rw[e]
  rw[e,e2]
  refine M.F Tryz.func119 ?_
  repeat'(first|refine M.gw ?_|refine L.lkb U U U U U U U U U U ?_|((fail_if_success refine AX.wt U ?_);refine AX.gs U U (fun _=>trivial) (fun h=> ?_) (fun h=> ?_))|((with_reducible refine D.sblk ?_);refine K.sq (AW.block ?_))|((with_reducible refine D.blk ?_);refine AW.block ?_)|refine K.sq (AW.condS U (fun h=> ?_) (fun h=> ?_))|refine AW.condS U (fun h=> ?_) (fun h=> ?_)|((with_reducible show @LE.le Nat _ _ _);omega)|((with_reducible show @LT.lt Nat _ _ _);omega)|fail)
  all_goals first
   |rfl
   |(exfalso;simp at*;omega)
theorem Zfe(a:Nat)(b:Bool)(n:Nat)(e:Int)(ha:a≤1000000000000)(hn:n≤1000000000000):
 AC E 187 [.ptr 0 0,.i n,.i e] ⟨1,[(0,.var [.i a,.bool b])]⟩ (.bool (e !=2)) ⟨1,[(0,.var [.i ((a+n:Nat):Int),.bool (b||e==4)])]⟩:=by
 rw[Int.natCast_add]
 cases b with
 |true=>
  refine M.F Tryz.func187 ?_
  repeat'(first|refine M.gw ?_|fail)
  (exact M.n2 [some 0] (h8:=(by simp[zi,V.wk,V.wks,za,Ty.view,Tm.view,V.frz])))
 |false=>
  refine M.F Tryz.func187 ?_
  repeat'(first|refine M.gw ?_|fail)
  (exact M.n2 [some 0] (h8:=(by simp[zi,V.wk,V.wks,za,Ty.view,Tm.view,V.frz])))
theorem Zwe:∀(n:Nat) (p:Pf) (s:Tl),p.full≤n→n<274877906944→s.1+p.full≤549755813888→
 AC E 138 [.ptr 0 0,.agg p.view] ⟨1,[(0,.var [.i s.1,.bool s.2])]⟩ (.bool (tlP p s).1) ⟨1,[(0,.var [.i (tlP p s).2.1,.bool (tlP p s).2.2])]⟩:=by
 intro n
 induction n with
 |zero=>intro p s h;have:=p.full_pos;omega
 |succ n ih=>
 intro p s hsz hn hs
 have hsz':=p.full_eq
 have hse:=p.size_eq
 have hlen:=zc Pf.full Pf.full_pos p.args
 have hlen1:=zc Fm.full Fm.full_pos p.forms
 have hlen2:=zc Tm.full Tm.full_pos p.terms
 have hle0:=yx (f:=Tm.size) (g:=Tm.full) p.terms fun x _=>x.size_le_full
 have hle1:=yx (f:=Fm.size) (g:=Fm.full) p.forms fun x _=>x.size_le_full
 have hle2:=yx (f:=Pf.size) (g:=Pf.full) p.args fun x _=>x.size_le_full
 have hru:=Zck p.kind
 have he:=Zx1 p s
 cases hnd:ndP p.kind with
 |none=>
  have e2:ruC p.kind=[.bool false,.bool false,.i 0,.i 0,.i 0,.i 0,.i 0,.i 0]:=by unfold ruC;rw[hnd]
  have e:p.hdA=false:=by unfold Pf.hdA;rw[hnd]
  rw[hnd,e2] at hru
  rw[if_pos e] at he
  rw[he]
  refine M.F Tryz.func138 ?_
  repeat'(first|refine M.gw ?_|refine M.c2 (hru) ?_|fail)
  (exact M.n2 [some 0] (h8:=(by simp[zi,V.wk,V.wks,za,Ty.view,Tm.view,V.frz])))
 |some nd=>
 cases hty:nd.typ with
 |true=>
  have e2:ruC p.kind=[.bool nd.index,.bool true,.i nd.terms,.i nd.forms,.i nd.args,.i (fvK p.kind),.i (vaK p.kind),.i (hyK p.kind)]:=by unfold ruC;rw[hnd,←hty]
  rw[hnd,e2] at hru
  simp only[Option.isSome_some] at hru
  by_cases hA:p.hdA=false
  ·rw [if_pos hA] at he
   rw[he]
   refine M.F Tryz.func138 ?_
   repeat'(first|refine M.go ?_|refine M.c2 (hru) ?_|((fail_if_success refine AX.wt U ?_);refine AX.gs U U (fun _=>trivial) (fun h=> ?_) (fun h=> ?_))|((with_reducible refine D.aw ?_);(fail_if_success with_reducible refine D.stopR (id:=4) ?_);(fail_if_success with_reducible refine D.stopS (id:=4) ?_);first|refine M.ga ?_|refine AW.condS U (fun h=> ?_) (fun h=> ?_))|refine M.gk ?_|fail)
   all_goals(try(exfalso;simp only[Pf.hdA,hnd] at hA;simp_all;done))
   all_goals(try(exfalso;simp only[Pf.hdA,hnd] at hA;simp_all;omega))
   all_goals(exact M.n2 [some 0] (h8:=(by simp[zi,V.wk,V.wks,za,Ty.view,Tm.view,V.frz])))
  rw[if_neg hA] at he
  rw[Bool.not_eq_false] at hA
  have hA2:=hA
  simp only[Pf.hdA,hnd,Bool.and_eq_true,Bool.or_eq_true,decide_eq_true_eq,beq_iff_eq] at hA2
  obtain⟨⟨⟨⟨q1,q2⟩,q3⟩,q4⟩,q5⟩:=hA2
  have hT:p.hdT=p.ty.ok:=by unfold Pf.hdT;rw[hnd];simp only[hty];rfl
  have hct:=Zg9 p.ty (by omega)
  by_cases hx:p.ty.err=0
  case neg=>
   have hT2:p.hdT=false:=by
    rw[hT]
    cases ho:p.ty.ok with
    |false=>rfl
    |true=>exact absurd (Zso ho) hx
   rw[if_pos hT2] at he
   rw[he]
   refine M.F Tryz.func138 ?_
   repeat'(first|refine M.go ?_|refine M.c2 (hru) ?_|refine M.c2 (hct) ?_|((fail_if_success refine AX.wt U ?_);refine AX.gs U U (fun _=>trivial) (fun h=> ?_) (fun h=> ?_))|((with_reducible refine D.aw ?_);(fail_if_success with_reducible refine D.stopR (id:=11) ?_);(fail_if_success with_reducible refine D.stopS (id:=11) ?_);first|refine M.ga ?_|refine AW.condS U (fun h=> ?_) (fun h=> ?_))|refine M.gk ?_|fail)
   all_goals(try(exfalso;simp_all;done))
   all_goals(try(exfalso;simp_all;omega))
   all_goals(exact M.n2 [some 0] (h8:=(by simp[zi,V.wk,V.wks,za,Ty.view,Tm.view,V.frz])))
  have hT2:p.hdT=true:=by
   rw[hT]
   have:=(Ty.err_iff p.ty).1 hx
   exact Zpc this.1 this.2
  rw[if_neg (by simp[hT2])] at he
  rw[hx] at hct
  refine M.F Tryz.func138 ?_
  repeat'(first|refine M.gw ?_|refine M.c2 (hru) ?_|refine M.c2 (hct) ?_|((fail_if_success refine AX.wt U ?_);refine AX.gs U U (fun _=>trivial) (fun h=> ?_) (fun h=> ?_))|refine AW.condS U (fun h=> ?_) (fun h=> ?_)|fail)
  all_goals(try(exfalso;simp_all;done))
  all_goals(try(exfalso;simp_all;omega))
  all_goals
   refine AW.range p.terms.length (fun m=>(tlT (p.terms.take m) (s.1+1,s.2)).1=true)
    (fun m=>([(0,.ptr 0 0),(3,.ptr 1 0),(84,.s .tm p.terms),(85,.i p.terms.length),(86,.i m)],⟨2,[(0,.var [.i ((tlT (p.terms.take m) (s.1+1,s.2)).2.1:Nat),.bool (tlT (p.terms.take m) (s.1+1,s.2)).2.2]),(1,.var p.view)]⟩))
    (by omega) (fun m=>rfl) (fun m=>rfl) rfl rfl (M.W [some 0,some 1]) ?_ ?_
   ·intro m hm hP
    have hs2:=zb Tm.full (List.getElem_mem hm)
    have hs4:=zk Tm.size p.terms m
    have hok:=(Zh7 (p.terms.take m) (s.1+1,s.2)).2.1
    have hnn:0≤p.terms[m].num∧p.terms[m].num≤4096:=by rcases Zer p.terms[m] with⟨_,_,_,e⟩|⟨_,_,e⟩|⟨_,_,_,e⟩<;>omega
    have hnum:p.terms[m].num=(p.terms[m].num.toNat:Int):=by omega
    have hc:=Zd0 p.terms[m] (by omega)
    rw[hnum] at hc
    have hcnt:=Zfe (tlT (p.terms.take m) (s.1+1,s.2)).2.1 (tlT (p.terms.take m) (s.1+1,s.2)).2.2 p.terms[m].num.toNat p.terms[m].err (by simp only at hok;omega) (by omega)
    by_cases h2:p.terms[m].err=2
    ·rw [show(p.terms[m].err !=2)=false by simp[h2]] at hcnt
     have hst:=Zoo hm hP h2
     rw[hst,if_pos rfl] at he
     rw[he]
     repeat'(first|refine M.gw ?_|refine M.c2 (hc) ?_|refine M.cb (hcnt) [0] 0 ?_|fail)
     (exact M.n2 [some 0] (h8:=(by simp[zi,V.wk,V.wks,za,Ty.view,Tm.view,V.frz])))
    ·rw [show(p.terms[m].err !=2)=true by simp[h2]] at hcnt
     have hA1:tlT (p.terms.take (m+1)) (s.1+1,s.2)=(true,((tlT (p.terms.take m) (s.1+1,s.2)).2.1+p.terms[m].num.toNat,(tlT (p.terms.take m) (s.1+1,s.2)).2.2||p.terms[m].err==4)):=by
      rw[Znb hm hP,tlT,if_neg h2];rfl
     repeat'(first|refine M.gw ?_|refine M.c2 (hc) ?_|refine M.cb (hcnt) [0] 0 ?_|fail)
     refine⟨rfl,congrArg Prod.fst hA1,?_⟩
     simp only[hA1]
     exact(M.W [some 0,some 1])
   ·intro hP
    simp only[List.take_length] at hP
    simp only[List.take_length]
    have hAok:=(Zh7 p.terms (s.1+1,s.2)).2.1
    rw[if_neg (by simp[hP])] at he
    generalize hA0:tlT p.terms (s.1+1,s.2)=a0 at*
    repeat'(first|refine M.gw ?_|fail)
    refine AW.range p.forms.length (fun m=>(tlF (p.forms.take m) a0.2).1=true)
     (fun m=>([(0,.ptr 0 0),(3,.ptr 1 0),(99,.s .fm p.forms),(100,.i p.forms.length),(101,.i m)],⟨2,[(0,.var [.i ((tlF (p.forms.take m) a0.2).2.1:Nat),.bool (tlF (p.forms.take m) a0.2).2.2]),(1,.var p.view)]⟩))
     (by omega) (fun m=>rfl) (fun m=>rfl) rfl rfl (M.W [some 0,some 1]) ?_ ?_
    ·intro m hm hP2
     have hs2:=zb Fm.full (List.getElem_mem hm)
     have hs4:=zk Fm.size p.forms m
     have hok:=(Zhs (p.forms.take m) a0.2).2.1
     have hnn:=Ztj p.forms[m]
     have hnum:p.forms[m].num=(p.forms[m].num.toNat:Int):=by omega
     have hc:=Zgo p.forms[m] (by omega)
     rw[hnum] at hc
     have hcnt:=Zfe (tlF (p.forms.take m) a0.2).2.1 (tlF (p.forms.take m) a0.2).2.2 p.forms[m].num.toNat p.forms[m].err (by simp only at hAok;omega) (by omega)
     by_cases h2:p.forms[m].err=2
     ·rw [show(p.forms[m].err !=2)=false by simp[h2]] at hcnt
      have hst:=Zn5 hm hP2 h2
      rw[hst,if_pos rfl] at he
      rw[he]
      repeat'(first|refine M.gw ?_|refine M.c2 (hc) ?_|refine M.cb (hcnt) [0] 0 ?_|fail)
      (exact M.n2 [some 0] (h8:=(by simp[zi,V.wk,V.wks,za,Ty.view,Tm.view,V.frz])))
     ·rw [show(p.forms[m].err !=2)=true by simp[h2]] at hcnt
      have hA1:tlF (p.forms.take (m+1)) a0.2=(true,((tlF (p.forms.take m) a0.2).2.1+p.forms[m].num.toNat,(tlF (p.forms.take m) a0.2).2.2||p.forms[m].err==4)):=by
       rw[Zo4 hm hP2,tlF,if_neg h2];rfl
      repeat'(first|refine M.gw ?_|refine M.c2 (hc) ?_|refine M.cb (hcnt) [0] 0 ?_|fail)
      refine⟨rfl,congrArg Prod.fst hA1,?_⟩
      simp only[hA1]
      exact(M.W [some 0,some 1])
    ·intro hP2
     simp only[List.take_length] at hP2
     simp only[List.take_length]
     have hBok:=(Zhs p.forms a0.2).2.1
     rw[if_neg (by simp[hP2])] at he
     generalize hB0:tlF p.forms a0.2=b0 at*
     repeat'(first|refine M.gw ?_|fail)
     refine AW.range p.args.length (fun m=>(Zas (p.args.take m) b0.2).1=true)
      (fun m=>([(0,.ptr 0 0),(3,.ptr 1 0),(114,.s .pf p.args),(115,.i p.args.length),(116,.i m)],⟨2,[(0,.var [.i ((Zas (p.args.take m) b0.2).2.1:Nat),.bool (Zas (p.args.take m) b0.2).2.2]),(1,.var p.view)]⟩))
      (by omega) (fun m=>rfl) (fun m=>rfl) rfl rfl (M.W [some 0,some 1]) ?_ ?_
     ·intro m hm hP3
      have hs2:=zb Pf.full (List.getElem_mem hm)
      have hs4:=zk Pf.size p.args m
      have hok:=(Zl8 (p.args.take m) (fun q _=>Zqr q) b0.2).2.1
      have hs5:=yk Pf.full p.args m hm
      have hs6:=zk Pf.full p.args (m+1)
      have hs7:=yx (f:=Pf.size) (g:=Pf.full) (p.args.take m) fun x _=>x.size_le_full
      have hc:=ih p.args[m] (Zas (p.args.take m) b0.2).2 (by omega) (by omega) (by simp only at hAok;omega)
      cases h2:(tlP p.args[m] (Zas (p.args.take m) b0.2).2).1 with
      |false=>
       have hst:=Zkb hm hP3 h2
       rw[hst] at he
       rw[he]
       rw[h2] at hc ⊢
       repeat'(first|refine M.gw ?_|refine M.cb (hc) [0] 0 ?_|fail)
       (exact M.n2 [some 0] (h8:=(by simp[zi,V.wk,V.wks,za,Ty.view,Tm.view,V.frz])))
      |true=>
       rw[h2] at hc
       have hA1:Zas (p.args.take (m+1)) b0.2=tlP p.args[m] (Zas (p.args.take m) b0.2).2:=by rw[Zku hm hP3,Znc]
       repeat'(first|refine M.gw ?_|refine M.cb (hc) [0] 0 ?_|fail)
       refine⟨rfl,(congrArg Prod.fst hA1).trans h2,?_⟩
       simp only[hA1]
       exact(M.W [some 0,some 1])
     ·intro hP3
      simp only[List.take_length] at hP3
      simp only[List.take_length]
      rw[he,hP3]
      repeat'(first|refine M.gw ?_|fail)
      (exact M.n2 [some 0] (h8:=(by simp[zi,V.wk,V.wks,za,Ty.view,Tm.view,V.frz])))
 |false=>
  have e2:ruC p.kind=[.bool nd.index,.bool false,.i nd.terms,.i nd.forms,.i nd.args,.i (fvK p.kind),.i (vaK p.kind),.i (hyK p.kind)]:=by unfold ruC;rw[hnd,←hty]
  rw[hnd,e2] at hru
  simp only[Option.isSome_some] at hru
  by_cases hA:p.hdA=false
  ·rw [if_pos hA] at he
   rw[he]
   refine M.F Tryz.func138 ?_
   repeat'(first|refine M.go ?_|refine M.c2 (hru) ?_|((fail_if_success refine AX.wt U ?_);refine AX.gs U U (fun _=>trivial) (fun h=> ?_) (fun h=> ?_))|((with_reducible refine D.aw ?_);(fail_if_success with_reducible refine D.stopR (id:=4) ?_);(fail_if_success with_reducible refine D.stopS (id:=4) ?_);first|refine M.ga ?_|refine AW.condS U (fun h=> ?_) (fun h=> ?_))|refine M.gk ?_|fail)
   all_goals(try(exfalso;simp only[Pf.hdA,hnd] at hA;simp_all;done))
   all_goals(try(exfalso;simp only[Pf.hdA,hnd] at hA;simp_all;omega))
   all_goals(exact M.n2 [some 0] (h8:=(by simp[zi,V.wk,V.wks,za,Ty.view,Tm.view,V.frz])))
  rw[if_neg hA] at he
  rw[Bool.not_eq_false] at hA
  have hA2:=hA
  simp only[Pf.hdA,hnd,Bool.and_eq_true,Bool.or_eq_true,decide_eq_true_eq,beq_iff_eq] at hA2
  obtain⟨⟨⟨⟨q1,q2⟩,q3⟩,q4⟩,q5⟩:=hA2
  have hT:p.hdT=p.ty.isNo:=by unfold Pf.hdT;rw[hnd];simp only[hty];rfl
  have hct:=Zie p.ty
  by_cases hx:p.ty.isNo=true
  case neg=>
   rw[Bool.not_eq_true] at hx
   have hT2:p.hdT=false:=by rw[hT,hx]
   rw[if_pos hT2] at he
   rw[he]
   rw[hx] at hct
   refine M.F Tryz.func138 ?_
   repeat'(first|refine M.go ?_|refine M.c2 (hru) ?_|refine M.c2 (hct) ?_|((fail_if_success refine AX.wt U ?_);refine AX.gs U U (fun _=>trivial) (fun h=> ?_) (fun h=> ?_))|((with_reducible refine D.aw ?_);(fail_if_success with_reducible refine D.stopR (id:=11) ?_);(fail_if_success with_reducible refine D.stopS (id:=11) ?_);first|refine M.ga ?_|refine AW.condS U (fun h=> ?_) (fun h=> ?_))|refine M.gk ?_|fail)
   all_goals(try(exfalso;simp_all;done))
   all_goals(try(exfalso;simp_all;omega))
   all_goals(exact M.n2 [some 0] (h8:=(by simp[zi,V.wk,V.wks,za,Ty.view,Tm.view,V.frz])))
  have hT2:p.hdT=true:=by rw[hT,hx]
  rw[if_neg (by simp[hT2])] at he
  rw[hx] at hct
  refine M.F Tryz.func138 ?_
  repeat'(first|refine M.gw ?_|refine M.c2 (hru) ?_|refine M.c2 (hct) ?_|((fail_if_success refine AX.wt U ?_);refine AX.gs U U (fun _=>trivial) (fun h=> ?_) (fun h=> ?_))|refine AW.condS U (fun h=> ?_) (fun h=> ?_)|fail)
  all_goals(try(exfalso;simp_all;done))
  all_goals(try(exfalso;simp_all;omega))
  all_goals
   refine AW.range p.terms.length (fun m=>(tlT (p.terms.take m) (s.1+1,s.2)).1=true)
    (fun m=>([(0,.ptr 0 0),(3,.ptr 1 0),(84,.s .tm p.terms),(85,.i p.terms.length),(86,.i m)],⟨2,[(0,.var [.i ((tlT (p.terms.take m) (s.1+1,s.2)).2.1:Nat),.bool (tlT (p.terms.take m) (s.1+1,s.2)).2.2]),(1,.var p.view)]⟩))
    (by omega) (fun m=>rfl) (fun m=>rfl) rfl rfl (M.W [some 0,some 1]) ?_ ?_
   ·intro m hm hP
    have hs2:=zb Tm.full (List.getElem_mem hm)
    have hs4:=zk Tm.size p.terms m
    have hok:=(Zh7 (p.terms.take m) (s.1+1,s.2)).2.1
    have hnn:0≤p.terms[m].num∧p.terms[m].num≤4096:=by rcases Zer p.terms[m] with⟨_,_,_,e⟩|⟨_,_,e⟩|⟨_,_,_,e⟩<;>omega
    have hnum:p.terms[m].num=(p.terms[m].num.toNat:Int):=by omega
    have hc:=Zd0 p.terms[m] (by omega)
    rw[hnum] at hc
    have hcnt:=Zfe (tlT (p.terms.take m) (s.1+1,s.2)).2.1 (tlT (p.terms.take m) (s.1+1,s.2)).2.2 p.terms[m].num.toNat p.terms[m].err (by simp only at hok;omega) (by omega)
    by_cases h2:p.terms[m].err=2
    ·rw [show(p.terms[m].err !=2)=false by simp[h2]] at hcnt
     have hst:=Zoo hm hP h2
     rw[hst,if_pos rfl] at he
     rw[he]
     repeat'(first|refine M.gw ?_|refine M.c2 (hc) ?_|refine M.cb (hcnt) [0] 0 ?_|fail)
     (exact M.n2 [some 0] (h8:=(by simp[zi,V.wk,V.wks,za,Ty.view,Tm.view,V.frz])))
    ·rw [show(p.terms[m].err !=2)=true by simp[h2]] at hcnt
     have hA1:tlT (p.terms.take (m+1)) (s.1+1,s.2)=(true,((tlT (p.terms.take m) (s.1+1,s.2)).2.1+p.terms[m].num.toNat,(tlT (p.terms.take m) (s.1+1,s.2)).2.2||p.terms[m].err==4)):=by
      rw[Znb hm hP,tlT,if_neg h2];rfl
     repeat'(first|refine M.gw ?_|refine M.c2 (hc) ?_|refine M.cb (hcnt) [0] 0 ?_|fail)
     refine⟨rfl,congrArg Prod.fst hA1,?_⟩
     simp only[hA1]
     exact(M.W [some 0,some 1])
   ·intro hP
    simp only[List.take_length] at hP
    simp only[List.take_length]
    have hAok:=(Zh7 p.terms (s.1+1,s.2)).2.1
    rw[if_neg (by simp[hP])] at he
    generalize hA0:tlT p.terms (s.1+1,s.2)=a0 at*
    repeat'(first|refine M.gw ?_|fail)
    refine AW.range p.forms.length (fun m=>(tlF (p.forms.take m) a0.2).1=true)
     (fun m=>([(0,.ptr 0 0),(3,.ptr 1 0),(99,.s .fm p.forms),(100,.i p.forms.length),(101,.i m)],⟨2,[(0,.var [.i ((tlF (p.forms.take m) a0.2).2.1:Nat),.bool (tlF (p.forms.take m) a0.2).2.2]),(1,.var p.view)]⟩))
     (by omega) (fun m=>rfl) (fun m=>rfl) rfl rfl (M.W [some 0,some 1]) ?_ ?_
    ·intro m hm hP2
     have hs2:=zb Fm.full (List.getElem_mem hm)
     have hs4:=zk Fm.size p.forms m
     have hok:=(Zhs (p.forms.take m) a0.2).2.1
     have hnn:=Ztj p.forms[m]
     have hnum:p.forms[m].num=(p.forms[m].num.toNat:Int):=by omega
     have hc:=Zgo p.forms[m] (by omega)
     rw[hnum] at hc
     have hcnt:=Zfe (tlF (p.forms.take m) a0.2).2.1 (tlF (p.forms.take m) a0.2).2.2 p.forms[m].num.toNat p.forms[m].err (by simp only at hAok;omega) (by omega)
     by_cases h2:p.forms[m].err=2
     ·rw [show(p.forms[m].err !=2)=false by simp[h2]] at hcnt
      have hst:=Zn5 hm hP2 h2
      rw[hst,if_pos rfl] at he
      rw[he]
      repeat'(first|refine M.gw ?_|refine M.c2 (hc) ?_|refine M.cb (hcnt) [0] 0 ?_|fail)
      (exact M.n2 [some 0] (h8:=(by simp[zi,V.wk,V.wks,za,Ty.view,Tm.view,V.frz])))
     ·rw [show(p.forms[m].err !=2)=true by simp[h2]] at hcnt
      have hA1:tlF (p.forms.take (m+1)) a0.2=(true,((tlF (p.forms.take m) a0.2).2.1+p.forms[m].num.toNat,(tlF (p.forms.take m) a0.2).2.2||p.forms[m].err==4)):=by
       rw[Zo4 hm hP2,tlF,if_neg h2];rfl
      repeat'(first|refine M.gw ?_|refine M.c2 (hc) ?_|refine M.cb (hcnt) [0] 0 ?_|fail)
      refine⟨rfl,congrArg Prod.fst hA1,?_⟩
      simp only[hA1]
      exact(M.W [some 0,some 1])
    ·intro hP2
     simp only[List.take_length] at hP2
     simp only[List.take_length]
     have hBok:=(Zhs p.forms a0.2).2.1
     rw[if_neg (by simp[hP2])] at he
     generalize hB0:tlF p.forms a0.2=b0 at*
     repeat'(first|refine M.gw ?_|fail)
     refine AW.range p.args.length (fun m=>(Zas (p.args.take m) b0.2).1=true)
      (fun m=>([(0,.ptr 0 0),(3,.ptr 1 0),(114,.s .pf p.args),(115,.i p.args.length),(116,.i m)],⟨2,[(0,.var [.i ((Zas (p.args.take m) b0.2).2.1:Nat),.bool (Zas (p.args.take m) b0.2).2.2]),(1,.var p.view)]⟩))
      (by omega) (fun m=>rfl) (fun m=>rfl) rfl rfl (M.W [some 0,some 1]) ?_ ?_
     ·intro m hm hP3
      have hs2:=zb Pf.full (List.getElem_mem hm)
      have hs4:=zk Pf.size p.args m
      have hok:=(Zl8 (p.args.take m) (fun q _=>Zqr q) b0.2).2.1
      have hs5:=yk Pf.full p.args m hm
      have hs6:=zk Pf.full p.args (m+1)
      have hs7:=yx (f:=Pf.size) (g:=Pf.full) (p.args.take m) fun x _=>x.size_le_full
      have hc:=ih p.args[m] (Zas (p.args.take m) b0.2).2 (by omega) (by omega) (by simp only at hAok;omega)
      cases h2:(tlP p.args[m] (Zas (p.args.take m) b0.2).2).1 with
      |false=>
       have hst:=Zkb hm hP3 h2
       rw[hst] at he
       rw[he]
       rw[h2] at hc ⊢
       repeat'(first|refine M.gw ?_|refine M.cb (hc) [0] 0 ?_|fail)
       (exact M.n2 [some 0] (h8:=(by simp[zi,V.wk,V.wks,za,Ty.view,Tm.view,V.frz])))
      |true=>
       rw[h2] at hc
       have hA1:Zas (p.args.take (m+1)) b0.2=tlP p.args[m] (Zas (p.args.take m) b0.2).2:=by rw[Zku hm hP3,Znc]
       repeat'(first|refine M.gw ?_|refine M.cb (hc) [0] 0 ?_|fail)
       refine⟨rfl,(congrArg Prod.fst hA1).trans h2,?_⟩
       simp only[hA1]
       exact(M.W [some 0,some 1])
     ·intro hP3
      simp only[List.take_length] at hP3
      simp only[List.take_length]
      rw[he,hP3]
      repeat'(first|refine M.gw ?_|fail)
      (exact M.n2 [some 0] (h8:=(by simp[zi,V.wk,V.wks,za,Ty.view,Tm.view,V.frz])))
theorem vu(k v h:Int)(nd:Nd)(hnd:ndP k=some nd)(m:Nat)(hm:m≤1000000)(hv:0≤v∧v≤1000000000000)(hh:0≤h∧h≤1000000000000):
 PC E 120 [.agg [.i v,.i h],.agg (ruC k),.i m] (.agg [.i (if(m:Int)=(nd.args:Int)-1 then v+vaK k else v),.i (if(m:Int)=(nd.args:Int)-1 then h+hyK k else h)]):=by
 have e2:ruC k=[.bool nd.index,.bool nd.typ,.i nd.terms,.i nd.forms,.i nd.args,.i (fvK k),.i (vaK k),.i (hyK k)]:=by unfold ruC;rw[hnd]
 have b1:0≤vaK k∧vaK k≤2:=by unfold vaK;split<;>(try split)<;>omega
 have b2:0≤hyK k∧hyK k≤1:=by unfold hyK;split<;>omega
 have b3:(nd.args:Int)≤2:=by
  have:nd.args≤2:=by
   unfold ndP at hnd
   repeat(split at hnd;· cases hnd;decide)
   cases hnd
  omega
 rw[e2]
 by_cases hl:(m:Int)=(nd.args:Int)-1
 ·rw [if_pos hl,if_pos hl]
  refine M.F Tryz.func120 ?_
  repeat'(first|refine M.gw ?_|refine AW.condS U (fun h=> ?_) (fun h=> ?_)|fail)
  all_goals first
   |rfl
   |(exfalso;simp at h;omega)
   |trace_state
 ·rw [if_neg hl,if_neg hl]
  refine M.F Tryz.func120 ?_
  repeat'(first|refine M.gw ?_|refine AW.condS U (fun h=> ?_) (fun h=> ?_)|fail)
  all_goals first
   |rfl
   |(exfalso;simp at h;omega)
   |trace_state
end Go.Ab
