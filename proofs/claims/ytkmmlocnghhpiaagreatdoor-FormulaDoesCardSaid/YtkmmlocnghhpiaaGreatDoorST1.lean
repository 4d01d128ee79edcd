/- A part of the proofs of this seat's statements: S78, S79, S118, S74, Y0, Y1, S73, S75. It has no conditions of its own. -/
import Derived.Test.YtkmmlocnghhpiaaGreatDoorS4
import Derived.Test.YtkmmlocnghhpiaaGreatDoorAT1
import Derived.Test.YtkmmlocnghhpiaaGreatDoorDT1
import Derived.Test.YtkmmlocnghhpiaaGreatDoorA2
import Derived.Test.YtkmmlocnghhpiaaGreatDoorS5
import Derived.Test.YtkmmlocnghhpiaaGreatDoorS1
import Derived.Test.YtkmmlocnghhpiaaGreatDoorS3
import Derived.Test.YtkmmlocnghhpiaaGreatDoorD1
import Derived.Test.YtkmmlocnghhpiaaGreatDoorS2
import Derived.Shelf.SlIterI.Sorted
import Derived.Shelf.SlIterI.Keys
import Derived.Shelf.SortM.Plain
import Derived.Shelf.SortM.SortNone
import Derived.Test.YtkmmlocnghhpiaaGreatDoorRows
namespace Go.Ab
open Go Go.Proofs
set_option maxRecDepth 100000
set_option maxHeartbeats 4000000
set_option linter.all false
def srJ(r:Nat):List Int→AF×Sto
 |[]=>([(3,.slice .nil (.t .int [])),(7,.raw (.pointer (some ⟨r,0,none⟩)))],⟨1,[(0,.gone)]⟩)
 |x::d=>([(3,.arr 1 (d.length+1) 1),(7,.raw (.pointer (some ⟨r,0,none⟩)))],⟨2,[(1,.var ((sortI (x::d)).flatMap EC.int.view)),(0,.gone)]⟩)
theorem srJ_snoc(r:Nat)(d:List Int)(q:Int):srJ r (d++[q])=([(3,.arr 1 (d.length+1) 1),(7,.raw (.pointer (some ⟨r,0,none⟩)))],⟨2,[(1,.var ((sortI (d++[q])).flatMap EC.int.view)),(0,.gone)]⟩):=by
 cases d with
 |nil=>rfl
 |cons x d=>simp[srJ]
def srL(r:Nat)(l:List Int)(q:Int)(i:Nat):AF×Sto:=([(3,.arr 1 (l.length+1) 1),(4,.i q),(5,.i i),(7,.raw (.pointer (some ⟨r,0,none⟩)))],⟨2,[(1,.var ((insS (sortI l) q i).flatMap EC.int.view)),(0,.gone)]⟩)
theorem sortedR_c{ks:List Int}(hnd:ks.Nodup)(hlen:ks.length<549755813888):AC E 71 [.mp 0] ⟨1,[(0,.map .bl ks (List.replicate ks.length true))]⟩ (.s .int (sortI ks)) ⟨1,[(0,.map .bl ks (List.replicate ks.length true))]⟩:=by
 refine AC.mk Tryz.func71 rfl rfl rfl rfl rfl (Nat.le_of_ble_eq_true rfl) ?_
 repeat'(first|((with_reducible refine D.nil ?_);refine AX.nilL ?_)|((with_reducible refine D.assign ?_);refine L.asg U U U ?_)|((with_reducible refine D.aw ?_);(fail_if_success with_reducible refine D.stopR (id:=2) ?_);(fail_if_success with_reducible refine D.stopS (id:=2) ?_);refine K.sq (AW.regL ?_))|with_reducible refine K.tN ?_)
 refine K.sq (AW.rangeM (n:=0) (c:= .bl) (ks:=ks) (xs:=List.replicate ks.length true) (kt:=3) (et:=4) (J:=srJ) ?_ ?_ ?_ ?_ hnd ?_ ?_ ?_ ?_ ?_ ?_ ?_)
 ·rfl
 ·rfl
 ·exact Nat.lt_succ_self 0
 ·kernel_rfl
 ·rfl
 ·intro r l;cases l<;>rfl
 ·intro r l t ht
  simp only[List.mem_cons,List.not_mem_nil,or_false] at ht
  rcases ht with rfl|rfl|rfl|rfl|rfl<;>cases l<;>rfl
 ·intro r l e he;cases l<;>cases he<;>rfl
 ·intro r
  exact(Weak.mk [some 0] _ _ _ U U U U (by(repeat'(first|exact trivial|refine And.intro ?_ ?_|refine⟨_,U,_,U,?_⟩|exact VLe.refl _));done) (by(repeat'(first|exact trivial|refine And.intro ?_ ?_|exact Eq.refl true));done))
 ·intro r l q hl hlk hq hql
  have hll:=nodup_sub hl hlk
  have hsl:=sortI_len l
  rw[srJ_snoc]
  have tail:∀(i:Nat),i≤l.length→(∀x∈(sortI l).drop i,q<x)→(∀(hi:0<i) (hl:i-1<(sortI l).length),(sortI l)[i-1]≤q)→((insS (sortI l) q i).set i q)=sortI (l++[q]):=fun i hi h1 h2=>by
   rw[insS_done (by omega)];exact sortI_ins h1 h2 (by omega)
  have hE:insS (sortI l) q l.length=sortI l++[q]:=by rw[←hsl];exact insS_end _ _
  have hat:∀j (h:j<l.length) (h':j<(insS (sortI l) q (j+1)).length),(insS (sortI l) q (j+1))[j]=(sortI l)[j]'(by omega):=fun j h h'=>insS_at (by omega) h'
  have hst:∀j (h:j<l.length),(insS (sortI l) q (j+1)).set (j+1) ((sortI l)[j]'(by omega))=insS (sortI l) q j:=fun j h=>insS_step (by omega)
  have hln:∀i,i≤l.length→(insS (sortI l) q i).length=l.length+1:=fun i hi=>by rw[insS_len (by omega),hsl]
  cases l with
  |nil=>
   repeat'(first|((with_reducible refine D.nil ?_);refine AX.nilL ?_)|((with_reducible refine D.move ?_);refine L.mv U U U ?_)|((with_reducible refine D.assign ?_);refine L.asg U U U ?_)|((with_reducible refine D.call ?_);refine L.lnt U U U U ?_)|((with_reducible refine D.aw ?_);(fail_if_success with_reducible refine D.stopR (id:=6) ?_);(fail_if_success with_reducible refine D.stopS (id:=6) ?_);refine K.sq (AW.regL ?_))|with_reducible refine K.tN ?_)
   refine K.sq (AW.regL ?_)
   refine L.mv rfl rfl rfl ?_
   refine L.mv rfl rfl rfl ?_
   refine L.bs1 rfl rfl rfl rfl rfl (EC.fold_of rfl) rfl rfl ?_
   refine L.apA (te:=3) (e:= .int) (l:=[q]) rfl rfl rfl rfl (by kernel_rfl) rfl rfl rfl rfl (by simp) (by simp) ?_
   repeat'(first|((with_reducible refine D.nil ?_);refine AX.nilL ?_)|((with_reducible refine D.assign ?_);refine L.asg U U U ?_)|with_reducible refine K.tN ?_)
   refine K.sq (AW.block (AW.loop (ι:={i:Nat // i≤0∧∀x∈(sortI []).drop i,q<x}) (fun i=>srL r [] q i.1) (fun i=>i.1) ⟨0,Nat.le_refl _,by simp[sortI_nil]⟩ ?_ ?_))
   ·show Weak _ _ _ _ _ (srL r [] q 0).1 (srL r [] q 0).2
    simp only[srL]
    rw[show insS (sortI []) q 0=[q] from hE.trans (by rw[sortI_nil];rfl)]
    exact(Weak.mk [some 0,some 1] _ _ _ U U U U (by(repeat'(first|exact trivial|refine And.intro ?_ ?_|refine⟨_,U,_,U,?_⟩|exact VLe.refl _));done) (by(repeat'(first|exact trivial|refine And.intro ?_ ?_|refine⟨_,U,_,U,_,U,?_⟩|exact VLe.refl _|exact Eq.refl true));done))
   ·rintro ⟨i,hi,h1⟩
    obtain rfl:i=0:=by omega
    repeat'(first|((with_reducible refine D.nil ?_);refine AX.nilL ?_)|((with_reducible refine D.load ?_);refine AX.sk U U ?_)|((with_reducible refine D.move ?_);first|refine L.mv U U U ?_|refine AX.sk U U ?_)|((with_reducible refine D.bin ?_);first|refine L.bn U U U U U ?_|refine AX.sk U U ?_)|((with_reducible refine D.indexAddr ?_);refine AX.sk U U ?_)|((with_reducible refine D.pick ?_);refine L.pk U U U U ?_)|((with_reducible refine D.aw ?_);first|refine K.sq (K.sq ?_)|refine AW.regL ?_|refine AW.condF U ?_|refine AW.exit ?_)|with_reducible refine K.tN ?_|with_reducible refine K.tE ?_|with_reducible refine K.bX (by with_unfolding_all rfl) ?_|with_reducible refine K.lE ?_)
    refine L.ixr 0 rfl rfl rfl rfl rfl (by decide) rfl ?_
    refine L.sta (c:= .int) (l:=insS (sortI []) q 0) (u:=q) 0 rfl rfl rfl rfl rfl rfl rfl rfl (by rw[hln 0 (Nat.le_refl _)];decide) rfl ?_
    repeat'(first|((with_reducible refine D.nil ?_);refine AX.nilL ?_))
    refine⟨rfl,?_⟩
    simp only[tail 0 (Nat.le_refl _) h1 (fun h=>absurd h (by decide))]
    exact(Weak.mk [some 0,some 1] _ _ _ U U U U (by(repeat'(first|exact trivial|refine And.intro ?_ ?_|refine⟨_,U,_,U,?_⟩|exact VLe.refl _));done) (by(repeat'(first|exact trivial|refine And.intro ?_ ?_|exact VsLe.refl _|exact Eq.refl true|refine⟨_,U,_,renVs_flat _ _ _,_,U,?_⟩));done))
  |cons x d=>
   skip
   refine K.sq (AW.regL ?_)
   refine L.mv rfl rfl rfl ?_
   refine L.lnR rfl rfl rfl rfl ?_
   repeat'(first|((with_reducible refine D.nil ?_);refine AX.nilL ?_)|((with_reducible refine D.assign ?_);refine L.asg U U U ?_)|with_reducible refine K.tN ?_)
   refine K.sq (AW.regL ?_)
   refine L.mv rfl rfl rfl ?_
   refine L.mv rfl rfl rfl ?_
   refine L.bs1 rfl rfl rfl rfl rfl (EC.fold_of rfl) rfl rfl ?_
   refine L.apR (te:=3) (e:= .int) (l:=[q]) rfl rfl rfl rfl (by kernel_rfl) rfl rfl (by rw[fview_len,hsl];rfl) rfl rfl rfl (by simp) (by simp only[List.length_cons,List.length_nil] at hll ⊢;omega) ?_
   rw[←List.flatMap_append]
   repeat'(first|((with_reducible refine D.nil ?_);refine AX.nilL ?_)|((with_reducible refine D.assign ?_);refine L.asg U U U ?_)|with_reducible refine K.tN ?_)
   refine K.sq (AW.block (AW.loop (ι:={i:Nat // i≤(x::d).length∧∀y∈(sortI (x::d)).drop i,q<y}) (fun i=>srL r (x::d) q i.1) (fun i=>i.1) ⟨(x::d).length,Nat.le_refl _,by rw[←hsl,List.drop_length];intro y hy;cases hy⟩ ?_ ?_))
   ·show Weak _ _ _ _ _ (srL r (x::d) q (x::d).length).1 (srL r (x::d) q (x::d).length).2
    simp only[srL]
    rw[hE]
    exact(Weak.mk [some 0,some 2] _ _ _ U U U U (by(repeat'(first|exact trivial|refine And.intro ?_ ?_|refine⟨_,U,_,U,?_⟩|exact VLe.refl _));done) (by(repeat'(first|exact trivial|refine And.intro ?_ ?_|exact VsLe.refl _|exact Eq.refl true|refine⟨_,U,_,renVs_flat _ _ _,_,U,?_⟩));done))
   ·rintro ⟨i,hi,h1⟩
    cases i with
    |zero=>
     repeat'(first|((with_reducible refine D.nil ?_);refine AX.nilL ?_)|((with_reducible refine D.load ?_);refine AX.sk U U ?_)|((with_reducible refine D.move ?_);first|refine L.mv U U U ?_|refine AX.sk U U ?_)|((with_reducible refine D.bin ?_);first|refine L.bn U U U U U ?_|refine AX.sk U U ?_)|((with_reducible refine D.indexAddr ?_);refine AX.sk U U ?_)|((with_reducible refine D.pick ?_);refine L.pk U U U U ?_)|((with_reducible refine D.aw ?_);first|refine K.sq (K.sq ?_)|refine AW.regL ?_|refine AW.condF U ?_|refine AW.exit ?_)|with_reducible refine K.tN ?_|with_reducible refine K.tE ?_|with_reducible refine K.bX (by with_unfolding_all rfl) ?_|with_reducible refine K.lE ?_)
     refine L.ixr 0 rfl rfl rfl rfl rfl (Nat.succ_pos _) rfl ?_
     refine L.sta (c:= .int) (l:=insS (sortI (x::d)) q 0) (u:=q) 0 rfl rfl rfl rfl rfl rfl rfl rfl (by rw[hln 0 (Nat.zero_le _)];exact Nat.succ_pos _) rfl ?_
     repeat'(first|((with_reducible refine D.nil ?_);refine AX.nilL ?_))
     refine⟨rfl,?_⟩
     simp only[tail 0 (Nat.zero_le _) h1 (fun h=>absurd h (by decide))]
     exact(Weak.mk [some 0,some 1] _ _ _ U U U U (by(repeat'(first|exact trivial|refine And.intro ?_ ?_|refine⟨_,U,_,U,?_⟩|exact VLe.refl _));done) (by(repeat'(first|exact trivial|refine And.intro ?_ ?_|exact VsLe.refl _|exact Eq.refl true|refine⟨_,U,_,renVs_flat _ _ _,_,U,?_⟩));done))
    |succ i=>
     have hi':i<(x::d).length:=by omega
     have hsi:i<(sortI (x::d)).length:=by omega
     have hdl:(x::d).length=d.length+1:=rfl
     have hl0:=hln (i+1) hi
     have hl1:i<(insS (sortI (x::d)) q (i+1)).length:=by omega
     have ha:=hat i hi' hl1
     have hs:=hst i hi'
     show AW _ _ _ _ (srL r (x::d) q (i+1)).1 (srL r (x::d) q (i+1)).2 _
     repeat'(first|((with_reducible refine D.nil ?_);refine AX.nilL ?_)|((with_reducible refine D.load ?_);refine AX.sk U U ?_)|((with_reducible refine D.move ?_);first|refine L.mv U U U ?_|refine AX.sk U U ?_|((fail_if_success refine AX.wt U ?_);refine AX.gs U U (fun _=>trivial) (fun h=> ?_) (fun h=> ?_)))|((with_reducible refine D.bin ?_);first|refine L.sb U U U U (by omega) ?_|refine L.bn U U U U U ?_|refine AX.sk U U ?_)|((with_reducible refine D.indexAddr ?_);refine AX.sk U U ?_)|((with_reducible refine D.pick ?_);refine L.pk U U U U ?_)|((with_reducible refine D.aw ?_);first|refine K.sq (K.sq ?_)|refine AW.regL ?_|refine AW.condF U ?_|refine AW.exit ?_)|with_reducible refine K.tN ?_|with_reducible refine K.tE ?_|with_reducible refine K.bX (by with_unfolding_all rfl) ?_|with_reducible refine K.lE ?_)
     ·refine L.ixr i rfl rfl rfl rfl (by simp) (by omega) rfl ?_
      refine L.ldr (c:= .int) (l:=insS (sortI (x::d)) q (i+1)) i rfl rfl rfl rfl rfl hl1 rfl rfl rfl ?_
      rw[ha]
      repeat'(first|((with_reducible refine D.nil ?_);refine AX.nilL ?_)|((with_reducible refine D.move ?_);refine L.mv U U U ?_)|((with_reducible refine D.bin ?_);refine L.bn U U U U U ?_)|((with_reducible refine D.pick ?_);refine L.pk U U U U ?_)|((with_reducible refine D.aw ?_);first|refine AW.regL ?_|refine AW.condS U (fun h=> ?_) (fun h=> ?_)|refine AW.skip ?_|refine AW.exit ?_)|with_reducible refine K.tN ?_|with_reducible refine K.tE ?_|with_reducible refine K.bX (by with_unfolding_all rfl) ?_|with_reducible refine K.lE ?_)
      ·have hgt:q<(sortI (x::d))[i]:=by simpa using h
       repeat'(first|((with_reducible refine D.move ?_);refine L.mv U U U ?_)|((with_reducible refine D.bin ?_);refine L.sb U U U U (by omega) ?_)|((with_reducible refine D.aw ?_);first|((with_reducible refine D.blk ?_);refine AW.block ?_)|refine K.sq (AW.regL ?_)))
       refine L.ixr i rfl rfl rfl rfl (by simp) (by omega) rfl ?_
       refine L.ldr (c:= .int) (l:=insS (sortI (x::d)) q (i+1)) i rfl rfl rfl rfl rfl hl1 rfl rfl rfl ?_
       rw[ha]
       refine L.ixr (i+1) rfl rfl rfl rfl rfl (by omega) rfl ?_
       refine L.sta (c:= .int) (l:=insS (sortI (x::d)) q (i+1)) (u:=(sortI (x::d))[i]) (i+1) rfl rfl rfl rfl rfl rfl rfl rfl (by omega) rfl ?_
       rw[hs]
       repeat'(first|((with_reducible refine D.nil ?_);refine AX.nilL ?_)|((with_reducible refine D.move ?_);refine L.mv U U U ?_)|((with_reducible refine D.assign ?_);refine L.asg U U U ?_)|((with_reducible refine D.bin ?_);refine L.sb U U U U (by omega) ?_)|((with_reducible refine D.aw ?_);refine AW.regL ?_)|with_reducible refine K.tN ?_|with_reducible refine K.bN ?_)
       refine⟨⟨i,by omega,fun y hy=> ?_⟩,by show i<i+1;omega,?_⟩
       ·rw [List.drop_eq_getElem_cons hsi] at hy
        rcases List.mem_cons.1 hy with rfl|hy
        ·exact hgt
        ·exact h1 y hy
       ·simp only[srL,show(((i+1:Nat):Int)-1)=(i:Int) by omega]
        exact(Weak.mk [some 0,some 1] _ _ _ U U U U (by(repeat'(first|exact trivial|refine And.intro ?_ ?_|refine⟨_,U,_,U,?_⟩|exact VLe.refl _));done) (by(repeat'(first|exact trivial|refine And.intro ?_ ?_|exact VsLe.refl _|exact Eq.refl true|refine⟨_,U,_,renVs_flat _ _ _,_,U,?_⟩));done))
      ·have hle:(sortI (x::d))[i]≤q:=by simpa using h
       refine L.ixr (i+1) rfl rfl rfl rfl rfl (by omega) rfl ?_
       refine L.sta (c:= .int) (l:=insS (sortI (x::d)) q (i+1)) (u:=q) (i+1) rfl rfl rfl rfl rfl rfl rfl rfl (by omega) rfl ?_
       repeat'(first|((with_reducible refine D.nil ?_);refine AX.nilL ?_))
       refine⟨rfl,?_⟩
       simp only[tail (i+1) hi h1 (fun _ _=>hle)]
       exact(Weak.mk [some 0,some 1] _ _ _ U U U U (by(repeat'(first|exact trivial|refine And.intro ?_ ?_|refine⟨_,U,_,U,?_⟩|exact VLe.refl _));done) (by(repeat'(first|exact trivial|refine And.intro ?_ ?_|exact VsLe.refl _|exact Eq.refl true|refine⟨_,U,_,renVs_flat _ _ _,_,U,?_⟩));done))
     ·exfalso
      simp at h
 ·intro r l hp
  cases l with
  |nil=>
   have hk0:ks=[]:=by simpa using hp.symm.eq_nil
   subst hk0
   simp only[srJ,sortI_nil]
   repeat'(first|((with_reducible refine D.nil ?_);refine AX.nilL ?_)|((with_reducible refine D.move ?_);refine L.mv U U U ?_)|((with_reducible refine D.assign ?_);refine L.asg U U U ?_)|((with_reducible refine D.aw ?_);first|refine K.sq (AW.regL ?_)|refine AW.ret ?_)|with_reducible refine K.tN ?_)
   (exact K.n2 [some 0] U U U U U (by(repeat'(first|exact trivial|refine And.intro ?_ ?_|refine⟨_,U,_,_,U,?_,?_⟩|with_reducible exact rfl));done) U (by simp[tupV,V.wk,V.wks,constV,Ty.view,Tm.view,sortI_nil]))
  |cons x d=>
   have hk0:sortI (x::d)=sortI ks:=sortI_of_perm hp
   simp only[srJ,hk0]
   refine AW.frz (c:= .int) 1 (d.length+1) (sortI ks) U (by rw[←hk0,sortI_len];rfl) (by(repeat'(first|exact trivial|exact fun _=>rfl|exact fun h=>absurd U h|exact fun h=>absurd h (by decide)|refine And.intro ?_ ?_|intro _));done) (by(repeat'(first|exact trivial|exact fun _=>rfl|exact fun h=>absurd U h|exact fun h=>absurd h (by decide)|refine And.intro ?_ ?_|intro _));done) ?_
   repeat'(first|((with_reducible refine D.nil ?_);refine AX.nilL ?_)|((with_reducible refine D.move ?_);refine L.mv U U U ?_)|((with_reducible refine D.assign ?_);refine L.asg U U U ?_)|((with_reducible refine D.aw ?_);first|refine K.sq (AW.regL ?_)|refine AW.ret ?_)|with_reducible refine K.tN ?_)
   (exact K.n2 [some 0] U U U U U (by(repeat'(first|exact trivial|refine And.intro ?_ ?_|refine⟨_,U,_,_,U,?_,?_⟩|with_reducible exact rfl));done) U (by simp[tupV,V.wk,V.wks,constV,Ty.view,Tm.view,V.frz]))
theorem rmark_c:∀(n:Nat) (t:Tm) (ks:List Int) (bl:Int),t.full≤n→n<1099511627776→0≤bl→bl+n<1099511627776→(∀p∈t.vars bl,0≤p.1∧p.1<9223372036854775808)→
 AC E 118 [.agg t.view,.i bl,.mp 0] ⟨1,[(0,.map .bl ks (List.replicate ks.length true))]⟩ (.tup []) ⟨1,[(0,.map .bl (nub ks (fre (t.vars bl))) (List.replicate (nub ks (fre (t.vars bl))).length true))]⟩:=by
 intro n
 induction n with
 |zero=>intro t b bl h;have:=t.full_pos;omega
 |succ n ih=>
 intro t ks bl hsz hb hbl hbn hix
 have hsz':=Tm.full_eq t
 have hlen:=lsum_len Tm.full Tm.full_pos t.args
 have hv:=Tm.vars_eq bl t
 have hbe:=rbelow_c t
 have hup:=up_bd t.kind bl
 have hpl:=up_plus t.kind bl
 have hi:t.kind=1→0≤t.index∧t.index<9223372036854775808:=fun h=>by simpa using hix (t.index,bl) (by rw[hv];simp[h])
 have loopE:∀m (hm:m<t.args.length) ks',AC E 118 [.agg (t.args[m]).view,.i (bl+up t.kind 0),.mp 0] ⟨1,[(0,.map .bl ks' (List.replicate ks'.length true))]⟩ (.tup []) ⟨1,[(0,.map .bl (nub ks' (fre ((t.args[m]).vars (up t.kind bl)))) (List.replicate (nub ks' (fre ((t.args[m]).vars (up t.kind bl)))).length true))]⟩:=fun m hm ks'=>by
  have hs2:=lsum_mem Tm.full (List.getElem_mem hm)
  have:=ih t.args[m] ks' (up t.kind bl) (by omega) (by omega) (by omega) (by omega) (fun p hp=>hix p (by rw[hv];exact List.mem_append_right _ (List.mem_flatMap.2 ⟨_,List.getElem_mem hm,hp⟩)))
  rw[←hpl] at this ⊢;exact this
 obtain⟨k0,hk0⟩:∃k0,k0=nub ks (fre (if t.kind=1 then [(t.index,bl)] else [])):=⟨_,rfl⟩
 have hk1:t.kind=1→t.index≥bl→k0=putKs (t.index-bl) ks:=fun h1 h2=>by rw[hk0,if_pos h1,fre_one,if_pos h2];exact nub_one _ _
 have hk2:¬(t.kind=1∧t.index≥bl)→k0=ks:=fun h1=>by
  rw[hk0]
  by_cases h2:t.kind=1
  ·rw [if_pos h2,fre_one,if_neg (fun h3=>h1 ⟨h2,h3⟩)];rfl
  ·rw [if_neg h2];rfl
 have hend:nub ks (fre (t.vars bl))=nub k0 (fre (t.args.flatMap (Tm.vars (up t.kind bl)))):=by rw[hv,fre_app,nub_app,hk0]
 rw[hend]
 by_cases hv1:t.kind=1∧t.index≥bl
 ·have e:=hk1 hv1.1 hv1.2
  have hi':=hi hv1.1
  refine M.F Tryz.func118 ?_
  repeat'(first|refine M.gw ?_|refine M.gs ?_ ?_<;>intro h|refine M.cs ?_ ?_<;>intro h|fail)
  rotate_left
  ·exfalso;simp at h;omega
  ·exfalso;simp at h;exact h hv1.1
  refine AW.range t.args.length (fun m=>True)
   (fun m=>([(1,.i bl),(2,.mp 0),(3,.ptr 1 0),(23,.s .tm t.args),(24,.i t.args.length),(25,.i m)],⟨2,[(0,.map .bl (nub k0 (fre ((t.args.take m).flatMap (Tm.vars (up t.kind bl))))) (List.replicate (nub k0 (fre ((t.args.take m).flatMap (Tm.vars (up t.kind bl))))).length true)),(1,.var t.view)]⟩))
   (by omega) (fun m=>rfl) (fun m=>rfl) rfl trivial ?_ ?_ ?_
  ·simp only[List.take_zero,List.flatMap_nil,fre_nil,nub_nil]
   rw[e];rw[←putCs_same];exact(M.W [some 0,some 1])
  ·intro m hm hP
   have hc:=loopE m hm (nub k0 (fre ((t.args.take m).flatMap (Tm.vars (up t.kind bl)))))
   repeat'(first|refine M.gw ?_|refine M.c2 (hbe) ?_|refine M.cb (hc) [0] 0 ?_|fail)
   refine⟨rfl,trivial,?_⟩
   exact(M.W [some 0,some 1] (he:=(by(repeat'(first|exact trivial|refine And.intro ?_ ?_|refine⟨_,U,_,U,_,U,?_⟩|exact VLe.refl _|refine⟨_,U,_,_,U,?_,?_⟩|(simp[Sto.upd,fre_app,nub_app,flat_take _ _ _ hm];done)));done)))
  ·intro hP
   simp only[List.take_length]
   skip
   (exact M.n2 [some 0] (h8:=(by simp[tupV,V.wk,V.wks,constV,Ty.view,Tm.view,V.frz])))
 ·have e:=hk2 hv1
  refine M.F Tryz.func118 ?_
  repeat'(first|refine M.gw ?_|refine M.gs ?_ ?_<;>intro h|refine M.cs ?_ ?_<;>intro h|fail)
  ·rename_i h1'
   exfalso;exact hv1 ⟨by simpa using h1',by simpa using h⟩
  all_goals
   refine AW.range t.args.length (fun m=>True)
    (fun m=>([(1,.i bl),(2,.mp 0),(3,.ptr 1 0),(23,.s .tm t.args),(24,.i t.args.length),(25,.i m)],⟨2,[(0,.map .bl (nub k0 (fre ((t.args.take m).flatMap (Tm.vars (up t.kind bl))))) (List.replicate (nub k0 (fre ((t.args.take m).flatMap (Tm.vars (up t.kind bl))))).length true)),(1,.var t.view)]⟩))
    (by omega) (fun m=>rfl) (fun m=>rfl) rfl trivial ?_ ?_ ?_
   ·simp only[List.take_zero,List.flatMap_nil,fre_nil,nub_nil]
    rw[e];exact(M.W [some 0,some 1])
   ·intro m hm hP
    have hc:=loopE m hm (nub k0 (fre ((t.args.take m).flatMap (Tm.vars (up t.kind bl)))))
    repeat'(first|refine M.gw ?_|refine M.c2 (hbe) ?_|refine M.cb (hc) [0] 0 ?_|fail)
    refine⟨rfl,trivial,?_⟩
    exact(M.W [some 0,some 1] (he:=(by(repeat'(first|exact trivial|refine And.intro ?_ ?_|refine⟨_,U,_,U,_,U,?_⟩|exact VLe.refl _|refine⟨_,U,_,_,U,?_,?_⟩|(simp[Sto.upd,fre_app,nub_app,flat_take _ _ _ hm];done)));done)))
   ·intro hP
    simp only[List.take_length]
    skip
    (exact M.n2 [some 0] (h8:=(by simp[tupV,V.wk,V.wks,constV,Ty.view,Tm.view,V.frz])))
theorem upF_bd(k b:Int):b≤upF k b∧upF k b≤b+1:=by unfold upF;split<;>omega
theorem rmarkF_c:∀(n:Nat) (f:Fm) (ks:List Int) (bl:Int),f.full≤n→n<549755813888→0≤bl→bl+n<549755813888→f.ixr→
 AC E 70 [.agg f.view,.i bl,.mp 0] ⟨1,[(0,.map .bl ks (List.replicate ks.length true))]⟩ (.tup []) ⟨1,[(0,.map .bl (nub ks (f.fvl bl)) (List.replicate (nub ks (f.fvl bl)).length true))]⟩:=by
 intro n
 induction n with
 |zero=>intro f b bl h;have:=f.full_pos;omega
 |succ n ih=>
 intro f ks bl hsz hb hbl hbn hix
 have hsz':=f.full_eq
 have hlen:=lsum_len Fm.full Fm.full_pos f.args
 have hlen2:=lsum_len Tm.full Tm.full_pos f.terms
 have hbe:=rfbelow_c f
 have hup:=upF_bd f.kind bl
 have hpl:=upF_plus f.kind bl
 have hend:nub ks (f.fvl bl)=nub (nub ks (f.terms.flatMap fun t=>fre (t.vars bl))) (f.args.flatMap fun a=>a.fvl (upF f.kind bl)):=by rw[fvl_eq,nub_app]
 rw[hend]
 obtain⟨k0,hk0⟩:∃k0,k0=nub ks (f.terms.flatMap fun t=>fre (t.vars bl)):=⟨_,rfl⟩
 rw[←hk0]
 have hu0:0≤upF f.kind 0∧upF f.kind 0≤1:=by have:=upF_bd f.kind 0;omega
 refine M.F Tryz.func70 ?_
 repeat'(first|refine M.gw ?_|refine M.bp 3 ?_|refine L.mn U U U U ?_|refine L.mx U U U U ?_|refine L.apt9 U U U U U U (by first|exact trivial|exact⟨rfl,trivial⟩) U U (by first|omega|(simp;omega)) ?_|refine L.aptF9 U U U U (by first|assumption|simp) U U U (by first|omega|(simp;omega)) ?_|refine L.lkb U U U U U U U U U U ?_|refine M.gs ?_ ?_<;>intro h|refine M.zb ?_|refine M.bl ?_|refine M.ks ?_ ?_<;>intro h|refine M.cs ?_ ?_<;>intro h|exact M.le|exact M.lt|fail)
 refine AW.range f.terms.length (fun m=>True)
  (fun m=>([(1,.i bl),(2,.mp 0),(3,.ptr 1 0),(11,.s .tm f.terms),(12,.i f.terms.length),(13,.i m)],⟨2,[(0,.map .bl (nub ks ((f.terms.take m).flatMap fun t=>fre (t.vars bl))) (List.replicate (nub ks ((f.terms.take m).flatMap fun t=>fre (t.vars bl))).length true)),(1,.var f.view)]⟩))
  (by omega) (fun m=>rfl) (fun m=>rfl) rfl trivial (by simp only[List.take_zero,List.flatMap_nil,List.flatten_nil,nub_nil];exact(M.W [some 0,some 1])) ?_ ?_
 ·intro m hm hP
  have hs2:=lsum_mem Tm.full (List.getElem_mem hm)
  have hc:=rmark_c _ f.terms[m] (nub ks ((f.terms.take m).flatMap fun t=>fre (t.vars bl))) bl (Nat.le_refl _) (by omega) (by omega) (by omega) (Fm.ixr_terms hix (List.getElem_mem hm) bl)
  repeat'(first|refine M.gw ?_|refine M.bp 3 ?_|refine M.cb (hc) [0] 0 ?_|refine L.mn U U U U ?_|refine L.mx U U U U ?_|refine L.apt9 U U U U U U (by first|exact trivial|exact⟨rfl,trivial⟩) U U (by first|omega|(simp;omega)) ?_|refine L.aptF9 U U U U (by first|assumption|simp) U U U (by first|omega|(simp;omega)) ?_|refine L.lkb U U U U U U U U U U ?_|refine M.gs ?_ ?_<;>intro h|refine M.zb ?_|refine M.bl ?_|refine M.ks ?_ ?_<;>intro h|refine M.cs ?_ ?_<;>intro h|exact M.le|exact M.lt|fail)
  refine⟨rfl,trivial,?_⟩
  exact(M.W [some 0,some 1] (hf:=(by(repeat'(first|exact trivial|exact Or.inl U|exact Or.inr ⟨_,U,rfl⟩|refine And.intro ?_ ?_|refine⟨_,U,_,U,_,U,?_⟩|refine⟨_,U,_,U,?_⟩|exact VLe.refl _|exact VLe.any _ _|exact VsLe.refl _|refine VLe.agg ?_|exact VLe.of_eq (by simp[Sto.upd,nub_app,flat_take _ _ _ hm])|refine⟨_,U,_,_,U,?_,?_⟩|with_reducible exact rfl|(simp[Sto.upd,nub_app,flat_take _ _ _ hm];done)|exact Eq.refl true|refine⟨_,U,_,renVs_flat _ _ _,_,U,?_⟩));done)) (he:=(by(repeat'(first|exact trivial|exact Or.inl U|exact Or.inr ⟨_,U,rfl⟩|refine And.intro ?_ ?_|refine⟨_,U,_,U,_,U,?_⟩|refine⟨_,U,_,U,?_⟩|exact VLe.refl _|exact VLe.any _ _|exact VsLe.refl _|refine VLe.agg ?_|exact VLe.of_eq (by simp[Sto.upd,nub_app,flat_take _ _ _ hm])|refine⟨_,U,_,_,U,?_,?_⟩|with_reducible exact rfl|(simp[Sto.upd,nub_app,flat_take _ _ _ hm];done)|exact Eq.refl true|refine⟨_,U,_,renVs_flat _ _ _,_,U,?_⟩));done)))
 ·intro hP
  simp only[List.take_length,←hk0]
  repeat'(first|refine M.gw ?_|refine M.bp 3 ?_|refine L.mn U U U U ?_|refine L.mx U U U U ?_|refine L.apt9 U U U U U U (by first|exact trivial|exact⟨rfl,trivial⟩) U U (by first|omega|(simp;omega)) ?_|refine L.aptF9 U U U U (by first|assumption|simp) U U U (by first|omega|(simp;omega)) ?_|refine L.lkb U U U U U U U U U U ?_|refine M.gs ?_ ?_<;>intro h|refine M.zb ?_|refine M.bl ?_|refine M.ks ?_ ?_<;>intro h|refine M.cs ?_ ?_<;>intro h|exact M.le|exact M.lt|fail)
  refine AW.range f.args.length (fun m=>True)
   (fun m=>([(1,.i bl),(2,.mp 0),(3,.ptr 1 0),(23,.s .fm f.args),(24,.i f.args.length),(25,.i m)],⟨2,[(0,.map .bl (nub k0 ((f.args.take m).flatMap fun a=>a.fvl (upF f.kind bl))) (List.replicate (nub k0 ((f.args.take m).flatMap fun a=>a.fvl (upF f.kind bl))).length true)),(1,.var f.view)]⟩))
   (by omega) (fun m=>rfl) (fun m=>rfl) rfl trivial (by simp only[List.take_zero,List.flatMap_nil,List.flatten_nil,nub_nil];exact(M.W [some 0,some 1])) ?_ ?_
  ·intro m hm hP
   have hs2:=lsum_mem Fm.full (List.getElem_mem hm)
   have hc:=ih f.args[m] (nub k0 ((f.args.take m).flatMap fun a=>a.fvl (upF f.kind bl))) (upF f.kind bl) (by omega) (by omega) (by omega) (by omega) (Fm.ixr_args hix (List.getElem_mem hm))
   rw[←hpl] at hc ⊢
   repeat'(first|refine M.gw ?_|refine M.bp 3 ?_|refine M.c2 (hbe) ?_|refine M.cb (hc) [0] 0 ?_|refine L.mn U U U U ?_|refine L.mx U U U U ?_|refine L.apt9 U U U U U U (by first|exact trivial|exact⟨rfl,trivial⟩) U U (by first|omega|(simp;omega)) ?_|refine L.aptF9 U U U U (by first|assumption|simp) U U U (by first|omega|(simp;omega)) ?_|refine L.lkb U U U U U U U U U U ?_|refine M.gs ?_ ?_<;>intro h|refine M.zb ?_|refine M.bl ?_|refine M.ks ?_ ?_<;>intro h|refine M.cs ?_ ?_<;>intro h|exact M.le|exact M.lt|fail)
   refine⟨rfl,trivial,?_⟩
   exact(M.W [some 0,some 1] (hf:=(by(repeat'(first|exact trivial|exact Or.inl U|exact Or.inr ⟨_,U,rfl⟩|refine And.intro ?_ ?_|refine⟨_,U,_,U,_,U,?_⟩|refine⟨_,U,_,U,?_⟩|exact VLe.refl _|exact VLe.any _ _|exact VsLe.refl _|refine VLe.agg ?_|exact VLe.of_eq (by simp[Sto.upd,nub_app,flat_take _ _ _ hm])|refine⟨_,U,_,_,U,?_,?_⟩|with_reducible exact rfl|(simp[Sto.upd,nub_app,flat_take _ _ _ hm];done)|exact Eq.refl true|refine⟨_,U,_,renVs_flat _ _ _,_,U,?_⟩));done)) (he:=(by(repeat'(first|exact trivial|exact Or.inl U|exact Or.inr ⟨_,U,rfl⟩|refine And.intro ?_ ?_|refine⟨_,U,_,U,_,U,?_⟩|refine⟨_,U,_,U,?_⟩|exact VLe.refl _|exact VLe.any _ _|exact VsLe.refl _|refine VLe.agg ?_|exact VLe.of_eq (by simp[Sto.upd,nub_app,flat_take _ _ _ hm])|refine⟨_,U,_,_,U,?_,?_⟩|with_reducible exact rfl|(simp[Sto.upd,nub_app,flat_take _ _ _ hm];done)|exact Eq.refl true|refine⟨_,U,_,renVs_flat _ _ _,_,U,?_⟩));done)))
  ·intro hP
   simp only[List.take_length]
   repeat'(first|refine M.gw ?_|refine M.bp 3 ?_|refine L.mn U U U U ?_|refine L.mx U U U U ?_|refine L.apt9 U U U U U U (by first|exact trivial|exact⟨rfl,trivial⟩) U U (by first|omega|(simp;omega)) ?_|refine L.aptF9 U U U U (by first|assumption|simp) U U U (by first|omega|(simp;omega)) ?_|refine L.lkb U U U U U U U U U U ?_|refine M.gs ?_ ?_<;>intro h|refine M.zb ?_|refine M.bl ?_|refine M.ks ?_ ?_<;>intro h|refine M.cs ?_ ?_<;>intro h|exact M.le|exact M.lt|fail)
   (first|exact M.n2 [some 0] (h6:=(by(repeat'(first|exact trivial|exact Or.inl U|exact Or.inr ⟨_,U,rfl⟩|refine And.intro ?_ ?_|refine⟨_,U,_,U,_,U,?_⟩|refine⟨_,U,_,U,?_⟩|exact VLe.refl _|exact VLe.any _ _|exact VsLe.refl _|refine VLe.agg ?_|exact VLe.of_eq (by simp[Sto.upd,V.frz])|refine⟨_,U,_,_,U,?_,?_⟩|with_reducible exact rfl|(simp[Sto.upd,V.frz];done)|exact Eq.refl true|refine⟨_,U,_,renVs_flat _ _ _,_,U,?_⟩));done)) (h8:=(by simp[tupV,V.wk,V.wks,constV,Ty.view,Tm.view,V.frz]))|exact M.r2 [some 0] (h6:=(by(repeat'(first|exact trivial|exact Or.inl U|exact Or.inr ⟨_,U,rfl⟩|refine And.intro ?_ ?_|refine⟨_,U,_,U,_,U,?_⟩|refine⟨_,U,_,U,?_⟩|exact VLe.refl _|exact VLe.any _ _|exact VsLe.refl _|refine VLe.agg ?_|exact VLe.of_eq (by simp[Sto.upd,V.frz])|refine⟨_,U,_,_,U,?_,?_⟩|with_reducible exact rfl|(simp[Sto.upd,V.frz];done)|exact Eq.refl true|refine⟨_,U,_,renVs_flat _ _ _,_,U,?_⟩));done)) (h8:=(by simp[tupV,V.wk,V.wks,constV,Ty.view,Tm.view,V.frz])))
theorem liftFmCb(fr by_:Int)(hat:0≤fr∧fr<274877906944)(hs:0≤by_∧by_<274877906944)(t:Tm)(bl:Int)(ht:t.full<274877906944)(hb:0≤bl∧bl<274877906944)(hix:∀p∈t.vars 0,0≤p.1∧p.1<549755813888):
 AC E 136 [.agg t.view,.i bl,.ptr 0 0,.ptr 1 0] ⟨2,[(0,.var [.i fr]),(1,.var [.i by_])]⟩ (.agg (t.re (liftG (fr+bl) by_) 0).view) ⟨2,[(0,.var [.i fr]),(1,.var [.i by_])]⟩:=by
 have hc:=lift_c t (fr+bl) by_ (by omega) ht hix
 refine M.F Tryz.func136 ?_
 repeat'(first|refine M.gw ?_|refine M.c2 (hc) ?_|fail)
 (exact M.n2 [some 0,some 1] (h8:=(by simp[tupV,V.wk,V.wks,constV,Ty.view,Tm.view,hc])))
theorem liftFmRe(fr by_:Int)(hat:0≤fr∧fr<274877906944)(hs:0≤by_∧by_<274877906944):∀(n:Nat) (f:Fm) (bl:Int),f.full≤n→n<274877906944→0≤bl→bl+n<274877906944→(∀p∈f.tms bl,∀q∈p.1.vars 0,0≤q.1∧q.1<549755813888)→
 AC E 120 [.agg f.view,.i bl,.fn (.func 136) [] [.ptr 0 0,.ptr 1 0]] ⟨2,[(0,.var [.i fr]),(1,.var [.i by_])]⟩ (.agg (f.re (fun b t=>t.re (liftG (fr+b) by_) 0) bl).view) ⟨2,[(0,.var [.i fr]),(1,.var [.i by_])]⟩:=by
 intro n
 induction n with
 |zero=>intro f bl h;intros;have:=f.full_pos;omega
 |succ n ih=>
 intro f bl hsz hb hbl hbn hix
 have hsz':=f.full_eq
 have hlen:=lsum_len Fm.full Fm.full_pos f.args
 have hlen2:=lsum_len Tm.full Tm.full_pos f.terms
 have hty:=ownTy_c _ f.ty (Nat.le_refl _) (by omega)
 have hq:=quantifier_c f.kind
 have hre:=Fm.re_eq (fun b t=>t.re (liftG (fr+b) by_) 0) bl f
 have htm:=f.tms_eq bl
 refine M.F Tryz.func120 ?_
 repeat'(first|refine M.gw ?_|refine M.c2 (hty) ?_|fail)
 refine AW.range f.terms.length (fun m=>True)
  (fun m=>([(1,.i bl),(2,.fn (.func 136) [] [.ptr 0 0,.ptr 1 0]),(3,.ptr 2 0),(6,.ptr 3 0),(7,.ptr 4 0),(19,.s .tm f.terms),(20,.i f.terms.length),(21,.i m)],⟨6,[(0,.var [.i fr]),(1,.var [.i by_]),(2,.var f.view),(3,.var [.i 0,.i 0,.slice .nil (.t .ty []),.slice .nil (.t .tm []),.slice .nil (.t .fm [])]),(4,.var [.i f.kind,.i f.ty.kind,.s .ty f.ty.args,.slice (.own 5) (.t .tm ((f.terms.take m).map ((fun b t=>t.re (liftG (fr+b) by_) 0) bl))),.slice .nil (.t .fm [])]),(5,.row)]⟩))
  (by omega) (fun m=>rfl) (fun m=>rfl) rfl trivial (M.W [some 0,some 1,some 2,some 3,some 4,none]) ?_ ?_
 ·intro m hm _
  have hs2:=lsum_mem Tm.full (List.getElem_mem hm)
  have hc:=liftFmCb fr by_ hat hs f.terms[m] bl (by omega) (by omega) (fun p hp=>hix _ (by rw[htm];exact List.mem_append_left _ (List.mem_map.2 ⟨_,List.getElem_mem hm,rfl⟩)) p hp)
  repeat'(first|refine M.gw ?_|refine M.cv (hc) [0,1] 0 ?_|fail)
  exact⟨rfl,trivial,(M.W [some 0,some 1,some 2,some 3,some 4,some 7] (he:=(by(repeat'(first|exact trivial|exact Or.inr ⟨_,U,rfl⟩|refine And.intro ?_ ?_|refine⟨_,U,_,U,_,U,?_⟩|exact VLe.refl _|exact VLe.of_eq (by simp[Sto.upd,map_take _ _ _ hm])));done)))⟩
 ·intro _
  simp only[List.take_length]
  cases hqk:quantK f.kind with
  |true=>
   rw[hqk] at hq
   have hu:upF f.kind bl=bl+1:=by simp[upF,hqk]
   rw[hu] at hre htm
   repeat'(first|refine M.gw ?_|refine M.c2 (hq) ?_|fail)
   refine AW.range f.args.length (fun m=>True)
    (fun m=>([(1,.i (bl+1)),(2,.fn (.func 136) [] [.ptr 0 0,.ptr 1 0]),(3,.ptr 2 0),(6,.ptr 3 0),(7,.ptr 4 0),(41,.s .fm f.args),(42,.i f.args.length),(43,.i m)],⟨7,[(0,.var [.i fr]),(1,.var [.i by_]),(2,.var f.view),(3,.var [.i 0,.i 0,.slice .nil (.t .ty []),.slice .nil (.t .tm []),.slice .nil (.t .fm [])]),(4,.var [.i f.kind,.i f.ty.kind,.s .ty f.ty.args,.slice (.own 5) (.t .tm (f.terms.map ((fun b t=>t.re (liftG (fr+b) by_) 0) bl))),.slice (.own 6) (.t .fm ((f.args.take m).map (Fm.re (fun b t=>t.re (liftG (fr+b) by_) 0) (bl+1))))]),(5,.row),(6,.row)]⟩))
    (by omega) (fun m=>rfl) (fun m=>rfl) rfl trivial (M.W [some 0,some 1,some 2,some 3,some 4,some 5,none]) ?_ ?_
   ·intro m hm _
    have hs2:=lsum_mem Fm.full (List.getElem_mem hm)
    have hc:=ih f.args[m] (bl+1) (by omega) (by omega) (by omega) (by omega) (fun p hp=>hix p (by rw[htm];exact List.mem_append_right _ (List.mem_flatMap.2 ⟨_,List.getElem_mem hm,hp⟩)))
    repeat'(first|refine M.gw ?_|refine M.cv (hc) [0,1] 0 ?_|fail)
    exact⟨rfl,trivial,(M.W [some 0,some 1,some 2,some 3,some 4,some 5,some 8] (he:=(by(repeat'(first|exact trivial|exact Or.inr ⟨_,U,rfl⟩|refine And.intro ?_ ?_|refine⟨_,U,_,U,_,U,?_⟩|exact VLe.refl _|exact VLe.of_eq (by simp[Sto.upd,map_take _ _ _ hm])));done)))⟩
   ·intro _
    simp only[List.take_length]
    repeat'(first|refine M.gw ?_|fail)
    (exact M.n2 [some 0,some 1] (h8:=(by simp[tupV,V.wk,V.wks,constV,Ty.view,Tm.view,hre])))
  |false=>
   rw[hqk] at hq
   have hu:upF f.kind bl=bl:=by simp[upF,hqk]
   rw[hu] at hre htm
   repeat'(first|refine M.gw ?_|refine M.c2 (hq) ?_|fail)
   refine AW.range f.args.length (fun m=>True)
    (fun m=>([(1,.i bl),(2,.fn (.func 136) [] [.ptr 0 0,.ptr 1 0]),(3,.ptr 2 0),(6,.ptr 3 0),(7,.ptr 4 0),(41,.s .fm f.args),(42,.i f.args.length),(43,.i m)],⟨7,[(0,.var [.i fr]),(1,.var [.i by_]),(2,.var f.view),(3,.var [.i 0,.i 0,.slice .nil (.t .ty []),.slice .nil (.t .tm []),.slice .nil (.t .fm [])]),(4,.var [.i f.kind,.i f.ty.kind,.s .ty f.ty.args,.slice (.own 5) (.t .tm (f.terms.map ((fun b t=>t.re (liftG (fr+b) by_) 0) bl))),.slice (.own 6) (.t .fm ((f.args.take m).map (Fm.re (fun b t=>t.re (liftG (fr+b) by_) 0) bl)))]),(5,.row),(6,.row)]⟩))
    (by omega) (fun m=>rfl) (fun m=>rfl) rfl trivial (M.W [some 0,some 1,some 2,some 3,some 4,some 5,none]) ?_ ?_
   ·intro m hm _
    have hs2:=lsum_mem Fm.full (List.getElem_mem hm)
    have hc:=ih f.args[m] bl (by omega) (by omega) (by omega) (by omega) (fun p hp=>hix p (by rw[htm];exact List.mem_append_right _ (List.mem_flatMap.2 ⟨_,List.getElem_mem hm,hp⟩)))
    repeat'(first|refine M.gw ?_|refine M.cv (hc) [0,1] 0 ?_|fail)
    exact⟨rfl,trivial,(M.W [some 0,some 1,some 2,some 3,some 4,some 5,some 8] (he:=(by(repeat'(first|exact trivial|exact Or.inr ⟨_,U,rfl⟩|refine And.intro ?_ ?_|refine⟨_,U,_,U,_,U,?_⟩|exact VLe.refl _|exact VLe.of_eq (by simp[Sto.upd,map_take _ _ _ hm])));done)))⟩
   ·intro _
    simp only[List.take_length]
    repeat'(first|refine M.gw ?_|fail)
    (exact M.n2 [some 0,some 1] (h8:=(by simp[tupV,V.wk,V.wks,constV,Ty.view,Tm.view,hre])))
theorem liftFm_c(f:Fm)(fr by_:Int)(hat:0≤fr∧fr<274877906944)(hs:0≤by_∧by_<274877906944)(hf:f.full<137438953472)(hix:∀p∈f.tms 0,∀q∈p.1.vars 0,0≤q.1∧q.1<549755813888):PC E 92 [.agg f.view,.i fr,.i by_] (.agg (f.lft fr by_).view):=by
 have hc:=liftFmRe fr by_ hat hs _ f 0 (Nat.le_refl _) (by omega) (by omega) (by omega) hix
 refine M.F Tryz.func92 ?_
 repeat'(first|refine M.gw ?_|refine M.cv (hc) [1,2] 0 ?_|fail)
 rfl
theorem fLift_c(f:Fm)(fr by_:Int)(hf:f.full<137438953472):PC E 31 [.agg f.view,.i fr,.i by_] (.tup [.agg (if liftFErr f fr by_=0 then f.lft fr by_ else noFm).view,.i (liftFErr f fr by_)]):=by
 have h1:=fcheck_c f (by omega)
 have h2:=fwithin_c fr
 have h3:=fwithin_c by_
 have h4:=nearFm_c f (by omega)
 have h5:f.err=0→f.near=true→(0≤fr∧fr≤4096)→(0≤by_∧by_≤4096)→_:=fun h hn ha hb=>liftFm_c f fr by_ (by omega) (by omega) hf (nearF_lt h hn)
 refine M.F Tryz.func31 ?_
 repeat'(first|refine M.gw ?_|refine M.c2 (h1) ?_|refine M.c2 (h2) ?_|refine M.c2 (h3) ?_|refine M.c2 (h4) ?_|refine M.c2 (h5 (by simp_all) (by simp_all) (by simp_all) (by simp_all)) ?_|refine M.gs ?_ ?_<;>intro h|refine M.cs ?_ ?_<;>intro h|fail)
 ·have e':f.err≠0:=by simpa using h
  have e:liftFErr f fr by_=f.err:=by simp only[liftFErr];rw[if_pos e']
  simp[tupV,V.wk,V.wks,constV,Ty.view,Fm.view,e,noFm,e']
 ·rename_i h0
  have e':¬f.err≠0:=by simpa using h0
  have e:liftFErr f fr by_=1:=by simp only[liftFErr];rw[if_neg e',if_pos (.inl (by intro hc;simp[hc] at h))]
  simp[tupV,V.wk,V.wks,constV,Ty.view,Fm.view,e,noFm]
 ·rename_i h0 h1
  have e':¬f.err≠0:=by simpa using h0
  have e:liftFErr f fr by_=1:=by simp only[liftFErr];rw[if_neg e',if_pos (.inr (.inl (by intro hc;simp[hc] at h)))]
  simp[tupV,V.wk,V.wks,constV,Ty.view,Fm.view,e,noFm]
 ·rename_i h0 h1 h2
  have e':¬f.err≠0:=by simpa using h0
  have e:liftFErr f fr by_=1:=by simp only[liftFErr];rw[if_neg e',if_pos (.inr (.inr (by simpa using h)))]
  simp[tupV,V.wk,V.wks,constV,Ty.view,Fm.view,e,noFm]
 ·rename_i h0 h1 h2
  have e':¬f.err≠0:=by simpa using h0
  have e:liftFErr f fr by_=0:=by
   simp only[liftFErr];rw[if_neg e',if_neg]
   rintro(hc|hc|hc)
   ·simp at h1;omega
   ·simp at h2;omega
   ·simp [hc] at h
  simp[tupV,V.wk,V.wks,constV,Ty.view,Fm.view,e,noFm]
end Go.Ab
namespace Go.Proofs
open Go.Shelf
def Tryz.keysA_ren:Go.Shelf.Ren:=⟨fun|7=>69|10=>117|n=>n,fun|23=>86|26=>3|3=>4|28=>93|0=>0|27=>92|33=>104|4=>4|n=>n,fun|n=>n⟩
theorem Tryz.keysA:Go.Proofs.SlLaysZI.n7 Tryz.prog Tryz.keysA_ren:={
 mixed:=by kernel_rfl
 f7:=⟨Tryz.f69.name,by decide,Tryz.func69.trans (congrArg some (by kernel_rfl))⟩
 f10:=⟨Tryz.f117.name,by decide,Tryz.func117.trans (congrArg some (by kernel_rfl))⟩
 t0:=Tryz.underlying0
 a0:=Tryz.isAgg0
 z0:=Tryz.sizeOf0
 v0:=Tryz.zeroValue0
 t4:=Tryz.underlying4
 a4:=Tryz.isAgg4
 z4:=Tryz.sizeOf4
 v4:=Tryz.zeroValue4
 t23:=Tryz.underlying86
 a23:=Tryz.isAgg86
 z23:=Tryz.sizeOf86
 v23:=Tryz.zeroValue86
 t26:=Tryz.underlying3
 a26:=Tryz.isAgg3
 z26:=Tryz.sizeOf3
 v26:=Tryz.zeroValue3
 t27:=Tryz.underlying92
 a27:=Tryz.isAgg92
 z27:=Tryz.sizeOf92
 v27:=Tryz.zeroValue92
 t28:=Tryz.underlying93
 a28:=Tryz.isAgg93
 z28:=Tryz.sizeOf93
 v28:=Tryz.zeroValue93
 t33:=Tryz.underlying104
 a33:=Tryz.isAgg104
 z33:=Tryz.sizeOf104
 v33:=Tryz.zeroValue104}
def Tryz.sortedA_ren:Go.Shelf.Ren:=⟨fun|6=>68|8=>115|9=>116|11=>151|13=>153|12=>152|23=>178|24=>179|14=>169|15=>170|16=>171|17=>172|18=>173|19=>174|20=>175|21=>176|22=>177|25=>185|26=>186|27=>187|28=>188|29=>189|30=>190|31=>194|n=>n,fun|26=>3|28=>93|24=>22|0=>0|3=>3|37=>138|48=>155|50=>157|4=>4|40=>148|39=>147|45=>118|5=>5|9=>9|51=>163|55=>167|57=>173|58=>174|33=>104|n=>n,fun|n=>n⟩
theorem Tryz.sortedA:Go.Proofs.SlLaysZI.n6 Tryz.prog Tryz.sortedA_ren:={
 mixed:=by kernel_rfl
 f6:=⟨Tryz.f68.name,by decide,Tryz.func68.trans (congrArg some (by kernel_rfl))⟩
 f8:=⟨Tryz.f115.name,by decide,Tryz.func115.trans (congrArg some (by kernel_rfl))⟩
 f11:=⟨Tryz.f151.name,by decide,Tryz.func151.trans (congrArg some (by kernel_rfl))⟩
 t0:=Tryz.underlying0
 a0:=Tryz.isAgg0
 z0:=Tryz.sizeOf0
 v0:=Tryz.zeroValue0
 t24:=Tryz.underlying22
 a24:=Tryz.isAgg22
 z24:=Tryz.sizeOf22
 v24:=Tryz.zeroValue22
 t26:=Tryz.underlying3
 a26:=Tryz.isAgg3
 z26:=Tryz.sizeOf3
 v26:=Tryz.zeroValue3
 t28:=Tryz.underlying93
 a28:=Tryz.isAgg93
 z28:=Tryz.sizeOf93
 v28:=Tryz.zeroValue93
 i26:=by kernel_rfl}
def Tryz.sortA_ren:Go.Shelf.Ren:=⟨fun|5=>116|8=>153|7=>152|19=>178|20=>179|10=>169|11=>170|12=>171|13=>172|14=>173|15=>174|16=>175|17=>176|18=>177|30=>185|31=>186|32=>187|33=>188|34=>189|35=>190|40=>194|n=>n,fun|23=>22|25=>3|3=>3|32=>138|22=>22|0=>0|44=>155|46=>157|4=>4|36=>148|35=>147|41=>118|5=>5|9=>9|53=>163|57=>167|63=>173|64=>174|n=>n,fun|n=>n⟩
theorem Tryz.sortA:Go.Proofs.SlLaysM.n5 Tryz.prog Tryz.sortA_ren:={
 mixed:=by kernel_rfl
 f5:=⟨Tryz.f116.name,by decide,Tryz.func116.trans (congrArg some (by kernel_rfl))⟩
 f7:=⟨Tryz.f152.name,by decide,Tryz.func152.trans (congrArg some (by kernel_rfl))⟩
 f8:=Tryz.func153.trans (congrArg some (by kernel_rfl))
 f10:=⟨Tryz.f169.name,by decide,Tryz.func169.trans (congrArg some (by kernel_rfl))⟩
 f11:=⟨Tryz.f170.name,by decide,Tryz.func170.trans (congrArg some (by kernel_rfl))⟩
 f12:=⟨Tryz.f171.name,by decide,Tryz.func171.trans (congrArg some (by kernel_rfl))⟩
 f13:=⟨Tryz.f172.name,by decide,Tryz.func172.trans (congrArg some (by kernel_rfl))⟩
 f14:=⟨Tryz.f173.name,by decide,Tryz.func173.trans (congrArg some (by kernel_rfl))⟩
 f15:=⟨Tryz.f174.name,by decide,Tryz.func174.trans (congrArg some (by kernel_rfl))⟩
 f16:=⟨Tryz.f175.name,by decide,Tryz.func175.trans (congrArg some (by kernel_rfl))⟩
 f17:=⟨Tryz.f176.name,by decide,Tryz.func176.trans (congrArg some (by kernel_rfl))⟩
 f18:=⟨Tryz.f177.name,by decide,Tryz.func177.trans (congrArg some (by kernel_rfl))⟩
 f19:=Tryz.func178.trans (congrArg some (by kernel_rfl))
 f20:=Tryz.func179.trans (congrArg some (by kernel_rfl))
 f30:=⟨Tryz.f185.name,by decide,Tryz.func185.trans (congrArg some (by kernel_rfl))⟩
 f31:=Tryz.func186.trans (congrArg some (by kernel_rfl))
 f32:=Tryz.func187.trans (congrArg some (by kernel_rfl))
 f33:=⟨Tryz.f188.name,by decide,Tryz.func188.trans (congrArg some (by kernel_rfl))⟩
 f34:=⟨Tryz.f189.name,by decide,Tryz.func189.trans (congrArg some (by kernel_rfl))⟩
 f35:=⟨Tryz.f190.name,by decide,Tryz.func190.trans (congrArg some (by kernel_rfl))⟩
 f40:=⟨Tryz.f194.name,by decide,Tryz.func194.trans (congrArg some (by kernel_rfl))⟩
 t0:=Tryz.underlying0
 a0:=Tryz.isAgg0
 z0:=Tryz.sizeOf0
 v0:=Tryz.zeroValue0
 t3:=Tryz.underlying3
 a3:=Tryz.isAgg3
 z3:=Tryz.sizeOf3
 v3:=Tryz.zeroValue3
 t4:=Tryz.underlying4
 a4:=Tryz.isAgg4
 z4:=Tryz.sizeOf4
 v4:=Tryz.zeroValue4
 t5:=Tryz.underlying5
 a5:=Tryz.isAgg5
 z5:=Tryz.sizeOf5
 v5:=Tryz.zeroValue5
 t9:=Tryz.underlying9
 a9:=Tryz.isAgg9
 z9:=Tryz.sizeOf9
 v9:=Tryz.zeroValue9
 t22:=Tryz.underlying22
 a22:=Tryz.isAgg22
 z22:=Tryz.sizeOf22
 v22:=Tryz.zeroValue22
 t23:=Tryz.underlying22
 a23:=Tryz.isAgg22
 z23:=Tryz.sizeOf22
 v23:=Tryz.zeroValue22
 t25:=Tryz.underlying3
 a25:=Tryz.isAgg3
 z25:=Tryz.sizeOf3
 v25:=Tryz.zeroValue3
 t32:=Tryz.underlying138
 a32:=Tryz.isAgg138
 z32:=Tryz.sizeOf138
 v32:=Tryz.zeroValue138
 t35:=Tryz.underlying147
 a35:=Tryz.isAgg147
 z35:=Tryz.sizeOf147
 v35:=Tryz.zeroValue147
 t36:=Tryz.underlying148
 a36:=Tryz.isAgg148
 z36:=Tryz.sizeOf148
 v36:=Tryz.zeroValue148
 t41:=Tryz.underlying118
 a41:=Tryz.isAgg118
 z41:=Tryz.sizeOf118
 v41:=Tryz.zeroValue118
 t44:=Tryz.underlying155
 a44:=Tryz.isAgg155
 z44:=Tryz.sizeOf155
 v44:=Tryz.zeroValue155
 t46:=Tryz.underlying157
 a46:=Tryz.isAgg157
 z46:=Tryz.sizeOf157
 v46:=Tryz.zeroValue157
 t53:=Tryz.underlying163
 a53:=Tryz.isAgg163
 z53:=Tryz.sizeOf163
 v53:=Tryz.zeroValue163
 t57:=Tryz.underlying167
 a57:=Tryz.isAgg167
 z57:=Tryz.sizeOf167
 v57:=Tryz.zeroValue167
 t63:=Tryz.underlying173
 a63:=Tryz.isAgg173
 z63:=Tryz.sizeOf173
 v63:=Tryz.zeroValue173
 t64:=Tryz.underlying174
 a64:=Tryz.isAgg174
 z64:=Tryz.sizeOf174
 v64:=Tryz.zeroValue174}
end Go.Proofs
namespace Go.Ab
open Go Go.Proofs Go.RowKit
set_option linter.all false
set_option maxRecDepth 100000
theorem sorts_in(m:Nat):AnyZI.SortsIn E.P Tryz.sortedA_ren Fence.wide m:=
 ⟨fun blk off cap ss W hH hblk hsz=>callsIn_wide.2 (AnyM.slices_Sort_int Tryz.sortA blk off cap ss W hH hblk hsz),fun p cap W=>callsIn_wide.2 (AnyM.slices_Sort_int_none Tryz.sortA p cap W)⟩
theorem mapKeys_c{σ:Sto}{n:Nat}(h:n<σ.nx):AC E 69 [.mp n] σ (.fn (.func 117) [] [.ptr σ.nx 0]) ⟨σ.nx+1,(σ.nx,.var [.mp n])::σ.es⟩:=
 AC.mapKeys (E:=E) (ρ7:=Tryz.keysA_ren) Tryz.keysA (enters_of Tryz.func69 (by kernel_rfl) rfl) h
theorem sorted_c{σ:Sto}{n b:Nat}{c:EC}{ks:List Int}{xs:List c.sem}(hb:findE σ.es b=some (.var [.mp n]))(hn:findE σ.es n=some (.map c ks xs))
 (hnd:ks.Nodup) (hwf:∀x∈ks,(Lit.int .i64 x).wf=true) (hmax:ks.length<549755813888):
 AC E 68 [.fn (.func 117) [] [.ptr b 0]] σ (.s .int (sortI ks)) σ:=
 AC.sortedKeys (E:=E) (ρ7:=Tryz.keysA_ren) (ρ6:=Tryz.sortedA_ren) Tryz.keysA Tryz.sortedA sorts_in (enters_of Tryz.func68 (by kernel_rfl) rfl) (enters_of Tryz.func116 (by kernel_rfl) rfl)
  (enters_of Tryz.func117 (by kernel_rfl) rfl) (by kernel_rfl) hb hn hnd hwf (Nat.le_trans (Nat.le_of_lt hmax) (by decide)) (by omega)
end Go.Ab
namespace Go.Ab
open Go Go.Proofs
set_option maxRecDepth 100000
set_option maxHeartbeats 4000000
set_option linter.all false
theorem usesFCb(ks:List Int)(i bl ab:Int)(hi:0≤i∧i<9223372036854775808)(hb:0≤bl∧bl<1099511627776)(ha:0≤ab∧ab<1099511627776):AC E 67 [.i i,.i bl,.ptr 0 0,.ptr 1 0] ⟨3,[(0,.var [.i ab]),(1,.var [.mp 2]),(2,.map .bl ks (List.replicate ks.length true))]⟩ (.tup [])
 ⟨3,[(0,.var [.i ab]),(1,.var [.mp 2]),(2,.map .bl (nub ks (fre [(i,bl+ab)])) (List.replicate (nub ks (fre [(i,bl+ab)])).length true))]⟩:=by
 have e:i-bl-ab=i-(bl+ab):=by omega
 refine M.F Tryz.func67 ?_
 repeat'(first|refine M.gw ?_|refine M.cs ?_ ?_<;>intro h|fail)
 ·have h2:bl+ab≤i:=by simp at h;omega
  (exact M.n2 [some 0,some 1,some 2] (h6:=(by(repeat'(first|exact trivial|refine And.intro ?_ ?_|refine⟨_,U,_,U,_,U,?_⟩|exact VLe.refl _|refine⟨_,U,_,_,U,?_,?_⟩|(simp[Sto.upd,fre_one,nub_one,putCs_same,if_pos h2,e];done)));done)) (h8:=(by simp[tupV,V.wk,V.wks,constV,Ty.view,Tm.view,fre_one,nub_one,putCs_same,if_pos h2,e])))
 ·have h2:¬bl+ab≤i:=by simp at h;omega
  (exact M.n2 [some 0,some 1,some 2] (h6:=(by(repeat'(first|exact trivial|refine And.intro ?_ ?_|refine⟨_,U,_,U,_,U,?_⟩|exact VLe.refl _|refine⟨_,U,_,_,U,?_,?_⟩|(simp[Sto.upd,fre_one,nub_nil,if_neg h2];done)));done)) (h8:=(by simp[tupV,V.wk,V.wks,constV,Ty.view,Tm.view,fre_one,nub_nil,if_neg h2])))
theorem usesFEach1(ab:Int)(hab:0≤ab∧ab<1099511627776):∀(n:Nat) (t:Tm) (ks:List Int) (bl:Int),t.full≤n→n<1099511627776→0≤bl→bl+n<1099511627776→(∀p∈t.vars (bl+ab),0≤p.1∧p.1<9223372036854775808)→AC E 114 [.agg t.view,.i bl,.ptr 0 0,.ptr 1 0] ⟨5,[(0,.var [.fn (.func 67) [] [.ptr 2 0,.ptr 3 0]]),(1,.var [.fn (.func 114) [] [.ptr 0 0,.ptr 1 0]]),(2,.var [.i ab]),(3,.var [.mp 4]),(4,.map .bl ks (List.replicate ks.length true))]⟩ (.tup [])
 ⟨5,[(0,.var [.fn (.func 67) [] [.ptr 2 0,.ptr 3 0]]),(1,.var [.fn (.func 114) [] [.ptr 0 0,.ptr 1 0]]),(2,.var [.i ab]),(3,.var [.mp 4]),(4,.map .bl (nub ks (fre (t.vars (bl+ab)))) (List.replicate (nub ks (fre (t.vars (bl+ab)))).length true))]⟩:=by
 intro n
 induction n with
 |zero=>intro t b bl h;have:=t.full_pos;omega
 |succ n ih=>
 intro t ks bl hsz hb hbl hbn hix
 have hsz':=Tm.full_eq t
 have hlen:=lsum_len Tm.full Tm.full_pos t.args
 have hv:=Tm.vars_eq (bl+ab) t
 rw[show up t.kind (bl+ab)=up t.kind bl+ab by simp only[up];split<;>omega] at hv
 have hi:t.kind=1→0≤t.index∧t.index<9223372036854775808:=fun h=>by simpa using hix (t.index,bl+ab) (by rw[hv];simp[h])
 have hcb:t.kind=1→_:=fun h=>usesFCb ks t.index bl ab (hi h) (by omega) hab
 refine M.F Tryz.func114 ?_
 repeat'(first|refine M.gw ?_|refine M.cv (hcb (by simpa using h)) [2,3,4] 0 ?_|refine M.cs ?_ ?_<;>intro h|fail)
 all_goals
  have hup:up t.kind bl≤bl+1:=by simp only[up];split<;>omega
  have hup0:0≤up t.kind bl:=by simp only[up];split<;>omega
  refine AW.range t.args.length (fun m=>True)
   (fun m=>([(1,.i (up t.kind bl)),(3,.ptr 1 0),(22,.s .tm t.args),(23,.i t.args.length),(24,.i m)],⟨6,[(0,.var [.fn (.func 67) [] [.ptr 2 0,.ptr 3 0]]),(1,.var [.fn (.func 114) [] [.ptr 0 0,.ptr 1 0]]),(2,.var [.i ab]),(3,.var [.mp 4]),(4,.map .bl (nub ks (fre ((if t.kind=1 then [(t.index,bl+ab)] else [])++(t.args.take m).flatMap (Tm.vars (up t.kind bl+ab))))) (List.replicate (nub ks (fre ((if t.kind=1 then [(t.index,bl+ab)] else [])++(t.args.take m).flatMap (Tm.vars (up t.kind bl+ab))))).length true)),(5,.var t.view)]⟩))
   (by omega) (fun m=>rfl) (fun m=>rfl) rfl trivial ?_ ?_ ?_
  ·simp_all only[beq_iff_eq,beq_eq_false_iff_ne,ne_eq]
   exact(M.W [some 0,some 1,some 2,some 3,some 4,some 5] (hf:=(by(repeat'(first|exact trivial|refine And.intro ?_ ?_|refine⟨_,U,_,U,?_⟩|exact VLe.refl _|exact VLe.of_eq (by simp[Sto.upd,up, *,fre_app,fre_nil,nub_nil])));done)) (he:=(by(repeat'(first|exact trivial|refine And.intro ?_ ?_|refine⟨_,U,_,U,_,U,?_⟩|exact VLe.refl _|refine⟨_,U,_,_,U,?_,?_⟩|(simp[Sto.upd,up, *,fre_app,fre_nil,nub_nil];done)));done)))
  ·intro m hm hP
   have hs2:=lsum_mem Tm.full (List.getElem_mem hm)
   have hix':∀p∈(t.args[m]).vars (up t.kind bl+ab),0≤p.1∧p.1<9223372036854775808:=fun p hp=>hix p (by rw[hv];exact List.mem_append_right _ (List.mem_flatMap.2 ⟨_,List.getElem_mem hm,hp⟩))
   have hc:=ih t.args[m] (nub ks (fre ((if t.kind=1 then [(t.index,bl+ab)] else [])++(t.args.take m).flatMap (Tm.vars (up t.kind bl+ab))))) (up t.kind bl) (by omega) (by omega) hup0 (by omega) hix'
   repeat'(first|refine M.gw ?_|refine M.cv (hc) [0,1,2,3,4] 0 ?_|fail)
   refine⟨rfl,trivial,?_⟩
   exact(M.W [some 0,some 1,some 2,some 3,some 4,some 5] (he:=(by(repeat'(first|exact trivial|refine And.intro ?_ ?_|refine⟨_,U,_,U,_,U,?_⟩|exact VLe.refl _|refine⟨_,U,_,_,U,?_,?_⟩|(simp[Sto.upd,fre_app,nub_app,flat_take _ _ _ hm,←List.append_assoc];done)));done)))
  ·intro hP
   skip
   (exact M.n2 [some 0,some 1,some 2,some 3,some 4] (h6:=(by(repeat'(first|exact trivial|refine And.intro ?_ ?_|refine⟨_,U,_,U,_,U,?_⟩|exact VLe.refl _|refine⟨_,U,_,_,U,?_,?_⟩|(simp[Sto.upd,hv];done)));done)) (h8:=(by simp[tupV,V.wk,V.wks,constV,Ty.view,Tm.view,hv])))
theorem usesFEach(ab:Int)(hab:0≤ab∧ab<1099511627776)(ks:List Int)(t:Tm)(ht:t.full<549755813888)(hix:∀p∈t.vars ab,0≤p.1∧p.1<9223372036854775808):AC E 66 [.agg t.view,.fn (.func 67) [] [.ptr 0 0,.ptr 1 0]] ⟨3,[(0,.var [.i ab]),(1,.var [.mp 2]),(2,.map .bl ks (List.replicate ks.length true))]⟩ (.tup []) ⟨3,[(0,.var [.i ab]),(1,.var [.mp 2]),(2,.map .bl (nub ks (fre (t.vars ab))) (List.replicate (nub ks (fre (t.vars ab))).length true))]⟩:=by
 have hc:=usesFEach1 ab hab _ t ks 0 (Nat.le_refl _) (by omega) (by omega) (by omega) (by rw[Int.zero_add];exact hix)
 rw[Int.zero_add] at hc
 refine M.F Tryz.func66 ?_
 repeat'(first|refine M.gw ?_|refine M.cv (hc) [4,5,0,1,2] 0 ?_|fail)
 (exact M.n2 [some 0,some 1,some 2] (h8:=(by simp[tupV,V.wk,V.wks,constV,Ty.view,Tm.view,useK])))
theorem usesFFm(ab:Int)(hab:0≤ab∧ab<1099511627776)(ks:List Int)(t:Tm)(ht:t.full<549755813888)(hix:∀p∈t.vars ab,0≤p.1∧p.1<9223372036854775808):AC E 65 [.agg t.view,.i ab,.ptr 0 0] ⟨2,[(0,.var [.mp 1]),(1,.map .bl ks (List.replicate ks.length true))]⟩ (.tup []) ⟨2,[(0,.var [.mp 1]),(1,.map .bl (nub ks (fre (varsL [(t,ab)]))) (List.replicate (nub ks (fre (varsL [(t,ab)]))).length true))]⟩:=by
 have hc:=usesFEach ab hab ks t ht hix
 refine M.F Tryz.func65 ?_
 repeat'(first|refine M.gw ?_|refine M.cb (hc) [3,0,1] 0 ?_|fail)
 (exact M.n2 [some 0,some 1] (h6:=(by(repeat'(first|exact trivial|refine And.intro ?_ ?_|refine⟨_,U,_,U,_,U,?_⟩|exact VLe.refl _|refine⟨_,U,_,_,U,?_,?_⟩|(simp[Sto.upd,varsL_one];done)));done)) (h8:=(by simp[tupV,V.wk,V.wks,constV,Ty.view,Tm.view,varsL_one])))
theorem usesFEachF:∀(n:Nat) (f:Fm) (ks:List Int) (bl:Int),f.full≤n→n<549755813888→0≤bl→bl+n<549755813888→(∀p∈varsL (f.tms bl),0≤p.1∧p.1<9223372036854775808)→AC E 64 [.agg f.view,.i bl,.fn (.func 65) [] [.ptr 0 0]] ⟨2,[(0,.var [.mp 1]),(1,.map .bl ks (List.replicate ks.length true))]⟩ (.tup []) ⟨2,[(0,.var [.mp 1]),(1,.map .bl (nub ks (fre (varsL (f.tms bl)))) (List.replicate (nub ks (fre (varsL (f.tms bl)))).length true))]⟩:=by
 intro n
 induction n with
 |zero=>intro f;intros;have:=f.full_pos;omega
 |succ n ih=>
 intro f ks bl hsz hn hbl hbn hix
 have hsz':=f.full_eq
 have hlen:=lsum_len Fm.full Fm.full_pos f.args
 have hlen2:=lsum_len Tm.full Tm.full_pos f.terms
 have htm:=f.tms_eq bl
 have hq:=quantifier_c f.kind
 refine M.F Tryz.func64 ?_
 repeat'(first|refine M.gw ?_|fail)
 refine AW.range f.terms.length (fun m=>True)
  (fun m=>([(1,.i bl),(2,.fn (.func 65) [] [.ptr 0 0]),(3,.ptr 2 0),(11,.s .tm f.terms),(12,.i f.terms.length),(13,.i m)],⟨3,[(0,.var [.mp 1]),(1,.map .bl (nub ks (fre (varsL ((f.terms.take m).map (fun t=>(t,bl)))))) (List.replicate (nub ks (fre (varsL ((f.terms.take m).map (fun t=>(t,bl)))))).length true)),(2,.var f.view)]⟩))
  (by omega) (fun m=>rfl) (fun m=>rfl) rfl trivial ?_ ?_ ?_
 ·exact (M.W [some 0,some 1,some 2] (he:=(by(repeat'(first|exact trivial|refine And.intro ?_ ?_|refine⟨_,U,_,U,_,U,?_⟩|exact VLe.refl _|refine⟨_,U,_,_,U,?_,?_⟩|(simp[Sto.upd,varsL_nil,fre_nil,nub_nil];done)));done)))
 ·intro m hm _
  have hs2:=lsum_mem Tm.full (List.getElem_mem hm)
  have hc:=usesFFm bl (by omega) (nub ks (fre (varsL ((f.terms.take m).map (fun t=>(t,bl)))))) f.terms[m] (by omega) fun p hp=>hix p (by rw[htm,varsL_app];exact List.mem_append_left _ (List.mem_flatMap.2 ⟨(f.terms[m],bl),List.mem_map.2 ⟨_,List.getElem_mem hm,rfl⟩,hp⟩))
  repeat'(first|refine M.gw ?_|refine M.cv (hc) [0,1] 0 ?_|fail)
  refine⟨rfl,trivial,?_⟩
  exact(M.W [some 0,some 1,some 2] (he:=(by(repeat'(first|exact trivial|refine And.intro ?_ ?_|refine⟨_,U,_,U,_,U,?_⟩|exact VLe.refl _|refine⟨_,U,_,_,U,?_,?_⟩|(simp[Sto.upd,varsL_app,fre_app,nub_app,map_take _ _ _ hm];done)));done)))
 ·intro _
  simp only[List.take_length]
  repeat'(first|refine M.gw ?_|refine M.c2 (hq) ?_|refine M.cs ?_ ?_<;>intro h|fail)
  all_goals
   have hup:upF f.kind bl≤bl+1:=by simp only[upF];split<;>omega
   have hup0:0≤upF f.kind bl:=by simp only[upF];split<;>omega
   refine AW.range f.args.length (fun m=>True)
    (fun m=>([(1,.i (upF f.kind bl)),(2,.fn (.func 65) [] [.ptr 0 0]),(3,.ptr 2 0),(28,.s .fm f.args),(29,.i f.args.length),(30,.i m)],⟨3,[(0,.var [.mp 1]),(1,.map .bl (nub ks (fre (varsL (f.terms.map (fun t=>(t,bl))++(f.args.take m).flatMap (Fm.tms (upF f.kind bl)))))) (List.replicate (nub ks (fre (varsL (f.terms.map (fun t=>(t,bl))++(f.args.take m).flatMap (Fm.tms (upF f.kind bl)))))).length true)),(2,.var f.view)]⟩))
    (by omega) (fun m=>rfl) (fun m=>rfl) rfl trivial ?_ ?_ ?_
   ·exact (M.W [some 0,some 1,some 2] (hf:=(by(repeat'(first|exact trivial|refine And.intro ?_ ?_|refine⟨_,U,_,U,?_⟩|exact VLe.refl _|exact VLe.of_eq (by simp[Sto.upd,upF,h])));done)) (he:=(by(repeat'(first|exact trivial|refine And.intro ?_ ?_|refine⟨_,U,_,U,_,U,?_⟩|exact VLe.refl _|refine⟨_,U,_,_,U,?_,?_⟩|(simp[Sto.upd,upF,h];done)));done)))
   ·intro m hm _
    have hs2:=lsum_mem Fm.full (List.getElem_mem hm)
    have hc:=ih f.args[m] (nub ks (fre (varsL (f.terms.map (fun t=>(t,bl))++(f.args.take m).flatMap (Fm.tms (upF f.kind bl)))))) (upF f.kind bl) (by omega) (by omega) hup0 (by omega) fun p hp=>hix p (by rw[htm,varsL_app];refine List.mem_append_right _ ?_;obtain⟨q,hq1,hq2⟩:=List.mem_flatMap.1 hp;exact List.mem_flatMap.2 ⟨q,List.mem_flatMap.2 ⟨_,List.getElem_mem hm,hq1⟩,hq2⟩)
    repeat'(first|refine M.gw ?_|refine M.cv (hc) [0,1] 0 ?_|fail)
    refine⟨rfl,trivial,?_⟩
    exact(M.W [some 0,some 1,some 2] (he:=(by(repeat'(first|exact trivial|refine And.intro ?_ ?_|refine⟨_,U,_,U,_,U,?_⟩|exact VLe.refl _|refine⟨_,U,_,_,U,?_,?_⟩|(simp[Sto.upd,varsL_app,fre_app,nub_app,flat_take _ _ _ hm,←List.append_assoc];done)));done)))
   ·intro _
    skip
    (exact M.n2 [some 0,some 1] (h6:=(by(repeat'(first|exact trivial|refine And.intro ?_ ?_|refine⟨_,U,_,U,_,U,?_⟩|exact VLe.refl _|refine⟨_,U,_,_,U,?_,?_⟩|(simp[Sto.upd,htm];done)));done)) (h8:=(by simp[tupV,V.wk,V.wks,constV,Ty.view,Tm.view,htm])))
theorem useKF_wf{f:Fm}(hix:∀p∈varsL (f.tms 0),0≤p.1∧p.1<9223372036854775808)(hsn:∀p∈varsL (f.tms 0),0≤p.2):∀x∈useKF f,(Lit.int .i64 x).wf=true:=fun x hx=>by
 obtain⟨h0,p,hp,rfl⟩:=mem_useKF.1 hx
 have h2:=hix p hp
 have h3:=hsn p hp
 have h4:IntKind.i64.min≤p.1-p.2∧p.1-p.2≤IntKind.i64.max:=by
  rw[show IntKind.i64.min= -9223372036854775808 by rfl,show IntKind.i64.max=9223372036854775807 by rfl];omega
 simpa [Lit.wf] using h4
theorem usesF_c(f:Fm)(ht:f.full<137438953472)(hix:f.err=0→∀p∈varsL (f.tms 0),(0≤p.1∧p.1<9223372036854775808)∧0≤p.2):PC E 17 [.agg f.view] (.tup [.s .int (if f.err=0 then usesFI f else []),.i f.err]):=by
 have h1:=fcheck_c f (by omega)
 have hc:f.err=0→_:=fun h=>usesFEachF _ f [] 0 (Nat.le_refl _) (by omega) (by omega) (by omega) (fun p hp=>(hix h p hp).1)
 have hu:nub [] (fre (varsL (f.tms 0)))=useKF f:=rfl
 simp only[List.length_nil,List.replicate_zero,hu] at hc
 have hk:AC E 69 [.mp 0] ⟨1,[(0,.map .bl (useKF f) (List.replicate (useKF f).length true))]⟩ (.fn (.func 117) [] [.ptr 1 0]) ⟨2,[(1,.var [.mp 0]),(0,.map .bl (useKF f) (List.replicate (useKF f).length true))]⟩:=mapKeys_c (Nat.lt_succ_self 0)
 have hlen:=useKF_size f
 have hsz:=f.size_le_full
 have hs:f.err=0→AC E 68 [.fn (.func 117) [] [.ptr 0 0]] ⟨2,[(0,.var [.mp 1]),(1,.map .bl (useKF f) (List.replicate (useKF f).length true))]⟩ (.s .int (usesFI f)) ⟨2,[(0,.var [.mp 1]),(1,.map .bl (useKF f) (List.replicate (useKF f).length true))]⟩:=
  fun h=>sorted_c (c:= .bl) rfl rfl (useKF_nodup f) (useKF_wf (fun p hp=>(hix h p hp).1) (fun p hp=>(hix h p hp).2)) (by omega)
 refine M.F Tryz.func17 ?_
 repeat'(first|refine M.gw ?_|refine M.c2 (h1) ?_|refine M.cb (hc (by simpa using h)) [2,1] 0 ?_|refine M.cb (hk) [1] 1 ?_|refine M.cb (hs (by simpa using h)) [3,1] 0 ?_|refine M.cs ?_ ?_<;>intro h|fail)
 ·have e:¬f.err=0:=by simpa using h
  rw[if_neg e];simp[tupV,V.wk,V.wks];rfl
 ·have e:f.err=0:=by simpa using h
  rw[if_pos e];simp[tupV,V.wk,V.wks,e]
theorem tequation_c(a b:Tm):PC E 80 [.agg a.view,.agg b.view] (.agg (eqF a b).view):=by
 refine M.F Tryz.func80 ?_
 repeat'(first|refine M.gw ?_|fail)
 rfl
theorem tfalse_c:PC E 105 [] (.agg falseF.view):=by
 have h1:=tof_c 4 []
 have h2:=tof_c 5 [.mk 4 0 (.mk 0 []) []]
 have h3:=tequation_c (.mk 4 0 (.mk 0 []) []) (.mk 5 0 (.mk 0 []) [.mk 4 0 (.mk 0 []) []])
 refine M.F Tryz.func105 ?_
 repeat'(first|refine M.gw ?_|refine M.c2 (h1) ?_|refine M.c2 (h2) ?_|refine M.c2 (h3) ?_|fail)
 rfl
theorem ffalse_c:PC E 38 [] (.agg falseF.view):=by
 refine M.F Tryz.func38 ?_
 repeat'(first|refine M.gw ?_|refine M.c2 (tfalse_c) ?_|fail)
 rfl
theorem form_c(k:Int)(l:List Fm):PC E 73 [.i k,.s .fm l] (.agg (Fm.mk k (.mk 0 []) [] l).view):=by
 refine M.F Tryz.func73 ?_
 repeat'(first|refine M.gw ?_|fail)
 rfl
theorem quantified_c(k:Int)(t:Ty)(f:Fm):PC E 83 [.i k,.agg t.view,.agg f.view] (.agg (Fm.mk k t [] [f]).view):=by
 refine M.F Tryz.func83 ?_
 repeat'(first|refine M.gw ?_|fail)
 rfl
theorem sized_c(f:Fm)(hf:f.full<137438953472):PC E 72 [.agg f.view] (.tup [.agg (if f.err=0 then f else noFm).view,.i f.err]):=by
 have h1:=fcheck_c f (by omega)
 refine M.F Tryz.func72 ?_
 repeat'(first|refine M.gw ?_|refine M.c2 (h1) ?_|refine M.cs ?_ ?_<;>intro h|fail)
 ·have e:¬f.err=0:=by simpa using h
  simp[tupV,V.wk,V.wks,constV,Ty.view,Fm.view,e,noFm]
 ·have e:f.err=0:=by simpa using h
  simp[tupV,V.wk,V.wks,constV,Ty.view,Fm.view,e,noFm]
theorem not_c(f:Fm)(hf:f.full<68719476736)(he:f.err=0):PC E 19 [.agg f.view] (.tup [.agg (if(notF f).err=0 then notF f else noFm).view,.i (notF f).err]):=by
 have h1:=fcheck_c f (by omega)
 rw[he] at h1
 have h2:=ownFm_c f (by omega)
 have h3:=form_c 3 [f,falseF]
 have h4:=sized_c (notF f) (by simp[notF,falseF,eqF,Fm.full,Fm.fulls,Tm.fulls,Tm.full,Ty.size,Ty.sizes];omega)
 refine M.F Tryz.func19 ?_
 repeat'(first|refine M.gw ?_|refine M.c2 (h1) ?_|refine M.c2 (h2) ?_|refine M.c2 (ffalse_c) ?_|refine M.c2 (h3) ?_|refine M.c2 (h4) ?_|fail)
 rfl
theorem orZero_c:PC E 79 [] (.agg zeroF.view):=by
 have h1:=tvar_c 0
 have h2:=tof_c 4 []
 have h3:=tequation_c (.mk 1 0 (.mk 0 []) []) (.mk 4 0 (.mk 0 []) [])
 refine M.F Tryz.func79 ?_
 repeat'(first|refine M.gw ?_|refine M.c2 (h1) ?_|refine M.c2 (h2) ?_|refine M.c2 (h3) ?_|fail)
 rfl
theorem or_c(a b:Fm)(ha:liftFErr a 0 1=0)(hb:liftFErr b 0 1=0)(fa:a.full<34359738368)(fb:b.full<34359738368)(fl:(a.lft 0 1).full≤a.full)(fl':(b.lft 0 1).full≤b.full):PC E 26 [.agg a.view,.agg b.view] (.tup [.agg (if(orF (a.lft 0 1) (b.lft 0 1)).err=0 then orF (a.lft 0 1) (b.lft 0 1) else noFm).view,.i (orF (a.lft 0 1) (b.lft 0 1)).err]):=by
 have h1:=fLift_c a 0 1 (by omega)
 have h2:=fLift_c b 0 1 (by omega)
 rw[ha,if_pos rfl] at h1
 rw[hb,if_pos rfl] at h2
 generalize a.lft 0 1=x at*
 generalize b.lft 0 1=y at*
 have h3:=form_c 3 [zeroF,x]
 have h4:=form_c 3 [zeroF,falseF]
 have h5:=form_c 3 [.mk 3 (.mk 0 []) [] [zeroF,falseF],y]
 have h6:=form_c 2 [.mk 3 (.mk 0 []) [] [zeroF,x],.mk 3 (.mk 0 []) [] [.mk 3 (.mk 0 []) [] [zeroF,falseF],y]]
 have h7:=quantified_c 5 natT (.mk 2 (.mk 0 []) [] [.mk 3 (.mk 0 []) [] [zeroF,x],.mk 3 (.mk 0 []) [] [.mk 3 (.mk 0 []) [] [zeroF,falseF],y]])
 have h8:=sized_c (orF x y) (by simp[orF,zeroF,natT,falseF,eqF,Fm.full,Fm.fulls,Tm.fulls,Tm.full,Ty.size,Ty.sizes];omega)
 refine M.F Tryz.func26 ?_
 repeat'(first|refine M.gw ?_|refine M.c2 (h1) ?_|refine M.c2 (h2) ?_|refine M.cv (orZero_c) [] 0 ?_|refine M.c2 (ffalse_c) ?_|refine M.c2 (h3) ?_|refine M.c2 (h4) ?_|refine M.c2 (h5) ?_|refine M.c2 (h6) ?_|refine M.c2 (tnat_c) ?_|refine M.c2 (h7) ?_|refine M.c2 (h8) ?_|fail)
 rfl
end Go.Ab
