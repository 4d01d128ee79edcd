/- A part of this seat's proofs. No conditions. -/
import Derived.Test.YtlikcaapgaalhaaGreatDoorEDT1
import Derived.Test.YtlikcaapgaalhaaGreatDoorES7
namespace Go.Ab
open Go Go.Proofs
set_option maxRecDepth 100000
set_option maxHeartbeats 4000000
set_option linter.all false
def srJ(r:Nat):List Int→AF×Sto
 |[]=>([(3,.slice .nil (.t .int [])),(7,.raw (.pointer (some ⟨r,0,none⟩)))],⟨1,[(0,.gone)]⟩)
 |x::d=>([(3,.arr 1 (d.length+1) 1),(7,.raw (.pointer (some ⟨r,0,none⟩)))],⟨2,[(1,.var ((sortI (x::d)).flatMap EC.int.view)),(0,.gone)]⟩)
theorem srJ_snoc(r:Nat)(d:List Int)(q:Int):srJ r (d++[q])=([(3,.arr 1 (d.length+1) 1),(7,.raw (.pointer (some ⟨r,0,none⟩)))],⟨2,[(1,.var ((sortI (d++[q])).flatMap EC.int.view)),(0,.gone)]⟩):=by
 cases d with
 |nil=>rfl
 |cons x d=>simp[srJ]
def srL(r:Nat)(l:List Int)(q:Int)(i:Nat):AF×Sto:=([(3,.arr 1 (l.length+1) 1),(4,.i q),(5,.i i),(7,.raw (.pointer (some ⟨r,0,none⟩)))],⟨2,[(1,.var ((insS (sortI l) q i).flatMap EC.int.view)),(0,.gone)]⟩)
theorem sortedR_c{ks:List Int}(hnd:ks.Nodup)(hlen:ks.length<549755813888):AC E 200 [.mp 0] ⟨1,[(0,.map .bl ks (List.replicate ks.length true))]⟩ (.s .int (sortI ks)) ⟨1,[(0,.map .bl ks (List.replicate ks.length true))]⟩:=by
 refine AC.mk Tryz.func200 rfl rfl rfl rfl rfl (Nat.le_of_ble_eq_true rfl) ?_
 repeat'(first|((with_reducible refine D.nil ?_);refine AX.nilL ?_)|((with_reducible refine D.assign ?_);refine L.asg U U U ?_)|((with_reducible refine D.aw ?_);(fail_if_success with_reducible refine D.stopR (id:=2) ?_);(fail_if_success with_reducible refine D.stopS (id:=2) ?_);refine K.sq (AW.regL ?_))|with_reducible refine K.tN ?_)
 refine K.sq (AW.rangeM (n:=0) (c:= .bl) (ks:=ks) (xs:=List.replicate ks.length true) (kt:=3) (et:=4) (J:=srJ) ?_ ?_ ?_ ?_ hnd ?_ ?_ ?_ ?_ ?_ ?_ ?_)
 ·rfl
 ·rfl
 ·exact Nat.lt_succ_self 0
 ·kernel_rfl
 ·rfl
 ·intro r l;cases l<;>rfl
 ·intro r l t ht
  simp only[List.mem_cons,List.not_mem_nil,or_false] at ht
  rcases ht with rfl|rfl|rfl|rfl|rfl<;>cases l<;>rfl
 ·intro r l e he;cases l<;>cases he<;>rfl
 ·intro r
  exact(Weak.mk [some 0] _ _ _ U U U U (by(repeat'(first|exact trivial|refine And.intro ?_ ?_|refine⟨_,U,_,U,?_⟩|exact VLe.refl _));done) (by(repeat'(first|exact trivial|refine And.intro ?_ ?_|exact Eq.refl true));done))
 ·intro r l q hl hlk hq hql
  have hll:=nodup_sub hl hlk
  have hsl:=sortI_len l
  rw[srJ_snoc]
  have tail:∀(i:Nat),i≤l.length→(∀x∈(sortI l).drop i,q<x)→(∀(hi:0<i) (hl:i-1<(sortI l).length),(sortI l)[i-1]≤q)→((insS (sortI l) q i).set i q)=sortI (l++[q]):=fun i hi h1 h2=>by
   rw[insS_done (by omega)];exact sortI_ins h1 h2 (by omega)
  have hE:insS (sortI l) q l.length=sortI l++[q]:=by rw[←hsl];exact insS_end _ _
  have hat:∀j (h:j<l.length) (h':j<(insS (sortI l) q (j+1)).length),(insS (sortI l) q (j+1))[j]=(sortI l)[j]'(by omega):=fun j h h'=>insS_at (by omega) h'
  have hst:∀j (h:j<l.length),(insS (sortI l) q (j+1)).set (j+1) ((sortI l)[j]'(by omega))=insS (sortI l) q j:=fun j h=>insS_step (by omega)
  have hln:∀i,i≤l.length→(insS (sortI l) q i).length=l.length+1:=fun i hi=>by rw[insS_len (by omega),hsl]
  cases l with
  |nil=>
   repeat'(first|((with_reducible refine D.nil ?_);refine AX.nilL ?_)|((with_reducible refine D.move ?_);refine L.mv U U U ?_)|((with_reducible refine D.assign ?_);refine L.asg U U U ?_)|((with_reducible refine D.call ?_);refine L.lnt U U U U ?_)|((with_reducible refine D.aw ?_);(fail_if_success with_reducible refine D.stopR (id:=6) ?_);(fail_if_success with_reducible refine D.stopS (id:=6) ?_);refine K.sq (AW.regL ?_))|with_reducible refine K.tN ?_)
   refine K.sq (AW.regL ?_)
   refine L.mv rfl rfl rfl ?_
   refine L.mv rfl rfl rfl ?_
   refine L.bs1 rfl rfl rfl rfl rfl (EC.fold_of rfl) rfl rfl ?_
   refine L.apA (te:=3) (e:= .int) (l:=[q]) rfl rfl rfl rfl (by kernel_rfl) rfl rfl rfl rfl (by simp) (by simp) ?_
   repeat'(first|((with_reducible refine D.nil ?_);refine AX.nilL ?_)|((with_reducible refine D.assign ?_);refine L.asg U U U ?_)|with_reducible refine K.tN ?_)
   refine K.sq (AW.block (AW.loop (ι:={i:Nat // i≤0∧∀x∈(sortI []).drop i,q<x}) (fun i=>srL r [] q i.1) (fun i=>i.1) ⟨0,Nat.le_refl _,by simp[sortI_nil]⟩ ?_ ?_))
   ·show Weak _ _ _ _ _ (srL r [] q 0).1 (srL r [] q 0).2
    simp only[srL]
    rw[show insS (sortI []) q 0=[q] from hE.trans (by rw[sortI_nil];rfl)]
    exact(Weak.mk [some 0,some 1] _ _ _ U U U U (by(repeat'(first|exact trivial|refine And.intro ?_ ?_|refine⟨_,U,_,U,?_⟩|exact VLe.refl _));done) (by(repeat'(first|exact trivial|refine And.intro ?_ ?_|refine⟨_,U,_,U,_,U,?_⟩|exact VLe.refl _|exact Eq.refl true));done))
   ·rintro ⟨i,hi,h1⟩
    obtain rfl:i=0:=by omega
    repeat'(first|((with_reducible refine D.nil ?_);refine AX.nilL ?_)|((with_reducible refine D.load ?_);refine AX.sk U U ?_)|((with_reducible refine D.move ?_);first|refine L.mv U U U ?_|refine AX.sk U U ?_)|((with_reducible refine D.bin ?_);first|refine L.bn U U U U U ?_|refine AX.sk U U ?_)|((with_reducible refine D.indexAddr ?_);refine AX.sk U U ?_)|((with_reducible refine D.pick ?_);refine L.pk U U U U ?_)|((with_reducible refine D.aw ?_);first|refine K.sq (K.sq ?_)|refine AW.regL ?_|refine AW.condF U ?_|refine AW.exit ?_)|with_reducible refine K.tN ?_|with_reducible refine K.tE ?_|with_reducible refine K.bX (by with_unfolding_all rfl) ?_|with_reducible refine K.lE ?_)
    refine L.ixr 0 rfl rfl rfl rfl rfl (by decide) rfl ?_
    refine L.sta (c:= .int) (l:=insS (sortI []) q 0) (u:=q) 0 rfl rfl rfl rfl rfl rfl rfl rfl (by rw[hln 0 (Nat.le_refl _)];decide) rfl ?_
    repeat'(first|((with_reducible refine D.nil ?_);refine AX.nilL ?_))
    refine⟨rfl,?_⟩
    simp only[tail 0 (Nat.le_refl _) h1 (fun h=>absurd h (by decide))]
    exact(Weak.mk [some 0,some 1] _ _ _ U U U U (by(repeat'(first|exact trivial|refine And.intro ?_ ?_|refine⟨_,U,_,U,?_⟩|exact VLe.refl _));done) (by(repeat'(first|exact trivial|refine And.intro ?_ ?_|exact VsLe.refl _|exact Eq.refl true|refine⟨_,U,_,renVs_flat _ _ _,_,U,?_⟩));done))
  |cons x d=>
   skip
   refine K.sq (AW.regL ?_)
   refine L.mv rfl rfl rfl ?_
   refine L.lnR rfl rfl rfl rfl ?_
   repeat'(first|((with_reducible refine D.nil ?_);refine AX.nilL ?_)|((with_reducible refine D.assign ?_);refine L.asg U U U ?_)|with_reducible refine K.tN ?_)
   refine K.sq (AW.regL ?_)
   refine L.mv rfl rfl rfl ?_
   refine L.mv rfl rfl rfl ?_
   refine L.bs1 rfl rfl rfl rfl rfl (EC.fold_of rfl) rfl rfl ?_
   refine L.apR (te:=3) (e:= .int) (l:=[q]) rfl rfl rfl rfl (by kernel_rfl) rfl rfl (by rw[fview_len,hsl];rfl) rfl rfl rfl (by simp) (by simp only[List.length_cons,List.length_nil] at hll ⊢;omega) ?_
   rw[←List.flatMap_append]
   repeat'(first|((with_reducible refine D.nil ?_);refine AX.nilL ?_)|((with_reducible refine D.assign ?_);refine L.asg U U U ?_)|with_reducible refine K.tN ?_)
   refine K.sq (AW.block (AW.loop (ι:={i:Nat // i≤(x::d).length∧∀y∈(sortI (x::d)).drop i,q<y}) (fun i=>srL r (x::d) q i.1) (fun i=>i.1) ⟨(x::d).length,Nat.le_refl _,by rw[←hsl,List.drop_length];intro y hy;cases hy⟩ ?_ ?_))
   ·show Weak _ _ _ _ _ (srL r (x::d) q (x::d).length).1 (srL r (x::d) q (x::d).length).2
    simp only[srL]
    rw[hE]
    exact(Weak.mk [some 0,some 2] _ _ _ U U U U (by(repeat'(first|exact trivial|refine And.intro ?_ ?_|refine⟨_,U,_,U,?_⟩|exact VLe.refl _));done) (by(repeat'(first|exact trivial|refine And.intro ?_ ?_|exact VsLe.refl _|exact Eq.refl true|refine⟨_,U,_,renVs_flat _ _ _,_,U,?_⟩));done))
   ·rintro ⟨i,hi,h1⟩
    cases i with
    |zero=>
     repeat'(first|((with_reducible refine D.nil ?_);refine AX.nilL ?_)|((with_reducible refine D.load ?_);refine AX.sk U U ?_)|((with_reducible refine D.move ?_);first|refine L.mv U U U ?_|refine AX.sk U U ?_)|((with_reducible refine D.bin ?_);first|refine L.bn U U U U U ?_|refine AX.sk U U ?_)|((with_reducible refine D.indexAddr ?_);refine AX.sk U U ?_)|((with_reducible refine D.pick ?_);refine L.pk U U U U ?_)|((with_reducible refine D.aw ?_);first|refine K.sq (K.sq ?_)|refine AW.regL ?_|refine AW.condF U ?_|refine AW.exit ?_)|with_reducible refine K.tN ?_|with_reducible refine K.tE ?_|with_reducible refine K.bX (by with_unfolding_all rfl) ?_|with_reducible refine K.lE ?_)
     refine L.ixr 0 rfl rfl rfl rfl rfl (Nat.succ_pos _) rfl ?_
     refine L.sta (c:= .int) (l:=insS (sortI (x::d)) q 0) (u:=q) 0 rfl rfl rfl rfl rfl rfl rfl rfl (by rw[hln 0 (Nat.zero_le _)];exact Nat.succ_pos _) rfl ?_
     repeat'(first|((with_reducible refine D.nil ?_);refine AX.nilL ?_))
     refine⟨rfl,?_⟩
     simp only[tail 0 (Nat.zero_le _) h1 (fun h=>absurd h (by decide))]
     exact(Weak.mk [some 0,some 1] _ _ _ U U U U (by(repeat'(first|exact trivial|refine And.intro ?_ ?_|refine⟨_,U,_,U,?_⟩|exact VLe.refl _));done) (by(repeat'(first|exact trivial|refine And.intro ?_ ?_|exact VsLe.refl _|exact Eq.refl true|refine⟨_,U,_,renVs_flat _ _ _,_,U,?_⟩));done))
    |succ i=>
     have hi':i<(x::d).length:=by omega
     have hsi:i<(sortI (x::d)).length:=by omega
     have hdl:(x::d).length=d.length+1:=rfl
     have hl0:=hln (i+1) hi
     have hl1:i<(insS (sortI (x::d)) q (i+1)).length:=by omega
     have ha:=hat i hi' hl1
     have hs:=hst i hi'
     show AW _ _ _ _ (srL r (x::d) q (i+1)).1 (srL r (x::d) q (i+1)).2 _
     repeat'(first|((with_reducible refine D.nil ?_);refine AX.nilL ?_)|((with_reducible refine D.load ?_);refine AX.sk U U ?_)|((with_reducible refine D.move ?_);first|refine L.mv U U U ?_|refine AX.sk U U ?_|((fail_if_success refine AX.wt U ?_);refine AX.gs U U (fun _=>trivial) (fun h=> ?_) (fun h=> ?_)))|((with_reducible refine D.bin ?_);first|refine L.sb U U U U (by omega) ?_|refine L.bn U U U U U ?_|refine AX.sk U U ?_)|((with_reducible refine D.indexAddr ?_);refine AX.sk U U ?_)|((with_reducible refine D.pick ?_);refine L.pk U U U U ?_)|((with_reducible refine D.aw ?_);first|refine K.sq (K.sq ?_)|refine AW.regL ?_|refine AW.condF U ?_|refine AW.exit ?_)|with_reducible refine K.tN ?_|with_reducible refine K.tE ?_|with_reducible refine K.bX (by with_unfolding_all rfl) ?_|with_reducible refine K.lE ?_)
     ·refine L.ixr i rfl rfl rfl rfl (by simp) (by omega) rfl ?_
      refine L.ldr (c:= .int) (l:=insS (sortI (x::d)) q (i+1)) i rfl rfl rfl rfl rfl hl1 rfl rfl rfl ?_
      rw[ha]
      repeat'(first|((with_reducible refine D.nil ?_);refine AX.nilL ?_)|((with_reducible refine D.move ?_);refine L.mv U U U ?_)|((with_reducible refine D.bin ?_);refine L.bn U U U U U ?_)|((with_reducible refine D.pick ?_);refine L.pk U U U U ?_)|((with_reducible refine D.aw ?_);first|refine AW.regL ?_|refine AW.condS U (fun h=> ?_) (fun h=> ?_)|refine AW.skip ?_|refine AW.exit ?_)|with_reducible refine K.tN ?_|with_reducible refine K.tE ?_|with_reducible refine K.bX (by with_unfolding_all rfl) ?_|with_reducible refine K.lE ?_)
      ·have hgt:q<(sortI (x::d))[i]:=by simpa using h
       repeat'(first|((with_reducible refine D.move ?_);refine L.mv U U U ?_)|((with_reducible refine D.bin ?_);refine L.sb U U U U (by omega) ?_)|((with_reducible refine D.aw ?_);first|((with_reducible refine D.blk ?_);refine AW.block ?_)|refine K.sq (AW.regL ?_)))
       refine L.ixr i rfl rfl rfl rfl (by simp) (by omega) rfl ?_
       refine L.ldr (c:= .int) (l:=insS (sortI (x::d)) q (i+1)) i rfl rfl rfl rfl rfl hl1 rfl rfl rfl ?_
       rw[ha]
       refine L.ixr (i+1) rfl rfl rfl rfl rfl (by omega) rfl ?_
       refine L.sta (c:= .int) (l:=insS (sortI (x::d)) q (i+1)) (u:=(sortI (x::d))[i]) (i+1) rfl rfl rfl rfl rfl rfl rfl rfl (by omega) rfl ?_
       rw[hs]
       repeat'(first|((with_reducible refine D.nil ?_);refine AX.nilL ?_)|((with_reducible refine D.move ?_);refine L.mv U U U ?_)|((with_reducible refine D.assign ?_);refine L.asg U U U ?_)|((with_reducible refine D.bin ?_);refine L.sb U U U U (by omega) ?_)|((with_reducible refine D.aw ?_);refine AW.regL ?_)|with_reducible refine K.tN ?_|with_reducible refine K.bN ?_)
       refine⟨⟨i,by omega,fun y hy=> ?_⟩,by show i<i+1;omega,?_⟩
       ·rw [List.drop_eq_getElem_cons hsi] at hy
        rcases List.mem_cons.1 hy with rfl|hy
        ·exact hgt
        ·exact h1 y hy
       ·simp only[srL,show(((i+1:Nat):Int)-1)=(i:Int) by omega]
        exact(Weak.mk [some 0,some 1] _ _ _ U U U U (by(repeat'(first|exact trivial|refine And.intro ?_ ?_|refine⟨_,U,_,U,?_⟩|exact VLe.refl _));done) (by(repeat'(first|exact trivial|refine And.intro ?_ ?_|exact VsLe.refl _|exact Eq.refl true|refine⟨_,U,_,renVs_flat _ _ _,_,U,?_⟩));done))
      ·have hle:(sortI (x::d))[i]≤q:=by simpa using h
       refine L.ixr (i+1) rfl rfl rfl rfl rfl (by omega) rfl ?_
       refine L.sta (c:= .int) (l:=insS (sortI (x::d)) q (i+1)) (u:=q) (i+1) rfl rfl rfl rfl rfl rfl rfl rfl (by omega) rfl ?_
       repeat'(first|((with_reducible refine D.nil ?_);refine AX.nilL ?_))
       refine⟨rfl,?_⟩
       simp only[tail (i+1) hi h1 (fun _ _=>hle)]
       exact(Weak.mk [some 0,some 1] _ _ _ U U U U (by(repeat'(first|exact trivial|refine And.intro ?_ ?_|refine⟨_,U,_,U,?_⟩|exact VLe.refl _));done) (by(repeat'(first|exact trivial|refine And.intro ?_ ?_|exact VsLe.refl _|exact Eq.refl true|refine⟨_,U,_,renVs_flat _ _ _,_,U,?_⟩));done))
     ·exfalso
      simp at h
 ·intro r l hp
  cases l with
  |nil=>
   have hk0:ks=[]:=by simpa using hp.symm.eq_nil
   subst hk0
   simp only[srJ,sortI_nil]
   repeat'(first|((with_reducible refine D.nil ?_);refine AX.nilL ?_)|((with_reducible refine D.move ?_);refine L.mv U U U ?_)|((with_reducible refine D.assign ?_);refine L.asg U U U ?_)|((with_reducible refine D.aw ?_);first|refine K.sq (AW.regL ?_)|refine AW.ret ?_)|with_reducible refine K.tN ?_)
   (exact K.n2 [some 0] U U U U U (by(repeat'(first|exact trivial|refine And.intro ?_ ?_|refine⟨_,U,_,_,U,?_,?_⟩|with_reducible exact rfl));done) U (by simp[tupV,V.wk,V.wks,constV,Ty.view,Tm.view,sortI_nil]))
  |cons x d=>
   have hk0:sortI (x::d)=sortI ks:=sortI_of_perm hp
   simp only[srJ,hk0]
   refine AW.frz (c:= .int) 1 (d.length+1) (sortI ks) rfl (by rw[←hk0,sortI_len];rfl) (by(repeat'(first|exact trivial|exact fun _=>rfl|exact fun h=>absurd rfl h|exact fun h=>absurd h (by decide)|refine And.intro ?_ ?_|intro _));done) (by(repeat'(first|exact trivial|exact fun _=>rfl|exact fun h=>absurd rfl h|exact fun h=>absurd h (by decide)|refine And.intro ?_ ?_|intro _));done) ?_
   repeat'(first|((with_reducible refine D.nil ?_);refine AX.nilL ?_)|((with_reducible refine D.move ?_);refine L.mv U U U ?_)|((with_reducible refine D.assign ?_);refine L.asg U U U ?_)|((with_reducible refine D.aw ?_);first|refine K.sq (AW.regL ?_)|refine AW.ret ?_)|with_reducible refine K.tN ?_)
   (exact K.n2 [some 0] U U U U U (by(repeat'(first|exact trivial|refine And.intro ?_ ?_|refine⟨_,U,_,_,U,?_,?_⟩|with_reducible exact rfl));done) U (by simp[tupV,V.wk,V.wks,constV,Ty.view,Tm.view,V.frz]))
theorem rmark_c:∀(n:Nat) (t:Tm) (ks:List Int) (bl:Int),t.full≤n→n<1099511627776→0≤bl→bl+n<1099511627776→(∀p∈t.vars bl,0≤p.1∧p.1<9223372036854775808)→
 AC E 233 [.agg t.view,.i bl,.mp 0] ⟨1,[(0,.map .bl ks (List.replicate ks.length true))]⟩ (.tup []) ⟨1,[(0,.map .bl (nub ks (fre (t.vars bl))) (List.replicate (nub ks (fre (t.vars bl))).length true))]⟩:=by
 intro n
 induction n with
 |zero=>intro t b bl h;have:=t.full_pos;omega
 |succ n ih=>
 intro t ks bl hsz hb hbl hbn hix
 have hsz':=Tm.full_eq t
 have hlen:=lsum_len Tm.full Tm.full_pos t.args
 have hv:=Tm.vars_eq bl t
 have hbe:=rbelow_c t
 have hup:=up_bd t.kind bl
 have hpl:=up_plus t.kind bl
 have hi:t.kind=1→0≤t.index∧t.index<9223372036854775808:=fun h=>by simpa using hix (t.index,bl) (by rw[hv];simp[h])
 have loopE:∀m (hm:m<t.args.length) ks',AC E 233 [.agg (t.args[m]).view,.i (bl+up t.kind 0),.mp 0] ⟨1,[(0,.map .bl ks' (List.replicate ks'.length true))]⟩ (.tup []) ⟨1,[(0,.map .bl (nub ks' (fre ((t.args[m]).vars (up t.kind bl)))) (List.replicate (nub ks' (fre ((t.args[m]).vars (up t.kind bl)))).length true))]⟩:=fun m hm ks'=>by
  have hs2:=lsum_mem Tm.full (List.getElem_mem hm)
  have:=ih t.args[m] ks' (up t.kind bl) (by omega) (by omega) (by omega) (by omega) (fun p hp=>hix p (by rw[hv];exact List.mem_append_right _ (List.mem_flatMap.2 ⟨_,List.getElem_mem hm,hp⟩)))
  rw[←hpl] at this ⊢;exact this
 obtain⟨k0,hk0⟩:∃k0,k0=nub ks (fre (if t.kind=1 then [(t.index,bl)] else [])):=⟨_,rfl⟩
 have hk1:t.kind=1→t.index≥bl→k0=putKs (t.index-bl) ks:=fun h1 h2=>by rw[hk0,if_pos h1,fre_one,if_pos h2];exact nub_one _ _
 have hk2:¬(t.kind=1∧t.index≥bl)→k0=ks:=fun h1=>by
  rw[hk0]
  by_cases h2:t.kind=1
  ·rw [if_pos h2,fre_one,if_neg (fun h3=>h1 ⟨h2,h3⟩)];rfl
  ·rw [if_neg h2];rfl
 have hend:nub ks (fre (t.vars bl))=nub k0 (fre (t.args.flatMap (Tm.vars (up t.kind bl)))):=by rw[hv,fre_app,nub_app,hk0]
 rw[hend]
 by_cases hv1:t.kind=1∧t.index≥bl
 ·have e:=hk1 hv1.1 hv1.2
  have hi':=hi hv1.1
  refine M.F Tryz.func233 ?_
  repeat'(first|refine M.w0 ?_|refine M.gs ?_ ?_<;>intro h|refine M.cs ?_ ?_<;>intro h|fail)
  rotate_left
  ·exfalso;simp at h;omega
  ·exfalso;simp at h;exact h hv1.1
  refine M.rt t.args.length
   (fun m=>([(1,.i bl),(2,.mp 0),(3,.ptr 1 0),(23,.s .tm t.args),(24,.i t.args.length),(25,.i m)],⟨2,[(0,.map .bl (nub k0 (fre ((t.args.take m).flatMap (Tm.vars (up t.kind bl))))) (List.replicate (nub k0 (fre ((t.args.take m).flatMap (Tm.vars (up t.kind bl))))).length true)),(1,.var t.view)]⟩))
   ?_ ?_ ?_
  ·simp only[List.take_zero,List.flatMap_nil,fre_nil,nub_nil]
   rw[e];rw[←putCs_same];exact(M.W rh2)
  ·intro m hm hP
   have hc:=loopE m hm (nub k0 (fre ((t.args.take m).flatMap (Tm.vars (up t.kind bl)))))
   refine M.w2 @hbe @hc ?_
   refine⟨rfl,trivial,?_⟩
   exact(M.W rh2 (he:=(by(repeat'(first|exact trivial|refine And.intro ?_ ?_|refine⟨_,U,_,U,_,U,?_⟩|exact VLe.refl _|refine⟨_,U,_,_,U,?_,?_⟩|(simp[Sto.upd,fre_app,nub_app,flat_take _ _ _ hm];done)));done)))
  ·intro hP
   simp only[List.take_length]
   skip
   (exact M.n2 rh1 (h8:=(by simp[tupV,V.wk,V.wks,constV,Ty.view,Tm.view,V.frz])))
 ·have e:=hk2 hv1
  refine M.F Tryz.func233 ?_
  repeat'(first|refine M.w0 ?_|refine M.gs ?_ ?_<;>intro h|refine M.cs ?_ ?_<;>intro h|fail)
  ·rename_i h1'
   exfalso;exact hv1 ⟨by simpa using h1',by simpa using h⟩
  all_goals
   refine M.rt t.args.length
    (fun m=>([(1,.i bl),(2,.mp 0),(3,.ptr 1 0),(23,.s .tm t.args),(24,.i t.args.length),(25,.i m)],⟨2,[(0,.map .bl (nub k0 (fre ((t.args.take m).flatMap (Tm.vars (up t.kind bl))))) (List.replicate (nub k0 (fre ((t.args.take m).flatMap (Tm.vars (up t.kind bl))))).length true)),(1,.var t.view)]⟩))
    ?_ ?_ ?_
   ·simp only[List.take_zero,List.flatMap_nil,fre_nil,nub_nil]
    rw[e];exact(M.W rh2)
   ·intro m hm hP
    have hc:=loopE m hm (nub k0 (fre ((t.args.take m).flatMap (Tm.vars (up t.kind bl)))))
    refine M.w2 @hbe @hc ?_
    refine⟨rfl,trivial,?_⟩
    exact(M.W rh2 (he:=(by(repeat'(first|exact trivial|refine And.intro ?_ ?_|refine⟨_,U,_,U,_,U,?_⟩|exact VLe.refl _|refine⟨_,U,_,_,U,?_,?_⟩|(simp[Sto.upd,fre_app,nub_app,flat_take _ _ _ hm];done)));done)))
   ·intro hP
    simp only[List.take_length]
    skip
    (exact M.n2 rh1 (h8:=(by simp[tupV,V.wk,V.wks,constV,Ty.view,Tm.view,V.frz])))
theorem ruses_c(t:Tm)(ht:t.full<549755813888)(hix:t.err=0→∀p∈t.vars 0,0≤p.1∧p.1<9223372036854775808):PC E 223 [.agg t.view] (.tup [.s .int (if t.err=0 then usesI t else []),.i t.err]):=by
 have h1:=checkTmR_c t (by omega)
 have hc:t.err=0→_:=fun h=>rmark_c _ t [] 0 (Nat.le_refl _) (by omega) (by omega) (by omega) (hix h)
 have hu:nub [] (fre (t.vars 0))=useK t:=rfl
 simp only[List.length_nil,List.replicate_zero,hu] at hc
 have hlen:=useK_len t
 have hsz:=t.size_le_full
 have hs:=sortedR_c (useK_nodup t) (by omega)
 have e0:sortI (useK t)=usesI t:=rfl
 rw[e0] at hs
 refine M.F Tryz.func223 ?_
 repeat'(first|refine M.w1 @h1 ?_|refine M.cb (hc (by simpa using h)) [1] 0 ?_|refine M.cb (hs) [1] 0 ?_|refine M.cs ?_ ?_<;>intro h|fail)
 ·have e:¬t.err=0:=by simpa using h
  rw[if_neg e];simp[tupV,V.wk,V.wks];rfl
 ·have e:t.err=0:=by simpa using h
  rw[if_pos e];simp[tupV,V.wk,V.wks,e]
theorem Fm.re_sh(G:Int→Tm→Tm)(c:Int)(f:Fm):∀b,f.re (fun b t=>G (c+b) t) b=f.re G (c+b):=by
 induction f using Fm.ind with
 |h f ih=>
  intro b
  rw[Fm.re_eq,Fm.re_eq]
  congr 1
  refine List.map_congr_left fun x hx=> ?_
  have e:upF f.kind (c+b)=c+upF f.kind b:=by simp only[upF];split<;>omega
  rw[e];exact ih x hx _
theorem lft_eq(f:Fm)(fr by_:Int):f.lft fr by_=f.re (fun b t=>t.re (liftG b by_) 0) fr:=by
 have:=Fm.re_sh (fun b t=>t.re (liftG b by_) 0) fr f 0
 rw[Int.add_zero] at this
 exact this
theorem rupF_c(by_:Int)(hby: -549755813888≤by_∧by_≤549755813888):∀(n:Nat) (f:Fm) (fr:Int),f.full≤n→n<274877906944→-274877906944≤fr→fr+n<549755813888→f.shape=true→(∀p∈f.tms 0,∀q∈p.1.vars 0,0≤q.1∧q.1<549755813888)→
 PC E 122 [.agg f.view,.i fr,.i by_] (.agg (f.re (fun b t=>t.re (liftG b by_) 0) fr).view):=by
 intro n
 induction n with
 |zero=>intro f dp h;have:=f.full_pos;omega
 |succ n ih=>
 intro f fr hsz hn h1 h2 hf hix
 have hsz':=f.full_eq
 have hlen:=lsum_len Fm.full Fm.full_pos f.args
 have hlen2:=lsum_len Tm.full Tm.full_pos f.terms
 have hup:=upF_le f.kind fr
 have hpl:=upF_plus f.kind fr
 have hb:=rfbelow_c f
 have he:=Fm.re_eq (fun b t=>t.re (liftG b by_) 0) fr f
 have htm:=f.tms_eq 0
 refine M.F Tryz.func122 ?_
 refine M.w0 ?_
 refine M.rt f.terms.length (fun m=>([(1,.i fr),(2,.i by_),(3,.ptr 0 0),(6,.ptr 1 0),(7,.ptr 2 0),(18,.s .tm f.terms),(19,.i f.terms.length),(20,.i m)],⟨4,[(0,.var f.view),(1,.var [.i 0,.i 0,.slice .nil (.t .ty []),.slice .nil (.t .tm []),.slice .nil (.t .fm [])]),(2,.var [.i f.kind,.i f.ty.kind,.s .ty f.ty.args,.slice (.own 3) (.t .tm ((f.terms.take m).map fun t=>t.re (liftG fr by_) 0)),.slice .nil (.t .fm [])]),(3,.row)]⟩))
  (M.W rn3) ?_ ?_
 ·intro m hm _
  have hs2:=lsum_mem Tm.full (List.getElem_mem hm)
  have hc:=rup_c by_ hby _ f.terms[m] fr (Nat.le_refl _) (by omega) (by omega) (by omega) (fshape_terms hf (List.getElem_mem hm)) (fun p hp=>hix (f.terms[m],0) (by rw[htm];exact List.mem_append_left _ (List.mem_map.2 ⟨_,List.getElem_mem hm,rfl⟩)) p hp)
  refine M.w1 @hc ?_
  exact⟨rfl,trivial,(M.W [some 0,some 1,some 2,some 5] (he:=(by(repeat'(first|exact trivial|exact Or.inr ⟨_,U,rfl⟩|refine And.intro ?_ ?_|refine⟨_,U,_,U,_,U,?_⟩|exact VLe.refl _|exact VLe.of_eq (by simp[Sto.upd,map_take _ _ _ hm])));done)))⟩
 ·intro _
  simp only[List.take_length]
  refine M.w0 ?_
  refine M.rt f.args.length (fun m=>([(1,.i fr),(2,.i by_),(3,.ptr 0 0),(6,.ptr 1 0),(7,.ptr 2 0),(35,.s .fm f.args),(36,.i f.args.length),(37,.i m)],⟨5,[(0,.var f.view),(1,.var [.i 0,.i 0,.slice .nil (.t .ty []),.slice .nil (.t .tm []),.slice .nil (.t .fm [])]),(2,.var [.i f.kind,.i f.ty.kind,.s .ty f.ty.args,.slice (.own 3) (.t .tm (f.terms.map fun t=>t.re (liftG fr by_) 0)),.slice (.own 4) (.t .fm ((f.args.take m).map fun x=>x.re (fun b t=>t.re (liftG b by_) 0) (upF f.kind fr)))]),(3,.row),(4,.row)]⟩))
   (M.W rn4) ?_ ?_
  ·intro m hm _
   have hs2:=lsum_mem Fm.full (List.getElem_mem hm)
   have hc:=ih f.args[m] (upF f.kind fr) (by omega) (by omega) (by omega) (by omega) (fshape_args hf (List.getElem_mem hm)) (fun p hp q hq=>by
    obtain⟨p',hp',hpe⟩:=tms_idx (b':=upF f.kind 0) p hp
    rw[←hpe] at hq
    exact hix p' (by rw[htm];exact List.mem_append_right _ (List.mem_flatMap.2 ⟨_,List.getElem_mem hm,hp'⟩)) q hq)
   rw[←hpl] at hc
   simp only[←hpl]
   refine M.w2 @hb @hc ?_
   exact⟨rfl,trivial,(M.W [some 0,some 1,some 2,some 3,some 6] (he:=(by(repeat'(first|exact trivial|exact Or.inr ⟨_,U,rfl⟩|refine And.intro ?_ ?_|refine⟨_,U,_,U,_,U,?_⟩|exact VLe.refl _|exact VLe.of_eq (by simp[Sto.upd,map_take _ _ _ hm])));done)))⟩
  ·intro _
   simp only[List.take_length]
   refine M.w0 ?_
   rw[he]
   rfl
theorem kup_c{f:Fm}{g:List Ty}(hok:f.okT g)(hs:f.shape=true)(hz:f.size≤20000000)(hg:g.length≤100)(fr by_:Int)(h1:0≤fr∧fr≤100)(h2: -100≤by_∧by_≤100):
 PC E 122 [.agg f.view,.i fr,.i by_] (.agg (f.lft fr by_).view):=by
 have hfl:=ffull_le f hs
 rw[lft_eq]
 exact rupF_c by_ (by omega) _ f fr (Nat.le_refl _) (by omega) (by omega) (by omega) hs (fun p hp q hq=>by
  have a1:=fokT_vars hok hs p hp q hq
  have a2:=Tm.vars_nonneg p.1 (tms_shape f hs 0 p hp) 0 q hq
  omega)
theorem rcontent_c:∀(n:Nat) (f:Fm),f.size≤n→f.shape=true→PC E 183 [.agg f.view] (.bool (contF f)):=by
 intro n
 induction n with
 |zero=>intro f h;have:=f.size_pos;omega
 |succ n ih=>
 intro f hz hs
 rcases fshape_kinds hs with⟨k,_⟩|⟨k,_⟩|⟨k,_⟩
 ·obtain ⟨a,b,rfl⟩:=eq_of hs k
  exact contEq_c a b
 ·obtain ⟨a,b,e⟩:=two_of hs k
  rw[e] at hz hs
  rw[twoF_size] at hz
  have ha:=ih a (by omega) (fshape_args hs (by simp[twoF]))
  have hb:=ih b (by omega) (fshape_args hs (by simp[twoF]))
  rcases k with k|k
  ·rw [k] at e
   subst e
   have e:contF (twoF 2 a b)=(contF a||contF b):=by rw[contF_eq];rfl
   rw[e]
   clear e hz hs k
   unfold twoF
   cases h0:contF a with
   |true=>
    rw[h0] at ha
    refine M.F Tryz.func183 ?_
    refine M.v1 @ha ?_
    rfl
   |false=>
    rw[h0] at ha
    refine M.F Tryz.func183 ?_
    refine M.v2 @ha @hb ?_
    rfl
  ·rw [k] at e
   subst e
   have e:contF (twoF 3 a b)=contF b:=by rw[contF_eq];rfl
   rw[e]
   clear e hz hs k
   unfold twoF
   refine M.F Tryz.func183 ?_
   refine M.v1 @hb ?_
   rfl
 ·obtain ⟨a,e⟩:=qu_of hs (by omega)
  rw[e] at hz hs
  rw[quF_size] at hz
  have ha:=ih a (by omega) (fshape_args hs (by simp[quF]))
  have e2:contF (quF f.kind f.ty a)=if f.kind=5 then true else contF a:=by
   rw[contF_eq]
   show(if f.kind=1 then false else if f.kind=2 then _ else if f.kind=5 then true else contF a)=_
   rw[if_neg (by omega),if_neg (by omega)]
  rw[←e] at e2
  rw[e2,e]
  clear e2 hz hs
  generalize f.ty=s at*
  rcases k with k|k|k|k
  all_goals(rw[k])
  all_goals(clear e k)
  all_goals(unfold quF)
  all_goals(refine M.F Tryz.func183 ?_)
  all_goals(refine M.v1 @ha ?_)
  all_goals rfl
theorem rContent_c(f:Fm)(he:f.err=0):PC E 128 [.agg f.view] (.tup [.bool (contF f),.i 0]):=by
 have s:=(Fm.err_iff f).1 he
 have h1:=fcheckR_c f (by have:=ffull_le f s.1;omega)
 have h2:=rcontent_c _ f (Nat.le_refl _) s.1
 rw[he] at h1
 refine M.F Tryz.func128 ?_
 refine M.w2 @h1 @h2 ?_
 rfl
theorem khas_c(l:List Int):PC E 203 [.s .int l] (.bool (hasI l)):=by
 cases l with
 |nil=>
  refine M.F Tryz.func203 ?_
  refine M.w0 ?_
  rfl
 |cons x l=>
  refine M.F Tryz.func203 ?_
  repeat'(first|refine M.o0 ?_|refine M.gs ?_ ?_<;>intro h|refine M.z1 9 ?_|refine M.gk ?_|fail)
  all_goals first
   |rfl
   |(exfalso;simp at h;done)
   |(exfalso;simp at h;omega)
theorem kfree_c(t:Tm){g:List Ty}{T:Ty}(ht:t.err=0)(hi:t.inf g=(T,0))(hg:g.length≤100):PC E 204 [.agg t.view] (.s .int (freeT t)):=by
 have s:=(Tm.err_iff t).1 ht
 have hfl:=terr_full ht
 have h1:=ruses_c t (by omega) (fun _ p hp=>by
  have a1:=vars_bound t g 0 (g.length+t.size) (by rw[hi]) s.1 (by omega) p hp
  have a2:=Tm.vars_nonneg t s.1 0 p hp
  omega)
 unfold freeT
 refine M.F Tryz.func204 ?_
 refine M.w1 @h1 ?_
 simp[tupV,V.wk,V.wks]
theorem kput_c(f:Fm)(t:Tm)(hf:f.full<549755813888)(ht:t.full<549755813888):PC E 205 [.agg f.view,.agg t.view] (.tup [.agg (putK f t).1.view,.i (putK f t).2]):=by
 have h1:=fputR_c f 0 t hf ht
 refine M.F Tryz.func205 ?_
 refine M.w1 @h1 ?_
 rfl
theorem kroom_c(c:Ck)(v h:Nat)(h1:c.tys.length≤1000∧v≤1000)(h2:c.hyps.length≤1000∧h≤1000):PC E 172 [.agg c.view,.i v,.i h] (.i (c.room v h)):=by
 unfold Ck.room
 by_cases a1:c.tys.length+v>16
 ·rw [if_pos (.inl a1)]
  have b1:decide (((c.tys.length:Nat):Int)+v>16)=true:=by simp;omega
  refine M.F Tryz.func172 ?_
  repeat'(first|refine M.w0 ?_|refine M.gs ?_ ?_<;>intro h|refine M.cs ?_ ?_<;>intro h|fail)
  all_goals first
   |rfl
   |(exfalso;simp at*;omega)
 ·by_cases a2:c.hyps.length+h>16
  ·rw [if_pos (.inr a2)]
   refine M.F Tryz.func172 ?_
   repeat'(first|refine M.w0 ?_|refine M.gs ?_ ?_<;>intro h|refine M.cs ?_ ?_<;>intro h|fail)
   all_goals first
    |rfl
    |(exfalso;simp at*;omega)
  ·rw [if_neg (by omega)]
   refine M.F Tryz.func172 ?_
   repeat'(first|refine M.w0 ?_|refine M.gs ?_ ?_<;>intro h|refine M.cs ?_ ?_<;>intro h|fail)
   all_goals first
    |rfl
    |(exfalso;simp at*;omega)
theorem kwith_c(c:Ck)(f:Fm)(h:c.hyps.length≤1000):PC E 173 [.agg c.view,.agg f.view] (.agg (c.with_ f).view):=by
 unfold Ck.with_
 refine M.F Tryz.func173 ?_
 refine M.w0 ?_
 rfl
theorem ktyp_c(c:Ck)(t:Tm)(k:Int)(ht:t.full<137438953000)(hg:(c.tys.map Ty.size).sum<1099511627776):PC E 180 [.agg c.view,.agg t.view,.i k] (.i (kTyp c t k)):=by
 have h1:=typeOf_c c.tys t (by omega) hg
 unfold kTyp
 by_cases e:(typeOf c.tys t).2=0
 ·rw [if_neg (by simp[e])]
  rw[e] at h1
  by_cases e2:(typeOf c.tys t).1.kind=k
  ·rw [if_neg (by simp[e2])]
   refine M.F Tryz.func180 ?_
   repeat'(first|refine M.w1 @h1 ?_|refine M.cs ?_ ?_<;>intro h|fail)
   all_goals first
    |rfl
    |(exfalso;simp at h;exact h e2)
  ·rw [if_pos e2]
   refine M.F Tryz.func180 ?_
   repeat'(first|refine M.w1 @h1 ?_|refine M.cs ?_ ?_<;>intro h|fail)
   all_goals first
    |rfl
    |(exfalso;simp at h;exact e2 h)
 ·rw [if_pos e]
  refine M.F Tryz.func180 ?_
  repeat'(first|refine M.w1 @h1 ?_|refine M.cs ?_ ?_<;>intro h|fail)
  all_goals first
   |rfl
   |(exfalso;simp_all;done)
theorem nub_take{acc l:List Int}{m:Nat}(hm:m<l.length):nub acc (l.take (m+1))=putKs l[m] (nub acc (l.take m)):=by
 rw[List.take_succ_eq_append_getElem hm,nub_app,nub_one]
theorem kunion_c(a b:List Int)(ha:a.length≤100000)(hb:b.length≤100000):PC E 171 [.s .int a,.s .int b] (.s .int (unionI a b)):=by
 have hl1:=nub_len a []
 have hl2:=nub_len b (nub [] a)
 have hs:=sortedR_c (ks:=nub (nub [] a) b) (nodup_nub (nodup_nub List.nodup_nil)) (by simp at hl1;omega)
 refine M.F Tryz.func171 ?_
 refine M.w0 ?_
 refine M.rt a.length
  (fun m=>([(1,.s .int b),(5,.mp 0),(11,.s .int a),(12,.i a.length),(13,.i m)],⟨1,[(0,.map .bl (nub [] (a.take m)) (List.replicate (nub [] (a.take m)).length true))]⟩))
  ?_ ?_ ?_
 ·simp only[List.take_zero,nub_nil,List.length_nil,List.replicate_zero]
  exact(M.W rh1)
 ·intro m hm _
  refine M.w0 ?_
  refine⟨rfl,trivial,?_⟩
  simp only[nub_take hm]
  rw[←putCs_same]
  exact(M.W rh1)
 ·intro _
  simp only[List.take_length]
  refine M.w0 ?_
  refine M.rt b.length
   (fun m=>([(5,.mp 0),(20,.s .int b),(21,.i b.length),(22,.i m)],⟨1,[(0,.map .bl (nub (nub [] a) (b.take m)) (List.replicate (nub (nub [] a) (b.take m)).length true))]⟩))
   ?_ ?_ ?_
  ·simp only[List.take_zero,nub_nil]
   exact(M.W rh1)
  ·intro m hm _
   refine M.w0 ?_
   refine⟨rfl,trivial,?_⟩
   simp only[nub_take hm]
   rw[←putCs_same]
   exact(M.W rh1)
  ·intro _
   simp only[List.take_length]
   refine M.w1 @hs ?_
   rfl
theorem outI_take{l:List Int}{n:Int}{m:Nat}(hm:m<l.length):outI (l.take (m+1)) n=if l[m]≥n then outI (l.take m) n++[l[m]-n] else outI (l.take m) n:=by
 unfold outI
 rw[List.take_succ_eq_append_getElem hm,List.filter_append,List.map_append]
 by_cases h:l[m]≥n
 ·rw [if_pos h];simp[List.filter,h]
 ·rw [if_neg h];simp[List.filter,h]
theorem outI_len(l:List Int)(n:Int):(outI l n).length≤l.length:=by unfold outI;rw[List.length_map];exact List.length_filter_le _ _
theorem kout_c(l:List Int)(n:Int)(hl:l.length≤100000)(hn:0≤n∧n≤100)(hx:∀x∈l,0≤x∧x≤1000000):PC E 202 [.s .int l,.i n] (.s .int (outI l n)):=by
 refine M.F Tryz.func202 ?_
 refine M.w0 ?_
 refine M.rt l.length
  (fun m=>([(1,.i n),(5,.slice (.own 0) (.t .int (outI (l.take m) n))),(8,.s .int l),(9,.i l.length),(10,.i m)],⟨1,[(0,.row)]⟩))
  (M.W [none]) ?_ ?_
 ·intro m hm _
  have hol:=outI_len (l.take m) n
  have hol2:(outI (l.take m) n).length≤l.length:=by rw[List.length_take] at hol;omega
  have hv:=hx l[m] (List.getElem_mem hm)
  have he:=outI_take (n:=n) hm
  repeat'(first|refine M.w0 ?_|refine M.cs ?_ ?_<;>intro h|fail)
  ·have h':l[m]≥n:=by simpa using h
   rw[if_pos h'] at he
   refine⟨rfl,trivial,?_⟩
   simp only[he]
   exact(M.W [some 1])
  ·have h':¬l[m]≥n:=by simpa using h
   rw[if_neg h'] at he
   refine⟨rfl,trivial,?_⟩
   simp only[he]
   exact(M.W rh1)
 ·intro _
  simp only[List.take_length]
  refine M.w0 ?_
  rfl
theorem kbelow_c(c:Ck)(hc:c.ok)(l:List Ty)(hl:0<l.length)(hl2:l.length≤2):PC E 201 [.agg c.view,.s .ty l] (.agg (c.below l).view):=by
 have hlen:=hc.len
 have hnh:=hc.nh
 refine M.F Tryz.func201 ?_
 refine M.w0 ?_
 refine M.rt c.hyps.length
  (fun m=>([(1,.s .ty l),(2,.ptr 0 0),(4,.ptr 1 0),(5,.ptr 3 0),(23,.s .fm c.hyps),(24,.i c.hyps.length),(25,.i m)],⟨5,[(0,.var c.view),(1,.var [.slice .nil (.t .fm []),.slice .nil (.t .ty []),.slice .nil (.t .fm [])]),(2,.row),(3,.var [.s .fm c.lems,.slice (.own 2) (.t .ty (c.tys++l)),.slice (.own 4) (.t .fm ((c.hyps.take m).map fun f=>f.lft 0 l.length))]),(4,.row)]⟩))
  (M.W rn4) ?_ ?_
 ·intro m hm _
  obtain⟨h1,h2⟩:=hc.hyps c.hyps[m] (List.getElem_mem hm)
  have s:=(Fm.err_iff _).1 h1
  have hcall:=kup_c h2 s.1 (by omega) (by omega) 0 l.length (by omega) (by omega)
  refine M.w1 @hcall ?_
  exact⟨rfl,trivial,(M.W [some 0,some 1,some 2,some 3,some 6] (he:=(by(repeat'(first|exact trivial|exact Or.inr ⟨_,U,rfl⟩|refine And.intro ?_ ?_|refine⟨_,U,_,U,_,U,?_⟩|exact VLe.refl _|exact VLe.of_eq (by simp[Sto.upd,map_take _ _ _ hm])));done)))⟩
 ·intro _
  simp only[List.take_length]
  refine M.w0 ?_
  rfl
theorem nrmTs_at:∀{l:List Tm} {m:Nat} (hm:m<l.length),(∀j (hj:j<l.length),j<m→(normR l[j] 1000).2.2=0)→(normR l[m] 1000).2.2≠0→nrmTs l=([],(normR l[m] 1000).2.2)
 |[],m,hm,_,_=>by simp at hm
 |x::l,0,hm,_,h=>by simp only[nrmTs,List.getElem_cons_zero] at h ⊢;rw[if_pos h]
 |x::l,m+1,hm,h0,h=>by
  have h1:=h0 0 (by simp) (by omega)
  simp only[List.getElem_cons_zero] at h1
  simp only[List.getElem_cons_succ] at h ⊢
  have h2:=nrmTs_at (l:=l) (m:=m) (by simpa using hm) (fun j hj hjm=>by have:=h0 (j+1) (by simpa using hj) (by omega);simpa using this) h
  simp only[nrmTs]
  rw[if_neg (by simp[h1]),h2,if_pos h]
theorem nrmTs_none:∀{l:List Tm},(∀j (hj:j<l.length),j<l.length→(normR l[j] 1000).2.2=0)→nrmTs l=(l.map fun t=>(normR t 1000).1,0)
 |[],_=>rfl
 |x::l,h0=>by
  have h1:=h0 0 (by simp) (by simp)
  simp only[List.getElem_cons_zero] at h1
  have h2:=nrmTs_none (l:=l) fun j hj _=>by have:=h0 (j+1) (by simpa using hj) (by simpa using hj);simpa using this
  simp only[nrmTs]
  rw[if_neg (by simp[h1]),h2];rfl
theorem normFs_at:∀{l:List Fm} {m:Nat} (hm:m<l.length),(∀j (hj:j<l.length),j<m→(normF l[j]).2=0)→(normF l[m]).2≠0→normFs l=([],(normF l[m]).2)
 |[],m,hm,_,_=>by simp at hm
 |x::l,0,hm,_,h=>by simp only[normFs,List.getElem_cons_zero] at h ⊢;rw[if_pos h]
 |x::l,m+1,hm,h0,h=>by
  have h1:=h0 0 (by simp) (by omega)
  simp only[List.getElem_cons_zero] at h1
  simp only[List.getElem_cons_succ] at h ⊢
  have h2:=normFs_at (l:=l) (m:=m) (by simpa using hm) (fun j hj hjm=>by have:=h0 (j+1) (by simpa using hj) (by omega);simpa using this) h
  simp only[normFs]
  rw[if_neg (by simp[h1]),h2,if_pos h]
theorem normFs_none:∀{l:List Fm},(∀j (hj:j<l.length),j<l.length→(normF l[j]).2=0)→normFs l=(l.map fun t=>(normF t).1,0)
 |[],_=>rfl
 |x::l,h0=>by
  have h1:=h0 0 (by simp) (by simp)
  simp only[List.getElem_cons_zero] at h1
  have h2:=normFs_none (l:=l) fun j hj _=>by have:=h0 (j+1) (by simpa using hj) (by simpa using hj);simpa using this
  simp only[normFs]
  rw[if_neg (by simp[h1]),h2];rfl
theorem knormal_c:∀(n:Nat) (f:Fm),f.full≤n→n<274877906944→PC E 208 [.agg f.view] (.tup [.agg (normF f).1.view,.i (normF f).2]):=by
 intro n
 induction n with
 |zero=>intro f h;have:=f.full_pos;omega
 |succ n ih=>
 intro f hsz hn
 have hsz':=f.full_eq
 have hlen:=lsum_len Fm.full Fm.full_pos f.args
 have hlen2:=lsum_len Tm.full Tm.full_pos f.terms
 have he:=normF_eq f
 refine M.F Tryz.func208 ?_
 refine M.w0 ?_
 refine M.rp f.terms.length (fun m=>∀j (hj:j<f.terms.length),j<m→(normR f.terms[j] 1000).2.2=0)
  (fun m=>([(1,.ptr 0 0),(2,.ptr 1 0),(4,.ptr 2 0),(20,.s .tm f.terms),(21,.i f.terms.length),(22,.i m)],⟨4,[(0,.var f.view),(1,.var [.i 0,.i 0,.slice .nil (.t .ty []),.slice .nil (.t .tm []),.slice .nil (.t .fm [])]),(2,.var [.i f.kind,.i f.ty.kind,.s .ty f.ty.args,.slice (.own 3) (.t .tm ((f.terms.take m).map fun t=>(normR t 1000).1)),.slice .nil (.t .fm [])]),(3,.row)]⟩))
  (fun j hj h=>by omega) (M.W rn3) ?_ ?_
 ·intro m hm hP
  have hs2:=lsum_mem Tm.full (List.getElem_mem hm)
  have hc:=rnormal_c f.terms[m] 1000 (by omega)
  by_cases hx:(normR f.terms[m] 1000).2.2=0
  ·rw [hx] at hc
   refine M.w1 @hc ?_
   exact⟨rfl,all_step (p:=fun t=>(normR t 1000).2.2=0) hm hP hx,(M.W [some 0,some 1,some 2,some 6] (he:=(by(repeat'(first|exact trivial|exact Or.inr ⟨_,U,rfl⟩|refine And.intro ?_ ?_|refine⟨_,U,_,U,_,U,?_⟩|exact VLe.refl _|exact VLe.of_eq (by simp[Sto.upd,map_take _ _ _ hm])));done)))⟩
  ·have e1:=nrmTs_at hm hP hx
   rw[e1,if_pos hx] at he
   rw[he]
   repeat'(first|refine M.w1 @hc ?_|refine M.cs ?_ ?_<;>intro h|fail)
   all_goals first
    |rfl
    |(exfalso;simp at h;exact hx h)
 ·intro hP
  have e1:=nrmTs_none (l:=f.terms) fun j hj _=>hP j hj hj
  rw[e1,if_neg (by simp)] at he
  simp only[List.take_length]
  refine M.w0 ?_
  refine M.rp f.args.length (fun m=>∀j (hj:j<f.args.length),j<m→(normF f.args[j]).2=0)
   (fun m=>([(1,.ptr 0 0),(2,.ptr 1 0),(4,.ptr 2 0),(44,.s .fm f.args),(45,.i f.args.length),(46,.i m)],⟨5,[(0,.var f.view),(1,.var [.i 0,.i 0,.slice .nil (.t .ty []),.slice .nil (.t .tm []),.slice .nil (.t .fm [])]),(2,.var [.i f.kind,.i f.ty.kind,.s .ty f.ty.args,.slice (.own 3) (.t .tm (f.terms.map fun t=>(normR t 1000).1)),.slice (.own 4) (.t .fm ((f.args.take m).map fun x=>(normF x).1))]),(3,.row),(4,.row)]⟩))
   (fun j hj h=>by omega) (M.W rn4) ?_ ?_
  ·intro m hm hP2
   have hs2:=lsum_mem Fm.full (List.getElem_mem hm)
   have hc:=ih f.args[m] (by omega) (by omega)
   by_cases hx:(normF f.args[m]).2=0
   ·rw [hx] at hc
    refine M.w1 @hc ?_
    exact⟨rfl,all_step (p:=fun t=>(normF t).2=0) hm hP2 hx,(M.W [some 0,some 1,some 2,some 3,some 7] (he:=(by(repeat'(first|exact trivial|exact Or.inr ⟨_,U,rfl⟩|refine And.intro ?_ ?_|refine⟨_,U,_,U,_,U,?_⟩|exact VLe.refl _|exact VLe.of_eq (by simp[Sto.upd,map_take _ _ _ hm])));done)))⟩
   ·have e2:=normFs_at hm hP2 hx
    rw[e2,if_pos hx] at he
    rw[he]
    repeat'(first|refine M.w1 @hc ?_|refine M.cs ?_ ?_<;>intro h|fail)
    all_goals first
     |rfl
     |(exfalso;simp at h;exact hx h)
  ·intro hP2
   have e2:=normFs_none (l:=f.args) fun j hj _=>hP2 j hj hj
   rw[e2,if_neg (by simp)] at he
   simp only[List.take_length]
   rw[he]
   refine M.w0 ?_
   rfl
abbrev tupI(f:Fm)(u:List Int)(e:Int):V:= .tup [.agg (f.view++[.s .int u]),.i e]
abbrev tupR(r:Res):V:= .tup [.agg r.1.view,.s .int r.2.1,.i r.2.2]
theorem Ck.ok.sum{c:Ck}(hc:c.ok):(c.tys.map Ty.size).sum≤1024:=by
 have h1:=hc.len
 have h2:=lsum_const (f:=Ty.size) (C:=64) c.tys fun x hx=>((Ty.err_iff x).1 (hc.all x hx)).2
 omega
theorem resB{c:Ck}(hc:c.ok){f:Fm}{u:List Int}{e:Int}(h:ResOk c (f,u,e)):f.full≤266240∧u.length≤16∧∀x∈u,0≤x∧x≤1000000:=by
 have hl:=hc.len
 by_cases he:e=0
 ·obtain ⟨h1,_,h3⟩:=h.1 he
  have h4:=h3.len
  refine⟨ferr_full h1,by simp only at h4;omega,fun x hx=> ?_⟩
  have:=h3.2 x hx
  omega
 ·have h1:=h.2 he
  simp only[noRes,Prod.mk.injEq] at h1
  rw[h1.1,h1.2.1]
  exact⟨by decide,by simp,fun x hx=>by cases hx⟩
theorem krHyp_c{c:Ck}(hc:c.ok)(i:Int)(hi:0≤i):PC E 127 [.agg c.view,.agg (Pf.mk 1 i (.mk 0 []) [] [] []).view] (tupR (hypR c i)):=by
 have hn:=hc.nh
 unfold hypR
 by_cases h1:i≥c.hyps.length
 ·rw [if_pos h1]
  refine M.F Tryz.func127 ?_
  repeat'(first|refine M.v0 ?_|refine M.cs ?_ ?_<;>intro h|fail)
  all_goals first
   |rfl
   |(exfalso;simp at h;omega)
 ·rw [if_neg h1]
  have hlt:c.hyps.length-1-i.toNat<c.hyps.length:=by omega
  rw[getD_at hlt]
  simp only[Pf.view,Pf.kind,Pf.index,Pf.ty,Pf.terms,Pf.forms,Pf.args]
  refine M.F Tryz.func127 ?_
  repeat'(first|refine M.v0 ?_|refine M.cs ?_ ?_<;>intro h|fail)
  ·exfalso;simp at h;omega
  ·refine L.ixt (c.hyps.length-1-i.toNat) rfl rfl rfl rfl (by omega) rfl rfl (by omega) ?_
   refine M.w0 ?_
   rfl
theorem krLem_c{c:Ck}(hc:c.ok)(i:Int)(hi:0≤i):PC E 127 [.agg c.view,.agg (Pf.mk 2 i (.mk 0 []) [] [] []).view] (tupR (lemR c i)):=by
 have hn:=hc.nl
 unfold lemR
 by_cases h1:i≥c.lems.length
 ·rw [if_pos h1]
  refine M.F Tryz.func127 ?_
  repeat'(first|refine M.v0 ?_|refine M.cs ?_ ?_<;>intro h|fail)
  all_goals first
   |rfl
   |(exfalso;simp at h;omega)
 ·rw [if_neg h1]
  have hlt:i.toNat<c.lems.length:=by omega
  rw[getD_at hlt]
  simp only[Pf.view,Pf.kind,Pf.index,Pf.ty,Pf.terms,Pf.forms,Pf.args]
  refine M.F Tryz.func127 ?_
  repeat'(first|refine M.v0 ?_|refine M.cs ?_ ?_<;>intro h|fail)
  ·exfalso;simp at h;omega
  ·refine L.ixt i.toNat rfl rfl rfl rfl (by omega) rfl rfl (by omega) ?_
   refine M.w0 ?_
   rfl
section
variable {c:Ck} (hc:c.ok) {p q:Pf} {f0 f1:Fm} {u0 u1:List Int} {e0 e1:Int}
include hc
theorem krAnd_c(hp:PC E 83 [.agg c.view,.agg p.view] (tupI f0 u0 e0))(hq:PC E 83 [.agg c.view,.agg q.view] (tupI f1 u1 e1))(o0:ResOk c (f0,u0,e0))(o1:ResOk c (f1,u1,e1)):
 PC E 127 [.agg c.view,.agg (Pf.mk 3 0 (.mk 0 []) [] [] [p,q]).view] (tupR (andR (fun _=>(f0,u0,e0)) (fun _=>(f1,u1,e1)) c)):=by
 have b0:=resB hc o0
 have b1:=resB hc o1
 have h2:=twoFm_c 2 f0 f1 (by omega) (by omega)
 have h3:=kunion_c u0 u1 (by omega) (by omega)
 unfold andR
 by_cases he:e0=0
 ·subst he
  rw[if_neg (by simp)]
  refine M.F Tryz.func127 ?_
  refine M.v4 @hp @hq @h2 @h3 ?_
  rfl
 ·rw [if_pos he]
  refine M.F Tryz.func127 ?_
  repeat'(first|refine M.v4 @hp @hq @h2 @h3 ?_|refine M.cs ?_ ?_<;>intro h|fail)
  all_goals first
   |rfl
   |(exfalso;simp at h;exact he h)
theorem krPrj_c(j:Nat)(hj:j<2)(hp:PC E 83 [.agg c.view,.agg p.view] (tupI f0 u0 e0))(o0:ResOk c (f0,u0,e0)):
 PC E 127 [.agg c.view,.agg (Pf.mk (4+j) 0 (.mk 0 []) [] [] [p]).view] (tupR (prjR j (fun _=>(f0,u0,e0)) c)):=by
 unfold prjR
 by_cases he:e0=0
 ·subst he
  rw[if_neg (by simp)]
  by_cases hk:f0.kind=2
  ·rw [if_neg (by simp[hk])]
   obtain⟨x,y,e⟩:=two_of ((Fm.err_iff _).1 (o0.1 rfl).1).1 (.inl hk)
   simp only at e
   rw[hk] at e
   subst e
   rcases j with _|_|j
   ·refine M.F Tryz.func127 ?_
    refine M.v1 @hp ?_
    rfl
   ·refine M.F Tryz.func127 ?_
    refine M.v1 @hp ?_
    rfl
   ·omega
  ·rw [if_pos hk]
   rcases j with _|_|j
   ·refine M.F Tryz.func127 ?_
    repeat'(first|refine M.o1 @hp ?_|refine M.z1 24 ?_|refine M.bl ?_|refine M.cs ?_ ?_<;>intro h|refine M.gk ?_|fail)
    all_goals first
     |rfl
     |(exfalso;simp at h;exact hk h)
   ·refine M.F Tryz.func127 ?_
    repeat'(first|refine M.o1 @hp ?_|refine M.z1 24 ?_|refine M.bl ?_|refine M.cs ?_ ?_<;>intro h|refine M.gk ?_|fail)
    all_goals first
     |rfl
     |(exfalso;simp at h;exact hk h)
   ·omega
 ·rw [if_pos he]
  rcases j with _|_|j
  ·refine M.F Tryz.func127 ?_
   repeat'(first|refine M.o1 @hp ?_|refine M.z1 22 ?_|refine M.bl ?_|refine M.cs ?_ ?_<;>intro h|refine M.gk ?_|fail)
   all_goals first
    |rfl
    |(exfalso;simp at h;exact he h)
  ·refine M.F Tryz.func127 ?_
   repeat'(first|refine M.o1 @hp ?_|refine M.z1 22 ?_|refine M.bl ?_|refine M.cs ?_ ?_<;>intro h|refine M.gk ?_|fail)
   all_goals first
    |rfl
    |(exfalso;simp at h;exact he h)
  ·omega
theorem krImpI_c{f:Fm}(hf:f.full≤300000)(hp:typedFC c.tys f=0→c.room 0 1=0→PC E 83 [.agg (c.with_ f).view,.agg p.view] (tupI f0 u0 e0))(b0:typedFC c.tys f=0→c.room 0 1=0→f0.full≤266240):
 PC E 127 [.agg c.view,.agg (Pf.mk 6 0 (.mk 0 []) [] [f] [p]).view] (tupR (impiR f (fun _=>(f0,u0,e0)) c)):=by
 have hl:=hc.len
 have hn:=hc.nh
 have h1:=fTyped_c c.tys f (by omega) (by have:=hc.sum;omega)
 have h2:=kroom_c c 0 1 (by omega) (by omega)
 have h3:=kwith_c c f (by omega)
 unfold impiR
 by_cases t0:typedFC c.tys f=0
 ·rw [if_neg (by simp[t0])]
  rw[t0] at h1
  by_cases r0:c.room 0 1=0
  ·rw [if_neg (by simp[r0])]
   rw[r0] at h2
   have h5:=hp t0 r0
   have b1:=b0 t0 r0
   have h4:=twoFm_c 3 f f0 (by omega) (by omega)
   refine M.F Tryz.func127 ?_
   refine M.v5 @h1 @h2 @h3 @h4 @h5 ?_
   rfl
  ·rw [if_pos r0]
   rw[room_no r0] at h2
   refine M.F Tryz.func127 ?_
   refine M.v2 @h1 @h2 ?_
   rfl
 ·rw [if_pos t0]
  refine M.F Tryz.func127 ?_
  repeat'(first|refine M.o1 @h1 ?_|refine M.z1 29 ?_|refine M.bl ?_|refine M.cs ?_ ?_<;>intro h|refine M.gk ?_|fail)
  all_goals first
   |rfl
   |(exfalso;simp at h;exact t0 h)
theorem krImpE_c(hp:PC E 83 [.agg c.view,.agg p.view] (tupI f0 u0 e0))(hq:PC E 83 [.agg c.view,.agg q.view] (tupI f1 u1 e1))(o0:ResOk c (f0,u0,e0))(o1:ResOk c (f1,u1,e1)):
 PC E 127 [.agg c.view,.agg (Pf.mk 7 0 (.mk 0 []) [] [] [p,q]).view] (tupR (impeR (fun _=>(f0,u0,e0)) (fun _=>(f1,u1,e1)) c)):=by
 have b0:=resB hc o0
 have b1:=resB hc o1
 have h3:=kunion_c u0 u1 (by omega) (by omega)
 unfold impeR
 by_cases he:e0=0
 case neg=>
  rw[if_pos he]
  refine M.F Tryz.func127 ?_
  repeat'(first|refine M.o1 @hp ?_|refine M.z1 38 ?_|refine M.bl ?_|refine M.cs ?_ ?_<;>intro h|refine M.gk ?_|fail)
  all_goals first
   |rfl
   |(exfalso;simp at h;exact he h)
 subst he
 rw[if_neg (by simp)]
 by_cases hk:f0.kind=3
 case neg=>
  rw[if_pos hk]
  refine M.F Tryz.func127 ?_
  repeat'(first|refine M.v1 @hp ?_|refine M.cs ?_ ?_<;>intro h|fail)
  all_goals first
   |rfl
   |(exfalso;simp at h;exact hk h)
   |trace_state
 rw[if_neg (by simp[hk])]
 obtain⟨x,y,e⟩:=two_of ((Fm.err_iff _).1 (o0.1 rfl).1).1 (.inr hk)
 simp only at e
 rw[hk] at e
 subst e
 by_cases he1:e1=0
 case neg=>
  rw[if_pos he1]
  refine M.F Tryz.func127 ?_
  repeat'(first|refine M.v2 @hp @hq ?_|refine M.cs ?_ ?_<;>intro h|fail)
  all_goals first
   |rfl
   |(exfalso;simp at h;exact he1 h)
   |trace_state
 subst he1
 rw[if_neg (by simp)]
 have ex:=part_err (o0.1 rfl).1 (x:=x) (by simp[twoF])
 have h4:=rfMatch_c x f1 (by have:=ferr_full ex;omega) (by omega)
 refine M.F Tryz.func127 ?_
 refine M.v4 @hp @hq @h3 @h4 ?_
 rfl
end
theorem putK_bd(f:Fm)(t:Tm):(putK f t).1.full≤1200000000:=by
 unfold putK
 by_cases h:putFErr f 0 t=0
 ·rw [if_pos h];exact putF_bd h
 ·rw [if_neg h];exact Nat.le_trans (by decide:noFm.full≤2) (by decide)
section
variable {c:Ck} (hc:c.ok) {p q:Pf} {f0 f1:Fm} {u0 u1:List Int} {e0 e1:Int}
include hc
theorem kPart_c{f:Fm}{t:Tm}(hf:f.full≤1200000000)(ht:t.full≤300000)(hp:PC E 83 [.agg c.view,.agg p.view] (tupI f0 u0 e0))(o0:ResOk c (f0,u0,e0)):
 PC E 206 [.agg c.view,.agg p.view,.agg f.view,.agg t.view] (.tup [.s .int (partR (fun _=>(f0,u0,e0)) c f t).1,.i (partR (fun _=>(f0,u0,e0)) c f t).2]):=by
 have b0:=resB hc o0
 have h1:=kput_c f t (by omega) (by omega)
 have hb:=putK_bd f t
 have h2:=rfMatch_c (putK f t).1 f0 (by omega) (by omega)
 unfold partR
 by_cases he:e0=0
 case neg=>
  rw[if_pos he]
  refine M.F Tryz.func206 ?_
  repeat'(first|refine M.o1 @hp ?_|refine M.z1 4 ?_|refine M.cs ?_ ?_<;>intro h|refine M.gk ?_|fail)
  all_goals first
   |rfl
   |(exfalso;simp at h;exact he h)
 subst he
 rw[if_neg (by simp)]
 by_cases h0:(putK f t).2=0
 case neg=>
  rw[if_pos h0]
  refine M.F Tryz.func206 ?_
  repeat'(first|refine M.o2 @hp @h1 ?_|refine M.z1 7 ?_|refine M.cs ?_ ?_<;>intro h|refine M.gk ?_|fail)
  all_goals first
   |rfl
   |(exfalso;simp at h;exact h0 h)
 rw[if_neg (by simp[h0])]
 rw[h0] at h1
 refine M.F Tryz.func206 ?_
 refine M.w3 @hp @h1 @h2 ?_
 rfl
theorem kAll_c{k:Int}(hk:k=8∨k=12){s:Ty}(hs:s.err=0)(hp:c.room 1 0=0→PC E 83 [.agg (c.below [s]).view,.agg p.view] (tupI f0 u0 e0))(b0:c.room 1 0=0→f0.full≤266240∧u0.length≤16∧∀x∈u0,0≤x∧x≤1000000):
 PC E 174 [.agg c.view,.agg (Pf.mk k 0 s [] [] [p]).view] (tupR (allR k s (fun _=>(f0,u0,e0)) c)):=by
 have hl:=hc.len
 have hn:=hc.nh
 have h1:=kroom_c c 1 0 (by omega) (by omega)
 have hsz:=((Ty.err_iff s).1 hs).2
 unfold allR
 by_cases r0:c.room 1 0=0
 case neg=>
  rw[if_pos r0]
  rw[room_no r0] at h1
  refine M.F Tryz.func174 ?_
  refine M.w1 @h1 ?_
  rfl
 rw[if_neg (by simp[r0])]
 rw[r0] at h1
 have b:=b0 r0
 have h2:=kbelow_c c hc [s] (by simp) (by simp)
 have h3:=hp r0
 have h4:=khas_c u0
 have h5:=kout_c u0 1 (by omega) (by omega) b.2.2
 have h6:=qFm_c 4 s f0 (by omega) (by omega)
 have h7:=qFm_c 6 s f0 (by omega) (by omega)
 by_cases he:e0=0
 case neg=>
  rw[if_pos he]
  refine M.F Tryz.func174 ?_
  repeat'(first|refine M.o3 @h1 @h2 @h3 ?_|refine M.z1 7 ?_|refine M.cs ?_ ?_<;>intro h|refine M.gk ?_|fail)
  all_goals first
   |rfl
   |(exfalso;simp at h;exact he h)
   |trace_state
 subst he
 rw[if_neg (by simp)]
 rcases hk with rfl|rfl
 ·rw [if_pos rfl]
  refine M.F Tryz.func174 ?_
  refine M.w5 @h1 @h2 @h3 @h5 @h6 ?_
  rfl
 ·rw [if_neg (by decide)]
  cases hh:hasI u0 with
  |true=>
   rw[hh] at h4
   rw[if_pos rfl]
   refine M.F Tryz.func174 ?_
   refine M.w4 @h1 @h2 @h3 @h4 ?_
   rfl
  |false=>
   rw[hh] at h4
   rw[if_neg (by simp)]
   refine M.F Tryz.func174 ?_
   refine M.w6 @h1 @h2 @h3 @h4 @h5 @h7 ?_
   rfl
theorem kAt_c{k:Int}(hk:k=9∨k=13){t:Tm}(ht:t.full≤300000)(hp:PC E 83 [.agg c.view,.agg p.view] (tupI f0 u0 e0))(o0:ResOk c (f0,u0,e0)):
 PC E 175 [.agg c.view,.agg (Pf.mk k 0 (.mk 0 []) [t] [] [p]).view] (tupR (atR k t (fun _=>(f0,u0,e0)) c)):=by
 have hl:=hc.len
 have hsum:=hc.sum
 have b0:=resB hc o0
 have h1:=typeOf_c c.tys t (by omega) (by omega)
 unfold atR
 by_cases t0:(typeOf c.tys t).2=0
 case neg=>
  rw[if_pos t0]
  refine M.F Tryz.func175 ?_
  repeat'(first|refine M.o1 @h1 ?_|refine M.z1 5 ?_|refine M.cs ?_ ?_<;>intro h|refine M.gk ?_|fail)
  all_goals first
   |rfl
   |(exfalso;simp at h;exact t0 h)
 rw[if_neg (by simp[t0])]
 rw[t0] at h1
 obtain⟨_,t1,t2,_⟩:=typeOf_inv t0
 by_cases he:e0=0
 case neg=>
  rw[if_pos he]
  refine M.F Tryz.func175 ?_
  repeat'(first|refine M.o2 @h1 @hp ?_|refine M.z1 8 ?_|refine M.cs ?_ ?_<;>intro h|refine M.gk ?_|fail)
  all_goals first
   |rfl
   |(exfalso;simp at h;exact he h)
   |(exfalso;simp at h;done)
 subst he
 rw[if_neg (by simp)]
 have hfr:=kfree_c t t1 t2 (by omega)
 have hfl:=(freeT_ok t2).len
 have hun:=kunion_c u0 (freeT t) (by omega) (by omega)
 by_cases hkd:f0.kind=kI k 13 6 4
 case neg=>
  rw[if_pos hkd]
  rcases hk with rfl|rfl
  all_goals
   refine M.F Tryz.func175 ?_
   repeat'(first|refine M.o4 @h1 @hp @hfr @hun ?_|refine M.z1 13 ?_|refine M.cs ?_ ?_<;>intro h|refine M.gk ?_|fail)
   all_goals first
    |rfl
    |(exfalso;simp at h;exact hkd h)
    |trace_state
 rw[if_neg (by simp[hkd])]
 have hkk:4≤f0.kind∧f0.kind≤7:=by rw[hkd,kI];split<;>omega
 have s0:=(Fm.err_iff _).1 (o0.1 rfl).1
 obtain⟨x,e⟩:=qu_of s0.1 hkk
 simp only at e
 have ex:=part_err (o0.1 rfl).1 (x:=x) (by rw[show(f0,u0,(0:Int)).1=f0 from rfl,e];simp[quF])
 have hte:=qu_err s0.1 hkk
 have hsame:=sameTy_c _ f0.ty (typeOf c.tys t).1 (Nat.le_refl _) (by have:=((Ty.err_iff _).1 hte).2;simp only at this;omega)
 have hput:=kput_c x t (by have:=ferr_full ex;omega) (by omega)
 have hx:f0.args.getD 0 noFm=x:=by rw[e];rfl
 rw[hx]
 generalize hty:f0.ty=s at*
 by_cases hts:s=(typeOf c.tys t).1
 case neg=>
  rw[if_pos hts]
  rw[decide_eq_false hts] at hsame
  rw[hkd] at e
  subst e
  rcases hk with rfl|rfl
  all_goals
   simp only[kI] at*
   refine M.F Tryz.func175 ?_
   refine M.w5 @h1 @hp @hfr @hun @hsame ?_
   all_goals first
    |rfl
    |trace_state
 rw[if_neg (by simp[hts])]
 rw[decide_eq_true hts] at hsame
 rw[hkd] at e
 subst e
 rcases hk with rfl|rfl
 all_goals
  simp only[kI] at*
  refine M.F Tryz.func175 ?_
  refine M.w6 @h1 @hp @hfr @hun @hsame @hput ?_
  all_goals first
   |rfl
   |trace_state
end
end Go.Ab
