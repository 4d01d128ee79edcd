/- A part of this seat's proofs. No conditions. -/
import Derived.Test.YtgjekifepogehaaGreatDoorPDT1
import Derived.Test.YtgjekifepogehaaGreatDoorPS5
namespace Go.Ab
open Go Go.Proofs
set_option maxRecDepth 100000
set_option maxHeartbeats 4000000
set_option linter.all false
def Nj(r:Nat):List Int->AF×Aj
 |[]=>([(3,.slice .nil (.t .int [])),(7,.raw (.pointer (some ⟨r,0,none⟩)))],⟨1,[(0,.gone)]⟩)
 |x::d=>([(3,.arr 1 (d.length+1) 1),(7,.raw (.pointer (some ⟨r,0,none⟩)))],⟨2,[(1,.var ((yo (x::d)).flatMap EC.int.view)),(0,.gone)]⟩)
theorem Yay(r:Nat)(d:List Int)(q:Int):Nj r (d++[q])=([(3,.arr 1 (d.length+1) 1),(7,.raw (.pointer (some ⟨r,0,none⟩)))],⟨2,[(1,.var ((yo (d++[q])).flatMap EC.int.view)),(0,.gone)]⟩):=by
 cases d with
 |nil=>rfl
 |cons x d=>simp[Nj]
def Iy(r:Nat)(l:List Int)(q:Int)(i:Nat):AF×Aj:=([(3,.arr 1 (l.length+1) 1),(4,.i q),(5,.i i),(7,.raw (.pointer (some ⟨r,0,none⟩)))],⟨2,[(1,.var ((DU (yo l) q i).flatMap EC.int.view)),(0,.gone)]⟩)
theorem NO{ks:List Int}(hnd:ks.Nodup)(hlen:ks.length<549755813888):AC E 89 [.mp 0] ⟨1,[(0,.map .bl ks (List.replicate ks.length true))]⟩ (.s .int (yo ks)) ⟨1,[(0,.map .bl ks (List.replicate ks.length true))]⟩:=by
 refine AC.mk Tryz.func89 rfl rfl rfl rfl rfl (ZP rfl) ?_;repeat'(first|((with_reducible refine D.nil ?_);refine AX.BO ?_)|((with_reducible refine D.assign ?_);refine L.EW U U U ?_)|((with_reducible refine D.aw ?_);(fail_if_success with_reducible refine D.H8 (id:=2) ?_);(fail_if_success with_reducible refine D.Ih (id:=2) ?_);refine K.sq (AW.AP ?_))|with_reducible refine K.tN ?_)
 refine K.sq (AW.Kx (n:=0) (c:= .bl) (ks:=ks) (xs:=List.replicate ks.length true) (kt:=3) (et:=4) (J:=Nj) ?_ ?_ ?_ ?_ hnd ?_ ?_ ?_ ?_ ?_ ?_ ?_)
 .rfl
 .rfl
 .exact cU 0
 .kernel_rfl
 .rfl
 .intro r l;cases l<;>rfl
 .intro r l t ht;simp only[Z4,aP,or_false] at ht;rcases ht with rfl|rfl|rfl|rfl|rfl<;>cases l<;>rfl
 .intro r l e he;cases l<;>cases he<;>rfl
 .intro r;exact(Bc.mk [some 0] _ _ _ U U U U (by(repeat'(first|exact trivial|refine And.intro ?_ ?_|refine⟨_,U,_,U,?_⟩|exact Ai.refl _));done) (by(repeat'(first|exact trivial|refine And.intro ?_ ?_|exact Eq.refl true));done))
 .intro r l q hl hlk hq hql;have hll:=VP hl hlk;have hsl:=M5 l;rw[Yay];have tail:∀(i:Nat),i<=l.length->(∀x∈(yo l).drop i,q<x)->(∀(hi:0<i) (hl:i-1<(yo l).length),(yo l)[i-1]<=q)->((DU (yo l) q i).set i q)=yo (l++[q]):=fun i hi h1 h2=>by
   rw[Zys dY];exact Zxd h1 h2 dY
  have hE:DU (yo l) q l.length=yo l++[q]:=by rw[<-hsl];exact Zz1 _ _
  have hat:∀j (h:j<l.length) (h':j<(DU (yo l) q (j+1)).length),(DU (yo l) q (j+1))[j]=(yo l)[j]' dY:=fun j h h'=>Yf0 dY h';have hst:∀j (h:j<l.length),(DU (yo l) q (j+1)).set (j+1) ((yo l)[j]' dY)=DU (yo l) q j:=fun j h=>Zvm dY;have hln:∀i,i<=l.length->(DU (yo l) q i).length=l.length+1:=fun i hi=>by rw[Yca dY,hsl]
  cases l with
  |nil=>
   repeat'(first|((with_reducible refine D.nil ?_);refine AX.BO ?_)|((with_reducible refine D.move ?_);refine L.mv U U U ?_)|((with_reducible refine D.assign ?_);refine L.EW U U U ?_)|((with_reducible refine D.call ?_);refine L.Qc U U U U ?_)|((with_reducible refine D.aw ?_);(fail_if_success with_reducible refine D.H8 (id:=6) ?_);(fail_if_success with_reducible refine D.Ih (id:=6) ?_);refine K.sq (AW.AP ?_))|with_reducible refine K.tN ?_)
   refine K.sq (AW.AP ?_);refine L.mv rfl rfl rfl ?_;refine L.mv rfl rfl rfl ?_;refine L.Mo rfl rfl rfl rfl rfl (EC.BP rfl) rfl rfl ?_;refine L.U8 (te:=3) (e:= .int) (l:=[q]) rfl rfl rfl rfl ew rfl rfl rfl rfl dZ dZ ?_;repeat'(first|((with_reducible refine D.nil ?_);refine AX.BO ?_)|((with_reducible refine D.assign ?_);refine L.EW U U U ?_)|with_reducible refine K.tN ?_)
   refine K.sq (AW.block (AW.loop (ι:={i:Nat // i<=0/\∀x∈(yo []).drop i,q<x}) (fun i=>Iy r [] q i.1) (fun i=>i.1) ⟨0,ZB _,by simp[Qm]⟩ ?_ ?_))
   .show Bc _ _ _ _ _ (Iy r [] q 0).1 (Iy r [] q 0).2;simp only[Iy];rw[show DU (yo []) q 0=[q] from hE.trans (by rw[Qm];rfl)];exact(Bc.mk [some 0,some 1] _ _ _ U U U U (by(repeat'(first|exact trivial|refine And.intro ?_ ?_|refine⟨_,U,_,U,?_⟩|exact Ai.refl _));done) (by(repeat'(first|exact trivial|refine And.intro ?_ ?_|refine⟨_,U,_,U,_,U,?_⟩|exact Ai.refl _|exact Eq.refl true));done))
   .rintro ⟨i,hi,h1⟩;obtain rfl:i=0:=dY
    repeat'(first|((with_reducible refine D.nil ?_);refine AX.BO ?_)|((with_reducible refine D.load ?_);refine AX.sk U U ?_)|((with_reducible refine D.move ?_);first|refine L.mv U U U ?_|refine AX.sk U U ?_)|((with_reducible refine D.bin ?_);first|refine L.bn U U U U U ?_|refine AX.sk U U ?_)|((with_reducible refine D.indexAddr ?_);refine AX.sk U U ?_)|((with_reducible refine D.pick ?_);refine L.pk U U U U ?_)|((with_reducible refine D.aw ?_);first|refine K.sq (K.sq ?_)|refine AW.AP ?_|refine AW.Cu U ?_|refine AW.exit ?_)|with_reducible refine K.tN ?_|with_reducible refine K.tE ?_|with_reducible refine K.bX eF ?_|with_reducible refine K.lE ?_)
    refine L.B7 0 rfl rfl rfl rfl rfl ej rfl ?_;refine L.sta (c:= .int) (l:=DU (yo []) q 0) (u:=q) 0 rfl rfl rfl rfl rfl rfl rfl rfl (by rw[hln 0 (ZB _)];decide) rfl ?_;repeat'(first|((with_reducible refine D.nil ?_);refine AX.BO ?_))
    refine⟨rfl,?_⟩;simp only[tail 0 (ZB _) h1 (fun h=>absurd h ej)];exact(Bc.mk [some 0,some 1] _ _ _ U U U U (by(repeat'(first|exact trivial|refine And.intro ?_ ?_|refine⟨_,U,_,U,?_⟩|exact Ai.refl _));done) (by(repeat'(first|exact trivial|refine And.intro ?_ ?_|exact Bb.refl _|exact Eq.refl true|refine⟨_,U,_,x7 _ _ _,_,U,?_⟩));done))
  |cons x d=>
   skip;refine K.sq (AW.AP ?_);refine L.mv rfl rfl rfl ?_;refine L.Jx rfl rfl rfl rfl ?_;repeat'(first|((with_reducible refine D.nil ?_);refine AX.BO ?_)|((with_reducible refine D.assign ?_);refine L.EW U U U ?_)|with_reducible refine K.tN ?_)
   refine K.sq (AW.AP ?_);refine L.mv rfl rfl rfl ?_;refine L.mv rfl rfl rfl ?_;refine L.Mo rfl rfl rfl rfl rfl (EC.BP rfl) rfl rfl ?_;refine L.apR (te:=3) (e:= .int) (l:=[q]) rfl rfl rfl rfl ew rfl rfl (by rw[wv,hsl];rfl) rfl rfl rfl dZ (by simp only[ZO,Z7] at hll ⊢;omega) ?_;rw[<-bu];repeat'(first|((with_reducible refine D.nil ?_);refine AX.BO ?_)|((with_reducible refine D.assign ?_);refine L.EW U U U ?_)|with_reducible refine K.tN ?_)
   refine K.sq (AW.block (AW.loop (ι:={i:Nat // i<=(x::d).length/\∀y∈(yo (x::d)).drop i,q<y}) (fun i=>Iy r (x::d) q i.1) (fun i=>i.1) ⟨(x::d).length,ZB _,by rw[<-hsl,List.drop_length];intro y hy;cases hy⟩ ?_ ?_))
   .show Bc _ _ _ _ _ (Iy r (x::d) q (x::d).length).1 (Iy r (x::d) q (x::d).length).2;simp only[Iy];rw[hE];exact(Bc.mk [some 0,some 2] _ _ _ U U U U (by(repeat'(first|exact trivial|refine And.intro ?_ ?_|refine⟨_,U,_,U,?_⟩|exact Ai.refl _));done) (by(repeat'(first|exact trivial|refine And.intro ?_ ?_|exact Bb.refl _|exact Eq.refl true|refine⟨_,U,_,x7 _ _ _,_,U,?_⟩));done))
   .rintro ⟨i,hi,h1⟩;cases i with
    |zero=>
     repeat'(first|((with_reducible refine D.nil ?_);refine AX.BO ?_)|((with_reducible refine D.load ?_);refine AX.sk U U ?_)|((with_reducible refine D.move ?_);first|refine L.mv U U U ?_|refine AX.sk U U ?_)|((with_reducible refine D.bin ?_);first|refine L.bn U U U U U ?_|refine AX.sk U U ?_)|((with_reducible refine D.indexAddr ?_);refine AX.sk U U ?_)|((with_reducible refine D.pick ?_);refine L.pk U U U U ?_)|((with_reducible refine D.aw ?_);first|refine K.sq (K.sq ?_)|refine AW.AP ?_|refine AW.Cu U ?_|refine AW.exit ?_)|with_reducible refine K.tN ?_|with_reducible refine K.tE ?_|with_reducible refine K.bX eF ?_|with_reducible refine K.lE ?_)
     refine L.B7 0 rfl rfl rfl rfl rfl (Nat.succ_pos _) rfl ?_;refine L.sta (c:= .int) (l:=DU (yo (x::d)) q 0) (u:=q) 0 rfl rfl rfl rfl rfl rfl rfl rfl (by rw[hln 0 (bL _)];exact Nat.succ_pos _) rfl ?_;repeat'(first|((with_reducible refine D.nil ?_);refine AX.BO ?_))
     refine⟨rfl,?_⟩;simp only[tail 0 (bL _) h1 (fun h=>absurd h ej)];exact(Bc.mk [some 0,some 1] _ _ _ U U U U (by(repeat'(first|exact trivial|refine And.intro ?_ ?_|refine⟨_,U,_,U,?_⟩|exact Ai.refl _));done) (by(repeat'(first|exact trivial|refine And.intro ?_ ?_|exact Bb.refl _|exact Eq.refl true|refine⟨_,U,_,x7 _ _ _,_,U,?_⟩));done))
    |succ i=>
     have hi':i<(x::d).length:=dY
     have hsi:i<(yo (x::d)).length:=dY
     have hdl:(x::d).length=d.length+1:=rfl;have hl0:=hln (i+1) hi;have hl1:i<(DU (yo (x::d)) q (i+1)).length:=dY
     have ha:=hat i hi' hl1;have hs:=hst i hi';show AW _ _ _ _ (Iy r (x::d) q (i+1)).1 (Iy r (x::d) q (i+1)).2 _;repeat'(first|((with_reducible refine D.nil ?_);refine AX.BO ?_)|((with_reducible refine D.load ?_);refine AX.sk U U ?_)|((with_reducible refine D.move ?_);first|refine L.mv U U U ?_|refine AX.sk U U ?_|((fail_if_success refine AX.wt U ?_);refine AX.gs U U (fun _=>trivial) (fun h=> ?_) (fun h=> ?_)))|((with_reducible refine D.bin ?_);first|refine L.sb U U U U dY ?_|refine L.bn U U U U U ?_|refine AX.sk U U ?_)|((with_reducible refine D.indexAddr ?_);refine AX.sk U U ?_)|((with_reducible refine D.pick ?_);refine L.pk U U U U ?_)|((with_reducible refine D.aw ?_);first|refine K.sq (K.sq ?_)|refine AW.AP ?_|refine AW.Cu U ?_|refine AW.exit ?_)|with_reducible refine K.tN ?_|with_reducible refine K.tE ?_|with_reducible refine K.bX eF ?_|with_reducible refine K.lE ?_)
     .refine L.B7 i rfl rfl rfl rfl dZ dY rfl ?_;refine L.UC (c:= .int) (l:=DU (yo (x::d)) q (i+1)) i rfl rfl rfl rfl rfl hl1 rfl rfl rfl ?_;rw[ha];repeat'(first|((with_reducible refine D.nil ?_);refine AX.BO ?_)|((with_reducible refine D.move ?_);refine L.mv U U U ?_)|((with_reducible refine D.bin ?_);refine L.bn U U U U U ?_)|((with_reducible refine D.pick ?_);refine L.pk U U U U ?_)|((with_reducible refine D.aw ?_);first|refine AW.AP ?_|refine AW.E6 U (fun h=> ?_) (fun h=> ?_)|refine AW.skip ?_|refine AW.exit ?_)|with_reducible refine K.tN ?_|with_reducible refine K.tE ?_|with_reducible refine K.bX eF ?_|with_reducible refine K.lE ?_)
      .have hgt:q<(yo (x::d))[i]:=ek
       repeat'(first|((with_reducible refine D.move ?_);refine L.mv U U U ?_)|((with_reducible refine D.bin ?_);refine L.sb U U U U dY ?_)|((with_reducible refine D.aw ?_);first|((with_reducible refine D.blk ?_);refine AW.block ?_)|refine K.sq (AW.AP ?_)))
       refine L.B7 i rfl rfl rfl rfl dZ dY rfl ?_;refine L.UC (c:= .int) (l:=DU (yo (x::d)) q (i+1)) i rfl rfl rfl rfl rfl hl1 rfl rfl rfl ?_;rw[ha];refine L.B7 (i+1) rfl rfl rfl rfl rfl dY rfl ?_;refine L.sta (c:= .int) (l:=DU (yo (x::d)) q (i+1)) (u:=(yo (x::d))[i]) (i+1) rfl rfl rfl rfl rfl rfl rfl rfl dY rfl ?_;rw[hs];repeat'(first|((with_reducible refine D.nil ?_);refine AX.BO ?_)|((with_reducible refine D.move ?_);refine L.mv U U U ?_)|((with_reducible refine D.assign ?_);refine L.EW U U U ?_)|((with_reducible refine D.bin ?_);refine L.sb U U U U dY ?_)|((with_reducible refine D.aw ?_);refine AW.AP ?_)|with_reducible refine K.tN ?_|with_reducible refine K.bN ?_)
       refine⟨⟨i,dY,fun y hy=> ?_⟩,by show i<i+1;omega,?_⟩
       .rw[di hsi] at hy;rcases Z4.1 hy with rfl|hy
        .exact hgt
        .exact h1 y hy
       .simp only[Iy,show(((i+1:Nat):Int)-1)=(i:Int) by omega];exact(Bc.mk [some 0,some 1] _ _ _ U U U U (by(repeat'(first|exact trivial|refine And.intro ?_ ?_|refine⟨_,U,_,U,?_⟩|exact Ai.refl _));done) (by(repeat'(first|exact trivial|refine And.intro ?_ ?_|exact Bb.refl _|exact Eq.refl true|refine⟨_,U,_,x7 _ _ _,_,U,?_⟩));done))
      .have hle:(yo (x::d))[i]<=q:=ek
       refine L.B7 (i+1) rfl rfl rfl rfl rfl dY rfl ?_;refine L.sta (c:= .int) (l:=DU (yo (x::d)) q (i+1)) (u:=q) (i+1) rfl rfl rfl rfl rfl rfl rfl rfl dY rfl ?_;repeat'(first|((with_reducible refine D.nil ?_);refine AX.BO ?_))
       refine⟨rfl,?_⟩;simp only[tail (i+1) hi h1 (fun _ _=>hle)];exact(Bc.mk [some 0,some 1] _ _ _ U U U U (by(repeat'(first|exact trivial|refine And.intro ?_ ?_|refine⟨_,U,_,U,?_⟩|exact Ai.refl _));done) (by(repeat'(first|exact trivial|refine And.intro ?_ ?_|exact Bb.refl _|exact Eq.refl true|refine⟨_,U,_,x7 _ _ _,_,U,?_⟩));done))
     .exfalso;simp at h
 .intro r l hp;cases l with
  |nil=>
   have hk0:ks=[]:=by simpa using hp.symm.eq_nil
   subst hk0;simp only[Nj,Qm];repeat'(first|((with_reducible refine D.nil ?_);refine AX.BO ?_)|((with_reducible refine D.move ?_);refine L.mv U U U ?_)|((with_reducible refine D.assign ?_);refine L.EW U U U ?_)|((with_reducible refine D.aw ?_);first|refine K.sq (AW.AP ?_)|refine AW.ret ?_)|with_reducible refine K.tN ?_)
   (exact K.n2 [some 0] U U U U U (by(repeat'(first|exact trivial|refine And.intro ?_ ?_|refine⟨_,U,_,_,U,?_,?_⟩|with_reducible exact rfl));done) U (by simp[zh,V.wk,V.An,za,Ty.view,Tm.view,Qm]))
  |cons x d=>
   have hk0:yo (x::d)=yo ks:=Zk0 hp;simp only[Nj,hk0];refine AW.B1 (c:= .int) 1 (d.length+1) (yo ks) rfl (by rw[<-hk0,M5];rfl) (by(repeat'(first|exact trivial|exact fun _=>rfl|exact fun h=>absurd rfl h|exact fun h=>absurd h ej|refine And.intro ?_ ?_|intro _));done) (by(repeat'(first|exact trivial|exact fun _=>rfl|exact fun h=>absurd rfl h|exact fun h=>absurd h ej|refine And.intro ?_ ?_|intro _));done) ?_;repeat'(first|((with_reducible refine D.nil ?_);refine AX.BO ?_)|((with_reducible refine D.move ?_);refine L.mv U U U ?_)|((with_reducible refine D.assign ?_);refine L.EW U U U ?_)|((with_reducible refine D.aw ?_);first|refine K.sq (AW.AP ?_)|refine AW.ret ?_)|with_reducible refine K.tN ?_)
   (exact K.n2 [some 0] U U U U U (by(repeat'(first|exact trivial|refine And.intro ?_ ?_|refine⟨_,U,_,_,U,?_,?_⟩|with_reducible exact rfl));done) U eM)
theorem RQ:∀(n:Nat) (t:Tm) (ks:List Int) (bl:Int),t.full<=n->n<1099511627776->0<=bl->bl+n<1099511627776->(∀p∈t.vars bl,0<=p.1/\p.1<9223372036854775808)->
 AC E 150 [.agg t.view,.i bl,.mp 0] ⟨1,[(0,.map .bl ks (List.replicate ks.length true))]⟩ (.AM []) ⟨1,[(0,.map .bl (Az ks (BS (t.vars bl))) (List.replicate (Az ks (BS (t.vars bl))).length true))]⟩:=by
 intro n;induction n with
 |zero=>intro t b bl h;have:=t.Ac;omega
 |succ n ih=>
 intro t ks bl hsz hb hbl hbn hix;have hsz':=Tm.Af t;have hlen:=zd Tm.full Tm.Ac t.args;have hv:=Tm.AU bl t;have hbe:=NC t;have hup:=M0 t.kind bl;have hpl:=NL t.kind bl;have hi:t.kind=1->0<=t.index/\t.index<9223372036854775808:=fun h=>gN
 have loopE:∀m (hm:m<t.args.length) ks',AC E 150 [.agg (t.args[m]).view,.i (bl+up t.kind 0),.mp 0] ⟨1,[(0,.map .bl ks' (List.replicate ks'.length true))]⟩ (.AM []) ⟨1,[(0,.map .bl (Az ks' (BS ((t.args[m]).vars (up t.kind bl)))) (List.replicate (Az ks' (BS ((t.args[m]).vars (up t.kind bl)))).length true))]⟩:=fun m hm ks'=>by
  have hs2:=zc Tm.full (ZA hm);have:=ih t.args[m] ks' (up t.kind bl) dY dY dY dY (fun p hp=>hix p gD);rw[<-hpl] at this ⊢;exact this
 obtain⟨k0,hk0⟩:∃k0,k0=Az ks (BS (if t.kind=1 then [(t.index,bl)] else [])):=⟨_,rfl⟩;have hk1:t.kind=1->t.index>=bl->k0=w9 (t.index-bl) ks:=fun h1 h2=>by rw[hk0,if_pos h1,Tt,if_pos h2];exact KR _ _
 have hk2:¬(t.kind=1/\t.index>=bl)->k0=ks:=fun h1=>by
  rw[hk0];by_cases h2:t.kind=1
  .rw[if_pos h2,Tt,if_neg (fun h3=>h1 ⟨h2,h3⟩)];rfl
  .rw[if_neg h2];rfl
 have hend:Az ks (BS (t.vars bl))=Az k0 (BS (t.args.flatMap (Tm.vars (up t.kind bl)))):=by rw[hv,Ji,xr,hk0]
 rw[hend];by_cases hv1:t.kind=1/\t.index>=bl
 .have e:=hk1 hv1.1 hv1.2;have hi':=hi hv1.1;refine M.F Tryz.func150 ?_;(repeat' first|refine M.w0 ?_|refine M.gs ?_ ?_<;>intro h|refine M.cs ?_ ?_<;>intro h|fail)
  rotate_left
  .exact kX
  .exfalso;simp at h;exact h hv1.1
  refine M.rt t.args.length
   (fun m=>([(1,.i bl),(2,.mp 0),(3,.ptr 1 0),(23,.s .tm t.args),(24,.i t.args.length),(25,.i m)],⟨2,[(0,.map .bl (Az k0 (BS ((t.args.take m).flatMap (Tm.vars (up t.kind bl))))) (List.replicate (Az k0 (BS ((t.args.take m).flatMap (Tm.vars (up t.kind bl))))).length true)),(1,.var t.view)]⟩))
   ?_ ?_ ?_
  .simp only[ZX,bP,Ny,xl];rw[e];rw[<-vx];exact(M.W AQ)
  .exact kC
  .exact mw
 .have e:=hk2 hv1;refine M.F Tryz.func150 ?_;(repeat' first|refine M.w0 ?_|refine M.gs ?_ ?_<;>intro h|refine M.cs ?_ ?_<;>intro h|fail)
  .rename_i h1';exfalso;exact hv1 ⟨by simpa using h1',ek⟩
  all_goals
   refine M.rt t.args.length
    (fun m=>([(1,.i bl),(2,.mp 0),(3,.ptr 1 0),(23,.s .tm t.args),(24,.i t.args.length),(25,.i m)],⟨2,[(0,.map .bl (Az k0 (BS ((t.args.take m).flatMap (Tm.vars (up t.kind bl))))) (List.replicate (Az k0 (BS ((t.args.take m).flatMap (Tm.vars (up t.kind bl))))).length true)),(1,.var t.view)]⟩))
    ?_ ?_ ?_
   .simp only[ZX,bP,Ny,xl];rw[e];exact(M.W AQ)
   .exact kC
   .exact mw
theorem Yfk(t:Tm)(ht:t.full<549755813888)(hix:t.err=0->∀p∈t.vars 0,0<=p.1/\p.1<9223372036854775808):PC E 265 [.agg t.view] (.AM [.s .int (if t.err=0 then LA t else []),.i t.err]):=by
 have h1:=ua t dY;have hc:t.err=0->_:=fun h=>RQ _ t [] 0 (ZB _) dY dY dY (hix h);have hu:Az [] (BS (t.vars 0))=JH t:=rfl;simp only[Z7,bf,hu] at hc;have hlen:=Yb2 t;have hsz:=t.Ah;have hs:=NO (YX t) dY;have e0:yo (JH t)=LA t:=rfl;rw[e0] at hs;refine M.F Tryz.func265 ?_;(repeat' first|refine M.w1 @h1 ?_|refine M.cb (hc ek) [1] 0 ?_|refine M.cb (hs) [1] 0 ?_|refine M.cs ?_ ?_<;>intro h|fail)
 .have e:¬t.err=0:=ek
  rw[if_neg e];simp[zh,V.wk,V.An];rfl
 .have e:t.err=0:=ek
  rw[if_pos e];simp[zh,V.wk,V.An,e]
theorem vg(k:Int):PC E 179 [.i k] (.AM [.agg (Dq k),.bool (BZ k).isSome]):=by
 by_cases hk:1<=k/\k<=20
 .have:k=1\/k=2\/k=3\/k=4\/k=5\/k=6\/k=7\/k=8\/k=9\/k=10\/k=11\/k=12\/k=13\/k=14\/k=15\/k=16\/k=17\/k=18\/k=19\/k=20:=dY
  rcases this with rfl|rfl|rfl|rfl|rfl|rfl|rfl|rfl|rfl|rfl|rfl|rfl|rfl|rfl|rfl|rfl|rfl|rfl|rfl|rfl;all_goals(refine M.F Tryz.func179 ?_)
  all_goals(refine M.w0 ?_)
  all_goals(first|(refine L.Dx 1 rfl rfl rfl rfl rfl ?_ ?_ rfl ?_;decide;decide)|(refine L.Dx 2 rfl rfl rfl rfl rfl ?_ ?_ rfl ?_;decide;decide)|(refine L.Dx 3 rfl rfl rfl rfl rfl ?_ ?_ rfl ?_;decide;decide)|(refine L.Dx 4 rfl rfl rfl rfl rfl ?_ ?_ rfl ?_;decide;decide)|(refine L.Dx 5 rfl rfl rfl rfl rfl ?_ ?_ rfl ?_;decide;decide)|(refine L.Dx 6 rfl rfl rfl rfl rfl ?_ ?_ rfl ?_;decide;decide)|(refine L.Dx 7 rfl rfl rfl rfl rfl ?_ ?_ rfl ?_;decide;decide)|(refine L.Dx 8 rfl rfl rfl rfl rfl ?_ ?_ rfl ?_;decide;decide)|(refine L.Dx 9 rfl rfl rfl rfl rfl ?_ ?_ rfl ?_;decide;decide)|(refine L.Dx 10 rfl rfl rfl rfl rfl ?_ ?_ rfl ?_;decide;decide)|(refine L.Dx 11 rfl rfl rfl rfl rfl ?_ ?_ rfl ?_;decide;decide)|(refine L.Dx 12 rfl rfl rfl rfl rfl ?_ ?_ rfl ?_;decide;decide)|(refine L.Dx 13 rfl rfl rfl rfl rfl ?_ ?_ rfl ?_;decide;decide)|(refine L.Dx 14 rfl rfl rfl rfl rfl ?_ ?_ rfl ?_;decide;decide)|(refine L.Dx 15 rfl rfl rfl rfl rfl ?_ ?_ rfl ?_;decide;decide)|(refine L.Dx 16 rfl rfl rfl rfl rfl ?_ ?_ rfl ?_;decide;decide)|(refine L.Dx 17 rfl rfl rfl rfl rfl ?_ ?_ rfl ?_;decide;decide)|(refine L.Dx 18 rfl rfl rfl rfl rfl ?_ ?_ rfl ?_;decide;decide)|(refine L.Dx 19 rfl rfl rfl rfl rfl ?_ ?_ rfl ?_;decide;decide)|(refine L.Dx 20 rfl rfl rfl rfl rfl ?_ ?_ rfl ?_;decide;decide))
  all_goals(refine M.w0 ?_)
  all_goals rfl
 .have e:BZ k=none:=by
   unfold BZ
   repeat rw[if_neg dY]
  have e2:Dq k=[.bool false,.bool false,.i 0,.i 0,.i 0,.i 0,.i 0,.i 0]:=by unfold Dq;rw[e]
  rw[e,e2];refine M.F Tryz.func179 ?_;(repeat' first|refine M.w0 ?_|refine M.gs ?_ ?_<;>intro h|refine M.cs ?_ ?_<;>intro h|fail);all_goals first
   |rfl
   |(exfalso;simp at*;omega)
theorem PR(a:Nat)(b:Bool)(n:Nat)(e:Int)(ha:a<=1000000000000)(hn:n<=1000000000000):
 AC E 207 [.ptr 0 0,.i n,.i e] ⟨1,[(0,.var [.i a,.bool b])]⟩ (.bool (e !=2)) ⟨1,[(0,.var [.i ((a+n:Nat):Int),.bool (b||e==4)])]⟩:=by
 rw[aA];cases b with
 |true=>
  exact nr
 |false=>
  exact nr
theorem Ybl:∀(n:Nat) (p:Pf) (s:Tl),p.full<=n->n<274877906944->s.1+p.full<=549755813888->
 AC E 145 [.ptr 0 0,.agg p.view] ⟨1,[(0,.var [.i s.1,.bool s.2])]⟩ (.bool (Ee p s).1) ⟨1,[(0,.var [.i (Ee p s).2.1,.bool (Ee p s).2.2])]⟩:=by
 intro n;induction n with
 |zero=>intro p s h;have:=p.Ac;omega
 |succ n ih=>
 intro p s hsz hn hs;have hsz':=p.Af;have hse:=p.size_eq;have hlen:=zd Pf.full Pf.Ac p.args;have hlen1:=zd Fm.full Fm.Ac p.Aa;have hlen2:=zd Tm.full Tm.Ac p.terms;have hle0:=xh (f:=Tm.size) (g:=Tm.full) p.terms fun x _=>x.Ah;have hle1:=xh (f:=Fm.size) (g:=Fm.full) p.Aa fun x _=>x.Ah;have hle2:=xh (f:=Pf.size) (g:=Pf.full) p.args fun x _=>x.Ah;have hru:=vg p.kind;have he:=V7 p s;cases hnd:BZ p.kind with
 |none=>
  have e2:Dq p.kind=[.bool false,.bool false,.i 0,.i 0,.i 0,.i 0,.i 0,.i 0]:=by unfold Dq;rw[hnd]
  have e:p.Ge=false:=by unfold Pf.Ge;rw[hnd]
  rw[hnd,e2] at hru;rw[if_pos e] at he;rw[he];refine M.F Tryz.func145 ?_;refine M.w1 @hru ?_
  (exact M.n2 Ay (h8:=eM))
 |some nd=>
 cases hty:nd.typ with
 |true=>
  have e2:Dq p.kind=[.bool nd.index,.bool true,.i nd.terms,.i nd.Aa,.i nd.args,.i (Au p.kind),.i (Ap p.kind),.i (Ar p.kind)]:=by unfold Dq;rw[hnd,<-hty]
  rw[hnd,e2] at hru;simp only[an] at hru;by_cases hA:p.Ge=false
  .exact kz
  rw[if_neg hA] at he;rw[cm] at hA;have hA2:=hA;simp only[Pf.Ge,hnd,ZC,aV,decide_eq_true_eq,beq_iff_eq] at hA2;obtain⟨⟨⟨⟨q1,q2⟩,q3⟩,q4⟩,q5⟩:=hA2;have hT:p.Hr=p.ty.ok:=jU
  have hct:=RP p.ty dY;by_cases hx:p.ty.err=0;case neg=>
   have hT2:p.Hr=false:=by
    rw[hT];cases ho:p.ty.ok with
    |false=>rfl
    |true=>exact absurd (Vc ho) hx
   rw[if_pos hT2] at he;rw[he];refine M.F Tryz.func145 ?_;(repeat' first|refine M.o2 @hru @hct ?_|refine M.gs ?_ ?_<;>intro h|refine M.z1 11 ?_|refine M.cs ?_ ?_<;>intro h|refine M.gk ?_|fail);all_goals(try(exfalso;simp_all;done))
   all_goals(try(exfalso;simp_all;omega))
   all_goals(exact M.n2 Ay (h8:=eM))
  have hT2:p.Hr=true:=by
   rw[hT];have:=(Ty.Ad p.ty).1 hx;exact Lt this.1 this.2
  rw[if_neg (by simp[hT2])] at he;rw[hx] at hct;refine M.F Tryz.func145 ?_;(repeat' first|refine M.w2 @hru @hct ?_|refine M.gs ?_ ?_<;>intro h|refine M.cs ?_ ?_<;>intro h|fail);all_goals(try(exfalso;simp_all;done))
  all_goals(try(exfalso;simp_all;omega))
  all_goals
   refine M.rp p.terms.length (fun m=>(Ce (p.terms.take m) (s.1+1,s.2)).1=true)
    (fun m=>([(0,.ptr 0 0),(3,.ptr 1 0),(84,.s .tm p.terms),(85,.i p.terms.length),(86,.i m)],⟨2,[(0,.var [.i ((Ce (p.terms.take m) (s.1+1,s.2)).2.1:Nat),.bool (Ce (p.terms.take m) (s.1+1,s.2)).2.2]),(1,.var p.view)]⟩))
    rfl (M.W AQ) ?_ ?_
   .exact j5
   .exact jY
 |false=>
  have e2:Dq p.kind=[.bool nd.index,.bool false,.i nd.terms,.i nd.Aa,.i nd.args,.i (Au p.kind),.i (Ap p.kind),.i (Ar p.kind)]:=by unfold Dq;rw[hnd,<-hty]
  rw[hnd,e2] at hru;simp only[an] at hru;by_cases hA:p.Ge=false
  .exact kz
  rw[if_neg hA] at he;rw[cm] at hA;have hA2:=hA;simp only[Pf.Ge,hnd,ZC,aV,decide_eq_true_eq,beq_iff_eq] at hA2;obtain⟨⟨⟨⟨q1,q2⟩,q3⟩,q4⟩,q5⟩:=hA2;have hT:p.Hr=p.ty.B3:=jU
  have hct:=Rz p.ty;by_cases hx:p.ty.B3=true;case neg=>
   rw[Bool.not_eq_true] at hx;have hT2:p.Hr=false:=by rw[hT,hx]
   rw[if_pos hT2] at he;rw[he];rw[hx] at hct;refine M.F Tryz.func145 ?_;(repeat' first|refine M.o2 @hru @hct ?_|refine M.gs ?_ ?_<;>intro h|refine M.z1 11 ?_|refine M.cs ?_ ?_<;>intro h|refine M.gk ?_|fail);all_goals(try(exfalso;simp_all;done))
   all_goals(try(exfalso;simp_all;omega))
   all_goals(exact M.n2 Ay (h8:=eM))
  have hT2:p.Hr=true:=by rw[hT,hx]
  rw[if_neg (by simp[hT2])] at he;rw[hx] at hct;refine M.F Tryz.func145 ?_;(repeat' first|refine M.w2 @hru @hct ?_|refine M.gs ?_ ?_<;>intro h|refine M.cs ?_ ?_<;>intro h|fail);all_goals(try(exfalso;simp_all;done))
  all_goals(try(exfalso;simp_all;omega))
  all_goals
   refine M.rp p.terms.length (fun m=>(Ce (p.terms.take m) (s.1+1,s.2)).1=true)
    (fun m=>([(0,.ptr 0 0),(3,.ptr 1 0),(84,.s .tm p.terms),(85,.i p.terms.length),(86,.i m)],⟨2,[(0,.var [.i ((Ce (p.terms.take m) (s.1+1,s.2)).2.1:Nat),.bool (Ce (p.terms.take m) (s.1+1,s.2)).2.2]),(1,.var p.view)]⟩))
    rfl (M.W AQ) ?_ ?_
   .exact j5
   .exact jY
theorem xf(k v h:Int)(nd:Nd)(hnd:BZ k=some nd)(m:Nat)(hm:m<=1000000)(hv:0<=v/\v<=1000000000000)(hh:0<=h/\h<=1000000000000):
 PC E 180 [.agg [.i v,.i h],.agg (Dq k),.i m] (.agg [.i (if(m:Int)=(nd.args:Int)-1 then v+Ap k else v),.i (if(m:Int)=(nd.args:Int)-1 then h+Ar k else h)]):=by
 have e2:Dq k=[.bool nd.index,.bool nd.typ,.i nd.terms,.i nd.Aa,.i nd.args,.i (Au k),.i (Ap k),.i (Ar k)]:=by unfold Dq;rw[hnd]
 have b1:0<=Ap k/\Ap k<=2:=eT
 have b2:0<=Ar k/\Ar k<=1:=eV
 have b3:(nd.args:Int)<=2:=by
  have:nd.args<=2:=by
   unfold BZ at hnd
   repeat(split at hnd;· cases hnd;decide)
   cases hnd
  omega
 rw[e2];by_cases hl:(m:Int)=(nd.args:Int)-1
 .rw[if_pos hl,if_pos hl];refine M.F Tryz.func180 ?_;(repeat' first|refine M.w0 ?_|refine M.cs ?_ ?_<;>intro h|fail);all_goals first
   |rfl
   |(exfalso;simp at h;omega)
   |trace_state
 .rw[if_neg hl,if_neg hl];refine M.F Tryz.func180 ?_;(repeat' first|refine M.w0 ?_|refine M.cs ?_ ?_<;>intro h|fail);all_goals first
   |rfl
   |(exfalso;simp at h;omega)
   |trace_state
end Go.Ab
