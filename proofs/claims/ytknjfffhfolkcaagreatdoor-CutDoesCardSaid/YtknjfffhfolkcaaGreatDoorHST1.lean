/- A part of this seat's proofs. No conditions. -/
import Derived.Test.YtknjfffhfolkcaaGreatDoorHDT1
import Derived.Test.YtknjfffhfolkcaaGreatDoorHS8
namespace Go.Ab
open Go Go.Proofs
set_option maxRecDepth 100000
set_option maxHeartbeats 4000000
set_option linter.all false
def LU(r:Nat):List Int->AF×Aq
 |[]=>([(3,.slice .nil (.t .int [])),(7,.raw (.pointer (some ⟨r,0,none⟩)))],⟨1,[(0,.gone)]⟩)
 |x::d=>([(3,.arr 1 (d.length+1) 1),(7,.raw (.pointer (some ⟨r,0,none⟩)))],⟨2,[(1,.var ((yy (x::d)).flatMap EC.int.view)),(0,.gone)]⟩)
theorem Ybq(r:Nat)(d:List Int)(q:Int):LU r (d++[q])=([(3,.arr 1 (d.length+1) 1),(7,.raw (.pointer (some ⟨r,0,none⟩)))],⟨2,[(1,.var ((yy (d++[q])).flatMap EC.int.view)),(0,.gone)]⟩):=by
 cases d with
 |nil=>rfl
 |cons x d=>simp[LU]
def GJ(r:Nat)(l:List Int)(q:Int)(i:Nat):AF×Aq:=([(3,.arr 1 (l.length+1) 1),(4,.i q),(5,.i i),(7,.raw (.pointer (some ⟨r,0,none⟩)))],⟨2,[(1,.var ((Df (yy l) q i).flatMap EC.int.view)),(0,.gone)]⟩)
theorem VD{ks:List Int}(hnd:ks.Nodup)(hlen:ks.length<549755813888):AC E 180 [.mp 0] ⟨1,[(0,.map .bl ks (List.replicate ks.length true))]⟩ (.s .int (yy ks)) ⟨1,[(0,.map .bl ks (List.replicate ks.length true))]⟩:=by
 refine AC.mk Tryz.func180 rfl rfl rfl rfl rfl (Wz rfl) ?_;repeat'(first|((with_reducible refine D.nil ?_);refine AX.Bd ?_)|((with_reducible refine D.assign ?_);refine L.C6 U U U ?_)|((with_reducible refine D.aw ?_);(fail_if_success with_reducible refine D.EM (id:=2) ?_);(fail_if_success with_reducible refine D.EN (id:=2) ?_);refine K.sq (AW.AV ?_))|with_reducible refine K.tN ?_)
 refine K.sq (AW.Jc (n:=0) (c:= .bl) (ks:=ks) (xs:=List.replicate ks.length true) (kt:=3) (et:=4) (J:=LU) ?_ ?_ ?_ ?_ hnd ?_ ?_ ?_ ?_ ?_ ?_ ?_)
 .rfl
 .rfl
 .exact Nat.lt_succ_self 0
 .kernel_rfl
 .rfl
 .intro r l;cases l<;>rfl
 .intro r l t ht;simp only[WE,WS,or_false] at ht;rcases ht with rfl|rfl|rfl|rfl|rfl<;>cases l<;>rfl
 .intro r l e he;cases l<;>cases he<;>rfl
 .intro r;exact(Bi.mk [some 0] _ _ _ U U U U (by(repeat'(first|exact trivial|refine And.intro ?_ ?_|refine⟨_,U,_,U,?_⟩|exact Ao.refl _));done) (by(repeat'(first|exact trivial|refine And.intro ?_ ?_|exact Eq.refl true));done))
 .intro r l q hl hlk hq hql;have hll:=T0 hl hlk;have hsl:=R4 l;rw[Ybq];have tail:∀(i:Nat),i<=l.length->(∀x∈(yy l).drop i,q<x)->(∀(hi:0<i) (hl:i-1<(yy l).length),(yy l)[i-1]<=q)->((Df (yy l) q i).set i q)=yy (l++[q]):=fun i hi h1 h2=>by
   rw[Zyb (by omega)];exact Zvi h1 h2 (by omega)
  have hE:Df (yy l) q l.length=yy l++[q]:=by rw[<-hsl];exact Zyu _ _
  have hat:∀j (h:j<l.length) (h':j<(Df (yy l) q (j+1)).length),(Df (yy l) q (j+1))[j]=(yy l)[j]'(by omega):=fun j h h'=>Ye0 (by omega) h';have hst:∀j (h:j<l.length),(Df (yy l) q (j+1)).set (j+1) ((yy l)[j]'(by omega))=Df (yy l) q j:=fun j h=>Zxb (by omega);have hln:∀i,i<=l.length->(Df (yy l) q i).length=l.length+1:=fun i hi=>by rw[Zyp (by omega),hsl]
  cases l with
  |nil=>
   repeat'(first|((with_reducible refine D.nil ?_);refine AX.Bd ?_)|((with_reducible refine D.move ?_);refine L.mv U U U ?_)|((with_reducible refine D.assign ?_);refine L.C6 U U U ?_)|((with_reducible refine D.call ?_);refine L.LJ U U U U ?_)|((with_reducible refine D.aw ?_);(fail_if_success with_reducible refine D.EM (id:=6) ?_);(fail_if_success with_reducible refine D.EN (id:=6) ?_);refine K.sq (AW.AV ?_))|with_reducible refine K.tN ?_)
   refine K.sq (AW.AV ?_);refine L.mv rfl rfl rfl ?_;refine L.mv rfl rfl rfl ?_;refine L.JP rfl rfl rfl rfl rfl (EC.BC rfl) rfl rfl ?_;refine L.KO (te:=3) (e:= .int) (l:=[q]) rfl rfl rfl rfl (by kernel_rfl) rfl rfl rfl rfl (by simp) (by simp) ?_;repeat'(first|((with_reducible refine D.nil ?_);refine AX.Bd ?_)|((with_reducible refine D.assign ?_);refine L.C6 U U U ?_)|with_reducible refine K.tN ?_)
   refine K.sq (AW.block (AW.loop (ι:={i:Nat // i<=0/\∀x∈(yy []).drop i,q<x}) (fun i=>GJ r [] q i.1) (fun i=>i.1) ⟨0,Wj _,by simp[NC]⟩ ?_ ?_))
   .show Bi _ _ _ _ _ (GJ r [] q 0).1 (GJ r [] q 0).2;simp only[GJ];rw[show Df (yy []) q 0=[q] from hE.trans (by rw[NC];rfl)];exact(Bi.mk [some 0,some 1] _ _ _ U U U U (by(repeat'(first|exact trivial|refine And.intro ?_ ?_|refine⟨_,U,_,U,?_⟩|exact Ao.refl _));done) (by(repeat'(first|exact trivial|refine And.intro ?_ ?_|refine⟨_,U,_,U,_,U,?_⟩|exact Ao.refl _|exact Eq.refl true));done))
   .rintro ⟨i,hi,h1⟩;obtain rfl:i=0:=by omega
    repeat'(first|((with_reducible refine D.nil ?_);refine AX.Bd ?_)|((with_reducible refine D.load ?_);refine AX.sk U U ?_)|((with_reducible refine D.move ?_);first|refine L.mv U U U ?_|refine AX.sk U U ?_)|((with_reducible refine D.bin ?_);first|refine L.bn U U U U U ?_|refine AX.sk U U ?_)|((with_reducible refine D.indexAddr ?_);refine AX.sk U U ?_)|((with_reducible refine D.pick ?_);refine L.pk U U U U ?_)|((with_reducible refine D.aw ?_);first|refine K.sq (K.sq ?_)|refine AW.AV ?_|refine AW.B6 U ?_|refine AW.exit ?_)|with_reducible refine K.tN ?_|with_reducible refine K.tE ?_|with_reducible refine K.bX (by with_unfolding_all rfl) ?_|with_reducible refine K.lE ?_)
    refine L.Ev 0 rfl rfl rfl rfl rfl (by decide) rfl ?_;refine L.sta (c:= .int) (l:=Df (yy []) q 0) (u:=q) 0 rfl rfl rfl rfl rfl rfl rfl rfl (by rw[hln 0 (Wj _)];decide) rfl ?_;repeat'(first|((with_reducible refine D.nil ?_);refine AX.Bd ?_))
    refine⟨rfl,?_⟩;simp only[tail 0 (Wj _) h1 (fun h=>absurd h (by decide))];exact(Bi.mk [some 0,some 1] _ _ _ U U U U (by(repeat'(first|exact trivial|refine And.intro ?_ ?_|refine⟨_,U,_,U,?_⟩|exact Ao.refl _));done) (by(repeat'(first|exact trivial|refine And.intro ?_ ?_|exact Bp.refl _|exact Eq.refl true|refine⟨_,U,_,xu _ _ _,_,U,?_⟩));done))
  |cons x d=>
   skip;refine K.sq (AW.AV ?_);refine L.mv rfl rfl rfl ?_;refine L.lnR rfl rfl rfl rfl ?_;repeat'(first|((with_reducible refine D.nil ?_);refine AX.Bd ?_)|((with_reducible refine D.assign ?_);refine L.C6 U U U ?_)|with_reducible refine K.tN ?_)
   refine K.sq (AW.AV ?_);refine L.mv rfl rfl rfl ?_;refine L.mv rfl rfl rfl ?_;refine L.JP rfl rfl rfl rfl rfl (EC.BC rfl) rfl rfl ?_;refine L.apR (te:=3) (e:= .int) (l:=[q]) rfl rfl rfl rfl (by kernel_rfl) rfl rfl (by rw[HX,hsl];rfl) rfl rfl rfl (by simp) (by simp only[Wy,W3] at hll ⊢;omega) ?_;rw[<-List.flatMap_append];repeat'(first|((with_reducible refine D.nil ?_);refine AX.Bd ?_)|((with_reducible refine D.assign ?_);refine L.C6 U U U ?_)|with_reducible refine K.tN ?_)
   refine K.sq (AW.block (AW.loop (ι:={i:Nat // i<=(x::d).length/\∀y∈(yy (x::d)).drop i,q<y}) (fun i=>GJ r (x::d) q i.1) (fun i=>i.1) ⟨(x::d).length,Wj _,by rw[<-hsl,List.drop_length];intro y hy;cases hy⟩ ?_ ?_))
   .show Bi _ _ _ _ _ (GJ r (x::d) q (x::d).length).1 (GJ r (x::d) q (x::d).length).2;simp only[GJ];rw[hE];exact(Bi.mk [some 0,some 2] _ _ _ U U U U (by(repeat'(first|exact trivial|refine And.intro ?_ ?_|refine⟨_,U,_,U,?_⟩|exact Ao.refl _));done) (by(repeat'(first|exact trivial|refine And.intro ?_ ?_|exact Bp.refl _|exact Eq.refl true|refine⟨_,U,_,xu _ _ _,_,U,?_⟩));done))
   .rintro ⟨i,hi,h1⟩;cases i with
    |zero=>
     repeat'(first|((with_reducible refine D.nil ?_);refine AX.Bd ?_)|((with_reducible refine D.load ?_);refine AX.sk U U ?_)|((with_reducible refine D.move ?_);first|refine L.mv U U U ?_|refine AX.sk U U ?_)|((with_reducible refine D.bin ?_);first|refine L.bn U U U U U ?_|refine AX.sk U U ?_)|((with_reducible refine D.indexAddr ?_);refine AX.sk U U ?_)|((with_reducible refine D.pick ?_);refine L.pk U U U U ?_)|((with_reducible refine D.aw ?_);first|refine K.sq (K.sq ?_)|refine AW.AV ?_|refine AW.B6 U ?_|refine AW.exit ?_)|with_reducible refine K.tN ?_|with_reducible refine K.tE ?_|with_reducible refine K.bX (by with_unfolding_all rfl) ?_|with_reducible refine K.lE ?_)
     refine L.Ev 0 rfl rfl rfl rfl rfl (Nat.succ_pos _) rfl ?_;refine L.sta (c:= .int) (l:=Df (yy (x::d)) q 0) (u:=q) 0 rfl rfl rfl rfl rfl rfl rfl rfl (by rw[hln 0 (XE _)];exact Nat.succ_pos _) rfl ?_;repeat'(first|((with_reducible refine D.nil ?_);refine AX.Bd ?_))
     refine⟨rfl,?_⟩;simp only[tail 0 (XE _) h1 (fun h=>absurd h (by decide))];exact(Bi.mk [some 0,some 1] _ _ _ U U U U (by(repeat'(first|exact trivial|refine And.intro ?_ ?_|refine⟨_,U,_,U,?_⟩|exact Ao.refl _));done) (by(repeat'(first|exact trivial|refine And.intro ?_ ?_|exact Bp.refl _|exact Eq.refl true|refine⟨_,U,_,xu _ _ _,_,U,?_⟩));done))
    |succ i=>
     have hi':i<(x::d).length:=by omega
     have hsi:i<(yy (x::d)).length:=by omega
     have hdl:(x::d).length=d.length+1:=rfl;have hl0:=hln (i+1) hi;have hl1:i<(Df (yy (x::d)) q (i+1)).length:=by omega
     have ha:=hat i hi' hl1;have hs:=hst i hi';show AW _ _ _ _ (GJ r (x::d) q (i+1)).1 (GJ r (x::d) q (i+1)).2 _;repeat'(first|((with_reducible refine D.nil ?_);refine AX.Bd ?_)|((with_reducible refine D.load ?_);refine AX.sk U U ?_)|((with_reducible refine D.move ?_);first|refine L.mv U U U ?_|refine AX.sk U U ?_|((fail_if_success refine AX.wt U ?_);refine AX.gs U U (fun _=>trivial) (fun h=> ?_) (fun h=> ?_)))|((with_reducible refine D.bin ?_);first|refine L.sb U U U U (by omega) ?_|refine L.bn U U U U U ?_|refine AX.sk U U ?_)|((with_reducible refine D.indexAddr ?_);refine AX.sk U U ?_)|((with_reducible refine D.pick ?_);refine L.pk U U U U ?_)|((with_reducible refine D.aw ?_);first|refine K.sq (K.sq ?_)|refine AW.AV ?_|refine AW.B6 U ?_|refine AW.exit ?_)|with_reducible refine K.tN ?_|with_reducible refine K.tE ?_|with_reducible refine K.bX (by with_unfolding_all rfl) ?_|with_reducible refine K.lE ?_)
     .refine L.Ev i rfl rfl rfl rfl (by simp) (by omega) rfl ?_;refine L.Ur (c:= .int) (l:=Df (yy (x::d)) q (i+1)) i rfl rfl rfl rfl rfl hl1 rfl rfl rfl ?_;rw[ha];repeat'(first|((with_reducible refine D.nil ?_);refine AX.Bd ?_)|((with_reducible refine D.move ?_);refine L.mv U U U ?_)|((with_reducible refine D.bin ?_);refine L.bn U U U U U ?_)|((with_reducible refine D.pick ?_);refine L.pk U U U U ?_)|((with_reducible refine D.aw ?_);first|refine AW.AV ?_|refine AW.Dq U (fun h=> ?_) (fun h=> ?_)|refine AW.skip ?_|refine AW.exit ?_)|with_reducible refine K.tN ?_|with_reducible refine K.tE ?_|with_reducible refine K.bX (by with_unfolding_all rfl) ?_|with_reducible refine K.lE ?_)
      .have hgt:q<(yy (x::d))[i]:=by simpa using h
       repeat'(first|((with_reducible refine D.move ?_);refine L.mv U U U ?_)|((with_reducible refine D.bin ?_);refine L.sb U U U U (by omega) ?_)|((with_reducible refine D.aw ?_);first|((with_reducible refine D.blk ?_);refine AW.block ?_)|refine K.sq (AW.AV ?_)))
       refine L.Ev i rfl rfl rfl rfl (by simp) (by omega) rfl ?_;refine L.Ur (c:= .int) (l:=Df (yy (x::d)) q (i+1)) i rfl rfl rfl rfl rfl hl1 rfl rfl rfl ?_;rw[ha];refine L.Ev (i+1) rfl rfl rfl rfl rfl (by omega) rfl ?_;refine L.sta (c:= .int) (l:=Df (yy (x::d)) q (i+1)) (u:=(yy (x::d))[i]) (i+1) rfl rfl rfl rfl rfl rfl rfl rfl (by omega) rfl ?_;rw[hs];repeat'(first|((with_reducible refine D.nil ?_);refine AX.Bd ?_)|((with_reducible refine D.move ?_);refine L.mv U U U ?_)|((with_reducible refine D.assign ?_);refine L.C6 U U U ?_)|((with_reducible refine D.bin ?_);refine L.sb U U U U (by omega) ?_)|((with_reducible refine D.aw ?_);refine AW.AV ?_)|with_reducible refine K.tN ?_|with_reducible refine K.bN ?_)
       refine⟨⟨i,by omega,fun y hy=> ?_⟩,by show i<i+1;omega,?_⟩
       .rw[Yj hsi] at hy;rcases WE.1 hy with rfl|hy
        .exact hgt
        .exact h1 y hy
       .simp only[GJ,show(((i+1:Nat):Int)-1)=(i:Int) by omega];exact(Bi.mk [some 0,some 1] _ _ _ U U U U (by(repeat'(first|exact trivial|refine And.intro ?_ ?_|refine⟨_,U,_,U,?_⟩|exact Ao.refl _));done) (by(repeat'(first|exact trivial|refine And.intro ?_ ?_|exact Bp.refl _|exact Eq.refl true|refine⟨_,U,_,xu _ _ _,_,U,?_⟩));done))
      .have hle:(yy (x::d))[i]<=q:=by simpa using h
       refine L.Ev (i+1) rfl rfl rfl rfl rfl (by omega) rfl ?_;refine L.sta (c:= .int) (l:=Df (yy (x::d)) q (i+1)) (u:=q) (i+1) rfl rfl rfl rfl rfl rfl rfl rfl (by omega) rfl ?_;repeat'(first|((with_reducible refine D.nil ?_);refine AX.Bd ?_))
       refine⟨rfl,?_⟩;simp only[tail (i+1) hi h1 (fun _ _=>hle)];exact(Bi.mk [some 0,some 1] _ _ _ U U U U (by(repeat'(first|exact trivial|refine And.intro ?_ ?_|refine⟨_,U,_,U,?_⟩|exact Ao.refl _));done) (by(repeat'(first|exact trivial|refine And.intro ?_ ?_|exact Bp.refl _|exact Eq.refl true|refine⟨_,U,_,xu _ _ _,_,U,?_⟩));done))
     .exfalso;simp at h
 .intro r l hp;cases l with
  |nil=>
   have hk0:ks=[]:=by simpa using hp.symm.eq_nil
   subst hk0;simp only[LU,NC];repeat'(first|((with_reducible refine D.nil ?_);refine AX.Bd ?_)|((with_reducible refine D.move ?_);refine L.mv U U U ?_)|((with_reducible refine D.assign ?_);refine L.C6 U U U ?_)|((with_reducible refine D.aw ?_);first|refine K.sq (AW.AV ?_)|refine AW.ret ?_)|with_reducible refine K.tN ?_)
   (exact K.n2 [some 0] U U U U U (by(repeat'(first|exact trivial|refine And.intro ?_ ?_|refine⟨_,U,_,_,U,?_,?_⟩|with_reducible exact rfl));done) U (by simp[zk,V.wk,V.Ap,zc,Ty.view,Tm.view,NC]))
  |cons x d=>
   have hk0:yy (x::d)=yy ks:=Zka hp;simp only[LU,hk0];refine AW.BQ (c:= .int) 1 (d.length+1) (yy ks) U (by rw[<-hk0,R4];rfl) (by(repeat'(first|exact trivial|exact fun _=>rfl|exact fun h=>absurd U h|exact fun h=>absurd h (by decide)|refine And.intro ?_ ?_|intro _));done) (by(repeat'(first|exact trivial|exact fun _=>rfl|exact fun h=>absurd U h|exact fun h=>absurd h (by decide)|refine And.intro ?_ ?_|intro _));done) ?_;repeat'(first|((with_reducible refine D.nil ?_);refine AX.Bd ?_)|((with_reducible refine D.move ?_);refine L.mv U U U ?_)|((with_reducible refine D.assign ?_);refine L.C6 U U U ?_)|((with_reducible refine D.aw ?_);first|refine K.sq (AW.AV ?_)|refine AW.ret ?_)|with_reducible refine K.tN ?_)
   (exact K.n2 [some 0] U U U U U (by(repeat'(first|exact trivial|refine And.intro ?_ ?_|refine⟨_,U,_,_,U,?_,?_⟩|with_reducible exact rfl));done) U (by simp[zk,V.wk,V.Ap,zc,Ty.view,Tm.view,V.BQ]))
theorem Ydf:∀(n:Nat) (t:Tm) (ks:List Int) (bl:Int),t.full<=n->n<1099511627776->0<=bl->bl+n<1099511627776->(∀p∈t.vars bl,0<=p.1/\p.1<9223372036854775808)->
 AC E 246 [.agg t.view,.i bl,.mp 0] ⟨1,[(0,.map .bl ks (List.replicate ks.length true))]⟩ (.AD []) ⟨1,[(0,.map .bl (Cw ks (Dt (t.vars bl))) (List.replicate (Cw ks (Dt (t.vars bl))).length true))]⟩:=by
 intro n;induction n with
 |zero=>intro t b bl h;have:=t.Aa;omega
 |succ n ih=>
 intro t ks bl hsz hb hbl hbn hix;have hsz':=Tm.Af t;have hlen:=zd Tm.full Tm.Aa t.args;have hv:=Tm.AP bl t;have hbe:=Kh t;have hup:=LP t.kind bl;have hpl:=KE t.kind bl;have hi:t.kind=1->0<=t.index/\t.index<9223372036854775808:=fun h=>by simpa using hix (t.index,bl) (by rw[hv];simp[h])
 have loopE:∀m (hm:m<t.args.length) ks',AC E 246 [.agg (t.args[m]).view,.i (bl+up t.kind 0),.mp 0] ⟨1,[(0,.map .bl ks' (List.replicate ks'.length true))]⟩ (.AD []) ⟨1,[(0,.map .bl (Cw ks' (Dt ((t.args[m]).vars (up t.kind bl)))) (List.replicate (Cw ks' (Dt ((t.args[m]).vars (up t.kind bl)))).length true))]⟩:=fun m hm ks'=>by
  have hs2:=za Tm.full (Wi hm);have:=ih t.args[m] ks' (up t.kind bl) (by omega) (by omega) (by omega) (by omega) (fun p hp=>hix p (by rw[hv];exact W7 _ (WL.2 ⟨_,Wi hm,hp⟩)));rw[<-hpl] at this ⊢;exact this
 obtain⟨k0,hk0⟩:∃k0,k0=Cw ks (Dt (if t.kind=1 then [(t.index,bl)] else [])):=⟨_,rfl⟩;have hk1:t.kind=1->t.index>=bl->k0=ur (t.index-bl) ks:=fun h1 h2=>by rw[hk0,if_pos h1,VQ,if_pos h2];exact TE _ _
 have hk2:¬(t.kind=1/\t.index>=bl)->k0=ks:=fun h1=>by
  rw[hk0];by_cases h2:t.kind=1
  .rw[if_pos h2,VQ,if_neg (fun h3=>h1 ⟨h2,h3⟩)];rfl
  .rw[if_neg h2];rfl
 have hend:Cw ks (Dt (t.vars bl))=Cw k0 (Dt (t.args.flatMap (Tm.vars (up t.kind bl)))):=by rw[hv,Q7,Nn,hk0]
 rw[hend];by_cases hv1:t.kind=1/\t.index>=bl
 .have e:=hk1 hv1.1 hv1.2;have hi':=hi hv1.1;refine M.F Tryz.func246 ?_;(repeat' first|refine M.gw ?_|refine M.gs ?_ ?_<;>intro h|refine M.cs ?_ ?_<;>intro h|fail)
  rotate_left
  .exfalso;simp at h;omega
  .exfalso;simp at h;exact h hv1.1
  refine AW.range t.args.length (fun m=>True)
   (fun m=>([(1,.i bl),(2,.mp 0),(3,.ptr 1 0),(23,.s .tm t.args),(24,.i t.args.length),(25,.i m)],⟨2,[(0,.map .bl (Cw k0 (Dt ((t.args.take m).flatMap (Tm.vars (up t.kind bl))))) (List.replicate (Cw k0 (Dt ((t.args.take m).flatMap (Tm.vars (up t.kind bl))))).length true)),(1,.var t.view)]⟩))
   (by omega) (fun m=>rfl) (fun m=>rfl) rfl trivial ?_ ?_ ?_
  .simp only[WX,Y4,TA,Ms];rw[e];rw[<-OM];exact(M.W [some 0,some 1])
  .intro m hm hP;have hc:=loopE m hm (Cw k0 (Dt ((t.args.take m).flatMap (Tm.vars (up t.kind bl)))));(repeat' first|refine M.gw ?_|refine M.c2 (hbe) ?_|refine M.cb (hc) [0] 0 ?_|fail);refine⟨rfl,trivial,?_⟩;exact(M.W [some 0,some 1] (he:=(by(repeat'(first|exact trivial|refine And.intro ?_ ?_|refine⟨_,U,_,U,_,U,?_⟩|exact Ao.refl _|refine⟨_,U,_,_,U,?_,?_⟩|(simp[Aq.Ay,Q7,Nn,JN _ _ _ hm];done)));done)))
  .intro hP;simp only[Wp];skip
   (exact M.n2 [some 0] (h8:=(by simp[zk,V.wk,V.Ap,zc,Ty.view,Tm.view,V.BQ])))
 .have e:=hk2 hv1;refine M.F Tryz.func246 ?_;(repeat' first|refine M.gw ?_|refine M.gs ?_ ?_<;>intro h|refine M.cs ?_ ?_<;>intro h|fail)
  .rename_i h1';exfalso;exact hv1 ⟨by simpa using h1',by simpa using h⟩
  all_goals
   refine AW.range t.args.length (fun m=>True)
    (fun m=>([(1,.i bl),(2,.mp 0),(3,.ptr 1 0),(23,.s .tm t.args),(24,.i t.args.length),(25,.i m)],⟨2,[(0,.map .bl (Cw k0 (Dt ((t.args.take m).flatMap (Tm.vars (up t.kind bl))))) (List.replicate (Cw k0 (Dt ((t.args.take m).flatMap (Tm.vars (up t.kind bl))))).length true)),(1,.var t.view)]⟩))
    (by omega) (fun m=>rfl) (fun m=>rfl) rfl trivial ?_ ?_ ?_
   .simp only[WX,Y4,TA,Ms];rw[e];exact(M.W [some 0,some 1])
   .intro m hm hP;have hc:=loopE m hm (Cw k0 (Dt ((t.args.take m).flatMap (Tm.vars (up t.kind bl)))));(repeat' first|refine M.gw ?_|refine M.c2 (hbe) ?_|refine M.cb (hc) [0] 0 ?_|fail);refine⟨rfl,trivial,?_⟩;exact(M.W [some 0,some 1] (he:=(by(repeat'(first|exact trivial|refine And.intro ?_ ?_|refine⟨_,U,_,U,_,U,?_⟩|exact Ao.refl _|refine⟨_,U,_,_,U,?_,?_⟩|(simp[Aq.Ay,Q7,Nn,JN _ _ _ hm];done)));done)))
   .intro hP;simp only[Wp];skip
    (exact M.n2 [some 0] (h8:=(by simp[zk,V.wk,V.Ap,zc,Ty.view,Tm.view,V.BQ])))
theorem Yd8(t:Tm)(ht:t.full<549755813888)(hix:t.err=0->∀p∈t.vars 0,0<=p.1/\p.1<9223372036854775808):PC E 216 [.agg t.view] (.AD [.s .int (if t.err=0 then JG t else []),.i t.err]):=by
 have h1:=wx t (by omega);have hc:t.err=0->_:=fun h=>Ydf _ t [] 0 (Wj _) (by omega) (by omega) (by omega) (hix h);have hu:Cw [] (Dt (t.vars 0))=HQ t:=rfl;simp only[W3,List.replicate_zero,hu] at hc;have hlen:=Zz5 t;have hsz:=t.Aj;have hs:=VD (TP t) (by omega);have e0:yy (HQ t)=JG t:=rfl;rw[e0] at hs;refine M.F Tryz.func216 ?_;(repeat' first|refine M.gw ?_|refine M.c2 (h1) ?_|refine M.cb (hc (by simpa using h)) [1] 0 ?_|refine M.cb (hs) [1] 0 ?_|refine M.cs ?_ ?_<;>intro h|fail)
 .have e:¬t.err=0:=by simpa using h
  rw[if_neg e];simp[zk,V.wk,V.Ap];rfl
 .have e:t.err=0:=by simpa using h
  rw[if_pos e];simp[zk,V.wk,V.Ap,e]
theorem vd(k:Int):PC E 130 [.i k] (.AD [.agg (C0 k),.bool (BD k).isSome]):=by
 by_cases hk:1<=k/\k<=20
 .have:k=1\/k=2\/k=3\/k=4\/k=5\/k=6\/k=7\/k=8\/k=9\/k=10\/k=11\/k=12\/k=13\/k=14\/k=15\/k=16\/k=17\/k=18\/k=19\/k=20:=by omega
  rcases this with rfl|rfl|rfl|rfl|rfl|rfl|rfl|rfl|rfl|rfl|rfl|rfl|rfl|rfl|rfl|rfl|rfl|rfl|rfl|rfl;all_goals(refine M.F Tryz.func130 ?_)
  all_goals(repeat'(first|refine M.gw ?_|fail))
  all_goals(first|(refine L.CT 1 rfl rfl rfl rfl rfl ?_ ?_ rfl ?_;decide;decide)|(refine L.CT 2 rfl rfl rfl rfl rfl ?_ ?_ rfl ?_;decide;decide)|(refine L.CT 3 rfl rfl rfl rfl rfl ?_ ?_ rfl ?_;decide;decide)|(refine L.CT 4 rfl rfl rfl rfl rfl ?_ ?_ rfl ?_;decide;decide)|(refine L.CT 5 rfl rfl rfl rfl rfl ?_ ?_ rfl ?_;decide;decide)|(refine L.CT 6 rfl rfl rfl rfl rfl ?_ ?_ rfl ?_;decide;decide)|(refine L.CT 7 rfl rfl rfl rfl rfl ?_ ?_ rfl ?_;decide;decide)|(refine L.CT 8 rfl rfl rfl rfl rfl ?_ ?_ rfl ?_;decide;decide)|(refine L.CT 9 rfl rfl rfl rfl rfl ?_ ?_ rfl ?_;decide;decide)|(refine L.CT 10 rfl rfl rfl rfl rfl ?_ ?_ rfl ?_;decide;decide)|(refine L.CT 11 rfl rfl rfl rfl rfl ?_ ?_ rfl ?_;decide;decide)|(refine L.CT 12 rfl rfl rfl rfl rfl ?_ ?_ rfl ?_;decide;decide)|(refine L.CT 13 rfl rfl rfl rfl rfl ?_ ?_ rfl ?_;decide;decide)|(refine L.CT 14 rfl rfl rfl rfl rfl ?_ ?_ rfl ?_;decide;decide)|(refine L.CT 15 rfl rfl rfl rfl rfl ?_ ?_ rfl ?_;decide;decide)|(refine L.CT 16 rfl rfl rfl rfl rfl ?_ ?_ rfl ?_;decide;decide)|(refine L.CT 17 rfl rfl rfl rfl rfl ?_ ?_ rfl ?_;decide;decide)|(refine L.CT 18 rfl rfl rfl rfl rfl ?_ ?_ rfl ?_;decide;decide)|(refine L.CT 19 rfl rfl rfl rfl rfl ?_ ?_ rfl ?_;decide;decide)|(refine L.CT 20 rfl rfl rfl rfl rfl ?_ ?_ rfl ?_;decide;decide))
  all_goals(repeat'(first|refine M.gw ?_|fail))
  all_goals rfl
 .have e:BD k=none:=by
   unfold BD
   repeat rw[if_neg (by omega)]
  have e2:C0 k=[.bool false,.bool false,.i 0,.i 0,.i 0,.i 0,.i 0,.i 0]:=by unfold C0;rw[e]
  rw[e,e2];refine M.F Tryz.func130 ?_;(repeat' first|refine M.gw ?_|refine M.gs ?_ ?_<;>intro h|refine M.cs ?_ ?_<;>intro h|fail);all_goals first
   |rfl
   |(exfalso;simp at*;omega)
end Go.Ab
