/- A part of the proofs of this seat. No conditions. -/
import Derived.Test.YtpnbmjgblakifaaGreatDoorDT1
import Derived.Test.YtpnbmjgblakifaaGreatDoorS5
namespace Go.Ab
open Go Go.Proofs
set_option maxRecDepth 100000
set_option maxHeartbeats 4000000
set_option linter.all false
def Mj(r:Nat):List Int->AF×Ao
 |[]=>([(3,.slice .nil (.t .int [])),(7,.raw (.pointer (some ⟨r,0,none⟩)))],⟨1,[(0,.gone)]⟩)
 |x::d=>([(3,.arr 1 (d.length+1) 1),(7,.raw (.pointer (some ⟨r,0,none⟩)))],⟨2,[(1,.var ((yj (x::d)).flatMap EC.int.view)),(0,.gone)]⟩)
theorem Ybb(r:Nat)(d:List Int)(q:Int):Mj r (d++[q])=([(3,.arr 1 (d.length+1) 1),(7,.raw (.pointer (some ⟨r,0,none⟩)))],⟨2,[(1,.var ((yj (d++[q])).flatMap EC.int.view)),(0,.gone)]⟩):=by
 cases d with
 |nil=>rfl
 |cons x d=>simp[Mj]
def GY(r:Nat)(l:List Int)(q:Int)(i:Nat):AF×Ao:=([(3,.arr 1 (l.length+1) 1),(4,.i q),(5,.i i),(7,.raw (.pointer (some ⟨r,0,none⟩)))],⟨2,[(1,.var ((Db (yj l) q i).flatMap EC.int.view)),(0,.gone)]⟩)
theorem VS{ks:List Int}(hnd:ks.Nodup)(hlen:ks.length<549755813888):AC E 238 [.mp 0] ⟨1,[(0,.map .bl ks (List.replicate ks.length true))]⟩ (.s .int (yj ks)) ⟨1,[(0,.map .bl ks (List.replicate ks.length true))]⟩:=by
 refine AC.mk Tryz.func238 rfl rfl rfl rfl rfl (Nat.le_of_ble_eq_true rfl) ?_;repeat'(first|((with_reducible refine D.nil ?_);refine AX.Bd ?_)|((with_reducible refine D.assign ?_);refine L.CW U U U ?_)|((with_reducible refine D.aw ?_);(fail_if_success with_reducible refine D.EZ (id:=2) ?_);(fail_if_success with_reducible refine D.E7 (id:=2) ?_);refine K.sq (AW.AU ?_))|with_reducible refine K.tN ?_)
 refine K.sq (AW.JC (n:=0) (c:= .bl) (ks:=ks) (xs:=List.replicate ks.length true) (kt:=3) (et:=4) (J:=Mj) ?_ ?_ ?_ ?_ hnd ?_ ?_ ?_ ?_ ?_ ?_ ?_)
 ·rfl
 ·rfl
 ·exact Nat.lt_succ_self 0
 ·kernel_rfl
 ·rfl
 ·intro r l;cases l<;>rfl
 ·intro r l t ht;simp only[List.mem_cons,List.not_mem_nil,or_false] at ht;rcases ht with rfl|rfl|rfl|rfl|rfl<;>cases l<;>rfl
 ·intro r l e he;cases l<;>cases he<;>rfl
 ·intro r;exact(Bk.mk [some 0] _ _ _ U U U U (by(repeat'(first|exact trivial|refine And.intro ?_ ?_|refine⟨_,U,_,U,?_⟩|exact An.refl _));done) (by(repeat'(first|exact trivial|refine And.intro ?_ ?_|exact Eq.refl true));done))
 ·intro r l q hl hlk hq hql;have hll:=WB hl hlk;have hsl:=Wh l;rw[Ybb];have tail:∀(i:Nat),i<=l.length->(∀x∈(yj l).drop i,q<x)->(∀(hi:0<i) (hl:i-1<(yj l).length),(yj l)[i-1]<=q)->((Db (yj l) q i).set i q)=yj (l++[q]):=fun i hi h1 h2=>by
   rw[Zws (by omega)];exact Zuk h1 h2 (by omega)
  have hE:Db (yj l) q l.length=yj l++[q]:=by rw[<-hsl];exact Ya5 _ _
  have hat:∀j (h:j<l.length) (h':j<(Db (yj l) q (j+1)).length),(Db (yj l) q (j+1))[j]=(yj l)[j]'(by omega):=fun j h h'=>Ydn (by omega) h';have hst:∀j (h:j<l.length),(Db (yj l) q (j+1)).set (j+1) ((yj l)[j]'(by omega))=Db (yj l) q j:=fun j h=>Zx5 (by omega);have hln:∀i,i<=l.length->(Db (yj l) q i).length=l.length+1:=fun i hi=>by rw[Zzq (by omega),hsl]
  cases l with
  |nil=>
   repeat'(first|((with_reducible refine D.nil ?_);refine AX.Bd ?_)|((with_reducible refine D.move ?_);refine L.mv U U U ?_)|((with_reducible refine D.assign ?_);refine L.CW U U U ?_)|((with_reducible refine D.call ?_);refine L.JE U U U U ?_)|((with_reducible refine D.aw ?_);(fail_if_success with_reducible refine D.EZ (id:=6) ?_);(fail_if_success with_reducible refine D.E7 (id:=6) ?_);refine K.sq (AW.AU ?_))|with_reducible refine K.tN ?_)
   refine K.sq (AW.AU ?_);refine L.mv rfl rfl rfl ?_;refine L.mv rfl rfl rfl ?_;refine L.Hu rfl rfl rfl rfl rfl (EC.AG rfl) rfl rfl ?_;refine L.N2 (te:=3) (e:= .int) (l:=[q]) rfl rfl rfl rfl (by kernel_rfl) rfl rfl rfl rfl (by simp) (by simp) ?_;repeat'(first|((with_reducible refine D.nil ?_);refine AX.Bd ?_)|((with_reducible refine D.assign ?_);refine L.CW U U U ?_)|with_reducible refine K.tN ?_)
   refine K.sq (AW.block (AW.loop (ι:={i:Nat // i<=0/\∀x∈(yj []).drop i,q<x}) (fun i=>GY r [] q i.1) (fun i=>i.1) ⟨0,Nat.le_refl _,by simp[OH]⟩ ?_ ?_))
   ·show Bk _ _ _ _ _ (GY r [] q 0).1 (GY r [] q 0).2;simp only[GY];rw[show Db (yj []) q 0=[q] from hE.trans (by rw[OH];rfl)];exact(Bk.mk [some 0,some 1] _ _ _ U U U U (by(repeat'(first|exact trivial|refine And.intro ?_ ?_|refine⟨_,U,_,U,?_⟩|exact An.refl _));done) (by(repeat'(first|exact trivial|refine And.intro ?_ ?_|refine⟨_,U,_,U,_,U,?_⟩|exact An.refl _|exact Eq.refl true));done))
   ·rintro ⟨i,hi,h1⟩;obtain rfl:i=0:=by omega
    repeat'(first|((with_reducible refine D.nil ?_);refine AX.Bd ?_)|((with_reducible refine D.load ?_);refine AX.sk U U ?_)|((with_reducible refine D.move ?_);first|refine L.mv U U U ?_|refine AX.sk U U ?_)|((with_reducible refine D.bin ?_);first|refine L.bn U U U U U ?_|refine AX.sk U U ?_)|((with_reducible refine D.indexAddr ?_);refine AX.sk U U ?_)|((with_reducible refine D.pick ?_);refine L.pk U U U U ?_)|((with_reducible refine D.aw ?_);first|refine K.sq (K.sq ?_)|refine AW.AU ?_|refine AW.BT U ?_|refine AW.exit ?_)|with_reducible refine K.tN ?_|with_reducible refine K.tE ?_|with_reducible refine K.bX (by with_unfolding_all rfl) ?_|with_reducible refine K.lE ?_)
    refine L.DB 0 rfl rfl rfl rfl rfl (by decide) rfl ?_;refine L.sta (c:= .int) (l:=Db (yj []) q 0) (u:=q) 0 rfl rfl rfl rfl rfl rfl rfl rfl (by rw[hln 0 (Nat.le_refl _)];decide) rfl ?_;repeat'(first|((with_reducible refine D.nil ?_);refine AX.Bd ?_))
    refine⟨rfl,?_⟩;simp only[tail 0 (Nat.le_refl _) h1 (fun h=>absurd h (by decide))];exact(Bk.mk [some 0,some 1] _ _ _ U U U U (by(repeat'(first|exact trivial|refine And.intro ?_ ?_|refine⟨_,U,_,U,?_⟩|exact An.refl _));done) (by(repeat'(first|exact trivial|refine And.intro ?_ ?_|exact Bh.refl _|exact Eq.refl true|refine⟨_,U,_,x9 _ _ _,_,U,?_⟩));done))
  |cons x d=>
   skip;refine K.sq (AW.AU ?_);refine L.mv rfl rfl rfl ?_;refine L.lnR rfl rfl rfl rfl ?_;repeat'(first|((with_reducible refine D.nil ?_);refine AX.Bd ?_)|((with_reducible refine D.assign ?_);refine L.CW U U U ?_)|with_reducible refine K.tN ?_)
   refine K.sq (AW.AU ?_);refine L.mv rfl rfl rfl ?_;refine L.mv rfl rfl rfl ?_;refine L.Hu rfl rfl rfl rfl rfl (EC.AG rfl) rfl rfl ?_;refine L.apR (te:=3) (e:= .int) (l:=[q]) rfl rfl rfl rfl (by kernel_rfl) rfl rfl (by rw[Jg,hsl];rfl) rfl rfl rfl (by simp) (by simp only[List.length_cons,List.length_nil] at hll ⊢;omega) ?_;rw[<-List.flatMap_append];repeat'(first|((with_reducible refine D.nil ?_);refine AX.Bd ?_)|((with_reducible refine D.assign ?_);refine L.CW U U U ?_)|with_reducible refine K.tN ?_)
   refine K.sq (AW.block (AW.loop (ι:={i:Nat // i<=(x::d).length/\∀y∈(yj (x::d)).drop i,q<y}) (fun i=>GY r (x::d) q i.1) (fun i=>i.1) ⟨(x::d).length,Nat.le_refl _,by rw[<-hsl,List.drop_length];intro y hy;cases hy⟩ ?_ ?_))
   ·show Bk _ _ _ _ _ (GY r (x::d) q (x::d).length).1 (GY r (x::d) q (x::d).length).2;simp only[GY];rw[hE];exact(Bk.mk [some 0,some 2] _ _ _ U U U U (by(repeat'(first|exact trivial|refine And.intro ?_ ?_|refine⟨_,U,_,U,?_⟩|exact An.refl _));done) (by(repeat'(first|exact trivial|refine And.intro ?_ ?_|exact Bh.refl _|exact Eq.refl true|refine⟨_,U,_,x9 _ _ _,_,U,?_⟩));done))
   ·rintro ⟨i,hi,h1⟩;cases i with
    |zero=>
     repeat'(first|((with_reducible refine D.nil ?_);refine AX.Bd ?_)|((with_reducible refine D.load ?_);refine AX.sk U U ?_)|((with_reducible refine D.move ?_);first|refine L.mv U U U ?_|refine AX.sk U U ?_)|((with_reducible refine D.bin ?_);first|refine L.bn U U U U U ?_|refine AX.sk U U ?_)|((with_reducible refine D.indexAddr ?_);refine AX.sk U U ?_)|((with_reducible refine D.pick ?_);refine L.pk U U U U ?_)|((with_reducible refine D.aw ?_);first|refine K.sq (K.sq ?_)|refine AW.AU ?_|refine AW.BT U ?_|refine AW.exit ?_)|with_reducible refine K.tN ?_|with_reducible refine K.tE ?_|with_reducible refine K.bX (by with_unfolding_all rfl) ?_|with_reducible refine K.lE ?_)
     refine L.DB 0 rfl rfl rfl rfl rfl (Nat.succ_pos _) rfl ?_;refine L.sta (c:= .int) (l:=Db (yj (x::d)) q 0) (u:=q) 0 rfl rfl rfl rfl rfl rfl rfl rfl (by rw[hln 0 (Nat.zero_le _)];exact Nat.succ_pos _) rfl ?_;repeat'(first|((with_reducible refine D.nil ?_);refine AX.Bd ?_))
     refine⟨rfl,?_⟩;simp only[tail 0 (Nat.zero_le _) h1 (fun h=>absurd h (by decide))];exact(Bk.mk [some 0,some 1] _ _ _ U U U U (by(repeat'(first|exact trivial|refine And.intro ?_ ?_|refine⟨_,U,_,U,?_⟩|exact An.refl _));done) (by(repeat'(first|exact trivial|refine And.intro ?_ ?_|exact Bh.refl _|exact Eq.refl true|refine⟨_,U,_,x9 _ _ _,_,U,?_⟩));done))
    |succ i=>
     have hi':i<(x::d).length:=by omega
     have hsi:i<(yj (x::d)).length:=by omega
     have hdl:(x::d).length=d.length+1:=rfl;have hl0:=hln (i+1) hi;have hl1:i<(Db (yj (x::d)) q (i+1)).length:=by omega
     have ha:=hat i hi' hl1;have hs:=hst i hi';show AW _ _ _ _ (GY r (x::d) q (i+1)).1 (GY r (x::d) q (i+1)).2 _;repeat'(first|((with_reducible refine D.nil ?_);refine AX.Bd ?_)|((with_reducible refine D.load ?_);refine AX.sk U U ?_)|((with_reducible refine D.move ?_);first|refine L.mv U U U ?_|refine AX.sk U U ?_|((fail_if_success refine AX.wt U ?_);refine AX.gs U U (fun _=>trivial) (fun h=> ?_) (fun h=> ?_)))|((with_reducible refine D.bin ?_);first|refine L.sb U U U U (by omega) ?_|refine L.bn U U U U U ?_|refine AX.sk U U ?_)|((with_reducible refine D.indexAddr ?_);refine AX.sk U U ?_)|((with_reducible refine D.pick ?_);refine L.pk U U U U ?_)|((with_reducible refine D.aw ?_);first|refine K.sq (K.sq ?_)|refine AW.AU ?_|refine AW.BT U ?_|refine AW.exit ?_)|with_reducible refine K.tN ?_|with_reducible refine K.tE ?_|with_reducible refine K.bX (by with_unfolding_all rfl) ?_|with_reducible refine K.lE ?_)
     ·refine L.DB i rfl rfl rfl rfl (by simp) (by omega) rfl ?_;refine L.Vi (c:= .int) (l:=Db (yj (x::d)) q (i+1)) i rfl rfl rfl rfl rfl hl1 rfl rfl rfl ?_;rw[ha];repeat'(first|((with_reducible refine D.nil ?_);refine AX.Bd ?_)|((with_reducible refine D.move ?_);refine L.mv U U U ?_)|((with_reducible refine D.bin ?_);refine L.bn U U U U U ?_)|((with_reducible refine D.pick ?_);refine L.pk U U U U ?_)|((with_reducible refine D.aw ?_);first|refine AW.AU ?_|refine AW.Du U (fun h=> ?_) (fun h=> ?_)|refine AW.skip ?_|refine AW.exit ?_)|with_reducible refine K.tN ?_|with_reducible refine K.tE ?_|with_reducible refine K.bX (by with_unfolding_all rfl) ?_|with_reducible refine K.lE ?_)
      ·have hgt:q<(yj (x::d))[i]:=by simpa using h
       repeat'(first|((with_reducible refine D.move ?_);refine L.mv U U U ?_)|((with_reducible refine D.bin ?_);refine L.sb U U U U (by omega) ?_)|((with_reducible refine D.aw ?_);first|((with_reducible refine D.blk ?_);refine AW.block ?_)|refine K.sq (AW.AU ?_)))
       refine L.DB i rfl rfl rfl rfl (by simp) (by omega) rfl ?_;refine L.Vi (c:= .int) (l:=Db (yj (x::d)) q (i+1)) i rfl rfl rfl rfl rfl hl1 rfl rfl rfl ?_;rw[ha];refine L.DB (i+1) rfl rfl rfl rfl rfl (by omega) rfl ?_;refine L.sta (c:= .int) (l:=Db (yj (x::d)) q (i+1)) (u:=(yj (x::d))[i]) (i+1) rfl rfl rfl rfl rfl rfl rfl rfl (by omega) rfl ?_;rw[hs];repeat'(first|((with_reducible refine D.nil ?_);refine AX.Bd ?_)|((with_reducible refine D.move ?_);refine L.mv U U U ?_)|((with_reducible refine D.assign ?_);refine L.CW U U U ?_)|((with_reducible refine D.bin ?_);refine L.sb U U U U (by omega) ?_)|((with_reducible refine D.aw ?_);refine AW.AU ?_)|with_reducible refine K.tN ?_|with_reducible refine K.bN ?_)
       refine⟨⟨i,by omega,fun y hy=> ?_⟩,by show i<i+1;omega,?_⟩
       ·rw[List.drop_eq_getElem_cons hsi] at hy;rcases List.mem_cons.1 hy with rfl|hy
        ·exact hgt
        ·exact h1 y hy
       ·simp only[GY,show(((i+1:Nat):Int)-1)=(i:Int) by omega];exact(Bk.mk [some 0,some 1] _ _ _ U U U U (by(repeat'(first|exact trivial|refine And.intro ?_ ?_|refine⟨_,U,_,U,?_⟩|exact An.refl _));done) (by(repeat'(first|exact trivial|refine And.intro ?_ ?_|exact Bh.refl _|exact Eq.refl true|refine⟨_,U,_,x9 _ _ _,_,U,?_⟩));done))
      ·have hle:(yj (x::d))[i]<=q:=by simpa using h
       refine L.DB (i+1) rfl rfl rfl rfl rfl (by omega) rfl ?_;refine L.sta (c:= .int) (l:=Db (yj (x::d)) q (i+1)) (u:=q) (i+1) rfl rfl rfl rfl rfl rfl rfl rfl (by omega) rfl ?_;repeat'(first|((with_reducible refine D.nil ?_);refine AX.Bd ?_))
       refine⟨rfl,?_⟩;simp only[tail (i+1) hi h1 (fun _ _=>hle)];exact(Bk.mk [some 0,some 1] _ _ _ U U U U (by(repeat'(first|exact trivial|refine And.intro ?_ ?_|refine⟨_,U,_,U,?_⟩|exact An.refl _));done) (by(repeat'(first|exact trivial|refine And.intro ?_ ?_|exact Bh.refl _|exact Eq.refl true|refine⟨_,U,_,x9 _ _ _,_,U,?_⟩));done))
     ·exfalso;simp at h
 ·intro r l hp;cases l with
  |nil=>
   have hk0:ks=[]:=by simpa using hp.symm.eq_nil
   subst hk0;simp only[Mj,OH];repeat'(first|((with_reducible refine D.nil ?_);refine AX.Bd ?_)|((with_reducible refine D.move ?_);refine L.mv U U U ?_)|((with_reducible refine D.assign ?_);refine L.CW U U U ?_)|((with_reducible refine D.aw ?_);first|refine K.sq (AW.AU ?_)|refine AW.ret ?_)|with_reducible refine K.tN ?_)
   (exact K.n2 [some 0] U U U U U (by(repeat'(first|exact trivial|refine And.intro ?_ ?_|refine⟨_,U,_,_,U,?_,?_⟩|with_reducible exact rfl));done) U (by simp[zj,V.wk,V.Ap,za,Ty.view,Tm.view,OH]))
  |cons x d=>
   have hk0:yj (x::d)=yj ks:=Zmf hp;simp only[Mj,hk0];refine AW.BP (c:= .int) 1 (d.length+1) (yj ks) U (by rw[<-hk0,Wh];rfl) (by(repeat'(first|exact trivial|exact fun _=>rfl|exact fun h=>absurd U h|exact fun h=>absurd h (by decide)|refine And.intro ?_ ?_|intro _));done) (by(repeat'(first|exact trivial|exact fun _=>rfl|exact fun h=>absurd U h|exact fun h=>absurd h (by decide)|refine And.intro ?_ ?_|intro _));done) ?_;repeat'(first|((with_reducible refine D.nil ?_);refine AX.Bd ?_)|((with_reducible refine D.move ?_);refine L.mv U U U ?_)|((with_reducible refine D.assign ?_);refine L.CW U U U ?_)|((with_reducible refine D.aw ?_);first|refine K.sq (AW.AU ?_)|refine AW.ret ?_)|with_reducible refine K.tN ?_)
   (exact K.n2 [some 0] U U U U U (by(repeat'(first|exact trivial|refine And.intro ?_ ?_|refine⟨_,U,_,_,U,?_,?_⟩|with_reducible exact rfl));done) U (by simp[zj,V.wk,V.Ap,za,Ty.view,Tm.view,V.BP]))
theorem Ye3:∀(n:Nat) (t:Tm) (ks:List Int) (bl:Int),t.full<=n->n<1099511627776->0<=bl->bl+n<1099511627776->(∀p∈t.vars bl,0<=p.1/\p.1<9223372036854775808)->
 AC E 274 [.agg t.view,.i bl,.mp 0] ⟨1,[(0,.map .bl ks (List.replicate ks.length true))]⟩ (.Az []) ⟨1,[(0,.map .bl (BA ks (C7 (t.vars bl))) (List.replicate (BA ks (C7 (t.vars bl))).length true))]⟩:=by
 intro n;induction n with
 |zero=>intro t b bl h;have:=t.Aa;omega
 |succ n ih=>
 intro t ks bl hsz hb hbl hbn hix;have hsz':=Tm.Ag t;have hlen:=zd Tm.full Tm.Aa t.args;have hv:=Tm.AQ bl t;have hbe:=LS t;have hup:=LN t.kind bl;have hpl:=LY t.kind bl;have hi:t.kind=1->0<=t.index/\t.index<9223372036854775808:=fun h=>by simpa using hix (t.index,bl) (by rw[hv];simp[h])
 have loopE:∀m (hm:m<t.args.length) ks',AC E 274 [.agg (t.args[m]).view,.i (bl+up t.kind 0),.mp 0] ⟨1,[(0,.map .bl ks' (List.replicate ks'.length true))]⟩ (.Az []) ⟨1,[(0,.map .bl (BA ks' (C7 ((t.args[m]).vars (up t.kind bl)))) (List.replicate (BA ks' (C7 ((t.args[m]).vars (up t.kind bl)))).length true))]⟩:=fun m hm ks'=>by
  have hs2:=zc Tm.full (List.getElem_mem hm);have:=ih t.args[m] ks' (up t.kind bl) (by omega) (by omega) (by omega) (by omega) (fun p hp=>hix p (by rw[hv];exact List.mem_append_right _ (List.mem_flatMap.2 ⟨_,List.getElem_mem hm,hp⟩)));rw[<-hpl] at this ⊢;exact this
 obtain⟨k0,hk0⟩:∃k0,k0=BA ks (C7 (if t.kind=1 then [(t.index,bl)] else [])):=⟨_,rfl⟩;have hk1:t.kind=1->t.index>=bl->k0=v9 (t.index-bl) ks:=fun h1 h2=>by rw[hk0,if_pos h1,Vp,if_pos h2];exact Qp _ _
 have hk2:¬(t.kind=1/\t.index>=bl)->k0=ks:=fun h1=>by
  rw[hk0];by_cases h2:t.kind=1
  ·rw[if_pos h2,Vp,if_neg (fun h3=>h1 ⟨h2,h3⟩)];rfl
  ·rw[if_neg h2];rfl
 have hend:BA ks (C7 (t.vars bl))=BA k0 (C7 (t.args.flatMap (Tm.vars (up t.kind bl)))):=by rw[hv,RE,Zip,hk0]
 rw[hend];by_cases hv1:t.kind=1/\t.index>=bl
 ·have e:=hk1 hv1.1 hv1.2;have hi':=hi hv1.1;refine M.F Tryz.func274 ?_;(repeat' first|refine M.gw ?_|refine M.gs ?_ ?_<;>intro h|refine M.cs ?_ ?_<;>intro h|fail)
  rotate_left
  ·exfalso;simp at h;omega
  ·exfalso;simp at h;exact h hv1.1
  refine AW.range t.args.length (fun m=>True)
   (fun m=>([(1,.i bl),(2,.mp 0),(3,.ptr 1 0),(23,.s .tm t.args),(24,.i t.args.length),(25,.i m)],⟨2,[(0,.map .bl (BA k0 (C7 ((t.args.take m).flatMap (Tm.vars (up t.kind bl))))) (List.replicate (BA k0 (C7 ((t.args.take m).flatMap (Tm.vars (up t.kind bl))))).length true)),(1,.var t.view)]⟩))
   (by omega) (fun m=>rfl) (fun m=>rfl) rfl trivial ?_ ?_ ?_
  ·simp only[List.take_zero,List.flatMap_nil,We,JJ];rw[e];rw[<-Kn];exact(M.W [some 0,some 1])
  ·intro m hm hP;have hc:=loopE m hm (BA k0 (C7 ((t.args.take m).flatMap (Tm.vars (up t.kind bl)))));(repeat' first|refine M.gw ?_|refine M.c2 (hbe) ?_|refine M.cb (hc) [0] 0 ?_|fail);refine⟨rfl,trivial,?_⟩;exact(M.W [some 0,some 1] (he:=(by(repeat'(first|exact trivial|refine And.intro ?_ ?_|refine⟨_,U,_,U,_,U,?_⟩|exact An.refl _|refine⟨_,U,_,_,U,?_,?_⟩|(simp[Ao.Ax,RE,Zip,Ky _ _ _ hm];done)));done)))
  ·intro hP;simp only[List.take_length];skip
   (exact M.n2 [some 0] (h8:=(by simp[zj,V.wk,V.Ap,za,Ty.view,Tm.view,V.BP])))
 ·have e:=hk2 hv1;refine M.F Tryz.func274 ?_;(repeat' first|refine M.gw ?_|refine M.gs ?_ ?_<;>intro h|refine M.cs ?_ ?_<;>intro h|fail)
  ·rename_i h1';exfalso;exact hv1 ⟨by simpa using h1',by simpa using h⟩
  all_goals
   refine AW.range t.args.length (fun m=>True)
    (fun m=>([(1,.i bl),(2,.mp 0),(3,.ptr 1 0),(23,.s .tm t.args),(24,.i t.args.length),(25,.i m)],⟨2,[(0,.map .bl (BA k0 (C7 ((t.args.take m).flatMap (Tm.vars (up t.kind bl))))) (List.replicate (BA k0 (C7 ((t.args.take m).flatMap (Tm.vars (up t.kind bl))))).length true)),(1,.var t.view)]⟩))
    (by omega) (fun m=>rfl) (fun m=>rfl) rfl trivial ?_ ?_ ?_
   ·simp only[List.take_zero,List.flatMap_nil,We,JJ];rw[e];exact(M.W [some 0,some 1])
   ·intro m hm hP;have hc:=loopE m hm (BA k0 (C7 ((t.args.take m).flatMap (Tm.vars (up t.kind bl)))));(repeat' first|refine M.gw ?_|refine M.c2 (hbe) ?_|refine M.cb (hc) [0] 0 ?_|fail);refine⟨rfl,trivial,?_⟩;exact(M.W [some 0,some 1] (he:=(by(repeat'(first|exact trivial|refine And.intro ?_ ?_|refine⟨_,U,_,U,_,U,?_⟩|exact An.refl _|refine⟨_,U,_,_,U,?_,?_⟩|(simp[Ao.Ax,RE,Zip,Ky _ _ _ hm];done)));done)))
   ·intro hP;simp only[List.take_length];skip
    (exact M.n2 [some 0] (h8:=(by simp[zj,V.wk,V.Ap,za,Ty.view,Tm.view,V.BP])))
theorem Yds(t:Tm)(ht:t.full<549755813888)(hix:t.err=0->∀p∈t.vars 0,0<=p.1/\p.1<9223372036854775808):PC E 258 [.agg t.view] (.Az [.s .int (if t.err=0 then Kl t else []),.i t.err]):=by
 have h1:=vo t (by omega);have hc:t.err=0->_:=fun h=>Ye3 _ t [] 0 (Nat.le_refl _) (by omega) (by omega) (by omega) (hix h);have hu:BA [] (C7 (t.vars 0))=IA t:=rfl;simp only[List.length_nil,List.replicate_zero,hu] at hc;have hlen:=Ya9 t;have hsz:=t.Aj;have hs:=VS (V5 t) (by omega);have e0:yj (IA t)=Kl t:=rfl;rw[e0] at hs;refine M.F Tryz.func258 ?_;(repeat' first|refine M.gw ?_|refine M.c2 (h1) ?_|refine M.cb (hc (by simpa using h)) [1] 0 ?_|refine M.cb (hs) [1] 0 ?_|refine M.cs ?_ ?_<;>intro h|fail)
 ·have e:¬t.err=0:=by simpa using h
  rw[if_neg e];simp[zj,V.wk,V.Ap];rfl
 ·have e:t.err=0:=by simpa using h
  rw[if_pos e];simp[zj,V.wk,V.Ap,e]
theorem vd(k:Int):PC E 147 [.i k] (.Az [.agg (CR k),.bool (BO k).isSome]):=by
 by_cases hk:1<=k/\k<=20
 ·have:k=1\/k=2\/k=3\/k=4\/k=5\/k=6\/k=7\/k=8\/k=9\/k=10\/k=11\/k=12\/k=13\/k=14\/k=15\/k=16\/k=17\/k=18\/k=19\/k=20:=by omega
  rcases this with rfl|rfl|rfl|rfl|rfl|rfl|rfl|rfl|rfl|rfl|rfl|rfl|rfl|rfl|rfl|rfl|rfl|rfl|rfl|rfl;all_goals(refine M.F Tryz.func147 ?_)
  all_goals(repeat'(first|refine M.gw ?_|fail))
  all_goals(first|(refine L.CT 1 rfl rfl rfl rfl rfl ?_ ?_ rfl ?_;decide;decide)|(refine L.CT 2 rfl rfl rfl rfl rfl ?_ ?_ rfl ?_;decide;decide)|(refine L.CT 3 rfl rfl rfl rfl rfl ?_ ?_ rfl ?_;decide;decide)|(refine L.CT 4 rfl rfl rfl rfl rfl ?_ ?_ rfl ?_;decide;decide)|(refine L.CT 5 rfl rfl rfl rfl rfl ?_ ?_ rfl ?_;decide;decide)|(refine L.CT 6 rfl rfl rfl rfl rfl ?_ ?_ rfl ?_;decide;decide)|(refine L.CT 7 rfl rfl rfl rfl rfl ?_ ?_ rfl ?_;decide;decide)|(refine L.CT 8 rfl rfl rfl rfl rfl ?_ ?_ rfl ?_;decide;decide)|(refine L.CT 9 rfl rfl rfl rfl rfl ?_ ?_ rfl ?_;decide;decide)|(refine L.CT 10 rfl rfl rfl rfl rfl ?_ ?_ rfl ?_;decide;decide)|(refine L.CT 11 rfl rfl rfl rfl rfl ?_ ?_ rfl ?_;decide;decide)|(refine L.CT 12 rfl rfl rfl rfl rfl ?_ ?_ rfl ?_;decide;decide)|(refine L.CT 13 rfl rfl rfl rfl rfl ?_ ?_ rfl ?_;decide;decide)|(refine L.CT 14 rfl rfl rfl rfl rfl ?_ ?_ rfl ?_;decide;decide)|(refine L.CT 15 rfl rfl rfl rfl rfl ?_ ?_ rfl ?_;decide;decide)|(refine L.CT 16 rfl rfl rfl rfl rfl ?_ ?_ rfl ?_;decide;decide)|(refine L.CT 17 rfl rfl rfl rfl rfl ?_ ?_ rfl ?_;decide;decide)|(refine L.CT 18 rfl rfl rfl rfl rfl ?_ ?_ rfl ?_;decide;decide)|(refine L.CT 19 rfl rfl rfl rfl rfl ?_ ?_ rfl ?_;decide;decide)|(refine L.CT 20 rfl rfl rfl rfl rfl ?_ ?_ rfl ?_;decide;decide))
  all_goals(repeat'(first|refine M.gw ?_|fail))
  all_goals rfl
 ·have e:BO k=none:=by
   unfold BO
   repeat rw[if_neg (by omega)]
  have e2:CR k=[.bool false,.bool false,.i 0,.i 0,.i 0,.i 0,.i 0,.i 0]:=by unfold CR;rw[e]
  rw[e,e2];refine M.F Tryz.func147 ?_;(repeat' first|refine M.gw ?_|refine M.gs ?_ ?_<;>intro h|refine M.cs ?_ ?_<;>intro h|fail);all_goals first
   |rfl
   |(exfalso;simp at*;omega)
theorem NV(a:Nat)(b:Bool)(n:Nat)(e:Int)(ha:a<=1000000000000)(hn:n<=1000000000000):
 AC E 208 [.ptr 0 0,.i n,.i e] ⟨1,[(0,.var [.i a,.bool b])]⟩ (.bool (e !=2)) ⟨1,[(0,.var [.i ((a+n:Nat):Int),.bool (b||e==4)])]⟩:=by
 rw[Int.natCast_add];cases b with
 |true=>
  refine M.F Tryz.func208 ?_;(repeat' first|refine M.gw ?_|fail)
  (exact M.n2 [some 0] (h8:=(by simp[zj,V.wk,V.Ap,za,Ty.view,Tm.view,V.BP])))
 |false=>
  refine M.F Tryz.func208 ?_;(repeat' first|refine M.gw ?_|fail)
  (exact M.n2 [some 0] (h8:=(by simp[zj,V.wk,V.Ap,za,Ty.view,Tm.view,V.BP])))
theorem Zz2:∀(n:Nat) (p:Pf) (s:Tl),p.full<=n->n<274877906944->s.1+p.full<=549755813888->
 AC E 171 [.ptr 0 0,.agg p.view] ⟨1,[(0,.var [.i s.1,.bool s.2])]⟩ (.bool (Dt p s).1) ⟨1,[(0,.var [.i (Dt p s).2.1,.bool (Dt p s).2.2])]⟩:=by
 intro n;induction n with
 |zero=>intro p s h;have:=p.Aa;omega
 |succ n ih=>
 intro p s hsz hn hs;have hsz':=p.Ag;have hse:=p.size_eq;have hlen:=zd Pf.full Pf.Aa p.args;have hlen1:=zd Fm.full Fm.Aa p.Ac;have hlen2:=zd Tm.full Tm.Aa p.terms;have hle0:=y0 (f:=Tm.size) (g:=Tm.full) p.terms fun x _=>x.Aj;have hle1:=y0 (f:=Fm.size) (g:=Fm.full) p.Ac fun x _=>x.Aj;have hle2:=y0 (f:=Pf.size) (g:=Pf.full) p.args fun x _=>x.Aj;have hru:=vd p.kind;have he:=Wy p s;cases hnd:BO p.kind with
 |none=>
  have e2:CR p.kind=[.bool false,.bool false,.i 0,.i 0,.i 0,.i 0,.i 0,.i 0]:=by unfold CR;rw[hnd]
  have e:p.Fg=false:=by unfold Pf.Fg;rw[hnd]
  rw[hnd,e2] at hru;rw[if_pos e] at he;rw[he];refine M.F Tryz.func171 ?_;(repeat' first|refine M.gw ?_|refine M.c2 (hru) ?_|fail)
  (exact M.n2 [some 0] (h8:=(by simp[zj,V.wk,V.Ap,za,Ty.view,Tm.view,V.BP])))
 |some nd=>
 cases hty:nd.typ with
 |true=>
  have e2:CR p.kind=[.bool nd.index,.bool true,.i nd.terms,.i nd.Ac,.i nd.args,.i (AD p.kind),.i (As p.kind),.i (At p.kind)]:=by unfold CR;rw[hnd,<-hty]
  rw[hnd,e2] at hru;simp only[Option.isSome_some] at hru;by_cases hA:p.Fg=false
  ·rw[if_pos hA] at he;rw[he];refine M.F Tryz.func171 ?_;(repeat' first|refine M.go ?_|refine M.c2 (hru) ?_|refine M.gs ?_ ?_<;>intro h|refine M.z1 4 ?_|refine M.cs ?_ ?_<;>intro h|refine M.gk ?_|fail);all_goals(try(exfalso;simp only[Pf.Fg,hnd] at hA;simp_all;done))
   all_goals(try(exfalso;simp only[Pf.Fg,hnd] at hA;simp_all;omega))
   all_goals(exact M.n2 [some 0] (h8:=(by simp[zj,V.wk,V.Ap,za,Ty.view,Tm.view,V.BP])))
  rw[if_neg hA] at he;rw[Bool.not_eq_false] at hA;have hA2:=hA;simp only[Pf.Fg,hnd,Bool.and_eq_true,Bool.or_eq_true,decide_eq_true_eq,beq_iff_eq] at hA2;obtain⟨⟨⟨⟨q1,q2⟩,q3⟩,q4⟩,q5⟩:=hA2;have hT:p.Ga=p.ty.ok:=by unfold Pf.Ga;rw[hnd];simp only[hty];rfl
  have hct:=QB p.ty (by omega);by_cases hx:p.ty.err=0;case neg=>
   have hT2:p.Ga=false:=by
    rw[hT];cases ho:p.ty.ok with
    |false=>rfl
    |true=>exact absurd (Vt ho) hx
   rw[if_pos hT2] at he;rw[he];refine M.F Tryz.func171 ?_;(repeat' first|refine M.go ?_|refine M.c2 (hru) ?_|refine M.c2 (hct) ?_|refine M.gs ?_ ?_<;>intro h|refine M.z1 11 ?_|refine M.cs ?_ ?_<;>intro h|refine M.gk ?_|fail);all_goals(try(exfalso;simp_all;done))
   all_goals(try(exfalso;simp_all;omega))
   all_goals(exact M.n2 [some 0] (h8:=(by simp[zj,V.wk,V.Ap,za,Ty.view,Tm.view,V.BP])))
  have hT2:p.Ga=true:=by
   rw[hT];have:=(Ty.Ae p.ty).1 hx;exact Kg this.1 this.2
  rw[if_neg (by simp[hT2])] at he;rw[hx] at hct;refine M.F Tryz.func171 ?_;(repeat' first|refine M.gw ?_|refine M.c2 (hru) ?_|refine M.c2 (hct) ?_|refine M.gs ?_ ?_<;>intro h|refine M.cs ?_ ?_<;>intro h|fail);all_goals(try(exfalso;simp_all;done))
  all_goals(try(exfalso;simp_all;omega))
  all_goals
   refine AW.range p.terms.length (fun m=>(BV (p.terms.take m) (s.1+1,s.2)).1=true)
    (fun m=>([(0,.ptr 0 0),(3,.ptr 1 0),(84,.s .tm p.terms),(85,.i p.terms.length),(86,.i m)],⟨2,[(0,.var [.i ((BV (p.terms.take m) (s.1+1,s.2)).2.1:Nat),.bool (BV (p.terms.take m) (s.1+1,s.2)).2.2]),(1,.var p.view)]⟩))
    (by omega) (fun m=>rfl) (fun m=>rfl) rfl rfl (M.W [some 0,some 1]) ?_ ?_
   ·intro m hm hP;have hs2:=zc Tm.full (List.getElem_mem hm);have hs4:=zn Tm.size p.terms m;have hok:=(J6 (p.terms.take m) (s.1+1,s.2)).2.1;have hnn:0<=p.terms[m].num/\p.terms[m].num<=4096:=by rcases Qt p.terms[m] with⟨_,_,_,e⟩|⟨_,_,e⟩|⟨_,_,_,e⟩<;>omega
    have hnum:p.terms[m].num=(p.terms[m].num.toNat:Int):=by omega
    have hc:=LU p.terms[m] (by omega);rw[hnum] at hc;have hcnt:=NV (BV (p.terms.take m) (s.1+1,s.2)).2.1 (BV (p.terms.take m) (s.1+1,s.2)).2.2 p.terms[m].num.toNat p.terms[m].err (by simp only at hok;omega) (by omega);by_cases h2:p.terms[m].err=2
    ·rw[show(p.terms[m].err !=2)=false by simp[h2]] at hcnt;have hst:=UW hm hP h2;rw[hst,if_pos rfl] at he;rw[he];(repeat' first|refine M.gw ?_|refine M.c2 (hc) ?_|refine M.cb (hcnt) [0] 0 ?_|fail)
     (exact M.n2 [some 0] (h8:=(by simp[zj,V.wk,V.Ap,za,Ty.view,Tm.view,V.BP])))
    ·rw[show(p.terms[m].err !=2)=true by simp[h2]] at hcnt;have hA1:BV (p.terms.take (m+1)) (s.1+1,s.2)=(true,((BV (p.terms.take m) (s.1+1,s.2)).2.1+p.terms[m].num.toNat,(BV (p.terms.take m) (s.1+1,s.2)).2.2||p.terms[m].err==4)):=by
      rw[VM hm hP,BV,if_neg h2];rfl
     (repeat' first|refine M.gw ?_|refine M.c2 (hc) ?_|refine M.cb (hcnt) [0] 0 ?_|fail);refine⟨rfl,congrArg Prod.fst hA1,?_⟩;simp only[hA1];exact(M.W [some 0,some 1])
   ·intro hP;simp only[List.take_length] at hP;simp only[List.take_length];have hAok:=(J6 p.terms (s.1+1,s.2)).2.1;rw[if_neg (by simp[hP])] at he;generalize hA0:BV p.terms (s.1+1,s.2)=a0 at*;(repeat' first|refine M.gw ?_|fail);refine AW.range p.Ac.length (fun m=>(B5 (p.Ac.take m) a0.2).1=true)
     (fun m=>([(0,.ptr 0 0),(3,.ptr 1 0),(99,.s .fm p.Ac),(100,.i p.Ac.length),(101,.i m)],⟨2,[(0,.var [.i ((B5 (p.Ac.take m) a0.2).2.1:Nat),.bool (B5 (p.Ac.take m) a0.2).2.2]),(1,.var p.view)]⟩))
     (by omega) (fun m=>rfl) (fun m=>rfl) rfl rfl (M.W [some 0,some 1]) ?_ ?_
    ·intro m hm hP2;have hs2:=zc Fm.full (List.getElem_mem hm);have hs4:=zn Fm.size p.Ac m;have hok:=(Kj (p.Ac.take m) a0.2).2.1;have hnn:=Xz p.Ac[m];have hnum:p.Ac[m].num=(p.Ac[m].num.toNat:Int):=by omega
     have hc:=Q9 p.Ac[m] (by omega);rw[hnum] at hc;have hcnt:=NV (B5 (p.Ac.take m) a0.2).2.1 (B5 (p.Ac.take m) a0.2).2.2 p.Ac[m].num.toNat p.Ac[m].err (by simp only at hAok;omega) (by omega);by_cases h2:p.Ac[m].err=2
     ·rw[show(p.Ac[m].err !=2)=false by simp[h2]] at hcnt;have hst:=W6 hm hP2 h2;rw[hst,if_pos rfl] at he;rw[he];(repeat' first|refine M.gw ?_|refine M.c2 (hc) ?_|refine M.cb (hcnt) [0] 0 ?_|fail)
      (exact M.n2 [some 0] (h8:=(by simp[zj,V.wk,V.Ap,za,Ty.view,Tm.view,V.BP])))
     ·rw[show(p.Ac[m].err !=2)=true by simp[h2]] at hcnt;have hA1:B5 (p.Ac.take (m+1)) a0.2=(true,((B5 (p.Ac.take m) a0.2).2.1+p.Ac[m].num.toNat,(B5 (p.Ac.take m) a0.2).2.2||p.Ac[m].err==4)):=by
       rw[TW hm hP2,B5,if_neg h2];rfl
      (repeat' first|refine M.gw ?_|refine M.c2 (hc) ?_|refine M.cb (hcnt) [0] 0 ?_|fail);refine⟨rfl,congrArg Prod.fst hA1,?_⟩;simp only[hA1];exact(M.W [some 0,some 1])
    ·intro hP2;simp only[List.take_length] at hP2;simp only[List.take_length];have hBok:=(Kj p.Ac a0.2).2.1;rw[if_neg (by simp[hP2])] at he;generalize hB0:B5 p.Ac a0.2=b0 at*;(repeat' first|refine M.gw ?_|fail);refine AW.range p.args.length (fun m=>(Cp (p.args.take m) b0.2).1=true)
      (fun m=>([(0,.ptr 0 0),(3,.ptr 1 0),(114,.s .pf p.args),(115,.i p.args.length),(116,.i m)],⟨2,[(0,.var [.i ((Cp (p.args.take m) b0.2).2.1:Nat),.bool (Cp (p.args.take m) b0.2).2.2]),(1,.var p.view)]⟩))
      (by omega) (fun m=>rfl) (fun m=>rfl) rfl rfl (M.W [some 0,some 1]) ?_ ?_
     ·intro m hm hP3;have hs2:=zc Pf.full (List.getElem_mem hm);have hs4:=zn Pf.size p.args m;have hok:=(Rx (p.args.take m) (fun q _=>Qe q) b0.2).2.1;have hs5:=yl Pf.full p.args m hm;have hs6:=zn Pf.full p.args (m+1);have hs7:=y0 (f:=Pf.size) (g:=Pf.full) (p.args.take m) fun x _=>x.Aj;have hc:=ih p.args[m] (Cp (p.args.take m) b0.2).2 (by omega) (by omega) (by simp only at hAok;omega);cases h2:(Dt p.args[m] (Cp (p.args.take m) b0.2).2).1 with
      |false=>
       have hst:=Wm hm hP3 h2;rw[hst] at he;rw[he];rw[h2] at hc ⊢;(repeat' first|refine M.gw ?_|refine M.cb (hc) [0] 0 ?_|fail)
       (exact M.n2 [some 0] (h8:=(by simp[zj,V.wk,V.Ap,za,Ty.view,Tm.view,V.BP])))
      |true=>
       rw[h2] at hc;have hA1:Cp (p.args.take (m+1)) b0.2=Dt p.args[m] (Cp (p.args.take m) b0.2).2:=by rw[VC hm hP3,XK]
       (repeat' first|refine M.gw ?_|refine M.cb (hc) [0] 0 ?_|fail);refine⟨rfl,(congrArg Prod.fst hA1).trans h2,?_⟩;simp only[hA1];exact(M.W [some 0,some 1])
     ·intro hP3;simp only[List.take_length] at hP3;simp only[List.take_length];rw[he,hP3];(repeat' first|refine M.gw ?_|fail)
      (exact M.n2 [some 0] (h8:=(by simp[zj,V.wk,V.Ap,za,Ty.view,Tm.view,V.BP])))
 |false=>
  have e2:CR p.kind=[.bool nd.index,.bool false,.i nd.terms,.i nd.Ac,.i nd.args,.i (AD p.kind),.i (As p.kind),.i (At p.kind)]:=by unfold CR;rw[hnd,<-hty]
  rw[hnd,e2] at hru;simp only[Option.isSome_some] at hru;by_cases hA:p.Fg=false
  ·rw[if_pos hA] at he;rw[he];refine M.F Tryz.func171 ?_;(repeat' first|refine M.go ?_|refine M.c2 (hru) ?_|refine M.gs ?_ ?_<;>intro h|refine M.z1 4 ?_|refine M.cs ?_ ?_<;>intro h|refine M.gk ?_|fail);all_goals(try(exfalso;simp only[Pf.Fg,hnd] at hA;simp_all;done))
   all_goals(try(exfalso;simp only[Pf.Fg,hnd] at hA;simp_all;omega))
   all_goals(exact M.n2 [some 0] (h8:=(by simp[zj,V.wk,V.Ap,za,Ty.view,Tm.view,V.BP])))
  rw[if_neg hA] at he;rw[Bool.not_eq_false] at hA;have hA2:=hA;simp only[Pf.Fg,hnd,Bool.and_eq_true,Bool.or_eq_true,decide_eq_true_eq,beq_iff_eq] at hA2;obtain⟨⟨⟨⟨q1,q2⟩,q3⟩,q4⟩,q5⟩:=hA2;have hT:p.Ga=p.ty.BI:=by unfold Pf.Ga;rw[hnd];simp only[hty];rfl
  have hct:=PY p.ty;by_cases hx:p.ty.BI=true;case neg=>
   rw[Bool.not_eq_true] at hx;have hT2:p.Ga=false:=by rw[hT,hx]
   rw[if_pos hT2] at he;rw[he];rw[hx] at hct;refine M.F Tryz.func171 ?_;(repeat' first|refine M.go ?_|refine M.c2 (hru) ?_|refine M.c2 (hct) ?_|refine M.gs ?_ ?_<;>intro h|refine M.z1 11 ?_|refine M.cs ?_ ?_<;>intro h|refine M.gk ?_|fail);all_goals(try(exfalso;simp_all;done))
   all_goals(try(exfalso;simp_all;omega))
   all_goals(exact M.n2 [some 0] (h8:=(by simp[zj,V.wk,V.Ap,za,Ty.view,Tm.view,V.BP])))
  have hT2:p.Ga=true:=by rw[hT,hx]
  rw[if_neg (by simp[hT2])] at he;rw[hx] at hct;refine M.F Tryz.func171 ?_;(repeat' first|refine M.gw ?_|refine M.c2 (hru) ?_|refine M.c2 (hct) ?_|refine M.gs ?_ ?_<;>intro h|refine M.cs ?_ ?_<;>intro h|fail);all_goals(try(exfalso;simp_all;done))
  all_goals(try(exfalso;simp_all;omega))
  all_goals
   refine AW.range p.terms.length (fun m=>(BV (p.terms.take m) (s.1+1,s.2)).1=true)
    (fun m=>([(0,.ptr 0 0),(3,.ptr 1 0),(84,.s .tm p.terms),(85,.i p.terms.length),(86,.i m)],⟨2,[(0,.var [.i ((BV (p.terms.take m) (s.1+1,s.2)).2.1:Nat),.bool (BV (p.terms.take m) (s.1+1,s.2)).2.2]),(1,.var p.view)]⟩))
    (by omega) (fun m=>rfl) (fun m=>rfl) rfl rfl (M.W [some 0,some 1]) ?_ ?_
   ·intro m hm hP;have hs2:=zc Tm.full (List.getElem_mem hm);have hs4:=zn Tm.size p.terms m;have hok:=(J6 (p.terms.take m) (s.1+1,s.2)).2.1;have hnn:0<=p.terms[m].num/\p.terms[m].num<=4096:=by rcases Qt p.terms[m] with⟨_,_,_,e⟩|⟨_,_,e⟩|⟨_,_,_,e⟩<;>omega
    have hnum:p.terms[m].num=(p.terms[m].num.toNat:Int):=by omega
    have hc:=LU p.terms[m] (by omega);rw[hnum] at hc;have hcnt:=NV (BV (p.terms.take m) (s.1+1,s.2)).2.1 (BV (p.terms.take m) (s.1+1,s.2)).2.2 p.terms[m].num.toNat p.terms[m].err (by simp only at hok;omega) (by omega);by_cases h2:p.terms[m].err=2
    ·rw[show(p.terms[m].err !=2)=false by simp[h2]] at hcnt;have hst:=UW hm hP h2;rw[hst,if_pos rfl] at he;rw[he];(repeat' first|refine M.gw ?_|refine M.c2 (hc) ?_|refine M.cb (hcnt) [0] 0 ?_|fail)
     (exact M.n2 [some 0] (h8:=(by simp[zj,V.wk,V.Ap,za,Ty.view,Tm.view,V.BP])))
    ·rw[show(p.terms[m].err !=2)=true by simp[h2]] at hcnt;have hA1:BV (p.terms.take (m+1)) (s.1+1,s.2)=(true,((BV (p.terms.take m) (s.1+1,s.2)).2.1+p.terms[m].num.toNat,(BV (p.terms.take m) (s.1+1,s.2)).2.2||p.terms[m].err==4)):=by
      rw[VM hm hP,BV,if_neg h2];rfl
     (repeat' first|refine M.gw ?_|refine M.c2 (hc) ?_|refine M.cb (hcnt) [0] 0 ?_|fail);refine⟨rfl,congrArg Prod.fst hA1,?_⟩;simp only[hA1];exact(M.W [some 0,some 1])
   ·intro hP;simp only[List.take_length] at hP;simp only[List.take_length];have hAok:=(J6 p.terms (s.1+1,s.2)).2.1;rw[if_neg (by simp[hP])] at he;generalize hA0:BV p.terms (s.1+1,s.2)=a0 at*;(repeat' first|refine M.gw ?_|fail);refine AW.range p.Ac.length (fun m=>(B5 (p.Ac.take m) a0.2).1=true)
     (fun m=>([(0,.ptr 0 0),(3,.ptr 1 0),(99,.s .fm p.Ac),(100,.i p.Ac.length),(101,.i m)],⟨2,[(0,.var [.i ((B5 (p.Ac.take m) a0.2).2.1:Nat),.bool (B5 (p.Ac.take m) a0.2).2.2]),(1,.var p.view)]⟩))
     (by omega) (fun m=>rfl) (fun m=>rfl) rfl rfl (M.W [some 0,some 1]) ?_ ?_
    ·intro m hm hP2;have hs2:=zc Fm.full (List.getElem_mem hm);have hs4:=zn Fm.size p.Ac m;have hok:=(Kj (p.Ac.take m) a0.2).2.1;have hnn:=Xz p.Ac[m];have hnum:p.Ac[m].num=(p.Ac[m].num.toNat:Int):=by omega
     have hc:=Q9 p.Ac[m] (by omega);rw[hnum] at hc;have hcnt:=NV (B5 (p.Ac.take m) a0.2).2.1 (B5 (p.Ac.take m) a0.2).2.2 p.Ac[m].num.toNat p.Ac[m].err (by simp only at hAok;omega) (by omega);by_cases h2:p.Ac[m].err=2
     ·rw[show(p.Ac[m].err !=2)=false by simp[h2]] at hcnt;have hst:=W6 hm hP2 h2;rw[hst,if_pos rfl] at he;rw[he];(repeat' first|refine M.gw ?_|refine M.c2 (hc) ?_|refine M.cb (hcnt) [0] 0 ?_|fail)
      (exact M.n2 [some 0] (h8:=(by simp[zj,V.wk,V.Ap,za,Ty.view,Tm.view,V.BP])))
     ·rw[show(p.Ac[m].err !=2)=true by simp[h2]] at hcnt;have hA1:B5 (p.Ac.take (m+1)) a0.2=(true,((B5 (p.Ac.take m) a0.2).2.1+p.Ac[m].num.toNat,(B5 (p.Ac.take m) a0.2).2.2||p.Ac[m].err==4)):=by
       rw[TW hm hP2,B5,if_neg h2];rfl
      (repeat' first|refine M.gw ?_|refine M.c2 (hc) ?_|refine M.cb (hcnt) [0] 0 ?_|fail);refine⟨rfl,congrArg Prod.fst hA1,?_⟩;simp only[hA1];exact(M.W [some 0,some 1])
    ·intro hP2;simp only[List.take_length] at hP2;simp only[List.take_length];have hBok:=(Kj p.Ac a0.2).2.1;rw[if_neg (by simp[hP2])] at he;generalize hB0:B5 p.Ac a0.2=b0 at*;(repeat' first|refine M.gw ?_|fail);refine AW.range p.args.length (fun m=>(Cp (p.args.take m) b0.2).1=true)
      (fun m=>([(0,.ptr 0 0),(3,.ptr 1 0),(114,.s .pf p.args),(115,.i p.args.length),(116,.i m)],⟨2,[(0,.var [.i ((Cp (p.args.take m) b0.2).2.1:Nat),.bool (Cp (p.args.take m) b0.2).2.2]),(1,.var p.view)]⟩))
      (by omega) (fun m=>rfl) (fun m=>rfl) rfl rfl (M.W [some 0,some 1]) ?_ ?_
     ·intro m hm hP3;have hs2:=zc Pf.full (List.getElem_mem hm);have hs4:=zn Pf.size p.args m;have hok:=(Rx (p.args.take m) (fun q _=>Qe q) b0.2).2.1;have hs5:=yl Pf.full p.args m hm;have hs6:=zn Pf.full p.args (m+1);have hs7:=y0 (f:=Pf.size) (g:=Pf.full) (p.args.take m) fun x _=>x.Aj;have hc:=ih p.args[m] (Cp (p.args.take m) b0.2).2 (by omega) (by omega) (by simp only at hAok;omega);cases h2:(Dt p.args[m] (Cp (p.args.take m) b0.2).2).1 with
      |false=>
       have hst:=Wm hm hP3 h2;rw[hst] at he;rw[he];rw[h2] at hc ⊢;(repeat' first|refine M.gw ?_|refine M.cb (hc) [0] 0 ?_|fail)
       (exact M.n2 [some 0] (h8:=(by simp[zj,V.wk,V.Ap,za,Ty.view,Tm.view,V.BP])))
      |true=>
       rw[h2] at hc;have hA1:Cp (p.args.take (m+1)) b0.2=Dt p.args[m] (Cp (p.args.take m) b0.2).2:=by rw[VC hm hP3,XK]
       (repeat' first|refine M.gw ?_|refine M.cb (hc) [0] 0 ?_|fail);refine⟨rfl,(congrArg Prod.fst hA1).trans h2,?_⟩;simp only[hA1];exact(M.W [some 0,some 1])
     ·intro hP3;simp only[List.take_length] at hP3;simp only[List.take_length];rw[he,hP3];(repeat' first|refine M.gw ?_|fail)
      (exact M.n2 [some 0] (h8:=(by simp[zj,V.wk,V.Ap,za,Ty.view,Tm.view,V.BP])))
theorem yx(k v h:Int)(nd:Nd)(hnd:BO k=some nd)(m:Nat)(hm:m<=1000000)(hv:0<=v/\v<=1000000000000)(hh:0<=h/\h<=1000000000000):
 PC E 148 [.agg [.i v,.i h],.agg (CR k),.i m] (.agg [.i (if(m:Int)=(nd.args:Int)-1 then v+As k else v),.i (if(m:Int)=(nd.args:Int)-1 then h+At k else h)]):=by
 have e2:CR k=[.bool nd.index,.bool nd.typ,.i nd.terms,.i nd.Ac,.i nd.args,.i (AD k),.i (As k),.i (At k)]:=by unfold CR;rw[hnd]
 have b1:0<=As k/\As k<=2:=by unfold As;split<;>(try split)<;>omega
 have b2:0<=At k/\At k<=1:=by unfold At;split<;>omega
 have b3:(nd.args:Int)<=2:=by
  have:nd.args<=2:=by
   unfold BO at hnd
   repeat(split at hnd;· cases hnd;decide)
   cases hnd
  omega
 rw[e2];by_cases hl:(m:Int)=(nd.args:Int)-1
 ·rw[if_pos hl,if_pos hl];refine M.F Tryz.func148 ?_;(repeat' first|refine M.gw ?_|refine M.cs ?_ ?_<;>intro h|fail);all_goals first
   |rfl
   |(exfalso;simp at h;omega)
   |trace_state
 ·rw[if_neg hl,if_neg hl];refine M.F Tryz.func148 ?_;(repeat' first|refine M.gw ?_|refine M.cs ?_ ?_<;>intro h|fail);all_goals first
   |rfl
   |(exfalso;simp at h;omega)
   |trace_state
theorem XG:∀(b:Nat) (p:Pf),p.full<=b->b<549755813888->PC E 48 [.agg p.view] (.agg p.view):=by
 intro b;induction b with
 |zero=>intro f h;have:=f.Aa;omega
 |succ b ih=>
 intro p hsz hb;have hsz':=p.Ag;have hlen:=zd Pf.full Pf.Aa p.args;have hlen1:=zd Fm.full Fm.Aa p.Ac;have hlen2:=zd Tm.full Tm.Aa p.terms;have hty:=wv _ p.ty (Nat.le_refl _) (by omega);refine M.F Tryz.func48 ?_;(repeat' first|refine M.gw ?_|refine M.c2 (hty) ?_|fail);refine AW.range p.terms.length (fun m=>True)
  (fun m=>([(1,.ptr 0 0),(2,.ptr 1 0),(3,.ptr 2 0),(19,.s .tm p.terms),(20,.i p.terms.length),(21,.i m)],⟨4,[(0,.var p.view),(1,.var [.i 0,.i 0,.i 0,.slice .nil (.t .ty []),.slice .nil (.t .tm []),.slice .nil (.t .fm []),.slice .nil (.t .pf [])]),(2,.var [.i p.kind,.i p.index,.i p.ty.kind,.s .ty p.ty.args,.slice (.own 3) (.t .tm (p.terms.take m)),.slice .nil (.t .fm []),.slice .nil (.t .pf [])]),(3,.row)]⟩))
  (by omega) (fun m=>rfl) (fun m=>rfl) rfl trivial (M.W [some 0,some 1,some 2,none]) ?_ ?_
 ·intro m hm _;have hs2:=zc Tm.full (List.getElem_mem hm);(repeat' first|refine M.gw ?_|refine M.c2 (Ih _ _ (Nat.le_refl _) ?_) ?_|exact M.lt|fail);exact⟨rfl,trivial,(M.W [some 0,some 1,some 2,some 5] (he:=(by(repeat'(first|exact trivial|exact Or.inr ⟨_,U,rfl⟩|refine And.intro ?_ ?_|refine⟨_,U,_,U,_,U,?_⟩|exact An.refl _|exact An.of_eq (by simp[Ao.Ax,List.take_append_getElem])));done)))⟩
 ·intro _;simp only[List.take_length];(repeat' first|refine M.gw ?_|fail);refine AW.range p.Ac.length (fun m=>True)
   (fun m=>([(1,.ptr 0 0),(2,.ptr 1 0),(3,.ptr 2 0),(34,.s .fm p.Ac),(35,.i p.Ac.length),(36,.i m)],⟨5,[(0,.var p.view),(1,.var [.i 0,.i 0,.i 0,.slice .nil (.t .ty []),.slice .nil (.t .tm []),.slice .nil (.t .fm []),.slice .nil (.t .pf [])]),(2,.var [.i p.kind,.i p.index,.i p.ty.kind,.s .ty p.ty.args,.slice (.own 3) (.t .tm p.terms),.slice (.own 4) (.t .fm (p.Ac.take m)),.slice .nil (.t .pf [])]),(3,.row),(4,.row)]⟩))
   (by omega) (fun m=>rfl) (fun m=>rfl) rfl trivial (M.W [some 0,some 1,some 2,some 3,none]) ?_ ?_
  ·intro m hm _;have hs2:=zc Fm.full (List.getElem_mem hm);(repeat' first|refine M.gw ?_|refine M.c2 (vx _ _ (Nat.le_refl _) ?_) ?_|exact M.lt|fail);exact⟨rfl,trivial,(M.W [some 0,some 1,some 2,some 3,some 6] (he:=(by(repeat'(first|exact trivial|exact Or.inr ⟨_,U,rfl⟩|refine And.intro ?_ ?_|refine⟨_,U,_,U,_,U,?_⟩|exact An.refl _|exact An.of_eq (by simp[Ao.Ax,List.take_append_getElem])));done)))⟩
  ·intro _;simp only[List.take_length];(repeat' first|refine M.gw ?_|fail);refine AW.range p.args.length (fun m=>True)
    (fun m=>([(1,.ptr 0 0),(2,.ptr 1 0),(3,.ptr 2 0),(49,.s .pf p.args),(50,.i p.args.length),(51,.i m)],⟨6,[(0,.var p.view),(1,.var [.i 0,.i 0,.i 0,.slice .nil (.t .ty []),.slice .nil (.t .tm []),.slice .nil (.t .fm []),.slice .nil (.t .pf [])]),(2,.var [.i p.kind,.i p.index,.i p.ty.kind,.s .ty p.ty.args,.slice (.own 3) (.t .tm p.terms),.slice (.own 4) (.t .fm p.Ac),.slice (.own 5) (.t .pf (p.args.take m))]),(3,.row),(4,.row),(5,.row)]⟩))
    (by omega) (fun m=>rfl) (fun m=>rfl) rfl trivial (M.W [some 0,some 1,some 2,some 3,some 4,none]) ?_ ?_
   ·intro m hm _;have hs2:=zc Pf.full (List.getElem_mem hm);(repeat' first|refine M.gw ?_|refine M.c2 (ih _ ?_ ?_) ?_|exact M.le|exact M.lt|fail);exact⟨rfl,trivial,(M.W [some 0,some 1,some 2,some 3,some 4,some 7] (he:=(by(repeat'(first|exact trivial|exact Or.inr ⟨_,U,rfl⟩|refine And.intro ?_ ?_|refine⟨_,U,_,U,_,U,?_⟩|exact An.refl _|exact An.of_eq (by simp[Ao.Ax,List.take_append_getElem])));done)))⟩
   ·intro _;simp only[List.take_length];(repeat' first|refine M.gw ?_|fail)
    rfl
theorem w8(k:Int)(l:List Pf)(hl:l.length<1000000)(h:∀p∈l,p.full<500000000000):PC E 14 [.i k,.s .pf l] (.agg (Pf.mk k 0 (.mk 0 []) [] [] l).view):=by
 refine M.F Tryz.func14 ?_;(repeat' first|refine M.gw ?_|fail);refine AW.range l.length (fun m=>True)
  (fun m=>([(4,.ptr 0 0),(5,.ptr 1 0),(10,.s .pf l),(11,.i l.length),(12,.i m)],⟨3,[(0,.var [.i 0,.i 0,.i 0,.slice .nil (.t .ty []),.slice .nil (.t .tm []),.slice .nil (.t .fm []),.slice .nil (.t .pf [])]),(1,.var [.i k,.i 0,.i 0,.slice .nil (.t .ty []),.slice .nil (.t .tm []),.slice .nil (.t .fm []),.slice (.own 2) (.t .pf (l.take m))]),(2,.row)]⟩))
  (by omega) (fun m=>rfl) (fun m=>rfl) rfl trivial (M.W [some 0,some 1,none]) ?_ ?_
 ·intro m hm _;have hc:=XG _ l[m] (Nat.le_refl _) (by have:=h _ (List.getElem_mem hm);omega);(repeat' first|refine M.gw ?_|refine M.c2 (hc) ?_|fail);exact⟨rfl,trivial,(M.W [some 0,some 1,some 4] (he:=(by(repeat'(first|exact trivial|exact Or.inr ⟨_,U,rfl⟩|refine And.intro ?_ ?_|refine⟨_,U,_,U,_,U,?_⟩|exact An.refl _|exact An.of_eq (by simp[Ao.Ax,List.take_append_getElem])));done)))⟩
 ·intro _;simp only[List.take_length];(repeat' first|refine M.gw ?_|fail)
  rfl
theorem MR(k:Int)(t:Tm)(p:Pf)(ht:t.full<500000000000)(hp:p.full<500000000000):PC E 61 [.i k,.agg t.view,.agg p.view] (.agg (Pf.mk k 0 (.mk 0 []) [t] [] [p]).view):=by
 have h1:=w8 k [p] (by simp) (by simp;omega);have h2:=Ih _ t (Nat.le_refl _) (by omega);refine M.F Tryz.func61 ?_;(repeat' first|refine M.gw ?_|refine M.c2 (h1) ?_|refine M.c2 (h2) ?_|fail)
 rfl
theorem Mn(f:Fm)(p:Pf)(hf:f.full<500000000000)(hp:p.full<500000000000):PC E 37 [.agg f.view,.agg p.view] (.agg (Pf.mk 6 0 (.mk 0 []) [] [f] [p]).view):=by
 have h1:=w8 6 [p] (by simp) (by simp;omega);have h2:=vx _ f (Nat.le_refl _) (by omega);refine M.F Tryz.func37 ?_;(repeat' first|refine M.gw ?_|refine M.c2 (h1) ?_|refine M.c2 (h2) ?_|fail)
 rfl
theorem LF(k:Int)(s:Ty)(p:Pf)(hs:s.size<500000000000)(hp:p.full<500000000000):PC E 59 [.i k,.agg s.view,.agg p.view] (.agg (Pf.mk k 0 s [] [] [p]).view):=by
 have h1:=w8 k [p] (by simp) (by simp;omega);have h2:=wv _ s (Nat.le_refl _) (by omega);refine M.F Tryz.func59 ?_;(repeat' first|refine M.gw ?_|refine M.c2 (h1) ?_|refine M.c2 (h2) ?_|fail)
 rfl
theorem JK(k:Int)(f:Fm)(t:Tm)(p:Pf)(hf:f.full<500000000000)(ht:t.full<500000000000)(hp:p.full<500000000000):PC E 66 [.i k,.agg f.view,.agg t.view,.agg p.view] (.agg (Pf.mk k 0 (.mk 0 []) [t] [f] [p]).view):=by
 have h1:=MR k t p ht hp;have h2:=vx _ f (Nat.le_refl _) (by omega);refine M.F Tryz.func66 ?_;(repeat' first|refine M.gw ?_|refine M.c2 (h1) ?_|refine M.c2 (h2) ?_|fail)
 rfl
theorem LH(k:Int)(f:Fm)(t:Tm)(p q:Pf)(hf:f.full<500000000000)(ht:t.full<500000000000)(hp:p.full<500000000000)(hq:q.full<500000000000):PC E 38 [.i k,.agg f.view,.agg t.view,.agg p.view,.agg q.view] (.agg (Pf.mk k 0 (.mk 0 []) [t] [f] [p,q]).view):=by
 have h1:=w8 k [p,q] (by simp) (by intro x hx;simp only[List.mem_cons,List.not_mem_nil,or_false] at hx;rcases hx with rfl|rfl<;>omega);have h2:=vx _ f (Nat.le_refl _) (by omega);have h3:=Ih _ t (Nat.le_refl _) (by omega);refine M.F Tryz.func38 ?_;(repeat' first|refine M.gw ?_|refine M.c2 (h1) ?_|refine M.c2 (h2) ?_|refine M.c2 (h3) ?_|fail)
 rfl
theorem x8(t:Tm)(ht:t.full<500000000000):PC E 32 [.agg t.view] (.agg (Pf.mk 18 0 (.mk 0 []) [t] [] []).view):=by
 have h2:=Ih _ t (Nat.le_refl _) (by omega);refine M.F Tryz.func32 ?_;(repeat' first|refine M.gw ?_|refine M.c2 (h2) ?_|fail)
 rfl
theorem UN(f:Fm)(p q:Pf)(hf:f.full<500000000000)(hp:p.full<500000000000)(hq:q.full<500000000000):PC E 69 [.agg f.view,.agg p.view,.agg q.view] (.agg (Pf.mk 19 0 (.mk 0 []) [] [f] [p,q]).view):=by
 have h1:=w8 19 [p,q] (by simp) (by intro x hx;simp only[List.mem_cons,List.not_mem_nil,or_false] at hx;rcases hx with rfl|rfl<;>omega);have h2:=vx _ f (Nat.le_refl _) (by omega);refine M.F Tryz.func69 ?_;(repeat' first|refine M.gw ?_|refine M.c2 (h1) ?_|refine M.c2 (h2) ?_|fail)
 rfl
theorem Fm.Lw(G:Int->Tm->Tm)(c:Int)(f:Fm):∀b,f.re (fun b t=>G (c+b) t) b=f.re G (c+b):=by
 induction f using Fm.ind with
 |h f ih=>
  intro b;rw[Fm.Bj,Fm.Bj];congr 1;refine List.map_congr_left fun x hx=> ?_;have e:A3 f.kind (c+b)=c+A3 f.kind b:=by simp only[A3];split<;>omega
  rw[e];exact ih x hx _
theorem Ykb(f:Fm)(fr by_:Int):f.AV fr by_=f.re (fun b t=>t.re (zl b by_) 0) fr:=by
 have:=Fm.Lw (fun b t=>t.re (zl b by_) 0) fr f 0;rw[Int.add_zero] at this;exact this
theorem Yji(by_:Int)(hby: -549755813888<=by_/\by_<=549755813888):∀(n:Nat) (f:Fm) (fr:Int),f.full<=n->n<274877906944->-274877906944<=fr->fr+n<549755813888->f.shape=true->(∀p∈f.A2 0,∀q∈p.1.vars 0,0<=q.1/\q.1<549755813888)->
 PC E 39 [.agg f.view,.i fr,.i by_] (.agg (f.re (fun b t=>t.re (zl b by_) 0) fr).view):=by
 intro n;induction n with
 |zero=>intro f dp h;have:=f.Aa;omega
 |succ n ih=>
 intro f fr hsz hn h1 h2 hf hix;have hsz':=f.Ag;have hlen:=zd Fm.full Fm.Aa f.args;have hlen2:=zd Tm.full Tm.Aa f.terms;have hup:=Ke f.kind fr;have hpl:=Nz f.kind fr;have hb:=OG f;have he:=Fm.Bj (fun b t=>t.re (zl b by_) 0) fr f;have htm:=f.A5 0;refine M.F Tryz.func39 ?_;(repeat' first|refine M.gw ?_|fail);refine AW.range f.terms.length (fun m=>True) (fun m=>([(1,.i fr),(2,.i by_),(3,.ptr 0 0),(6,.ptr 1 0),(7,.ptr 2 0),(18,.s .tm f.terms),(19,.i f.terms.length),(20,.i m)],⟨4,[(0,.var f.view),(1,.var [.i 0,.i 0,.slice .nil (.t .ty []),.slice .nil (.t .tm []),.slice .nil (.t .fm [])]),(2,.var [.i f.kind,.i f.ty.kind,.s .ty f.ty.args,.slice (.own 3) (.t .tm ((f.terms.take m).map fun t=>t.re (zl fr by_) 0)),.slice .nil (.t .fm [])]),(3,.row)]⟩))
  (by omega) (fun m=>rfl) (fun m=>rfl) rfl trivial (M.W [some 0,some 1,some 2,none]) ?_ ?_
 ·intro m hm _;have hs2:=zc Tm.full (List.getElem_mem hm);have hc:=PU by_ hby _ f.terms[m] fr (Nat.le_refl _) (by omega) (by omega) (by omega) (ye hf (List.getElem_mem hm)) (fun p hp=>hix (f.terms[m],0) (by rw[htm];exact List.mem_append_left _ (List.mem_map.2 ⟨_,List.getElem_mem hm,rfl⟩)) p hp);(repeat' first|refine M.gw ?_|refine M.c2 (hc) ?_|fail);exact⟨rfl,trivial,(M.W [some 0,some 1,some 2,some 5] (he:=(by(repeat'(first|exact trivial|exact Or.inr ⟨_,U,rfl⟩|refine And.intro ?_ ?_|refine⟨_,U,_,U,_,U,?_⟩|exact An.refl _|exact An.of_eq (by simp[Ao.Ax,z8 _ _ _ hm])));done)))⟩
 ·intro _;simp only[List.take_length];(repeat' first|refine M.gw ?_|fail);refine AW.range f.args.length (fun m=>True) (fun m=>([(1,.i fr),(2,.i by_),(3,.ptr 0 0),(6,.ptr 1 0),(7,.ptr 2 0),(35,.s .fm f.args),(36,.i f.args.length),(37,.i m)],⟨5,[(0,.var f.view),(1,.var [.i 0,.i 0,.slice .nil (.t .ty []),.slice .nil (.t .tm []),.slice .nil (.t .fm [])]),(2,.var [.i f.kind,.i f.ty.kind,.s .ty f.ty.args,.slice (.own 3) (.t .tm (f.terms.map fun t=>t.re (zl fr by_) 0)),.slice (.own 4) (.t .fm ((f.args.take m).map fun x=>x.re (fun b t=>t.re (zl b by_) 0) (A3 f.kind fr)))]),(3,.row),(4,.row)]⟩))
   (by omega) (fun m=>rfl) (fun m=>rfl) rfl trivial (M.W [some 0,some 1,some 2,some 3,none]) ?_ ?_
  ·intro m hm _;have hs2:=zc Fm.full (List.getElem_mem hm);have hc:=ih f.args[m] (A3 f.kind fr) (by omega) (by omega) (by omega) (by omega) (zw hf (List.getElem_mem hm)) (fun p hp q hq=>by
    obtain⟨p',hp',hpe⟩:=VL (b':=A3 f.kind 0) p hp;rw[<-hpe] at hq;exact hix p' (by rw[htm];exact List.mem_append_right _ (List.mem_flatMap.2 ⟨_,List.getElem_mem hm,hp'⟩)) q hq)
   rw[<-hpl] at hc;simp only[<-hpl];(repeat' first|refine M.gw ?_|refine M.c2 (hb) ?_|refine M.c2 (hc) ?_|fail);exact⟨rfl,trivial,(M.W [some 0,some 1,some 2,some 3,some 6] (he:=(by(repeat'(first|exact trivial|exact Or.inr ⟨_,U,rfl⟩|refine And.intro ?_ ?_|refine⟨_,U,_,U,_,U,?_⟩|exact An.refl _|exact An.of_eq (by simp[Ao.Ax,z8 _ _ _ hm])));done)))⟩
  ·intro _;simp only[List.take_length];(repeat' first|refine M.gw ?_|fail);rw[he]
   rfl
theorem Ff{f:Fm}{g:List Ty}(hok:f.Bl g)(hs:f.shape=true)(hz:f.size<=20000000)(hg:g.length<=100)(fr by_:Int)(h1:0<=fr/\fr<=100)(h2: -100<=by_/\by_<=100):
 PC E 39 [.agg f.view,.i fr,.i by_] (.agg (f.AV fr by_).view):=by
 have hfl:=ID f hs;rw[Ykb];exact Yji by_ (by omega) _ f fr (Nat.le_refl _) (by omega) (by omega) (by omega) hs (fun p hp q hq=>by
  have a1:=Pu hok hs p hp q hq;have a2:=Tm.AJ p.1 (IZ f hs 0 p hp) 0 q hq;omega)
theorem Ztf:∀(n:Nat) (f:Fm),f.size<=n->f.shape=true->PC E 228 [.agg f.view] (.bool (Eg f)):=by
 intro n;induction n with
 |zero=>intro f h;have:=f.size_pos;omega
 |succ n ih=>
 intro f hz hs;rcases Qm hs with⟨k,_⟩|⟨k,_⟩|⟨k,_⟩
 ·obtain ⟨a,b,rfl⟩:=Py hs k;exact Yca a b
 ·obtain ⟨a,b,e⟩:=MJ hs k;rw[e] at hz hs;rw[Ok] at hz;have ha:=ih a (by omega) (zw hs (by simp[ue]));have hb:=ih b (by omega) (zw hs (by simp[ue]));rcases k with k|k
  ·rw[k] at e;subst e;have e:Eg (ue 2 a b)=(Eg a||Eg b):=by rw[Qh];rfl
   rw[e];clear e hz hs k;unfold ue;cases h0:Eg a with
   |true=>
    rw[h0] at ha;refine M.F Tryz.func228 ?_;(repeat' first|refine M.gw ?_|refine M.c2 (ha) ?_|refine M.bl ?_|fail)
    rfl
   |false=>
    rw[h0] at ha;refine M.F Tryz.func228 ?_;(repeat' first|refine M.gw ?_|refine M.c2 (ha) ?_|refine M.c2 (hb) ?_|refine M.bl ?_|fail)
    rfl
  ·rw[k] at e;subst e;have e:Eg (ue 3 a b)=Eg b:=by rw[Qh];rfl
   rw[e];clear e hz hs k;unfold ue;refine M.F Tryz.func228 ?_;(repeat' first|refine M.gw ?_|refine M.c2 (hb) ?_|refine M.bl ?_|fail)
   rfl
 ·obtain ⟨a,e⟩:=Hw hs (by omega);rw[e] at hz hs;rw[J1] at hz;have ha:=ih a (by omega) (zw hs (by simp[Bo]));have e2:Eg (Bo f.kind f.ty a)=if f.kind=5 then true else Eg a:=by
   rw[Qh];show(if f.kind=1 then false else if f.kind=2 then _ else if f.kind=5 then true else Eg a)=_;rw[if_neg (by omega),if_neg (by omega)]
  rw[<-e] at e2;rw[e2,e];clear e2 hz hs;generalize f.ty=s at*;rcases k with k|k|k|k;all_goals(rw[k])
  all_goals(clear e k)
  all_goals(unfold Bo)
  all_goals(refine M.F Tryz.func228 ?_)
  all_goals(repeat'(first|refine M.gw ?_|refine M.c2 (ha) ?_|refine M.bl ?_|fail))
  all_goals rfl
theorem Zs1(f:Fm)(he:f.err=0):PC E 182 [.agg f.view] (.Az [.bool (Eg f),.i 0]):=by
 have s:=(Fm.Ae f).1 he;have h1:=KI f (by have:=ID f s.1;omega);have h2:=Ztf _ f (Nat.le_refl _) s.1;rw[he] at h1;refine M.F Tryz.func182 ?_;(repeat' first|refine M.gw ?_|refine M.c2 (h1) ?_|refine M.c2 (h2) ?_|fail)
 rfl
theorem U6(l:List Int):PC E 242 [.s .int l] (.bool (Ku l)):=by
 cases l with
 |nil=>
  refine M.F Tryz.func242 ?_;(repeat' first|refine M.gw ?_|fail)
  rfl
 |cons x l=>
  refine M.F Tryz.func242 ?_;(repeat' first|refine M.go ?_|refine M.gs ?_ ?_<;>intro h|refine M.z1 9 ?_|refine M.gk ?_|fail);all_goals first
   |rfl
   |(exfalso;simp at h;done)
   |(exfalso;simp at h;omega)
theorem NX(t:Tm){g:List Ty}{T:Ty}(ht:t.err=0)(hi:t.inf g=(T,0))(hg:g.length<=100):PC E 244 [.agg t.view] (.s .int (Fb t)):=by
 have s:=(Tm.Ae t).1 ht;have hfl:=z9 ht;have h1:=Yds t (by omega) (fun _ p hp=>by
  have a1:=Mw t g 0 (g.length+t.size) (by rw[hi]) s.1 (by omega) p hp;have a2:=Tm.AJ t s.1 0 p hp;omega)
 unfold Fb;refine M.F Tryz.func244 ?_;(repeat' first|refine M.gw ?_|refine M.c2 (h1) ?_|fail);simp[zj,V.wk,V.Ap]
theorem JZ(f:Fm)(t:Tm)(hf:f.full<549755813888)(ht:t.full<549755813888):PC E 245 [.agg f.view,.agg t.view] (.Az [.agg (Dv f t).1.view,.i (Dv f t).2]):=by
 have h1:=Ygo f 0 t hf ht;refine M.F Tryz.func245 ?_;(repeat' first|refine M.gw ?_|refine M.c2 (h1) ?_|fail)
 rfl
theorem Lh(c:Ck)(v h:Nat)(h1:c.tys.length<=1000/\v<=1000)(h2:c.hyps.length<=1000/\h<=1000):PC E 215 [.agg c.view,.i v,.i h] (.i (c.room v h)):=by
 unfold Ck.room;by_cases a1:c.tys.length+v>16
 ·rw[if_pos (.inl a1)];have b1:decide (((c.tys.length:Nat):Int)+v>16)=true:=by simp;omega
  refine M.F Tryz.func215 ?_;(repeat' first|refine M.gw ?_|refine M.gs ?_ ?_<;>intro h|refine M.cs ?_ ?_<;>intro h|fail);all_goals first
   |rfl
   |(exfalso;simp at*;omega)
 ·by_cases a2:c.hyps.length+h>16
  ·rw[if_pos (.inr a2)];refine M.F Tryz.func215 ?_;(repeat' first|refine M.gw ?_|refine M.gs ?_ ?_<;>intro h|refine M.cs ?_ ?_<;>intro h|fail);all_goals first
    |rfl
    |(exfalso;simp at*;omega)
  ·rw[if_neg (by omega)];refine M.F Tryz.func215 ?_;(repeat' first|refine M.gw ?_|refine M.gs ?_ ?_<;>intro h|refine M.cs ?_ ?_<;>intro h|fail);all_goals first
    |rfl
    |(exfalso;simp at*;omega)
theorem NT(c:Ck)(f:Fm)(h:c.hyps.length<=1000):PC E 216 [.agg c.view,.agg f.view] (.agg (c.AA f).view):=by
 unfold Ck.AA;refine M.F Tryz.func216 ?_;(repeat' first|refine M.gw ?_|fail)
 rfl
theorem Ro(c:Ck)(t:Tm)(k:Int)(ht:t.full<137438953000)(hg:(c.tys.map Ty.size).sum<1099511627776):PC E 224 [.agg c.view,.agg t.view,.i k] (.i (Fa c t k)):=by
 have h1:=RY c.tys t (by omega) hg;unfold Fa;by_cases e:(y3 c.tys t).2=0
 ·rw[if_neg (by simp[e])];rw[e] at h1;by_cases e2:(y3 c.tys t).1.kind=k
  ·rw[if_neg (by simp[e2])];refine M.F Tryz.func224 ?_;(repeat' first|refine M.gw ?_|refine M.c2 (h1) ?_|refine M.cs ?_ ?_<;>intro h|fail);all_goals first
    |rfl
    |(exfalso;simp at h;exact h e2)
  ·rw[if_pos e2];refine M.F Tryz.func224 ?_;(repeat' first|refine M.gw ?_|refine M.c2 (h1) ?_|refine M.cs ?_ ?_<;>intro h|fail);all_goals first
    |rfl
    |(exfalso;simp at h;exact e2 h)
 ·rw[if_pos e];refine M.F Tryz.func224 ?_;(repeat' first|refine M.gw ?_|refine M.c2 (h1) ?_|refine M.cs ?_ ?_<;>intro h|fail);all_goals first
   |rfl
   |(exfalso;simp_all;done)
theorem Vm{acc l:List Int}{m:Nat}(hm:m<l.length):BA acc (l.take (m+1))=v9 l[m] (BA acc (l.take m)):=by
 rw[List.take_succ_eq_append_getElem hm,Zip,Qp]
theorem HF(a b:List Int)(ha:a.length<=100000)(hb:b.length<=100000):PC E 214 [.s .int a,.s .int b] (.s .int (ua a b)):=by
 have hl1:=LO a [];have hl2:=LO b (BA [] a);have hs:=VS (ks:=BA (BA [] a) b) (JG (JG List.nodup_nil)) (by simp at hl1;omega);refine M.F Tryz.func214 ?_;(repeat' first|refine M.gw ?_|fail);refine AW.range a.length (fun m=>True)
  (fun m=>([(1,.s .int b),(5,.mp 0),(11,.s .int a),(12,.i a.length),(13,.i m)],⟨1,[(0,.map .bl (BA [] (a.take m)) (List.replicate (BA [] (a.take m)).length true))]⟩))
  (by omega) (fun m=>rfl) (fun m=>rfl) rfl trivial ?_ ?_ ?_
 ·simp only[List.take_zero,JJ,List.length_nil,List.replicate_zero];exact(M.W [some 0])
 ·intro m hm _;(repeat' first|refine M.gw ?_|fail);refine⟨rfl,trivial,?_⟩;simp only[Vm hm];rw[<-Kn];exact(M.W [some 0])
 ·intro _;simp only[List.take_length];(repeat' first|refine M.gw ?_|fail);refine AW.range b.length (fun m=>True)
   (fun m=>([(5,.mp 0),(20,.s .int b),(21,.i b.length),(22,.i m)],⟨1,[(0,.map .bl (BA (BA [] a) (b.take m)) (List.replicate (BA (BA [] a) (b.take m)).length true))]⟩))
   (by omega) (fun m=>rfl) (fun m=>rfl) rfl trivial ?_ ?_ ?_
  ·simp only[List.take_zero,JJ];exact(M.W [some 0])
  ·intro m hm _;(repeat' first|refine M.gw ?_|fail);refine⟨rfl,trivial,?_⟩;simp only[Vm hm];rw[<-Kn];exact(M.W [some 0])
  ·intro _;simp only[List.take_length];(repeat' first|refine M.gw ?_|refine M.cb (hs) [0] 0 ?_|fail)
   rfl
theorem Zwz{l:List Int}{n:Int}{m:Nat}(hm:m<l.length):DZ (l.take (m+1)) n=if l[m]>=n then DZ (l.take m) n++[l[m]-n] else DZ (l.take m) n:=by
 unfold DZ;rw[List.take_succ_eq_append_getElem hm,List.filter_append,List.map_append];by_cases h:l[m]>=n
 ·rw[if_pos h];simp[List.filter,h]
 ·rw[if_neg h];simp[List.filter,h]
theorem Nn(l:List Int)(n:Int):(DZ l n).length<=l.length:=by unfold DZ;rw[List.length_map];exact List.length_filter_le _ _
theorem Ng(l:List Int)(n:Int)(hl:l.length<=100000)(hn:0<=n/\n<=100)(hx:∀x∈l,0<=x/\x<=1000000):PC E 241 [.s .int l,.i n] (.s .int (DZ l n)):=by
 refine M.F Tryz.func241 ?_;(repeat' first|refine M.gw ?_|fail);refine AW.range l.length (fun m=>True)
  (fun m=>([(1,.i n),(5,.slice (.own 0) (.t .int (DZ (l.take m) n))),(8,.s .int l),(9,.i l.length),(10,.i m)],⟨1,[(0,.row)]⟩))
  (by omega) (fun m=>rfl) (fun m=>rfl) rfl trivial (M.W [none]) ?_ ?_
 ·intro m hm _;have hol:=Nn (l.take m) n;have hol2:(DZ (l.take m) n).length<=l.length:=by rw[List.length_take] at hol;omega
  have hv:=hx l[m] (List.getElem_mem hm);have he:=Zwz (n:=n) hm;(repeat' first|refine M.gw ?_|refine M.cs ?_ ?_<;>intro h|fail)
  ·have h':l[m]>=n:=by simpa using h
   rw[if_pos h'] at he;refine⟨rfl,trivial,?_⟩;simp only[he];exact(M.W [some 1])
  ·have h':¬l[m]>=n:=by simpa using h
   rw[if_neg h'] at he;refine⟨rfl,trivial,?_⟩;simp only[he];exact(M.W [some 0])
 ·intro _;simp only[List.take_length];(repeat' first|refine M.gw ?_|fail)
  rfl
end Go.Ab
