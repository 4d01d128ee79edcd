/- A part of the proofs of this seat. No conditions. -/
import Derived.Test.YtjgokiomgcfclaaGreatDoorEDT1
import Derived.Test.YtjgokiomgcfclaaGreatDoorES6
namespace Go.Ab
open Go Go.Proofs
set_option maxRecDepth 100000
set_option maxHeartbeats 4000000
set_option linter.all false
def K1(r:Nat):List Int->AF×Al
 |[]=>([(3,.slice .nil (.t .int [])),(7,.raw (.pointer (some ⟨r,0,none⟩)))],⟨1,[(0,.gone)]⟩)
 |x::d=>([(3,.arr 1 (d.length+1) 1),(7,.raw (.pointer (some ⟨r,0,none⟩)))],⟨2,[(1,.var ((y0 (x::d)).flatMap EC.int.view)),(0,.gone)]⟩)
theorem Zz3(r:Nat)(d:List Int)(q:Int):K1 r (d++[q])=([(3,.arr 1 (d.length+1) 1),(7,.raw (.pointer (some ⟨r,0,none⟩)))],⟨2,[(1,.var ((y0 (d++[q])).flatMap EC.int.view)),(0,.gone)]⟩):=by
 cases d with
 |nil=>rfl
 |cons x d=>simp[K1]
def Gu(r:Nat)(l:List Int)(q:Int)(i:Nat):AF×Al:=([(3,.arr 1 (l.length+1) 1),(4,.i q),(5,.i i),(7,.raw (.pointer (some ⟨r,0,none⟩)))],⟨2,[(1,.var ((CH (y0 l) q i).flatMap EC.int.view)),(0,.gone)]⟩)
theorem R7{ks:List Int}(hnd:ks.Nodup)(hlen:ks.length<549755813888):AC E 214 [.mp 0] ⟨1,[(0,.map .bl ks (List.replicate ks.length true))]⟩ (.s .int (y0 ks)) ⟨1,[(0,.map .bl ks (List.replicate ks.length true))]⟩:=by
 refine AC.mk Tryz.func214 rfl rfl rfl rfl rfl (Nat.le_of_ble_eq_true rfl) ?_;repeat'(first|((with_reducible refine D.nil ?_);refine AX.Bk ?_)|((with_reducible refine D.assign ?_);refine L.Df U U U ?_)|((with_reducible refine D.aw ?_);(fail_if_success with_reducible refine D.F7 (id:=2) ?_);(fail_if_success with_reducible refine D.F6 (id:=2) ?_);refine K.sq (AW.A8 ?_))|with_reducible refine K.tN ?_)
 refine K.sq (AW.I4 (n:=0) (c:= .bl) (ks:=ks) (xs:=List.replicate ks.length true) (kt:=3) (et:=4) (J:=K1) ?_ ?_ ?_ ?_ hnd ?_ ?_ ?_ ?_ ?_ ?_ ?_)
 ·rfl
 ·rfl
 ·exact Nat.lt_succ_self 0
 ·kernel_rfl
 ·rfl
 ·intro r l;cases l<;>rfl
 ·intro r l t ht;simp only[List.mem_cons,List.not_mem_nil,or_false] at ht;rcases ht with rfl|rfl|rfl|rfl|rfl<;>cases l<;>rfl
 ·intro r l e he;cases l<;>cases he<;>rfl
 ·intro r;exact(Bc.mk [some 0] _ _ _ U U U U (by(repeat'(first|exact trivial|refine And.intro ?_ ?_|refine⟨_,U,_,U,?_⟩|exact An.refl _));done) (by(repeat'(first|exact trivial|refine And.intro ?_ ?_|exact Eq.refl true));done))
 ·intro r l q hl hlk hq hql;have hll:=VB hl hlk;have hsl:=R4 l;rw[Zz3];have tail:∀(i:Nat),i<=l.length->(∀x∈(y0 l).drop i,q<x)->(∀(hi:0<i) (hl:i-1<(y0 l).length),(y0 l)[i-1]<=q)->((CH (y0 l) q i).set i q)=y0 (l++[q]):=fun i hi h1 h2=>by
   rw[Zvl (by omega)];exact Zvz h1 h2 (by omega)
  have hE:CH (y0 l) q l.length=y0 l++[q]:=by rw[<-hsl];exact Yag _ _
  have hat:∀j (h:j<l.length) (h':j<(CH (y0 l) q (j+1)).length),(CH (y0 l) q (j+1))[j]=(y0 l)[j]'(by omega):=fun j h h'=>Yby (by omega) h';have hst:∀j (h:j<l.length),(CH (y0 l) q (j+1)).set (j+1) ((y0 l)[j]'(by omega))=CH (y0 l) q j:=fun j h=>Zv1 (by omega);have hln:∀i,i<=l.length->(CH (y0 l) q i).length=l.length+1:=fun i hi=>by rw[Zzn (by omega),hsl]
  cases l with
  |nil=>
   repeat'(first|((with_reducible refine D.nil ?_);refine AX.Bk ?_)|((with_reducible refine D.move ?_);refine L.mv U U U ?_)|((with_reducible refine D.assign ?_);refine L.Df U U U ?_)|((with_reducible refine D.call ?_);refine L.Ki U U U U ?_)|((with_reducible refine D.aw ?_);(fail_if_success with_reducible refine D.F7 (id:=6) ?_);(fail_if_success with_reducible refine D.F6 (id:=6) ?_);refine K.sq (AW.A8 ?_))|with_reducible refine K.tN ?_)
   refine K.sq (AW.A8 ?_);refine L.mv rfl rfl rfl ?_;refine L.mv rfl rfl rfl ?_;refine L.GF rfl rfl rfl rfl rfl (EC.AE rfl) rfl rfl ?_;refine L.SX (te:=3) (e:= .int) (l:=[q]) rfl rfl rfl rfl (by kernel_rfl) rfl rfl rfl rfl (by simp) (by simp) ?_;repeat'(first|((with_reducible refine D.nil ?_);refine AX.Bk ?_)|((with_reducible refine D.assign ?_);refine L.Df U U U ?_)|with_reducible refine K.tN ?_)
   refine K.sq (AW.block (AW.loop (ι:={i:Nat // i<=0/\∀x∈(y0 []).drop i,q<x}) (fun i=>Gu r [] q i.1) (fun i=>i.1) ⟨0,Nat.le_refl _,by simp[MK]⟩ ?_ ?_))
   ·show Bc _ _ _ _ _ (Gu r [] q 0).1 (Gu r [] q 0).2;simp only[Gu];rw[show CH (y0 []) q 0=[q] from hE.trans (by rw[MK];rfl)];exact(Bc.mk [some 0,some 1] _ _ _ U U U U (by(repeat'(first|exact trivial|refine And.intro ?_ ?_|refine⟨_,U,_,U,?_⟩|exact An.refl _));done) (by(repeat'(first|exact trivial|refine And.intro ?_ ?_|refine⟨_,U,_,U,_,U,?_⟩|exact An.refl _|exact Eq.refl true));done))
   ·rintro ⟨i,hi,h1⟩;obtain rfl:i=0:=by omega
    repeat'(first|((with_reducible refine D.nil ?_);refine AX.Bk ?_)|((with_reducible refine D.load ?_);refine AX.sk U U ?_)|((with_reducible refine D.move ?_);first|refine L.mv U U U ?_|refine AX.sk U U ?_)|((with_reducible refine D.bin ?_);first|refine L.bn U U U U U ?_|refine AX.sk U U ?_)|((with_reducible refine D.indexAddr ?_);refine AX.sk U U ?_)|((with_reducible refine D.pick ?_);refine L.pk U U U U ?_)|((with_reducible refine D.aw ?_);first|refine K.sq (K.sq ?_)|refine AW.A8 ?_|refine AW.BE U ?_|refine AW.exit ?_)|with_reducible refine K.tN ?_|with_reducible refine K.tE ?_|with_reducible refine K.bX (by with_unfolding_all rfl) ?_|with_reducible refine K.lE ?_)
    refine L.Dm 0 rfl rfl rfl rfl rfl (by decide) rfl ?_;refine L.sta (c:= .int) (l:=CH (y0 []) q 0) (u:=q) 0 rfl rfl rfl rfl rfl rfl rfl rfl (by rw[hln 0 (Nat.le_refl _)];decide) rfl ?_;repeat'(first|((with_reducible refine D.nil ?_);refine AX.Bk ?_))
    refine⟨rfl,?_⟩;simp only[tail 0 (Nat.le_refl _) h1 (fun h=>absurd h (by decide))];exact(Bc.mk [some 0,some 1] _ _ _ U U U U (by(repeat'(first|exact trivial|refine And.intro ?_ ?_|refine⟨_,U,_,U,?_⟩|exact An.refl _));done) (by(repeat'(first|exact trivial|refine And.intro ?_ ?_|exact AO.refl _|exact Eq.refl true|refine⟨_,U,_,x4 _ _ _,_,U,?_⟩));done))
  |cons x d=>
   skip;refine K.sq (AW.A8 ?_);refine L.mv rfl rfl rfl ?_;refine L.lnR rfl rfl rfl rfl ?_;repeat'(first|((with_reducible refine D.nil ?_);refine AX.Bk ?_)|((with_reducible refine D.assign ?_);refine L.Df U U U ?_)|with_reducible refine K.tN ?_)
   refine K.sq (AW.A8 ?_);refine L.mv rfl rfl rfl ?_;refine L.mv rfl rfl rfl ?_;refine L.GF rfl rfl rfl rfl rfl (EC.AE rfl) rfl rfl ?_;refine L.apR (te:=3) (e:= .int) (l:=[q]) rfl rfl rfl rfl (by kernel_rfl) rfl rfl (by rw[I8,hsl];rfl) rfl rfl rfl (by simp) (by simp only[List.length_cons,List.length_nil] at hll ⊢;omega) ?_;rw[<-List.flatMap_append];repeat'(first|((with_reducible refine D.nil ?_);refine AX.Bk ?_)|((with_reducible refine D.assign ?_);refine L.Df U U U ?_)|with_reducible refine K.tN ?_)
   refine K.sq (AW.block (AW.loop (ι:={i:Nat // i<=(x::d).length/\∀y∈(y0 (x::d)).drop i,q<y}) (fun i=>Gu r (x::d) q i.1) (fun i=>i.1) ⟨(x::d).length,Nat.le_refl _,by rw[<-hsl,List.drop_length];intro y hy;cases hy⟩ ?_ ?_))
   ·show Bc _ _ _ _ _ (Gu r (x::d) q (x::d).length).1 (Gu r (x::d) q (x::d).length).2;simp only[Gu];rw[hE];exact(Bc.mk [some 0,some 2] _ _ _ U U U U (by(repeat'(first|exact trivial|refine And.intro ?_ ?_|refine⟨_,U,_,U,?_⟩|exact An.refl _));done) (by(repeat'(first|exact trivial|refine And.intro ?_ ?_|exact AO.refl _|exact Eq.refl true|refine⟨_,U,_,x4 _ _ _,_,U,?_⟩));done))
   ·rintro ⟨i,hi,h1⟩;cases i with
    |zero=>
     repeat'(first|((with_reducible refine D.nil ?_);refine AX.Bk ?_)|((with_reducible refine D.load ?_);refine AX.sk U U ?_)|((with_reducible refine D.move ?_);first|refine L.mv U U U ?_|refine AX.sk U U ?_)|((with_reducible refine D.bin ?_);first|refine L.bn U U U U U ?_|refine AX.sk U U ?_)|((with_reducible refine D.indexAddr ?_);refine AX.sk U U ?_)|((with_reducible refine D.pick ?_);refine L.pk U U U U ?_)|((with_reducible refine D.aw ?_);first|refine K.sq (K.sq ?_)|refine AW.A8 ?_|refine AW.BE U ?_|refine AW.exit ?_)|with_reducible refine K.tN ?_|with_reducible refine K.tE ?_|with_reducible refine K.bX (by with_unfolding_all rfl) ?_|with_reducible refine K.lE ?_)
     refine L.Dm 0 rfl rfl rfl rfl rfl (Nat.succ_pos _) rfl ?_;refine L.sta (c:= .int) (l:=CH (y0 (x::d)) q 0) (u:=q) 0 rfl rfl rfl rfl rfl rfl rfl rfl (by rw[hln 0 (Nat.zero_le _)];exact Nat.succ_pos _) rfl ?_;repeat'(first|((with_reducible refine D.nil ?_);refine AX.Bk ?_))
     refine⟨rfl,?_⟩;simp only[tail 0 (Nat.zero_le _) h1 (fun h=>absurd h (by decide))];exact(Bc.mk [some 0,some 1] _ _ _ U U U U (by(repeat'(first|exact trivial|refine And.intro ?_ ?_|refine⟨_,U,_,U,?_⟩|exact An.refl _));done) (by(repeat'(first|exact trivial|refine And.intro ?_ ?_|exact AO.refl _|exact Eq.refl true|refine⟨_,U,_,x4 _ _ _,_,U,?_⟩));done))
    |succ i=>
     have hi':i<(x::d).length:=by omega
     have hsi:i<(y0 (x::d)).length:=by omega
     have hdl:(x::d).length=d.length+1:=rfl;have hl0:=hln (i+1) hi;have hl1:i<(CH (y0 (x::d)) q (i+1)).length:=by omega
     have ha:=hat i hi' hl1;have hs:=hst i hi';show AW _ _ _ _ (Gu r (x::d) q (i+1)).1 (Gu r (x::d) q (i+1)).2 _;repeat'(first|((with_reducible refine D.nil ?_);refine AX.Bk ?_)|((with_reducible refine D.load ?_);refine AX.sk U U ?_)|((with_reducible refine D.move ?_);first|refine L.mv U U U ?_|refine AX.sk U U ?_|((fail_if_success refine AX.wt U ?_);refine AX.gs U U (fun _=>trivial) (fun h=> ?_) (fun h=> ?_)))|((with_reducible refine D.bin ?_);first|refine L.sb U U U U (by omega) ?_|refine L.bn U U U U U ?_|refine AX.sk U U ?_)|((with_reducible refine D.indexAddr ?_);refine AX.sk U U ?_)|((with_reducible refine D.pick ?_);refine L.pk U U U U ?_)|((with_reducible refine D.aw ?_);first|refine K.sq (K.sq ?_)|refine AW.A8 ?_|refine AW.BE U ?_|refine AW.exit ?_)|with_reducible refine K.tN ?_|with_reducible refine K.tE ?_|with_reducible refine K.bX (by with_unfolding_all rfl) ?_|with_reducible refine K.lE ?_)
     ·refine L.Dm i rfl rfl rfl rfl (by simp) (by omega) rfl ?_;refine L.VA (c:= .int) (l:=CH (y0 (x::d)) q (i+1)) i rfl rfl rfl rfl rfl hl1 rfl rfl rfl ?_;rw[ha];repeat'(first|((with_reducible refine D.nil ?_);refine AX.Bk ?_)|((with_reducible refine D.move ?_);refine L.mv U U U ?_)|((with_reducible refine D.bin ?_);refine L.bn U U U U U ?_)|((with_reducible refine D.pick ?_);refine L.pk U U U U ?_)|((with_reducible refine D.aw ?_);first|refine AW.A8 ?_|refine AW.Dl U (fun h=> ?_) (fun h=> ?_)|refine AW.skip ?_|refine AW.exit ?_)|with_reducible refine K.tN ?_|with_reducible refine K.tE ?_|with_reducible refine K.bX (by with_unfolding_all rfl) ?_|with_reducible refine K.lE ?_)
      ·have hgt:q<(y0 (x::d))[i]:=by simpa using h
       repeat'(first|((with_reducible refine D.move ?_);refine L.mv U U U ?_)|((with_reducible refine D.bin ?_);refine L.sb U U U U (by omega) ?_)|((with_reducible refine D.aw ?_);first|((with_reducible refine D.blk ?_);refine AW.block ?_)|refine K.sq (AW.A8 ?_)))
       refine L.Dm i rfl rfl rfl rfl (by simp) (by omega) rfl ?_;refine L.VA (c:= .int) (l:=CH (y0 (x::d)) q (i+1)) i rfl rfl rfl rfl rfl hl1 rfl rfl rfl ?_;rw[ha];refine L.Dm (i+1) rfl rfl rfl rfl rfl (by omega) rfl ?_;refine L.sta (c:= .int) (l:=CH (y0 (x::d)) q (i+1)) (u:=(y0 (x::d))[i]) (i+1) rfl rfl rfl rfl rfl rfl rfl rfl (by omega) rfl ?_;rw[hs];repeat'(first|((with_reducible refine D.nil ?_);refine AX.Bk ?_)|((with_reducible refine D.move ?_);refine L.mv U U U ?_)|((with_reducible refine D.assign ?_);refine L.Df U U U ?_)|((with_reducible refine D.bin ?_);refine L.sb U U U U (by omega) ?_)|((with_reducible refine D.aw ?_);refine AW.A8 ?_)|with_reducible refine K.tN ?_|with_reducible refine K.bN ?_)
       refine⟨⟨i,by omega,fun y hy=> ?_⟩,by show i<i+1;omega,?_⟩
       ·rw[List.drop_eq_getElem_cons hsi] at hy;rcases List.mem_cons.1 hy with rfl|hy
        ·exact hgt
        ·exact h1 y hy
       ·simp only[Gu,show(((i+1:Nat):Int)-1)=(i:Int) by omega];exact(Bc.mk [some 0,some 1] _ _ _ U U U U (by(repeat'(first|exact trivial|refine And.intro ?_ ?_|refine⟨_,U,_,U,?_⟩|exact An.refl _));done) (by(repeat'(first|exact trivial|refine And.intro ?_ ?_|exact AO.refl _|exact Eq.refl true|refine⟨_,U,_,x4 _ _ _,_,U,?_⟩));done))
      ·have hle:(y0 (x::d))[i]<=q:=by simpa using h
       refine L.Dm (i+1) rfl rfl rfl rfl rfl (by omega) rfl ?_;refine L.sta (c:= .int) (l:=CH (y0 (x::d)) q (i+1)) (u:=q) (i+1) rfl rfl rfl rfl rfl rfl rfl rfl (by omega) rfl ?_;repeat'(first|((with_reducible refine D.nil ?_);refine AX.Bk ?_))
       refine⟨rfl,?_⟩;simp only[tail (i+1) hi h1 (fun _ _=>hle)];exact(Bc.mk [some 0,some 1] _ _ _ U U U U (by(repeat'(first|exact trivial|refine And.intro ?_ ?_|refine⟨_,U,_,U,?_⟩|exact An.refl _));done) (by(repeat'(first|exact trivial|refine And.intro ?_ ?_|exact AO.refl _|exact Eq.refl true|refine⟨_,U,_,x4 _ _ _,_,U,?_⟩));done))
     ·exfalso;simp at h
 ·intro r l hp;cases l with
  |nil=>
   have hk0:ks=[]:=by simpa using hp.symm.eq_nil
   subst hk0;simp only[K1,MK];repeat'(first|((with_reducible refine D.nil ?_);refine AX.Bk ?_)|((with_reducible refine D.move ?_);refine L.mv U U U ?_)|((with_reducible refine D.assign ?_);refine L.Df U U U ?_)|((with_reducible refine D.aw ?_);first|refine K.sq (AW.A8 ?_)|refine AW.ret ?_)|with_reducible refine K.tN ?_)
   (exact K.n2 [some 0] U U U U U (by(repeat'(first|exact trivial|refine And.intro ?_ ?_|refine⟨_,U,_,_,U,?_,?_⟩|with_reducible exact rfl));done) U (by simp[zk,V.wk,V.Ak,zd,Ty.view,Tm.view,MK]))
  |cons x d=>
   have hk0:y0 (x::d)=y0 ks:=Zjv hp;simp only[K1,hk0];refine AW.BU (c:= .int) 1 (d.length+1) (y0 ks) U (by rw[<-hk0,R4];rfl) (by(repeat'(first|exact trivial|exact fun _=>rfl|exact fun h=>absurd U h|exact fun h=>absurd h (by decide)|refine And.intro ?_ ?_|intro _));done) (by(repeat'(first|exact trivial|exact fun _=>rfl|exact fun h=>absurd U h|exact fun h=>absurd h (by decide)|refine And.intro ?_ ?_|intro _));done) ?_;repeat'(first|((with_reducible refine D.nil ?_);refine AX.Bk ?_)|((with_reducible refine D.move ?_);refine L.mv U U U ?_)|((with_reducible refine D.assign ?_);refine L.Df U U U ?_)|((with_reducible refine D.aw ?_);first|refine K.sq (AW.A8 ?_)|refine AW.ret ?_)|with_reducible refine K.tN ?_)
   (exact K.n2 [some 0] U U U U U (by(repeat'(first|exact trivial|refine And.intro ?_ ?_|refine⟨_,U,_,_,U,?_,?_⟩|with_reducible exact rfl));done) U (by simp[zk,V.wk,V.Ak,zd,Ty.view,Tm.view,V.BU]))
theorem Ydp:∀(n:Nat) (t:Tm) (ks:List Int) (bl:Int),t.full<=n->n<1099511627776->0<=bl->bl+n<1099511627776->(∀p∈t.vars bl,0<=p.1/\p.1<9223372036854775808)->
 AC E 272 [.agg t.view,.i bl,.mp 0] ⟨1,[(0,.map .bl ks (List.replicate ks.length true))]⟩ (.Ax []) ⟨1,[(0,.map .bl (BL ks (CF (t.vars bl))) (List.replicate (BL ks (CF (t.vars bl))).length true))]⟩:=by
 intro n;induction n with
 |zero=>intro t b bl h;have:=t.Ac;omega
 |succ n ih=>
 intro t ks bl hsz hb hbl hbn hix;have hsz':=Tm.Af t;have hlen:=zh Tm.full Tm.Ac t.args;have hv:=Tm.AG bl t;have hbe:=La t;have hup:=JQ t.kind bl;have hpl:=Mh t.kind bl;have hi:t.kind=1->0<=t.index/\t.index<9223372036854775808:=fun h=>by simpa using hix (t.index,bl) (by rw[hv];simp[h])
 have loopE:∀m (hm:m<t.args.length) ks',AC E 272 [.agg (t.args[m]).view,.i (bl+up t.kind 0),.mp 0] ⟨1,[(0,.map .bl ks' (List.replicate ks'.length true))]⟩ (.Ax []) ⟨1,[(0,.map .bl (BL ks' (CF ((t.args[m]).vars (up t.kind bl)))) (List.replicate (BL ks' (CF ((t.args[m]).vars (up t.kind bl)))).length true))]⟩:=fun m hm ks'=>by
  have hs2:=ze Tm.full (List.getElem_mem hm);have:=ih t.args[m] ks' (up t.kind bl) (by omega) (by omega) (by omega) (by omega) (fun p hp=>hix p (by rw[hv];exact List.mem_append_right _ (List.mem_flatMap.2 ⟨_,List.getElem_mem hm,hp⟩)));rw[<-hpl] at this ⊢;exact this
 obtain⟨k0,hk0⟩:∃k0,k0=BL ks (CF (if t.kind=1 then [(t.index,bl)] else [])):=⟨_,rfl⟩;have hk1:t.kind=1->t.index>=bl->k0=vm (t.index-bl) ks:=fun h1 h2=>by rw[hk0,if_pos h1,Wg,if_pos h2];exact Wd _ _
 have hk2:¬(t.kind=1/\t.index>=bl)->k0=ks:=fun h1=>by
  rw[hk0];by_cases h2:t.kind=1
  ·rw[if_pos h2,Wg,if_neg (fun h3=>h1 ⟨h2,h3⟩)];rfl
  ·rw[if_neg h2];rfl
 have hend:BL ks (CF (t.vars bl))=BL k0 (CF (t.args.flatMap (Tm.vars (up t.kind bl)))):=by rw[hv,PG,NP,hk0]
 rw[hend];by_cases hv1:t.kind=1/\t.index>=bl
 ·have e:=hk1 hv1.1 hv1.2;have hi':=hi hv1.1;refine M.F Tryz.func272 ?_;(repeat' first|refine M.gw ?_|refine M.gs ?_ ?_<;>intro h|refine M.cs ?_ ?_<;>intro h|fail)
  rotate_left
  ·exfalso;simp at h;omega
  ·exfalso;simp at h;exact h hv1.1
  refine AW.range t.args.length (fun m=>True)
   (fun m=>([(1,.i bl),(2,.mp 0),(3,.ptr 1 0),(23,.s .tm t.args),(24,.i t.args.length),(25,.i m)],⟨2,[(0,.map .bl (BL k0 (CF ((t.args.take m).flatMap (Tm.vars (up t.kind bl))))) (List.replicate (BL k0 (CF ((t.args.take m).flatMap (Tm.vars (up t.kind bl))))).length true)),(1,.var t.view)]⟩))
   (by omega) (fun m=>rfl) (fun m=>rfl) rfl trivial ?_ ?_ ?_
  ·simp only[List.take_zero,List.flatMap_nil,UK,MV];rw[e];rw[<-Qy];exact(M.W [some 0,some 1])
  ·intro m hm hP;have hc:=loopE m hm (BL k0 (CF ((t.args.take m).flatMap (Tm.vars (up t.kind bl)))));(repeat' first|refine M.gw ?_|refine M.c2 (hbe) ?_|refine M.cb (hc) [0] 0 ?_|fail);refine⟨rfl,trivial,?_⟩;exact(M.W [some 0,some 1] (he:=(by(repeat'(first|exact trivial|refine And.intro ?_ ?_|refine⟨_,U,_,U,_,U,?_⟩|exact An.refl _|refine⟨_,U,_,_,U,?_,?_⟩|(simp[Al.Aw,PG,NP,uq _ _ _ hm];done)));done)))
  ·intro hP;simp only[List.take_length];skip
   (exact M.n2 [some 0] (h8:=(by simp[zk,V.wk,V.Ak,zd,Ty.view,Tm.view,V.BU])))
 ·have e:=hk2 hv1;refine M.F Tryz.func272 ?_;(repeat' first|refine M.gw ?_|refine M.gs ?_ ?_<;>intro h|refine M.cs ?_ ?_<;>intro h|fail)
  ·rename_i h1';exfalso;exact hv1 ⟨by simpa using h1',by simpa using h⟩
  all_goals
   refine AW.range t.args.length (fun m=>True)
    (fun m=>([(1,.i bl),(2,.mp 0),(3,.ptr 1 0),(23,.s .tm t.args),(24,.i t.args.length),(25,.i m)],⟨2,[(0,.map .bl (BL k0 (CF ((t.args.take m).flatMap (Tm.vars (up t.kind bl))))) (List.replicate (BL k0 (CF ((t.args.take m).flatMap (Tm.vars (up t.kind bl))))).length true)),(1,.var t.view)]⟩))
    (by omega) (fun m=>rfl) (fun m=>rfl) rfl trivial ?_ ?_ ?_
   ·simp only[List.take_zero,List.flatMap_nil,UK,MV];rw[e];exact(M.W [some 0,some 1])
   ·intro m hm hP;have hc:=loopE m hm (BL k0 (CF ((t.args.take m).flatMap (Tm.vars (up t.kind bl)))));(repeat' first|refine M.gw ?_|refine M.c2 (hbe) ?_|refine M.cb (hc) [0] 0 ?_|fail);refine⟨rfl,trivial,?_⟩;exact(M.W [some 0,some 1] (he:=(by(repeat'(first|exact trivial|refine And.intro ?_ ?_|refine⟨_,U,_,U,_,U,?_⟩|exact An.refl _|refine⟨_,U,_,_,U,?_,?_⟩|(simp[Al.Aw,PG,NP,uq _ _ _ hm];done)));done)))
   ·intro hP;simp only[List.take_length];skip
    (exact M.n2 [some 0] (h8:=(by simp[zk,V.wk,V.Ak,zd,Ty.view,Tm.view,V.BU])))
theorem Yb8(t:Tm)(ht:t.full<549755813888)(hix:t.err=0->∀p∈t.vars 0,0<=p.1/\p.1<9223372036854775808):PC E 252 [.agg t.view] (.Ax [.s .int (if t.err=0 then JI t else []),.i t.err]):=by
 have h1:=vi t (by omega);have hc:t.err=0->_:=fun h=>Ydp _ t [] 0 (Nat.le_refl _) (by omega) (by omega) (by omega) (hix h);have hu:BL [] (CF (t.vars 0))=HJ t:=rfl;simp only[List.length_nil,List.replicate_zero,hu] at hc;have hlen:=Zzr t;have hsz:=t.Aj;have hs:=R7 (SQ t) (by omega);have e0:y0 (HJ t)=JI t:=rfl;rw[e0] at hs;refine M.F Tryz.func252 ?_;(repeat' first|refine M.gw ?_|refine M.c2 (h1) ?_|refine M.cb (hc (by simpa using h)) [1] 0 ?_|refine M.cb (hs) [1] 0 ?_|refine M.cs ?_ ?_<;>intro h|fail)
 ·have e:¬t.err=0:=by simpa using h
  rw[if_neg e];simp[zk,V.wk,V.Ak];rfl
 ·have e:t.err=0:=by simpa using h
  rw[if_pos e];simp[zk,V.wk,V.Ak,e]
theorem Fm.L7(G:Int->Tm->Tm)(c:Int)(f:Fm):∀b,f.re (fun b t=>G (c+b) t) b=f.re G (c+b):=by
 induction f using Fm.ind with
 |h f ih=>
  intro b;rw[Fm.Bn,Fm.Bn];congr 1;refine List.map_congr_left fun x hx=> ?_;have e:AB f.kind (c+b)=c+AB f.kind b:=by simp only[AB];split<;>omega
  rw[e];exact ih x hx _
theorem Ygp(f:Fm)(fr by_:Int):f.A4 fr by_=f.re (fun b t=>t.re (zn b by_) 0) fr:=by
 have:=Fm.L7 (fun b t=>t.re (zn b by_) 0) fr f 0;rw[Int.add_zero] at this;exact this
theorem Ygf(by_:Int)(hby: -549755813888<=by_/\by_<=549755813888):∀(n:Nat) (f:Fm) (fr:Int),f.full<=n->n<274877906944->-274877906944<=fr->fr+n<549755813888->f.shape=true->(∀p∈f.AU 0,∀q∈p.1.vars 0,0<=q.1/\q.1<549755813888)->
 PC E 178 [.agg f.view,.i fr,.i by_] (.agg (f.re (fun b t=>t.re (zn b by_) 0) fr).view):=by
 intro n;induction n with
 |zero=>intro f dp h;have:=f.Ac;omega
 |succ n ih=>
 intro f fr hsz hn h1 h2 hf hix;have hsz':=f.Af;have hlen:=zh Fm.full Fm.Ac f.args;have hlen2:=zh Tm.full Tm.Ac f.terms;have hup:=H8 f.kind fr;have hpl:=Ng f.kind fr;have hb:=Nh f;have he:=Fm.Bn (fun b t=>t.re (zn b by_) 0) fr f;have htm:=f.AR 0;refine M.F Tryz.func178 ?_;(repeat' first|refine M.gw ?_|fail);refine AW.range f.terms.length (fun m=>True) (fun m=>([(1,.i fr),(2,.i by_),(3,.ptr 0 0),(6,.ptr 1 0),(7,.ptr 2 0),(18,.s .tm f.terms),(19,.i f.terms.length),(20,.i m)],⟨4,[(0,.var f.view),(1,.var [.i 0,.i 0,.slice .nil (.t .ty []),.slice .nil (.t .tm []),.slice .nil (.t .fm [])]),(2,.var [.i f.kind,.i f.ty.kind,.s .ty f.ty.args,.slice (.own 3) (.t .tm ((f.terms.take m).map fun t=>t.re (zn fr by_) 0)),.slice .nil (.t .fm [])]),(3,.row)]⟩))
  (by omega) (fun m=>rfl) (fun m=>rfl) rfl trivial (M.W [some 0,some 1,some 2,none]) ?_ ?_
 ·intro m hm _;have hs2:=ze Tm.full (List.getElem_mem hm);have hc:=K7 by_ hby _ f.terms[m] fr (Nat.le_refl _) (by omega) (by omega) (by omega) (zw hf (List.getElem_mem hm)) (fun p hp=>hix (f.terms[m],0) (by rw[htm];exact List.mem_append_left _ (List.mem_map.2 ⟨_,List.getElem_mem hm,rfl⟩)) p hp);(repeat' first|refine M.gw ?_|refine M.c2 (hc) ?_|fail);exact⟨rfl,trivial,(M.W [some 0,some 1,some 2,some 5] (he:=(by(repeat'(first|exact trivial|exact Or.inr ⟨_,U,rfl⟩|refine And.intro ?_ ?_|refine⟨_,U,_,U,_,U,?_⟩|exact An.refl _|exact An.of_eq (by simp[Al.Aw,yn _ _ _ hm])));done)))⟩
 ·intro _;simp only[List.take_length];(repeat' first|refine M.gw ?_|fail);refine AW.range f.args.length (fun m=>True) (fun m=>([(1,.i fr),(2,.i by_),(3,.ptr 0 0),(6,.ptr 1 0),(7,.ptr 2 0),(35,.s .fm f.args),(36,.i f.args.length),(37,.i m)],⟨5,[(0,.var f.view),(1,.var [.i 0,.i 0,.slice .nil (.t .ty []),.slice .nil (.t .tm []),.slice .nil (.t .fm [])]),(2,.var [.i f.kind,.i f.ty.kind,.s .ty f.ty.args,.slice (.own 3) (.t .tm (f.terms.map fun t=>t.re (zn fr by_) 0)),.slice (.own 4) (.t .fm ((f.args.take m).map fun x=>x.re (fun b t=>t.re (zn b by_) 0) (AB f.kind fr)))]),(3,.row),(4,.row)]⟩))
   (by omega) (fun m=>rfl) (fun m=>rfl) rfl trivial (M.W [some 0,some 1,some 2,some 3,none]) ?_ ?_
  ·intro m hm _;have hs2:=ze Fm.full (List.getElem_mem hm);have hc:=ih f.args[m] (AB f.kind fr) (by omega) (by omega) (by omega) (by omega) (zl hf (List.getElem_mem hm)) (fun p hp q hq=>by
    obtain⟨p',hp',hpe⟩:=O1 (b':=AB f.kind 0) p hp;rw[<-hpe] at hq;exact hix p' (by rw[htm];exact List.mem_append_right _ (List.mem_flatMap.2 ⟨_,List.getElem_mem hm,hp'⟩)) q hq)
   rw[<-hpl] at hc;simp only[<-hpl];(repeat' first|refine M.gw ?_|refine M.c2 (hb) ?_|refine M.c2 (hc) ?_|fail);exact⟨rfl,trivial,(M.W [some 0,some 1,some 2,some 3,some 6] (he:=(by(repeat'(first|exact trivial|exact Or.inr ⟨_,U,rfl⟩|refine And.intro ?_ ?_|refine⟨_,U,_,U,_,U,?_⟩|exact An.refl _|exact An.of_eq (by simp[Al.Aw,yn _ _ _ hm])));done)))⟩
  ·intro _;simp only[List.take_length];(repeat' first|refine M.gw ?_|fail);rw[he]
   rfl
theorem Fg{f:Fm}{g:List Ty}(hok:f.A9 g)(hs:f.shape=true)(hz:f.size<=20000000)(hg:g.length<=100)(fr by_:Int)(h1:0<=fr/\fr<=100)(h2: -100<=by_/\by_<=100):
 PC E 178 [.agg f.view,.i fr,.i by_] (.agg (f.A4 fr by_).view):=by
 have hfl:=HN f hs;rw[Ygp];exact Ygf by_ (by omega) _ f fr (Nat.le_refl _) (by omega) (by omega) (by omega) hs (fun p hp q hq=>by
  have a1:=Pd hok hs p hp q hq;have a2:=Tm.AH p.1 (P1 f hs 0 p hp) 0 q hq;omega)
theorem Zsg:∀(n:Nat) (f:Fm),f.size<=n->f.shape=true->PC E 159 [.agg f.view] (.bool (DJ f)):=by
 intro n;induction n with
 |zero=>intro f h;have:=f.size_pos;omega
 |succ n ih=>
 intro f hz hs;rcases Ny hs with⟨k,_⟩|⟨k,_⟩|⟨k,_⟩
 ·obtain ⟨a,b,rfl⟩:=Rz hs k;exact Zy4 a b
 ·obtain ⟨a,b,e⟩:=LI hs k;rw[e] at hz hs;rw[N4] at hz;have ha:=ih a (by omega) (zl hs (by simp[vy]));have hb:=ih b (by omega) (zl hs (by simp[vy]));rcases k with k|k
  ·rw[k] at e;subst e;have e:DJ (vy 2 a b)=(DJ a||DJ b):=by rw[Q5];rfl
   rw[e];clear e hz hs k;unfold vy;cases h0:DJ a with
   |true=>
    rw[h0] at ha;refine M.F Tryz.func159 ?_;(repeat' first|refine M.gw ?_|refine M.c2 (ha) ?_|refine M.bl ?_|fail)
    rfl
   |false=>
    rw[h0] at ha;refine M.F Tryz.func159 ?_;(repeat' first|refine M.gw ?_|refine M.c2 (ha) ?_|refine M.c2 (hb) ?_|refine M.bl ?_|fail)
    rfl
  ·rw[k] at e;subst e;have e:DJ (vy 3 a b)=DJ b:=by rw[Q5];rfl
   rw[e];clear e hz hs k;unfold vy;refine M.F Tryz.func159 ?_;(repeat' first|refine M.gw ?_|refine M.c2 (hb) ?_|refine M.bl ?_|fail)
   rfl
 ·obtain ⟨a,e⟩:=GV hs (by omega);rw[e] at hz hs;rw[JN] at hz;have ha:=ih a (by omega) (zl hs (by simp[Be]));have e2:DJ (Be f.kind f.ty a)=if f.kind=5 then true else DJ a:=by
   rw[Q5];show(if f.kind=1 then false else if f.kind=2 then _ else if f.kind=5 then true else DJ a)=_;rw[if_neg (by omega),if_neg (by omega)]
  rw[<-e] at e2;rw[e2,e];clear e2 hz hs;generalize f.ty=s at*;rcases k with k|k|k|k;all_goals(rw[k])
  all_goals(clear e k)
  all_goals(unfold Be)
  all_goals(refine M.F Tryz.func159 ?_)
  all_goals(repeat'(first|refine M.gw ?_|refine M.c2 (ha) ?_|refine M.bl ?_|fail))
  all_goals rfl
theorem Zsc(f:Fm)(he:f.err=0):PC E 94 [.agg f.view] (.Ax [.bool (DJ f),.i 0]):=by
 have s:=(Fm.Ad f).1 he;have h1:=wz f (by have:=HN f s.1;omega);have h2:=Zsg _ f (Nat.le_refl _) s.1;rw[he] at h1;refine M.F Tryz.func94 ?_;(repeat' first|refine M.gw ?_|refine M.c2 (h1) ?_|refine M.c2 (h2) ?_|fail)
 rfl
theorem UY(l:List Int):PC E 217 [.s .int l] (.bool (Jy l)):=by
 cases l with
 |nil=>
  refine M.F Tryz.func217 ?_;(repeat' first|refine M.gw ?_|fail)
  rfl
 |cons x l=>
  refine M.F Tryz.func217 ?_;(repeat' first|refine M.go ?_|refine M.gs ?_ ?_<;>intro h|refine M.z1 9 ?_|refine M.gk ?_|fail);all_goals first
   |rfl
   |(exfalso;simp at h;done)
   |(exfalso;simp at h;omega)
theorem NR(t:Tm){g:List Ty}{T:Ty}(ht:t.err=0)(hi:t.inf g=(T,0))(hg:g.length<=100):PC E 219 [.agg t.view] (.s .int (Ex t)):=by
 have s:=(Tm.Ad t).1 ht;have hfl:=yl ht;have h1:=Yb8 t (by omega) (fun _ p hp=>by
  have a1:=Mm t g 0 (g.length+t.size) (by rw[hi]) s.1 (by omega) p hp;have a2:=Tm.AH t s.1 0 p hp;omega)
 unfold Ex;refine M.F Tryz.func219 ?_;(repeat' first|refine M.gw ?_|refine M.c2 (h1) ?_|fail);simp[zk,V.wk,V.Ak]
theorem Jx(f:Fm)(t:Tm)(hf:f.full<549755813888)(ht:t.full<549755813888):PC E 220 [.agg f.view,.agg t.view] (.Ax [.agg (CP f t).1.view,.i (CP f t).2]):=by
 have h1:=Sl f 0 t hf ht;refine M.F Tryz.func220 ?_;(repeat' first|refine M.gw ?_|refine M.c2 (h1) ?_|fail)
 rfl
theorem Ku(c:Ck)(v h:Nat)(h1:c.tys.length<=1000/\v<=1000)(h2:c.hyps.length<=1000/\h<=1000):PC E 148 [.agg c.view,.i v,.i h] (.i (c.room v h)):=by
 unfold Ck.room;by_cases a1:c.tys.length+v>16
 ·rw[if_pos (.inl a1)];have b1:decide (((c.tys.length:Nat):Int)+v>16)=true:=by simp;omega
  refine M.F Tryz.func148 ?_;(repeat' first|refine M.gw ?_|refine M.gs ?_ ?_<;>intro h|refine M.cs ?_ ?_<;>intro h|fail);all_goals first
   |rfl
   |(exfalso;simp at*;omega)
 ·by_cases a2:c.hyps.length+h>16
  ·rw[if_pos (.inr a2)];refine M.F Tryz.func148 ?_;(repeat' first|refine M.gw ?_|refine M.gs ?_ ?_<;>intro h|refine M.cs ?_ ?_<;>intro h|fail);all_goals first
    |rfl
    |(exfalso;simp at*;omega)
  ·rw[if_neg (by omega)];refine M.F Tryz.func148 ?_;(repeat' first|refine M.gw ?_|refine M.gs ?_ ?_<;>intro h|refine M.cs ?_ ?_<;>intro h|fail);all_goals first
    |rfl
    |(exfalso;simp at*;omega)
theorem M5(c:Ck)(f:Fm)(h:c.hyps.length<=1000):PC E 149 [.agg c.view,.agg f.view] (.agg (c.Au f).view):=by
 unfold Ck.Au;refine M.F Tryz.func149 ?_;(repeat' first|refine M.gw ?_|fail)
 rfl
theorem PS(c:Ck)(t:Tm)(k:Int)(ht:t.full<137438953000)(hg:(c.tys.map Ty.size).sum<1099511627776):PC E 156 [.agg c.view,.agg t.view,.i k] (.i (Ey c t k)):=by
 have h1:=Qv c.tys t (by omega) hg;unfold Ey;by_cases e:(y3 c.tys t).2=0
 ·rw[if_neg (by simp[e])];rw[e] at h1;by_cases e2:(y3 c.tys t).1.kind=k
  ·rw[if_neg (by simp[e2])];refine M.F Tryz.func156 ?_;(repeat' first|refine M.gw ?_|refine M.c2 (h1) ?_|refine M.cs ?_ ?_<;>intro h|fail);all_goals first
    |rfl
    |(exfalso;simp at h;exact h e2)
  ·rw[if_pos e2];refine M.F Tryz.func156 ?_;(repeat' first|refine M.gw ?_|refine M.c2 (h1) ?_|refine M.cs ?_ ?_<;>intro h|fail);all_goals first
    |rfl
    |(exfalso;simp at h;exact e2 h)
 ·rw[if_pos e];refine M.F Tryz.func156 ?_;(repeat' first|refine M.gw ?_|refine M.c2 (h1) ?_|refine M.cs ?_ ?_<;>intro h|fail);all_goals first
   |rfl
   |(exfalso;simp_all;done)
theorem Su{acc l:List Int}{m:Nat}(hm:m<l.length):BL acc (l.take (m+1))=vm l[m] (BL acc (l.take m)):=by
 rw[List.take_succ_eq_append_getElem hm,NP,Wd]
theorem Hr(a b:List Int)(ha:a.length<=100000)(hb:b.length<=100000):PC E 147 [.s .int a,.s .int b] (.s .int (v7 a b)):=by
 have hl1:=Oc a [];have hl2:=Oc b (BL [] a);have hs:=R7 (ks:=BL (BL [] a) b) (Jp (Jp List.nodup_nil)) (by simp at hl1;omega);refine M.F Tryz.func147 ?_;(repeat' first|refine M.gw ?_|fail);refine AW.range a.length (fun m=>True)
  (fun m=>([(1,.s .int b),(5,.mp 0),(11,.s .int a),(12,.i a.length),(13,.i m)],⟨1,[(0,.map .bl (BL [] (a.take m)) (List.replicate (BL [] (a.take m)).length true))]⟩))
  (by omega) (fun m=>rfl) (fun m=>rfl) rfl trivial ?_ ?_ ?_
 ·simp only[List.take_zero,MV,List.length_nil,List.replicate_zero];exact(M.W [some 0])
 ·intro m hm _;(repeat' first|refine M.gw ?_|fail);refine⟨rfl,trivial,?_⟩;simp only[Su hm];rw[<-Qy];exact(M.W [some 0])
 ·intro _;simp only[List.take_length];(repeat' first|refine M.gw ?_|fail);refine AW.range b.length (fun m=>True)
   (fun m=>([(5,.mp 0),(20,.s .int b),(21,.i b.length),(22,.i m)],⟨1,[(0,.map .bl (BL (BL [] a) (b.take m)) (List.replicate (BL (BL [] a) (b.take m)).length true))]⟩))
   (by omega) (fun m=>rfl) (fun m=>rfl) rfl trivial ?_ ?_ ?_
  ·simp only[List.take_zero,MV];exact(M.W [some 0])
  ·intro m hm _;(repeat' first|refine M.gw ?_|fail);refine⟨rfl,trivial,?_⟩;simp only[Su hm];rw[<-Qy];exact(M.W [some 0])
  ·intro _;simp only[List.take_length];(repeat' first|refine M.gw ?_|refine M.cb (hs) [0] 0 ?_|fail)
   rfl
theorem Zwd{l:List Int}{n:Int}{m:Nat}(hm:m<l.length):Ds (l.take (m+1)) n=if l[m]>=n then Ds (l.take m) n++[l[m]-n] else Ds (l.take m) n:=by
 unfold Ds;rw[List.take_succ_eq_append_getElem hm,List.filter_append,List.map_append];by_cases h:l[m]>=n
 ·rw[if_pos h];simp[List.filter,h]
 ·rw[if_neg h];simp[List.filter,h]
theorem MM(l:List Int)(n:Int):(Ds l n).length<=l.length:=by unfold Ds;rw[List.length_map];exact List.length_filter_le _ _
theorem Ns(l:List Int)(n:Int)(hl:l.length<=100000)(hn:0<=n/\n<=100)(hx:∀x∈l,0<=x/\x<=1000000):PC E 216 [.s .int l,.i n] (.s .int (Ds l n)):=by
 refine M.F Tryz.func216 ?_;(repeat' first|refine M.gw ?_|fail);refine AW.range l.length (fun m=>True)
  (fun m=>([(1,.i n),(5,.slice (.own 0) (.t .int (Ds (l.take m) n))),(8,.s .int l),(9,.i l.length),(10,.i m)],⟨1,[(0,.row)]⟩))
  (by omega) (fun m=>rfl) (fun m=>rfl) rfl trivial (M.W [none]) ?_ ?_
 ·intro m hm _;have hol:=MM (l.take m) n;have hol2:(Ds (l.take m) n).length<=l.length:=by rw[List.length_take] at hol;omega
  have hv:=hx l[m] (List.getElem_mem hm);have he:=Zwd (n:=n) hm;(repeat' first|refine M.gw ?_|refine M.cs ?_ ?_<;>intro h|fail)
  ·have h':l[m]>=n:=by simpa using h
   rw[if_pos h'] at he;refine⟨rfl,trivial,?_⟩;simp only[he];exact(M.W [some 1])
  ·have h':¬l[m]>=n:=by simpa using h
   rw[if_neg h'] at he;refine⟨rfl,trivial,?_⟩;simp only[he];exact(M.W [some 0])
 ·intro _;simp only[List.take_length];(repeat' first|refine M.gw ?_|fail)
  rfl
theorem M3(c:Ck)(hc:c.ok)(l:List Ty)(hl:0<l.length)(hl2:l.length<=2):PC E 215 [.agg c.view,.s .ty l] (.agg (c.below l).view):=by
 have hlen:=hc.len;have hnh:=hc.nh;refine M.F Tryz.func215 ?_;(repeat' first|refine M.gw ?_|fail);refine AW.range c.hyps.length (fun m=>True)
  (fun m=>([(1,.s .ty l),(2,.ptr 0 0),(4,.ptr 1 0),(5,.ptr 3 0),(23,.s .fm c.hyps),(24,.i c.hyps.length),(25,.i m)],⟨5,[(0,.var c.view),(1,.var [.slice .nil (.t .fm []),.slice .nil (.t .ty []),.slice .nil (.t .fm [])]),(2,.row),(3,.var [.s .fm c.lems,.slice (.own 2) (.t .ty (c.tys++l)),.slice (.own 4) (.t .fm ((c.hyps.take m).map fun f=>f.A4 0 l.length))]),(4,.row)]⟩))
  (by omega) (fun m=>rfl) (fun m=>rfl) rfl trivial (M.W [some 0,some 1,some 2,some 3,none]) ?_ ?_
 ·intro m hm _;obtain⟨h1,h2⟩:=hc.hyps c.hyps[m] (List.getElem_mem hm);have s:=(Fm.Ad _).1 h1;have hcall:=Fg h2 s.1 (by omega) (by omega) 0 l.length (by omega) (by omega);(repeat' first|refine M.gw ?_|refine M.c2 (hcall) ?_|fail);exact⟨rfl,trivial,(M.W [some 0,some 1,some 2,some 3,some 6] (he:=(by(repeat'(first|exact trivial|exact Or.inr ⟨_,U,rfl⟩|refine And.intro ?_ ?_|refine⟨_,U,_,U,_,U,?_⟩|exact An.refl _|exact An.of_eq (by simp[Al.Aw,yn _ _ _ hm])));done)))⟩
 ·intro _;simp only[List.take_length];(repeat' first|refine M.gw ?_|fail)
  rfl
theorem S7:∀{l:List Tm} {m:Nat} (hm:m<l.length),(∀j (hj:j<l.length),j<m->(xw l[j] 1000).2.2=0)->(xw l[m] 1000).2.2≠0->C2 l=([],(xw l[m] 1000).2.2)
 |[],m,hm,_,_=>by simp at hm
 |x::l,0,hm,_,h=>by simp only[C2,List.getElem_cons_zero] at h ⊢;rw[if_pos h]
 |x::l,m+1,hm,h0,h=>by
  have h1:=h0 0 (by simp) (by omega);simp only[List.getElem_cons_zero] at h1;simp only[List.getElem_cons_succ] at h ⊢;have h2:=S7 (l:=l) (m:=m) (by simpa using hm) (fun j hj hjm=>by have:=h0 (j+1) (by simpa using hj) (by omega);simpa using this) h;simp only[C2];rw[if_neg (by simp[h1]),h2,if_pos h]
theorem Ut:∀{l:List Tm},(∀j (hj:j<l.length),j<l.length->(xw l[j] 1000).2.2=0)->C2 l=(l.map fun t=>(xw t 1000).1,0)
 |[],_=>rfl
 |x::l,h0=>by
  have h1:=h0 0 (by simp) (by simp);simp only[List.getElem_cons_zero] at h1;have h2:=Ut (l:=l) fun j hj _=>by have:=h0 (j+1) (by simpa using hj) (by simpa using hj);simpa using this
  simp only[C2];rw[if_neg (by simp[h1]),h2];rfl
theorem Wj:∀{l:List Fm} {m:Nat} (hm:m<l.length),(∀j (hj:j<l.length),j<m->(x7 l[j]).2=0)->(x7 l[m]).2≠0->y8 l=([],(x7 l[m]).2)
 |[],m,hm,_,_=>by simp at hm
 |x::l,0,hm,_,h=>by simp only[y8,List.getElem_cons_zero] at h ⊢;rw[if_pos h]
 |x::l,m+1,hm,h0,h=>by
  have h1:=h0 0 (by simp) (by omega);simp only[List.getElem_cons_zero] at h1;simp only[List.getElem_cons_succ] at h ⊢;have h2:=Wj (l:=l) (m:=m) (by simpa using hm) (fun j hj hjm=>by have:=h0 (j+1) (by simpa using hj) (by omega);simpa using this) h;simp only[y8];rw[if_neg (by simp[h1]),h2,if_pos h]
theorem Ve:∀{l:List Fm},(∀j (hj:j<l.length),j<l.length->(x7 l[j]).2=0)->y8 l=(l.map fun t=>(x7 t).1,0)
 |[],_=>rfl
 |x::l,h0=>by
  have h1:=h0 0 (by simp) (by simp);simp only[List.getElem_cons_zero] at h1;have h2:=Ve (l:=l) fun j hj _=>by have:=h0 (j+1) (by simpa using hj) (by simpa using hj);simpa using this
  simp only[y8];rw[if_neg (by simp[h1]),h2];rfl
theorem Zt6:∀(n:Nat) (f:Fm),f.full<=n->n<274877906944->PC E 223 [.agg f.view] (.Ax [.agg (x7 f).1.view,.i (x7 f).2]):=by
 intro n;induction n with
 |zero=>intro f h;have:=f.Ac;omega
 |succ n ih=>
 intro f hsz hn;have hsz':=f.Af;have hlen:=zh Fm.full Fm.Ac f.args;have hlen2:=zh Tm.full Tm.Ac f.terms;have he:=Vc f;refine M.F Tryz.func223 ?_;(repeat' first|refine M.gw ?_|fail);refine AW.range f.terms.length (fun m=>∀j (hj:j<f.terms.length),j<m->(xw f.terms[j] 1000).2.2=0)
  (fun m=>([(1,.ptr 0 0),(2,.ptr 1 0),(4,.ptr 2 0),(20,.s .tm f.terms),(21,.i f.terms.length),(22,.i m)],⟨4,[(0,.var f.view),(1,.var [.i 0,.i 0,.slice .nil (.t .ty []),.slice .nil (.t .tm []),.slice .nil (.t .fm [])]),(2,.var [.i f.kind,.i f.ty.kind,.s .ty f.ty.args,.slice (.own 3) (.t .tm ((f.terms.take m).map fun t=>(xw t 1000).1)),.slice .nil (.t .fm [])]),(3,.row)]⟩))
  (by omega) (fun m=>rfl) (fun m=>rfl) rfl (fun j hj h=>by omega) (M.W [some 0,some 1,some 2,none]) ?_ ?_
 ·intro m hm hP;have hs2:=ze Tm.full (List.getElem_mem hm);have hc:=PB f.terms[m] 1000 (by omega);by_cases hx:(xw f.terms[m] 1000).2.2=0
  ·rw[hx] at hc;(repeat' first|refine M.gw ?_|refine M.c2 (hc) ?_|fail);exact⟨rfl,z4 (p:=fun t=>(xw t 1000).2.2=0) hm hP hx,(M.W [some 0,some 1,some 2,some 6] (he:=(by(repeat'(first|exact trivial|exact Or.inr ⟨_,U,rfl⟩|refine And.intro ?_ ?_|refine⟨_,U,_,U,_,U,?_⟩|exact An.refl _|exact An.of_eq (by simp[Al.Aw,yn _ _ _ hm])));done)))⟩
  ·have e1:=S7 hm hP hx;rw[e1,if_pos hx] at he;rw[he];(repeat' first|refine M.gw ?_|refine M.c2 (hc) ?_|refine M.cs ?_ ?_<;>intro h|fail);all_goals first
    |rfl
    |(exfalso;simp at h;exact hx h)
 ·intro hP;have e1:=Ut (l:=f.terms) fun j hj _=>hP j hj hj;rw[e1,if_neg (by simp)] at he;simp only[List.take_length];(repeat' first|refine M.gw ?_|fail);refine AW.range f.args.length (fun m=>∀j (hj:j<f.args.length),j<m->(x7 f.args[j]).2=0)
   (fun m=>([(1,.ptr 0 0),(2,.ptr 1 0),(4,.ptr 2 0),(44,.s .fm f.args),(45,.i f.args.length),(46,.i m)],⟨5,[(0,.var f.view),(1,.var [.i 0,.i 0,.slice .nil (.t .ty []),.slice .nil (.t .tm []),.slice .nil (.t .fm [])]),(2,.var [.i f.kind,.i f.ty.kind,.s .ty f.ty.args,.slice (.own 3) (.t .tm (f.terms.map fun t=>(xw t 1000).1)),.slice (.own 4) (.t .fm ((f.args.take m).map fun x=>(x7 x).1))]),(3,.row),(4,.row)]⟩))
   (by omega) (fun m=>rfl) (fun m=>rfl) rfl (fun j hj h=>by omega) (M.W [some 0,some 1,some 2,some 3,none]) ?_ ?_
  ·intro m hm hP2;have hs2:=ze Fm.full (List.getElem_mem hm);have hc:=ih f.args[m] (by omega) (by omega);by_cases hx:(x7 f.args[m]).2=0
   ·rw[hx] at hc;(repeat' first|refine M.gw ?_|refine M.c2 (hc) ?_|fail);exact⟨rfl,z4 (p:=fun t=>(x7 t).2=0) hm hP2 hx,(M.W [some 0,some 1,some 2,some 3,some 7] (he:=(by(repeat'(first|exact trivial|exact Or.inr ⟨_,U,rfl⟩|refine And.intro ?_ ?_|refine⟨_,U,_,U,_,U,?_⟩|exact An.refl _|exact An.of_eq (by simp[Al.Aw,yn _ _ _ hm])));done)))⟩
   ·have e2:=Wj hm hP2 hx;rw[e2,if_pos hx] at he;rw[he];(repeat' first|refine M.gw ?_|refine M.c2 (hc) ?_|refine M.cs ?_ ?_<;>intro h|fail);all_goals first
     |rfl
     |(exfalso;simp at h;exact hx h)
  ·intro hP2;have e2:=Ve (l:=f.args) fun j hj _=>hP2 j hj hj;rw[e2,if_neg (by simp)] at he;simp only[List.take_length];rw[he];(repeat' first|refine M.gw ?_|fail)
   rfl
abbrev Di(f:Fm)(u:List Int)(e:Int):V:= .Ax [.agg (f.view++[.s .int u]),.i e]
abbrev B1(r:B4):V:= .Ax [.agg r.1.view,.s .int r.2.1,.i r.2.2]
theorem Ck.ok.sum{c:Ck}(hc:c.ok):(c.tys.map Ty.size).sum<=1024:=by
 have h1:=hc.len;have h2:=OR (f:=Ty.size) (C:=64) c.tys fun x hx=>((Ty.Ad x).1 (hc.all x hx)).2;omega
theorem FX{c:Ck}(hc:c.ok){f:Fm}{u:List Int}{e:Int}(h:E2 c (f,u,e)):f.full<=266240/\u.length<=16/\∀x∈u,0<=x/\x<=1000000:=by
 have hl:=hc.len;by_cases he:e=0
 ·obtain ⟨h1,_,h3⟩:=h.1 he;have h4:=h3.len;refine⟨z9 h1,by simp only at h4;omega,fun x hx=> ?_⟩;have:=h3.2 x hx;omega
 ·have h1:=h.2 he;simp only[yg,Prod.mk.injEq] at h1;rw[h1.1,h1.2.1];exact⟨by decide,by simp,fun x hx=>by cases hx⟩
theorem Yc7{c:Ck}(hc:c.ok)(i:Int)(hi:0<=i):PC E 93 [.agg c.view,.agg (Pf.mk 1 i (.mk 0 []) [] [] []).view] (B1 (Mb c i)):=by
 have hn:=hc.nh;unfold Mb;by_cases h1:i>=c.hyps.length
 ·rw[if_pos h1];refine M.F Tryz.func93 ?_;(repeat' first|refine M.gw ?_|refine M.bl ?_|refine M.cs ?_ ?_<;>intro h|fail);all_goals first
   |rfl
   |(exfalso;simp at h;omega)
 ·rw[if_neg h1];have hlt:c.hyps.length-1-i.toNat<c.hyps.length:=by omega
  rw[Mn hlt];simp only[Pf.view,Pf.kind,Pf.index,Pf.ty,Pf.terms,Pf.Aq,Pf.args];refine M.F Tryz.func93 ?_;(repeat' first|refine M.gw ?_|refine M.bl ?_|refine M.cs ?_ ?_<;>intro h|fail)
  ·exfalso;simp at h;omega
  ·refine L.B8 (c.hyps.length-1-i.toNat) rfl rfl rfl rfl (by omega) rfl rfl (by omega) ?_;(repeat' first|refine M.gw ?_|fail)
   rfl
theorem Ycv{c:Ck}(hc:c.ok)(i:Int)(hi:0<=i):PC E 93 [.agg c.view,.agg (Pf.mk 2 i (.mk 0 []) [] [] []).view] (B1 (KB c i)):=by
 have hn:=hc.nl;unfold KB;by_cases h1:i>=c.lems.length
 ·rw[if_pos h1];refine M.F Tryz.func93 ?_;(repeat' first|refine M.gw ?_|refine M.bl ?_|refine M.cs ?_ ?_<;>intro h|fail);all_goals first
   |rfl
   |(exfalso;simp at h;omega)
 ·rw[if_neg h1];have hlt:i.toNat<c.lems.length:=by omega
  rw[Mn hlt];simp only[Pf.view,Pf.kind,Pf.index,Pf.ty,Pf.terms,Pf.Aq,Pf.args];refine M.F Tryz.func93 ?_;(repeat' first|refine M.gw ?_|refine M.bl ?_|refine M.cs ?_ ?_<;>intro h|fail)
  ·exfalso;simp at h;omega
  ·refine L.B8 i.toNat rfl rfl rfl rfl (by omega) rfl rfl (by omega) ?_;(repeat' first|refine M.gw ?_|fail)
   rfl
section
variable {c:Ck} (hc:c.ok) {p q:Pf} {f0 f1:Fm} {u0 u1:List Int} {e0 e1:Int}
include hc
theorem Yet(hp:PC E 45 [.agg c.view,.agg p.view] (Di f0 u0 e0))(hq:PC E 45 [.agg c.view,.agg q.view] (Di f1 u1 e1))(o0:E2 c (f0,u0,e0))(o1:E2 c (f1,u1,e1)):
 PC E 93 [.agg c.view,.agg (Pf.mk 3 0 (.mk 0 []) [] [] [p,q]).view] (B1 (LU (fun _=>(f0,u0,e0)) (fun _=>(f1,u1,e1)) c)):=by
 have b0:=FX hc o0;have b1:=FX hc o1;have h2:=LS 2 f0 f1 (by omega) (by omega);have h3:=Hr u0 u1 (by omega) (by omega);unfold LU;by_cases he:e0=0
 ·subst he;rw[if_neg (by simp)];refine M.F Tryz.func93 ?_;(repeat' first|refine M.gw ?_|refine M.c2 (hp) ?_|refine M.c2 (hq) ?_|refine M.c2 (h2) ?_|refine M.c2 (h3) ?_|refine M.bl ?_|fail)
  rfl
 ·rw[if_pos he];refine M.F Tryz.func93 ?_;(repeat' first|refine M.gw ?_|refine M.c2 (hp) ?_|refine M.c2 (hq) ?_|refine M.c2 (h2) ?_|refine M.c2 (h3) ?_|refine M.bl ?_|refine M.cs ?_ ?_<;>intro h|fail);all_goals first
   |rfl
   |(exfalso;simp at h;exact he h)
theorem TA(j:Nat)(hj:j<2)(hp:PC E 45 [.agg c.view,.agg p.view] (Di f0 u0 e0))(o0:E2 c (f0,u0,e0)):
 PC E 93 [.agg c.view,.agg (Pf.mk (4+j) 0 (.mk 0 []) [] [] [p]).view] (B1 (Ko j (fun _=>(f0,u0,e0)) c)):=by
 unfold Ko;by_cases he:e0=0
 ·subst he;rw[if_neg (by simp)];by_cases hk:f0.kind=2
  ·rw[if_neg (by simp[hk])];obtain⟨x,y,e⟩:=LI ((Fm.Ad _).1 (o0.1 rfl).1).1 (.inl hk);simp only at e;rw[hk] at e;subst e;rcases j with _|_|j
   ·refine M.F Tryz.func93 ?_;(repeat' first|refine M.gw ?_|refine M.c2 (hp) ?_|refine M.bl ?_|fail)
    rfl
   ·refine M.F Tryz.func93 ?_;(repeat' first|refine M.gw ?_|refine M.c2 (hp) ?_|refine M.bl ?_|fail)
    rfl
   ·omega
  ·rw[if_pos hk];rcases j with _|_|j
   ·refine M.F Tryz.func93 ?_;(repeat' first|refine M.go ?_|refine M.c2 (hp) ?_|refine M.z1 24 ?_|refine M.bl ?_|refine M.cs ?_ ?_<;>intro h|refine M.gk ?_|fail);all_goals first
     |rfl
     |(exfalso;simp at h;exact hk h)
   ·refine M.F Tryz.func93 ?_;(repeat' first|refine M.go ?_|refine M.c2 (hp) ?_|refine M.z1 24 ?_|refine M.bl ?_|refine M.cs ?_ ?_<;>intro h|refine M.gk ?_|fail);all_goals first
     |rfl
     |(exfalso;simp at h;exact hk h)
   ·omega
 ·rw[if_pos he];rcases j with _|_|j
  ·refine M.F Tryz.func93 ?_;(repeat' first|refine M.go ?_|refine M.c2 (hp) ?_|refine M.z1 22 ?_|refine M.bl ?_|refine M.cs ?_ ?_<;>intro h|refine M.gk ?_|fail);all_goals first
    |rfl
    |(exfalso;simp at h;exact he h)
  ·refine M.F Tryz.func93 ?_;(repeat' first|refine M.go ?_|refine M.c2 (hp) ?_|refine M.z1 22 ?_|refine M.bl ?_|refine M.cs ?_ ?_<;>intro h|refine M.gk ?_|fail);all_goals first
    |rfl
    |(exfalso;simp at h;exact he h)
  ·omega
theorem Zz6{f:Fm}(hf:f.full<=300000)(hp:yb c.tys f=0->c.room 0 1=0->PC E 45 [.agg (c.Au f).view,.agg p.view] (Di f0 u0 e0))(b0:yb c.tys f=0->c.room 0 1=0->f0.full<=266240):
 PC E 93 [.agg c.view,.agg (Pf.mk 6 0 (.mk 0 []) [] [f] [p]).view] (B1 (Lz f (fun _=>(f0,u0,e0)) c)):=by
 have hl:=hc.len;have hn:=hc.nh;have h1:=K6 c.tys f (by omega) (by have:=hc.sum;omega);have h2:=Ku c 0 1 (by omega) (by omega);have h3:=M5 c f (by omega);unfold Lz;by_cases t0:yb c.tys f=0
 ·rw[if_neg (by simp[t0])];rw[t0] at h1;by_cases r0:c.room 0 1=0
  ·rw[if_neg (by simp[r0])];rw[r0] at h2;have h5:=hp t0 r0;have b1:=b0 t0 r0;have h4:=LS 3 f f0 (by omega) (by omega);refine M.F Tryz.func93 ?_;(repeat' first|refine M.gw ?_|refine M.c2 (h1) ?_|refine M.c2 (h2) ?_|refine M.c2 (h3) ?_|refine M.c2 (h4) ?_|refine M.c2 (h5) ?_|refine M.bl ?_|fail)
   rfl
  ·rw[if_pos r0];rw[KY r0] at h2;refine M.F Tryz.func93 ?_;(repeat' first|refine M.gw ?_|refine M.c2 (h1) ?_|refine M.c2 (h2) ?_|refine M.bl ?_|fail)
   rfl
 ·rw[if_pos t0];refine M.F Tryz.func93 ?_;(repeat' first|refine M.go ?_|refine M.c2 (h1) ?_|refine M.z1 29 ?_|refine M.bl ?_|refine M.cs ?_ ?_<;>intro h|refine M.gk ?_|fail);all_goals first
   |rfl
   |(exfalso;simp at h;exact t0 h)
theorem Zx4(hp:PC E 45 [.agg c.view,.agg p.view] (Di f0 u0 e0))(hq:PC E 45 [.agg c.view,.agg q.view] (Di f1 u1 e1))(o0:E2 c (f0,u0,e0))(o1:E2 c (f1,u1,e1)):
 PC E 93 [.agg c.view,.agg (Pf.mk 7 0 (.mk 0 []) [] [] [p,q]).view] (B1 (Kq (fun _=>(f0,u0,e0)) (fun _=>(f1,u1,e1)) c)):=by
 have b0:=FX hc o0;have b1:=FX hc o1;have h3:=Hr u0 u1 (by omega) (by omega);unfold Kq;by_cases he:e0=0;case neg=>
  rw[if_pos he];refine M.F Tryz.func93 ?_;(repeat' first|refine M.go ?_|refine M.c2 (hp) ?_|refine M.z1 38 ?_|refine M.bl ?_|refine M.cs ?_ ?_<;>intro h|refine M.gk ?_|fail);all_goals first
   |rfl
   |(exfalso;simp at h;exact he h)
 subst he;rw[if_neg (by simp)];by_cases hk:f0.kind=3;case neg=>
  rw[if_pos hk];refine M.F Tryz.func93 ?_;(repeat' first|refine M.gw ?_|refine M.c2 (hp) ?_|refine M.bl ?_|refine M.cs ?_ ?_<;>intro h|fail);all_goals first
   |rfl
   |(exfalso;simp at h;exact hk h)
   |trace_state
 rw[if_neg (by simp[hk])];obtain⟨x,y,e⟩:=LI ((Fm.Ad _).1 (o0.1 rfl).1).1 (.inr hk);simp only at e;rw[hk] at e;subst e;by_cases he1:e1=0;case neg=>
  rw[if_pos he1];refine M.F Tryz.func93 ?_;(repeat' first|refine M.gw ?_|refine M.c2 (hp) ?_|refine M.c2 (hq) ?_|refine M.bl ?_|refine M.cs ?_ ?_<;>intro h|fail);all_goals first
   |rfl
   |(exfalso;simp at h;exact he1 h)
   |trace_state
 subst he1;rw[if_neg (by simp)];have ex:=vw (o0.1 rfl).1 (x:=x) (by simp[vy]);have h4:=V4 x f1 (by have:=z9 ex;omega) (by omega);refine M.F Tryz.func93 ?_;(repeat' first|refine M.gw ?_|refine M.c2 (hp) ?_|refine M.c2 (hq) ?_|refine M.c2 (h3) ?_|refine M.c2 (h4) ?_|refine M.bl ?_|fail)
 rfl
end
theorem Uc(f:Fm)(t:Tm):(CP f t).1.full<=1200000000:=by
 unfold CP;by_cases h:ye f 0 t=0
 ·rw[if_pos h];exact Re h
 ·rw[if_neg h];exact Nat.le_trans (by decide:Az.full<=2) (by decide)
section
variable {c:Ck} (hc:c.ok) {p q:Pf} {f0 f1:Fm} {u0 u1:List Int} {e0 e1:Int}
include hc
theorem Jn{f:Fm}{t:Tm}(hf:f.full<=1200000000)(ht:t.full<=300000)(hp:PC E 45 [.agg c.view,.agg p.view] (Di f0 u0 e0))(o0:E2 c (f0,u0,e0)):
 PC E 221 [.agg c.view,.agg p.view,.agg f.view,.agg t.view] (.Ax [.s .int (y6 (fun _=>(f0,u0,e0)) c f t).1,.i (y6 (fun _=>(f0,u0,e0)) c f t).2]):=by
 have b0:=FX hc o0;have h1:=Jx f t (by omega) (by omega);have hb:=Uc f t;have h2:=V4 (CP f t).1 f0 (by omega) (by omega);unfold y6;by_cases he:e0=0;case neg=>
  rw[if_pos he];refine M.F Tryz.func221 ?_;(repeat' first|refine M.go ?_|refine M.c2 (hp) ?_|refine M.z1 4 ?_|refine M.cs ?_ ?_<;>intro h|refine M.gk ?_|fail);all_goals first
   |rfl
   |(exfalso;simp at h;exact he h)
 subst he;rw[if_neg (by simp)];by_cases h0:(CP f t).2=0;case neg=>
  rw[if_pos h0];refine M.F Tryz.func221 ?_;(repeat' first|refine M.go ?_|refine M.c2 (hp) ?_|refine M.c2 (h1) ?_|refine M.z1 7 ?_|refine M.cs ?_ ?_<;>intro h|refine M.gk ?_|fail);all_goals first
   |rfl
   |(exfalso;simp at h;exact h0 h)
 rw[if_neg (by simp[h0])];rw[h0] at h1;refine M.F Tryz.func221 ?_;(repeat' first|refine M.gw ?_|refine M.c2 (hp) ?_|refine M.c2 (h1) ?_|refine M.c2 (h2) ?_|fail)
 rfl
theorem Up{k:Int}(hk:k=8\/k=12){s:Ty}(hs:s.err=0)(hp:c.room 1 0=0->PC E 45 [.agg (c.below [s]).view,.agg p.view] (Di f0 u0 e0))(b0:c.room 1 0=0->f0.full<=266240/\u0.length<=16/\∀x∈u0,0<=x/\x<=1000000):
 PC E 150 [.agg c.view,.agg (Pf.mk k 0 s [] [] [p]).view] (B1 (Md k s (fun _=>(f0,u0,e0)) c)):=by
 have hl:=hc.len;have hn:=hc.nh;have h1:=Ku c 1 0 (by omega) (by omega);have hsz:=((Ty.Ad s).1 hs).2;unfold Md;by_cases r0:c.room 1 0=0;case neg=>
  rw[if_pos r0];rw[KY r0] at h1;refine M.F Tryz.func150 ?_;(repeat' first|refine M.gw ?_|refine M.c2 (h1) ?_|fail)
  rfl
 rw[if_neg (by simp[r0])];rw[r0] at h1;have b:=b0 r0;have h2:=M3 c hc [s] (by simp) (by simp);have h3:=hp r0;have h4:=UY u0;have h5:=Ns u0 1 (by omega) (by omega) b.2.2;have h6:=Fy 4 s f0 (by omega) (by omega);have h7:=Fy 6 s f0 (by omega) (by omega);by_cases he:e0=0;case neg=>
  rw[if_pos he];refine M.F Tryz.func150 ?_;(repeat' first|refine M.go ?_|refine M.c2 (h1) ?_|refine M.c2 (h2) ?_|refine M.c2 (h3) ?_|refine M.z1 7 ?_|refine M.cs ?_ ?_<;>intro h|refine M.gk ?_|fail);all_goals first
   |rfl
   |(exfalso;simp at h;exact he h)
   |trace_state
 subst he;rw[if_neg (by simp)];rcases hk with rfl|rfl
 ·rw[if_pos rfl];refine M.F Tryz.func150 ?_;(repeat' first|refine M.gw ?_|refine M.c2 (h1) ?_|refine M.c2 (h2) ?_|refine M.c2 (h3) ?_|refine M.c2 (h5) ?_|refine M.c2 (h6) ?_|fail)
  rfl
 ·rw[if_neg (by decide)];cases hh:Jy u0 with
  |true=>
   rw[hh] at h4;rw[if_pos rfl];refine M.F Tryz.func150 ?_;(repeat' first|refine M.gw ?_|refine M.c2 (h1) ?_|refine M.c2 (h2) ?_|refine M.c2 (h3) ?_|refine M.c2 (h4) ?_|fail)
   rfl
  |false=>
   rw[hh] at h4;rw[if_neg (by simp)];refine M.F Tryz.func150 ?_;(repeat' first|refine M.gw ?_|refine M.c2 (h1) ?_|refine M.c2 (h2) ?_|refine M.c2 (h3) ?_|refine M.c2 (h4) ?_|refine M.c2 (h5) ?_|refine M.c2 (h7) ?_|fail)
   rfl
theorem U3{k:Int}(hk:k=9\/k=13){t:Tm}(ht:t.full<=300000)(hp:PC E 45 [.agg c.view,.agg p.view] (Di f0 u0 e0))(o0:E2 c (f0,u0,e0)):
 PC E 151 [.agg c.view,.agg (Pf.mk k 0 (.mk 0 []) [t] [] [p]).view] (B1 (atR k t (fun _=>(f0,u0,e0)) c)):=by
 have hl:=hc.len;have hsum:=hc.sum;have b0:=FX hc o0;have h1:=Qv c.tys t (by omega) (by omega);unfold atR;by_cases t0:(y3 c.tys t).2=0;case neg=>
  rw[if_pos t0];refine M.F Tryz.func151 ?_;(repeat' first|refine M.go ?_|refine M.c2 (h1) ?_|refine M.z1 5 ?_|refine M.cs ?_ ?_<;>intro h|refine M.gk ?_|fail);all_goals first
   |rfl
   |(exfalso;simp at h;exact t0 h)
 rw[if_neg (by simp[t0])];rw[t0] at h1;obtain⟨_,t1,t2,_⟩:=K2 t0;by_cases he:e0=0;case neg=>
  rw[if_pos he];refine M.F Tryz.func151 ?_;(repeat' first|refine M.go ?_|refine M.c2 (h1) ?_|refine M.c2 (hp) ?_|refine M.z1 8 ?_|refine M.cs ?_ ?_<;>intro h|refine M.gk ?_|fail);all_goals first
   |rfl
   |(exfalso;simp at h;exact he h)
   |(exfalso;simp at h;done)
 subst he;rw[if_neg (by simp)];have hfr:=NR t t1 t2 (by omega);have hfl:=(ug t2).len;have hun:=Hr u0 (Ex t) (by omega) (by omega);by_cases hkd:f0.kind=kI k 13 6 4;case neg=>
  rw[if_pos hkd];rcases hk with rfl|rfl;all_goals
   refine M.F Tryz.func151 ?_;(repeat' first|refine M.go ?_|refine M.c2 (h1) ?_|refine M.c2 (hp) ?_|refine M.c2 (hfr) ?_|refine M.c2 (hun) ?_|refine M.z1 13 ?_|refine M.cs ?_ ?_<;>intro h|refine M.gk ?_|fail);all_goals first
    |rfl
    |(exfalso;simp at h;exact hkd h)
    |trace_state
 rw[if_neg (by simp[hkd])];have hkk:4<=f0.kind/\f0.kind<=7:=by rw[hkd,kI];split<;>omega
 have s0:=(Fm.Ad _).1 (o0.1 rfl).1;obtain⟨x,e⟩:=GV s0.1 hkk;simp only at e;have ex:=vw (o0.1 rfl).1 (x:=x) (by rw[show(f0,u0,(0:Int)).1=f0 from rfl,e];simp[Be]);have hte:=HI s0.1 hkk;have hsame:=y4 _ f0.ty (y3 c.tys t).1 (Nat.le_refl _) (by have:=((Ty.Ad _).1 hte).2;simp only at this;omega);have hput:=Jx x t (by have:=z9 ex;omega) (by omega);have hx:f0.args.getD 0 Az=x:=by rw[e];rfl
 rw[hx];generalize hty:f0.ty=s at*;by_cases hts:s=(y3 c.tys t).1;case neg=>
  rw[if_pos hts];rw[decide_eq_false hts] at hsame;rw[hkd] at e;subst e;rcases hk with rfl|rfl;all_goals
   simp only[kI] at*;refine M.F Tryz.func151 ?_;(repeat' first|refine M.gw ?_|refine M.c2 (h1) ?_|refine M.c2 (hp) ?_|refine M.c2 (hfr) ?_|refine M.c2 (hun) ?_|refine M.c2 (hsame) ?_|fail);all_goals first
    |rfl
    |trace_state
 rw[if_neg (by simp[hts])];rw[decide_eq_true hts] at hsame;rw[hkd] at e;subst e;rcases hk with rfl|rfl;all_goals
  simp only[kI] at*;refine M.F Tryz.func151 ?_;(repeat' first|refine M.gw ?_|refine M.c2 (h1) ?_|refine M.c2 (hp) ?_|refine M.c2 (hfr) ?_|refine M.c2 (hun) ?_|refine M.c2 (hsame) ?_|refine M.c2 (hput) ?_|fail);all_goals first
   |rfl
   |trace_state
end
section
variable {c:Ck} (hc:c.ok) {p q:Pf} {r0 r1:Rs}
include hc
theorem Va{k:Int}(hk:k=10\/k=14){f:Fm}{t:Tm}(hf:f.full<=300000)(ht:t.full<=300000)
 (hpa:PC E 221 [.agg c.view,.agg p.view,.agg (f.args.getD 0 Az).view,.agg t.view] (.Ax [.s .int (y6 r0 c (f.args.getD 0 Az) t).1,.i (y6 r0 c (f.args.getD 0 Az) t).2]))
 (hua:A3 c.tys.length (y6 r0 c (f.args.getD 0 Az) t).1):
 PC E 152 [.agg c.view,.agg (Pf.mk k 0 (.mk 0 []) [t] [f] [p]).view] (B1 (KO k f t r0 c)):=by
 have hl:=hc.len;have hsum:=hc.sum;have hul:=hua.len;have h1:=K6 c.tys f (by omega) (by omega);have h2:=Qv c.tys t (by omega) (by omega);unfold KO;generalize y6 r0 c (f.args.getD 0 Az) t=pr at*;by_cases t0:yb c.tys f=0;case neg=>
  rw[if_pos t0];refine M.F Tryz.func152 ?_;(repeat' first|refine M.go ?_|refine M.c2 (h1) ?_|refine M.z1 5 ?_|refine M.cs ?_ ?_<;>intro h|refine M.gk ?_|fail);all_goals first
   |rfl
   |(exfalso;simp at h;exact t0 h)
 rw[if_neg (by simp[t0])];rw[t0] at h1;obtain⟨fe,fo⟩:=xv t0;have s0:=(Fm.Ad _).1 fe;by_cases hkd:f.kind=kI k 14 7 5;case neg=>
  rw[if_pos hkd];rcases hk with rfl|rfl;all_goals
   refine M.F Tryz.func152 ?_;(repeat' first|refine M.go ?_|refine M.c2 (h1) ?_|refine M.z1 10 ?_|refine M.cs ?_ ?_<;>intro h|refine M.gk ?_|fail);all_goals first
    |rfl
    |(exfalso;simp at h;exact hkd h)
    |trace_state
 rw[if_neg (by simp[hkd])];have hkk:4<=f.kind/\f.kind<=7:=by rw[hkd,kI];split<;>omega
 obtain⟨x,e⟩:=GV s0.1 hkk;have hx:f.args.getD 0 Az=x:=by rw[e];rfl
 have hte:=HI s0.1 hkk;have hsame:=y4 _ f.ty (y3 c.tys t).1 (Nat.le_refl _) (by have:=((Ty.Ad _).1 hte).2;omega);rw[hx] at hpa;by_cases t1:(y3 c.tys t).2=0;case neg=>
  rw[if_pos t1];clear hsame hte;generalize f.ty=s at*;rw[hkd] at e;subst e;rcases hk with rfl|rfl;all_goals
   simp only[kI] at*;refine M.F Tryz.func152 ?_;(repeat' first|refine M.go ?_|refine M.c2 (h1) ?_|refine M.c2 (h2) ?_|refine M.z1 13 ?_|refine M.cs ?_ ?_<;>intro h|refine M.gk ?_|fail);all_goals first
    |rfl
    |(exfalso;simp at h;exact t1 h)
    |trace_state
 rw[if_neg (by simp[t1])];rw[t1] at h2;obtain⟨_,te,ti,_⟩:=K2 t1;have hfr:=NR t te ti (by omega);have hfl:=(ug ti).len;have hun:=Hr pr.1 (Ex t) (by omega) (by omega);by_cases hts:f.ty=(y3 c.tys t).1;case neg=>
  rw[if_pos hts];rw[decide_eq_false hts] at hsame;clear hte;generalize f.ty=s at*;rw[hkd] at e;subst e;rcases hk with rfl|rfl;all_goals
   simp only[kI] at*;refine M.F Tryz.func152 ?_;(repeat' first|refine M.gw ?_|refine M.c2 (h1) ?_|refine M.c2 (h2) ?_|refine M.c2 (hsame) ?_|fail);all_goals first
    |rfl
    |trace_state
 rw[if_neg (by simp[hts])];rw[decide_eq_true hts] at hsame;clear hte;generalize f.ty=s at*;rw[hkd] at e;subst e;rcases hk with rfl|rfl;all_goals
  simp only[kI] at*;refine M.F Tryz.func152 ?_;(repeat' first|refine M.gw ?_|refine M.c2 (h1) ?_|refine M.c2 (h2) ?_|refine M.c2 (hsame) ?_|refine M.c2 (hpa) ?_|refine M.c2 (hfr) ?_|refine M.c2 (hun) ?_|fail);all_goals first
   |rfl
   |trace_state
theorem Yfb{f:Fm}{t:Tm}(hf:f.full<=300000)(ht:t.full<=300000)
 (hpa:PC E 221 [.agg c.view,.agg p.view,.agg f.view,.agg zT.view] (.Ax [.s .int (y6 r0 c f zT).1,.i (y6 r0 c f zT).2]))
 (hpb:((c.below [Aa]).Au f).ok->PC E 221 [.agg ((c.below [Aa]).Au f).view,.agg q.view,.agg (f.A4 1 1).view,.agg (sT (vT 0)).view] (.Ax [.s .int (y6 r1 ((c.below [Aa]).Au f) (f.A4 1 1) (sT (vT 0))).1,.i (y6 r1 ((c.below [Aa]).Au f) (f.A4 1 1) (sT (vT 0))).2]))
 (hua:A3 c.tys.length (y6 r0 c f zT).1) (hub:((c.below [Aa]).Au f).ok->A3 (c.tys.length+1) (y6 r1 ((c.below [Aa]).Au f) (f.A4 1 1) (sT (vT 0))).1):
 PC E 154 [.agg c.view,.agg (Pf.mk 16 0 (.mk 0 []) [t] [f] [p,q]).view] (B1 (LK f t r0 r1 c)):=by
 have hl:=hc.len;have hn:=hc.nh;have hsum:=hc.sum;have hul:=hua.len;have h1:=NF (c.tys++[Aa]) f (by omega) (hc.one Hh) (by simp;omega);have h2:=PS c t 1 (by omega) (by omega);have h3:=Co 4 [] (by simp);have h4:=Ku c 1 1 (by omega) (by omega);have h5:=vz;have h6:=M3 c hc [Aa] (by simp) (by simp);have h7:=M5 (c.below [Aa]) f (by simp[Ck.below];omega);have h9:=DI 0;have h10:=Co 5 [vT 0] (by simp[vT,Tm.full,Tm.Ap,Ty.size,Ty.sizes]);have h11:=Jx f t (by omega) (by omega);unfold LK;generalize hA:y6 r0 c f zT=a at*;generalize hB:y6 r1 ((c.below [Aa]).Au f) (f.A4 1 1) (sT (vT 0))=b at*;by_cases e0:w4 (c.tys++[Aa]) f=0;case neg=>
  rw[if_pos e0];refine M.F Tryz.func154 ?_;(repeat' first|refine M.go ?_|refine M.c2 (h5) ?_|refine M.c2 (h1) ?_|refine M.z1 5 ?_|refine M.cs ?_ ?_<;>intro h|refine M.gk ?_|fail);all_goals first
   |rfl
   |(exfalso;simp at h;exact e0 h)
   |trace_state
 rw[if_neg (by simp[e0])];rw[e0] at h1;obtain⟨f1,f2⟩:=JG (hc.one Hh) e0;have s0:=(Fm.Ad _).1 f1;by_cases e1:Ey c t 1=0;case neg=>
  rw[if_pos e1];refine M.F Tryz.func154 ?_;(repeat' first|refine M.go ?_|refine M.c2 (h5) ?_|refine M.c2 (h1) ?_|refine M.c2 (h2) ?_|refine M.z1 8 ?_|refine M.cs ?_ ?_<;>intro h|refine M.gk ?_|fail);all_goals first
   |rfl
   |(exfalso;simp at h;exact e1 h)
   |trace_state
 rw[if_neg (by simp[e1])];rw[e1] at h2;obtain⟨te,ti⟩:=Rf e1;by_cases e2:a.2=0;case neg=>
  rw[if_pos e2];refine M.F Tryz.func154 ?_;(repeat' first|refine M.go ?_|refine M.c2 (h5) ?_|refine M.c2 (h1) ?_|refine M.c2 (h2) ?_|refine M.c2 (h3) ?_|refine M.c2 (hpa) ?_|refine M.z1 11 ?_|refine M.cs ?_ ?_<;>intro h|refine M.gk ?_|fail);all_goals first
   |rfl
   |(exfalso;simp at h;exact e2 h)
   |trace_state
 rw[if_neg (by simp[e2])];rw[e2] at hpa;by_cases e3:c.room 1 1=0;case neg=>
  rw[if_pos e3];rw[KY e3] at h4;refine M.F Tryz.func154 ?_;(repeat' first|refine M.gw ?_|refine M.c2 (h5) ?_|refine M.c2 (h1) ?_|refine M.c2 (h2) ?_|refine M.c2 (h3) ?_|refine M.c2 (hpa) ?_|refine M.c2 (h4) ?_|fail);all_goals first
   |rfl
   |trace_state
 rw[if_neg (by simp[e3])];rw[e3] at h4;have hr:=ww e3;have hb:((c.below [Aa]).Au f).ok:=(hc.below (l:=[Aa]) hr.1 (by simp[Hh])).Au (by simpa[Ck.below] using hr.2) f1 f2;have h8:=Fg f2 s0.1 (by omega) (by simp;omega) 1 1 (by omega) (by omega);have h12:=hpb hb;have hub':=hub hb;by_cases e4:b.2=0;case neg=>
  rw[if_pos e4];refine M.F Tryz.func154 ?_;(repeat' first|refine M.go ?_|refine M.c2 (h5) ?_|refine M.c2 (h1) ?_|refine M.c2 (h2) ?_|refine M.c2 (h3) ?_|refine M.c2 (hpa) ?_|refine M.c2 (h4) ?_|refine M.c2 (h6) ?_|refine M.c2 (h7) ?_|refine M.c2 (h8) ?_|refine M.c2 (h9) ?_|refine M.c2 (h10) ?_|refine M.c2 (h12) ?_|refine M.z1 17 ?_|refine M.cs ?_ ?_<;>intro h|refine M.gk ?_|fail);all_goals first
   |rfl
   |(exfalso;simp at h;exact e4 h)
   |trace_state
 rw[if_neg (by simp[e4])];rw[e4] at h12;have hfr:=NR t te ti (by omega);have hfl:=(ug ti).len;have hun:=Hr (Ex t) a.1 (by omega) (by omega);have hlu:A3 c.tys.length (v7 (Ex t) a.1):= .union (ug ti).2 hua.2;have hll:=hlu.len;have hbl:=hub'.len;have hou:=Ns b.1 1 (by omega) (by omega) (fun x hx=>by have:=hub'.2 x hx;omega);have hol:=MM b.1 1;have hun2:=Hr (v7 (Ex t) a.1) (Ds b.1 1) (by omega) (by omega);refine M.F Tryz.func154 ?_;(repeat' first|refine M.gw ?_|refine M.c2 (h5) ?_|refine M.c2 (h1) ?_|refine M.c2 (h2) ?_|refine M.c2 (h3) ?_|refine M.c2 (hpa) ?_|refine M.c2 (h4) ?_|refine M.c2 (h6) ?_|refine M.c2 (h7) ?_|refine M.c2 (h8) ?_|refine M.c2 (h9) ?_|refine M.c2 (h10) ?_|refine M.c2 (h12) ?_|refine M.c2 (h11) ?_|refine M.c2 (hfr) ?_|refine M.c2 (hun) ?_|refine M.c2 (hou) ?_|refine M.c2 (hun2) ?_|fail);all_goals first
  |rfl
  |trace_state
end
end Go.Ab
