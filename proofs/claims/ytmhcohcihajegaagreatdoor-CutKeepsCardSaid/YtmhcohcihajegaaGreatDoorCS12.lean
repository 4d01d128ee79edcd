/- A part of this seat's proofs. No conditions. -/
import Derived.Test.YtmhcohcihajegaaGreatDoorCS11
namespace Go.Ab
open Go Go.Proofs
set_option maxRecDepth 100000
set_option maxHeartbeats 4000000
set_option linter.all false
def Pe(r:Nat):List Int->AF×Ao
 |[]=>([(3,.slice .nil (.t .int [])),(7,.raw (.pointer (some ⟨r,0,none⟩)))],⟨1,[(0,.gone)]⟩)
 |x::d=>([(3,.arr 1 (d.length+1) 1),(7,.raw (.pointer (some ⟨r,0,none⟩)))],⟨2,[(1,.var ((x8 (x::d)).flatMap EC.int.view)),(0,.gone)]⟩)
theorem Yh3(r:Nat)(d:List Int)(q:Int):Pe r (d++[q])=([(3,.arr 1 (d.length+1) 1),(7,.raw (.pointer (some ⟨r,0,none⟩)))],⟨2,[(1,.var ((x8 (d++[q])).flatMap EC.int.view)),(0,.gone)]⟩):=by
 cases d with
 |nil=>rfl
 |cons x d=>simp[Pe]
def JA(r:Nat)(l:List Int)(q:Int)(i:Nat):AF×Ao:=([(3,.arr 1 (l.length+1) 1),(4,.i q),(5,.i i),(7,.raw (.pointer (some ⟨r,0,none⟩)))],⟨2,[(1,.var ((DN (x8 l) q i).flatMap EC.int.view)),(0,.gone)]⟩)
theorem cV{ks:List Int}(hnd:ks.Nodup)(hlen:ks.length<549755813888):AC E 189 [.mp 0] ⟨1,[(0,.map .bl ks (List.replicate ks.length true))]⟩ (.s .int (x8 ks)) ⟨1,[(0,.map .bl ks (List.replicate ks.length true))]⟩:=by
 refine AC.mk Tryz.func189 rfl rfl rfl rfl rfl (fP rfl) ?_;repeat'(first|((with_reducible refine D.nil ?_);refine AX.Bh ?_)|((with_reducible refine D.assign ?_);refine L.DB U U U ?_)|((with_reducible refine D.aw ?_);(fail_if_success with_reducible refine D.F6 (id:=2) ?_);(fail_if_success with_reducible refine D.FR (id:=2) ?_);refine K.sq (AW.A5 ?_))|with_reducible refine K.tN ?_)
 refine K.sq (AW.Lx (n:=0) (c:= .bl) (ks:=ks) (xs:=List.replicate ks.length true) (kt:=3) (et:=4) (J:=Pe) ?_ ?_ ?_ ?_ hnd ?_ ?_ ?_ ?_ ?_ ?_ ?_)
 .rfl
 .rfl
 .exact Nat.lt_succ_self 0
 .kernel_rfl
 .rfl
 .intro r l;cases l<;>rfl
 .intro r l t ht;simp only[fW,gm,or_false] at ht;rcases ht with rfl|rfl|rfl|rfl|rfl<;>cases l<;>rfl
 .intro r l e he;cases l<;>cases he<;>rfl
 .intro r;exact(Bg.mk [some 0] _ _ _ U U U U (by(repeat'(first|exact trivial|refine And.intro ?_ ?_|refine⟨_,U,_,U,?_⟩|exact Ap.refl _));done) (by(repeat'(first|exact trivial|refine And.intro ?_ ?_|exact Eq.refl true));done))
 .intro r l q hl hlk hq hql;have hll:=dK hl hlk;have hsl:=dY l;rw[Yh3];have tail:∀(i:Nat),i<=l.length->(∀x∈(x8 l).drop i,q<x)->(∀(hi:0<i) (hl:i-1<(x8 l).length),(x8 l)[i-1]<=q)->((DN (x8 l) q i).set i q)=x8 (l++[q]):=fun i hi h1 h2=>by
   rw[Yax kn];exact Yda h1 h2 kn
  have hE:DN (x8 l) q l.length=x8 l++[q]:=by rw[<-hsl];exact Yg0 _ _
  have hat:∀j (h:j<l.length) (h':j<(DN (x8 l) q (j+1)).length),(DN (x8 l) q (j+1))[j]=(x8 l)[j]' kn:=fun j h h'=>Yli kn h';have hst:∀j (h:j<l.length),(DN (x8 l) q (j+1)).set (j+1) ((x8 l)[j]' kn)=DN (x8 l) q j:=fun j h=>Ycd kn;have hln:∀i,i<=l.length->(DN (x8 l) q i).length=l.length+1:=fun i hi=>by rw[Yf0 kn,hsl]
  cases l with
  |nil=>
   repeat'(first|((with_reducible refine D.nil ?_);refine AX.Bh ?_)|((with_reducible refine D.move ?_);refine L.mv U U U ?_)|((with_reducible refine D.assign ?_);refine L.DB U U U ?_)|((with_reducible refine D.call ?_);refine L.NW U U U U ?_)|((with_reducible refine D.aw ?_);(fail_if_success with_reducible refine D.F6 (id:=6) ?_);(fail_if_success with_reducible refine D.FR (id:=6) ?_);refine K.sq (AW.A5 ?_))|with_reducible refine K.tN ?_)
   refine K.sq (AW.A5 ?_);refine L.mv rfl rfl rfl ?_;refine L.mv rfl rfl rfl ?_;refine L.Nw rfl rfl rfl rfl rfl (EC.BL rfl) rfl rfl ?_;refine L.RB (te:=3) (e:= .int) (l:=[q]) rfl rfl rfl rfl kA rfl rfl rfl rfl ko ko ?_;repeat'(first|((with_reducible refine D.nil ?_);refine AX.Bh ?_)|((with_reducible refine D.assign ?_);refine L.DB U U U ?_)|with_reducible refine K.tN ?_)
   refine K.sq (AW.block (AW.loop (ι:={i:Nat // i<=0/\∀x∈(x8 []).drop i,q<x}) (fun i=>JA r [] q i.1) (fun i=>i.1) ⟨0,fB _,by simp[Qg]⟩ ?_ ?_))
   .show Bg _ _ _ _ _ (JA r [] q 0).1 (JA r [] q 0).2;simp only[JA];rw[show DN (x8 []) q 0=[q] from hE.trans (by rw[Qg];rfl)];exact(Bg.mk [some 0,some 1] _ _ _ U U U U (by(repeat'(first|exact trivial|refine And.intro ?_ ?_|refine⟨_,U,_,U,?_⟩|exact Ap.refl _));done) (by(repeat'(first|exact trivial|refine And.intro ?_ ?_|refine⟨_,U,_,U,_,U,?_⟩|exact Ap.refl _|exact Eq.refl true));done))
   .rintro ⟨i,hi,h1⟩;obtain rfl:i=0:=kn
    repeat'(first|((with_reducible refine D.nil ?_);refine AX.Bh ?_)|((with_reducible refine D.load ?_);refine AX.sk U U ?_)|((with_reducible refine D.move ?_);first|refine L.mv U U U ?_|refine AX.sk U U ?_)|((with_reducible refine D.bin ?_);first|refine L.bn U U U U U ?_|refine AX.sk U U ?_)|((with_reducible refine D.indexAddr ?_);refine AX.sk U U ?_)|((with_reducible refine D.pick ?_);refine L.pk U U U U ?_)|((with_reducible refine D.aw ?_);first|refine K.sq (K.sq ?_)|refine AW.A5 ?_|refine AW.Cp U ?_|refine AW.exit ?_)|with_reducible refine K.tN ?_|with_reducible refine K.tE ?_|with_reducible refine K.bX kF ?_|with_reducible refine K.lE ?_)
    refine L.F4 0 rfl rfl rfl rfl rfl kq rfl ?_;refine L.sta (c:= .int) (l:=DN (x8 []) q 0) (u:=q) 0 rfl rfl rfl rfl rfl rfl rfl rfl (by rw[hln 0 (fB _)];decide) rfl ?_;repeat'(first|((with_reducible refine D.nil ?_);refine AX.Bh ?_))
    refine⟨rfl,?_⟩;simp only[tail 0 (fB _) h1 (fun h=>absurd h kq)];exact(Bg.mk [some 0,some 1] _ _ _ U U U U (by(repeat'(first|exact trivial|refine And.intro ?_ ?_|refine⟨_,U,_,U,?_⟩|exact Ap.refl _));done) (by(repeat'(first|exact trivial|refine And.intro ?_ ?_|exact BA.refl _|exact Eq.refl true|refine⟨_,U,_,vb _ _ _,_,U,?_⟩));done))
  |cons x d=>
   skip;refine K.sq (AW.A5 ?_);refine L.mv rfl rfl rfl ?_;refine L.lnR rfl rfl rfl rfl ?_;repeat'(first|((with_reducible refine D.nil ?_);refine AX.Bh ?_)|((with_reducible refine D.assign ?_);refine L.DB U U U ?_)|with_reducible refine K.tN ?_)
   refine K.sq (AW.A5 ?_);refine L.mv rfl rfl rfl ?_;refine L.mv rfl rfl rfl ?_;refine L.Nw rfl rfl rfl rfl rfl (EC.BL rfl) rfl rfl ?_;refine L.apR (te:=3) (e:= .int) (l:=[q]) rfl rfl rfl rfl kA rfl rfl (by rw[KX,hsl];rfl) rfl rfl rfl ko (by simp only[fQ,gB] at hll ⊢;omega) ?_;rw[<-List.flatMap_append];repeat'(first|((with_reducible refine D.nil ?_);refine AX.Bh ?_)|((with_reducible refine D.assign ?_);refine L.DB U U U ?_)|with_reducible refine K.tN ?_)
   refine K.sq (AW.block (AW.loop (ι:={i:Nat // i<=(x::d).length/\∀y∈(x8 (x::d)).drop i,q<y}) (fun i=>JA r (x::d) q i.1) (fun i=>i.1) ⟨(x::d).length,fB _,by rw[<-hsl,List.drop_length];intro y hy;cases hy⟩ ?_ ?_))
   .show Bg _ _ _ _ _ (JA r (x::d) q (x::d).length).1 (JA r (x::d) q (x::d).length).2;simp only[JA];rw[hE];exact(Bg.mk [some 0,some 2] _ _ _ U U U U (by(repeat'(first|exact trivial|refine And.intro ?_ ?_|refine⟨_,U,_,U,?_⟩|exact Ap.refl _));done) (by(repeat'(first|exact trivial|refine And.intro ?_ ?_|exact BA.refl _|exact Eq.refl true|refine⟨_,U,_,vb _ _ _,_,U,?_⟩));done))
   .rintro ⟨i,hi,h1⟩;cases i with
    |zero=>
     repeat'(first|((with_reducible refine D.nil ?_);refine AX.Bh ?_)|((with_reducible refine D.load ?_);refine AX.sk U U ?_)|((with_reducible refine D.move ?_);first|refine L.mv U U U ?_|refine AX.sk U U ?_)|((with_reducible refine D.bin ?_);first|refine L.bn U U U U U ?_|refine AX.sk U U ?_)|((with_reducible refine D.indexAddr ?_);refine AX.sk U U ?_)|((with_reducible refine D.pick ?_);refine L.pk U U U U ?_)|((with_reducible refine D.aw ?_);first|refine K.sq (K.sq ?_)|refine AW.A5 ?_|refine AW.Cp U ?_|refine AW.exit ?_)|with_reducible refine K.tN ?_|with_reducible refine K.tE ?_|with_reducible refine K.bX kF ?_|with_reducible refine K.lE ?_)
     refine L.F4 0 rfl rfl rfl rfl rfl (Nat.succ_pos _) rfl ?_;refine L.sta (c:= .int) (l:=DN (x8 (x::d)) q 0) (u:=q) 0 rfl rfl rfl rfl rfl rfl rfl rfl (by rw[hln 0 (iH _)];exact Nat.succ_pos _) rfl ?_;repeat'(first|((with_reducible refine D.nil ?_);refine AX.Bh ?_))
     refine⟨rfl,?_⟩;simp only[tail 0 (iH _) h1 (fun h=>absurd h kq)];exact(Bg.mk [some 0,some 1] _ _ _ U U U U (by(repeat'(first|exact trivial|refine And.intro ?_ ?_|refine⟨_,U,_,U,?_⟩|exact Ap.refl _));done) (by(repeat'(first|exact trivial|refine And.intro ?_ ?_|exact BA.refl _|exact Eq.refl true|refine⟨_,U,_,vb _ _ _,_,U,?_⟩));done))
    |succ i=>
     have hi':i<(x::d).length:=kn
     have hsi:i<(x8 (x::d)).length:=kn
     have hdl:(x::d).length=d.length+1:=rfl;have hl0:=hln (i+1) hi;have hl1:i<(DN (x8 (x::d)) q (i+1)).length:=kn
     have ha:=hat i hi' hl1;have hs:=hst i hi';show AW _ _ _ _ (JA r (x::d) q (i+1)).1 (JA r (x::d) q (i+1)).2 _;repeat'(first|((with_reducible refine D.nil ?_);refine AX.Bh ?_)|((with_reducible refine D.load ?_);refine AX.sk U U ?_)|((with_reducible refine D.move ?_);first|refine L.mv U U U ?_|refine AX.sk U U ?_|((fail_if_success refine AX.wt U ?_);refine AX.gs U U (fun _=>trivial) (fun h=> ?_) (fun h=> ?_)))|((with_reducible refine D.bin ?_);first|refine L.sb U U U U kn ?_|refine L.bn U U U U U ?_|refine AX.sk U U ?_)|((with_reducible refine D.indexAddr ?_);refine AX.sk U U ?_)|((with_reducible refine D.pick ?_);refine L.pk U U U U ?_)|((with_reducible refine D.aw ?_);first|refine K.sq (K.sq ?_)|refine AW.A5 ?_|refine AW.Cp U ?_|refine AW.exit ?_)|with_reducible refine K.tN ?_|with_reducible refine K.tE ?_|with_reducible refine K.bX kF ?_|with_reducible refine K.lE ?_)
     .refine L.F4 i rfl rfl rfl rfl ko kn rfl ?_;refine L.YH (c:= .int) (l:=DN (x8 (x::d)) q (i+1)) i rfl rfl rfl rfl rfl hl1 rfl rfl rfl ?_;rw[ha];repeat'(first|((with_reducible refine D.nil ?_);refine AX.Bh ?_)|((with_reducible refine D.move ?_);refine L.mv U U U ?_)|((with_reducible refine D.bin ?_);refine L.bn U U U U U ?_)|((with_reducible refine D.pick ?_);refine L.pk U U U U ?_)|((with_reducible refine D.aw ?_);first|refine AW.A5 ?_|refine AW.D6 U (fun h=> ?_) (fun h=> ?_)|refine AW.skip ?_|refine AW.exit ?_)|with_reducible refine K.tN ?_|with_reducible refine K.tE ?_|with_reducible refine K.bX kF ?_|with_reducible refine K.lE ?_)
      .have hgt:q<(x8 (x::d))[i]:=ku
       repeat'(first|((with_reducible refine D.move ?_);refine L.mv U U U ?_)|((with_reducible refine D.bin ?_);refine L.sb U U U U kn ?_)|((with_reducible refine D.aw ?_);first|((with_reducible refine D.blk ?_);refine AW.block ?_)|refine K.sq (AW.A5 ?_)))
       refine L.F4 i rfl rfl rfl rfl ko kn rfl ?_;refine L.YH (c:= .int) (l:=DN (x8 (x::d)) q (i+1)) i rfl rfl rfl rfl rfl hl1 rfl rfl rfl ?_;rw[ha];refine L.F4 (i+1) rfl rfl rfl rfl rfl kn rfl ?_;refine L.sta (c:= .int) (l:=DN (x8 (x::d)) q (i+1)) (u:=(x8 (x::d))[i]) (i+1) rfl rfl rfl rfl rfl rfl rfl rfl kn rfl ?_;rw[hs];repeat'(first|((with_reducible refine D.nil ?_);refine AX.Bh ?_)|((with_reducible refine D.move ?_);refine L.mv U U U ?_)|((with_reducible refine D.assign ?_);refine L.DB U U U ?_)|((with_reducible refine D.bin ?_);refine L.sb U U U U kn ?_)|((with_reducible refine D.aw ?_);refine AW.A5 ?_)|with_reducible refine K.tN ?_|with_reducible refine K.bN ?_)
       refine⟨⟨i,kn,fun y hy=> ?_⟩,by show i<i+1;omega,?_⟩
       .rw[jJ hsi] at hy;rcases fW.1 hy with rfl|hy
        .exact hgt
        .exact h1 y hy
       .simp only[JA,show(((i+1:Nat):Int)-1)=(i:Int) by omega];exact(Bg.mk [some 0,some 1] _ _ _ U U U U (by(repeat'(first|exact trivial|refine And.intro ?_ ?_|refine⟨_,U,_,U,?_⟩|exact Ap.refl _));done) (by(repeat'(first|exact trivial|refine And.intro ?_ ?_|exact BA.refl _|exact Eq.refl true|refine⟨_,U,_,vb _ _ _,_,U,?_⟩));done))
      .have hle:(x8 (x::d))[i]<=q:=ku
       refine L.F4 (i+1) rfl rfl rfl rfl rfl kn rfl ?_;refine L.sta (c:= .int) (l:=DN (x8 (x::d)) q (i+1)) (u:=q) (i+1) rfl rfl rfl rfl rfl rfl rfl rfl kn rfl ?_;repeat'(first|((with_reducible refine D.nil ?_);refine AX.Bh ?_))
       refine⟨rfl,?_⟩;simp only[tail (i+1) hi h1 (fun _ _=>hle)];exact(Bg.mk [some 0,some 1] _ _ _ U U U U (by(repeat'(first|exact trivial|refine And.intro ?_ ?_|refine⟨_,U,_,U,?_⟩|exact Ap.refl _));done) (by(repeat'(first|exact trivial|refine And.intro ?_ ?_|exact BA.refl _|exact Eq.refl true|refine⟨_,U,_,vb _ _ _,_,U,?_⟩));done))
     .exfalso;simp at h
 .intro r l hp;cases l with
  |nil=>
   have hk0:ks=[]:=by simpa using hp.symm.eq_nil
   subst hk0;simp only[Pe,Qg];repeat'(first|((with_reducible refine D.nil ?_);refine AX.Bh ?_)|((with_reducible refine D.move ?_);refine L.mv U U U ?_)|((with_reducible refine D.assign ?_);refine L.DB U U U ?_)|((with_reducible refine D.aw ?_);first|refine K.sq (AW.A5 ?_)|refine AW.ret ?_)|with_reducible refine K.tN ?_)
   (exact K.n2 [some 0] U U U U U (by(repeat'(first|exact trivial|refine And.intro ?_ ?_|refine⟨_,U,_,_,U,?_,?_⟩|with_reducible exact rfl));done) U (by simp[zn,V.wk,V.Ar,za,Ty.view,Tm.view,Qg]))
  |cons x d=>
   have hk0:x8 (x::d)=x8 ks:=Zot hp;simp only[Pe,hk0];refine AW.B8 (c:= .int) 1 (d.length+1) (x8 ks) rfl (by rw[<-hk0,dY];rfl) (by(repeat'(first|exact trivial|exact fun _=>rfl|exact fun h=>absurd rfl h|exact fun h=>absurd h kq|refine And.intro ?_ ?_|intro _));done) (by(repeat'(first|exact trivial|exact fun _=>rfl|exact fun h=>absurd rfl h|exact fun h=>absurd h kq|refine And.intro ?_ ?_|intro _));done) ?_;repeat'(first|((with_reducible refine D.nil ?_);refine AX.Bh ?_)|((with_reducible refine D.move ?_);refine L.mv U U U ?_)|((with_reducible refine D.assign ?_);refine L.DB U U U ?_)|((with_reducible refine D.aw ?_);first|refine K.sq (AW.A5 ?_)|refine AW.ret ?_)|with_reducible refine K.tN ?_)
   (exact K.n2 [some 0] U U U U U (by(repeat'(first|exact trivial|refine And.intro ?_ ?_|refine⟨_,U,_,_,U,?_,?_⟩|with_reducible exact rfl));done) U kR)
theorem Ypm(at_:Int)(s:Tm)(hat:0<=at_/\at_<137438953472)(hs:s.shape=true)(hsf:s.full<137438953472)(hsi:∀p∈s.vars 0,0<=p.1/\p.1<274877906944):∀(n:Nat) (f:Fm) (dp:Int),f.full<=n->n<137438953472->0<=dp->dp+n<274877906944->f.shape=true->(∀p∈f.A6 0,∀q∈p.1.vars 0,0<=q.1/\q.1<274877906944)->
 PC E 243 [.agg f.view,.i at_,.i dp,.agg s.view] (.agg (f.re (fun b t=>t.re (yq at_ s) b) dp).view):=by
 intro n;induction n with
 |zero=>intro f dp h;have:=f.Ad;omega
 |succ n ih=>
 intro f dp hsz hn h1 h2 hf hix;have hsz':=f.Ag;have hlen:=ze Fm.full Fm.Ad f.args;have hlen2:=ze Tm.full Tm.Ad f.terms;have hup:=Nk f.kind dp;have hpl:=QE f.kind dp;have hb:=SJ f;have he:=Fm.A4 (fun b t=>t.re (yq at_ s) b) dp f;have htm:=f.A0 0;refine M.F Tryz.func243 ?_;refine M.w0 ?_;refine M.rt f.terms.length (fun m=>([(1,.i at_),(2,.i dp),(4,.ptr 0 0),(7,.ptr 1 0),(8,.ptr 2 0),(9,.ptr 3 0),(20,.s .tm f.terms),(21,.i f.terms.length),(22,.i m)],⟨5,[(0,.var f.view),(1,.var s.view),(2,.var [.i 0,.i 0,.slice .nil (.t .ty []),.slice .nil (.t .tm []),.slice .nil (.t .fm [])]),(3,.var [.i f.kind,.i f.ty.kind,.s .ty f.ty.args,.slice (.own 4) (.t .tm ((f.terms.take m).map fun t=>t.re (yq at_ s) dp)),.slice .nil (.t .fm [])]),(4,.row)]⟩))
  (M.W Ke) ?_ ?_
 .intro m hm _;have hs2:=zc Tm.full (fA hm);have hc:=XE at_ s hat hs hsf hsi _ f.terms[m] dp (fB _) kn kn kn (yi hf (fA hm)) (fun p hp=>hix (f.terms[m],0) mI p hp);refine M.w1 @hc ?_;exact⟨rfl,trivial,(M.W [some 0,some 1,some 2,some 3,some 6] (he:=(by(repeat'(first|exact trivial|exact Or.inr ⟨_,U,rfl⟩|refine And.intro ?_ ?_|refine⟨_,U,_,U,_,U,?_⟩|exact Ap.refl _|exact Ap.of_eq kO));done)))⟩
 .intro _;simp only[fH];refine M.w0 ?_;refine M.rt f.args.length (fun m=>([(1,.i at_),(2,.i dp),(4,.ptr 0 0),(7,.ptr 1 0),(8,.ptr 2 0),(9,.ptr 3 0),(38,.s .fm f.args),(39,.i f.args.length),(40,.i m)],⟨6,[(0,.var f.view),(1,.var s.view),(2,.var [.i 0,.i 0,.slice .nil (.t .ty []),.slice .nil (.t .tm []),.slice .nil (.t .fm [])]),(3,.var [.i f.kind,.i f.ty.kind,.s .ty f.ty.args,.slice (.own 4) (.t .tm (f.terms.map fun t=>t.re (yq at_ s) dp)),.slice (.own 5) (.t .fm ((f.args.take m).map fun x=>x.re (fun b t=>t.re (yq at_ s) b) (A3 f.kind dp)))]),(4,.row),(5,.row)]⟩))
   (M.W Qu) ?_ ?_
  .intro m hm _;have hs2:=zc Fm.full (fA hm);have hc:=ih f.args[m] (A3 f.kind dp) kn kn kn kn (zp hf (fA hm)) (fun p hp q hq=>by
    obtain⟨p',hp',hpe⟩:=aq (b':=A3 f.kind 0) p hp;rw[<-hpe] at hq;exact hix p' o8 q hq)
   rw[<-hpl] at hc;simp only[<-hpl];refine M.w2 @hb @hc ?_;exact⟨rfl,trivial,(M.W [some 0,some 1,some 2,some 3,some 4,some 7] (he:=(by(repeat'(first|exact trivial|exact Or.inr ⟨_,U,rfl⟩|refine And.intro ?_ ?_|refine⟨_,U,_,U,_,U,?_⟩|exact Ap.refl _|exact Ap.of_eq kO));done)))⟩
  .exact sC
theorem Ykj(f:Fm)(at_:Int)(s:Tm)(hf:f.full<549755813888)(hs:s.full<549755813888):PC E 219 [.agg f.view,.i at_,.agg s.view] (.AP [.agg (if xm f at_ s=0 then f.put at_ s else AK).view,.i (xm f at_ s)]):=by
 have h1:=MU f hf;have h2:=LS s kn;by_cases he:f.err=0;case neg=>
  have e:xm f at_ s=f.err:=by simp only[xm];rw[if_pos he]
  rw[e,if_neg he];refine M.F Tryz.func219 ?_;(repeat' first|refine M.o1 @h1 ?_|refine M.z1 4 ?_|refine M.cs ?_ ?_<;>intro h|refine M.gk ?_|fail);all_goals first
   |rfl
   |(exfalso;simp at h;exact he h)
 rw[he] at h1;by_cases ha:0<=at_/\at_<=4096;case neg=>
  have e:xm f at_ s=1:=by simp only[xm];rw[if_neg lB,if_pos ha]
  rw[e,if_neg kq];refine M.F Tryz.func219 ?_;(repeat' first|refine M.o1 @h1 ?_|refine M.gs ?_ ?_<;>intro h|refine M.z1 6 ?_|refine M.cs ?_ ?_<;>intro h|refine M.gk ?_|fail);all_goals first
   |rfl
   |(exfalso;simp at h;omega)
   |(exfalso;simp at*;omega)
 by_cases hse:s.err=0;case neg=>
  have e:xm f at_ s=s.err:=by simp only[xm];rw[if_neg lB,if_neg kC,if_pos hse]
  rw[e,if_neg hse];refine M.F Tryz.func219 ?_;(repeat' first|refine M.o2 @h1 @h2 ?_|refine M.gs ?_ ?_<;>intro h|refine M.z2 5 9 ?_|refine M.cs ?_ ?_<;>intro h|refine M.gk ?_|fail);all_goals first
   |rfl
   |(exfalso;simp at h;omega)
   |(exfalso;simp at*;omega)
   |(exfalso;simp at h;exact hse h)
 rw[hse] at h2;obtain⟨hfs,hfz⟩:=(Fm.Aa f).1 he;obtain⟨hss,hsz⟩:=I8 hse;have hff:=yh he;have hsf:=ye hse;have h3:=Yaz 536870912 kn _ f (fB _) kn hfs;have h4:=UD 536870912 kn _ s (fB _) kn hss;rw[<-Zuh] at h3;rw[<-YO] at h4;by_cases hn:f.near=true/\s.near=true;case neg=>
  have hn':f.near=false\/s.near=false:=by
   cases h5:f.near with
   |false=>exact .inl rfl
   |true=>cases h6:s.near with
    |false=>exact .inr rfl
    |true=>exact absurd ⟨h5,h6⟩ hn
  have e:xm f at_ s=1:=by simp only[xm];rw[if_neg lB,if_neg kC,if_neg (by simp[hse]),if_pos hn']
  rw[e,if_neg kq];cases h5:f.near with
  |false=>
   rw[h5] at h3;refine M.F Tryz.func219 ?_;(repeat' first|refine M.o3 @h1 @h2 @h3 ?_|refine M.gs ?_ ?_<;>intro h|refine M.z1 5 ?_|refine M.cs ?_ ?_<;>intro h|refine M.gk ?_|fail);all_goals first
    |rfl
    |(exfalso;simp at h;omega)
    |(exfalso;simp at*;omega)
  |true=>
   have h6:s.near=false:=hn'.resolve_left (by simp[h5]);rw[h5] at h3;rw[h6] at h4;refine M.F Tryz.func219 ?_;(repeat' first|refine M.o4 @h1 @h2 @h3 @h4 ?_|refine M.gs ?_ ?_<;>intro h|refine M.z1 5 ?_|refine M.cs ?_ ?_<;>intro h|refine M.gk ?_|fail);all_goals first
    |rfl
    |(exfalso;simp at h;omega)
    |(exfalso;simp at*;omega)
 obtain⟨hn1,hn2⟩:=hn;rw[hn1] at h3;rw[hn2] at h4;have h5:=SK _ f (fB _) kn;have h6:=Ydb _ f at_ (fB _) kn kn kn hfs;have h7:=xo _ s (fB _) kn;have htl:=MF at_ f;have hsp:=s.size_pos;have hsl:=s.An;have hfl:=f.An;have hm:=Xl (zq at_ f) (s.size-1) kn kn;have hm': -9223372036854775808<=(zq at_ f:Int)*(s.size-1)/\(zq at_ f:Int)*(s.size-1)<=9223372036854775807:=kn
 have ee:xm f at_ s=if(f.size:Int)+zq at_ f*(s.size-1)>4096 then 4 else 0:=by
  simp only[xm,zq];rw[if_neg lB,if_neg kC,if_neg (by simp[hse]),if_neg (by simp[hn1,hn2])]
  rfl
 have hput:f.put at_ s=f.re (fun b t=>t.re (yq at_ s) b) 0:=Ykt at_ s 0 f;have h8:=Ypm at_ s kn hss kn (fun p hp=>⟨s.AR hss 0 p hp,by have:=TO hn2 p hp;omega⟩) _ f 0 (fB _) kn kn kn hfs (fun p hp q hq=>by have:=bq he hn1 p hp q hq;have h9:=fF.1 hn1 p hp;have:=TO h9 q hq;omega);rw[<-hput] at h8;by_cases hz:(f.size:Int)+zq at_ f*(s.size-1)>4096
 .rw[if_pos hz] at ee;rw[ee,if_neg kq];clear h8 hput;refine M.F Tryz.func219 ?_;(repeat' first|refine M.o6 @h1 @h2 @h3 @h4 @h5 @h6 ?_|refine M.c2 (h7) ?_|refine M.gs ?_ ?_<;>intro h|refine M.z2 5 13 ?_|refine M.cs ?_ ?_<;>intro h|refine M.gk ?_|fail);all_goals first
   |rfl
   |(exfalso;simp at h;omega)
   |(exfalso;simp at*;omega)
 .rw[if_neg hz] at ee;have h9:=Jd _ (f.put at_ s) (fB _) (by have:=Zd ee;omega);rw[ee,if_pos rfl];refine M.F Tryz.func219 ?_;(repeat' first|refine M.o6 @h1 @h2 @h3 @h4 @h5 @h6 ?_|refine M.c2 (h7) ?_|refine M.c2 (h8) ?_|refine M.c2 (h9) ?_|refine M.gs ?_ ?_<;>intro h|refine M.z2 5 12 ?_|refine M.cs ?_ ?_<;>intro h|refine M.gk ?_|fail);all_goals first
   |rfl
   |(exfalso;simp at h;omega)
   |(exfalso;simp at*;omega)
theorem Ym1(a b:Tm)(ha:a.full<274877906944)(hb:b.full<274877906944)(steps:Int):PC E 113 [.agg a.view,.agg b.view,.i steps] (.i (FA a b steps)):=by
 have h1:=LS a kn;have h2:=LS b kn;have h3:=Wp _ a b (fB _) kn;have h4:=UK a steps ha;have h5:=UK b steps hb;unfold FA;by_cases ea:a.err=0;case neg=>
  rw[if_pos ea];refine M.F Tryz.func113 ?_;(repeat' first|refine M.w1 @h1 ?_|refine M.cs ?_ ?_<;>intro h|fail);all_goals first
   |rfl
   |(exfalso;simp at h;exact ea h)
 rw[ea] at h1;rw[if_neg (by simp[ea])];by_cases eb:b.err=0;case neg=>
  rw[if_pos eb];refine M.F Tryz.func113 ?_;(repeat' first|refine M.w2 @h1 @h2 ?_|refine M.cs ?_ ?_<;>intro h|fail);all_goals first
   |rfl
   |(exfalso;simp at h;exact eb h)
 rw[eb] at h2;rw[if_neg (by simp[eb])];by_cases eq:a=b
 .rw[if_pos eq];rw[decide_eq_true eq] at h3;refine M.F Tryz.func113 ?_;refine M.w3 @h1 @h2 @h3 ?_
  rfl
 rw[if_neg eq];rw[decide_eq_false eq] at h3;have g1:(yv a steps).2.2=0->(yv a steps).1.full<274877906944:=fun h=>Xe a steps h;have g2:(yv b steps).2.2=0->(yv b steps).1.full<274877906944:=fun h=>Xe b steps h;generalize yv a steps=A at*;generalize yv b steps=B at*;obtain⟨x,n,e⟩:=A;obtain⟨y,m,f⟩:=B;dsimp only at h4 h5 g1 g2 ⊢;by_cases he:e=0;case neg=>
  rw[if_pos he];refine M.F Tryz.func113 ?_;(repeat' first|refine M.w4 @h1 @h2 @h3 @h4 ?_|refine M.cs ?_ ?_<;>intro h|fail);all_goals first
   |rfl
   |(exfalso;simp at h;exact he h)
 subst he;rw[if_neg ko];by_cases hf:f=0;case neg=>
  rw[if_pos hf];refine M.F Tryz.func113 ?_;(repeat' first|refine M.w5 @h1 @h2 @h3 @h4 @h5 ?_|refine M.cs ?_ ?_<;>intro h|fail);all_goals first
   |rfl
   |(exfalso;simp at h;exact hf h)
 subst hf;rw[if_neg ko];have h6:=Wp _ x y (fB _) (by have:=g1 rfl;omega);refine M.F Tryz.func113 ?_;(repeat' first|refine M.w6 @h1 @h2 @h3 @h4 @h5 @h6 ?_|refine M.cs ?_ ?_<;>intro h|fail)
 .have:¬x=y:=ku
  rw[if_neg this]
  rfl
 .have:x=y:=ku
  rw[if_pos this]
  rfl
theorem Ydr:∀(n:Nat) (f g:Fm),f.full<=n->n<274877906944->g.full<274877906944->f.shape=true->g.shape=true->PC E 51 [.agg f.view,.agg g.view] (.i (Gs f g)):=by
 intro n;induction n with
 |zero=>intro f g h;have:=f.Ad;omega
 |succ n ih=>
 intro f g hsz hb hg hfs hgs;have hfull:=Fm.Ag f;have hgull:=Fm.Ag g;have h1:=wz _ f.ty g.ty (fB _) kn;have he:=QD f g;have hl:=ze Tm.full Tm.Ad f.terms;have hl2:=ze Fm.full Fm.Ad f.args;by_cases hk:f.kind=g.kind;case neg=>
  rw[if_neg (fun h=>hk h.1)] at he;rw[he];refine M.F Tryz.func51 ?_;(repeat' first|refine M.o1 @h1 ?_|refine M.gs ?_ ?_<;>intro h|refine M.z1 3 ?_|refine M.cs ?_ ?_<;>intro h|refine M.gk ?_|fail);all_goals first
   |rfl
   |(exfalso;simp_all;done)
 by_cases ht:f.ty=g.ty;case neg=>
  rw[if_neg (fun h=>ht h.2)] at he;rw[he];rw[decide_eq_false ht] at h1;refine M.F Tryz.func51 ?_;(repeat' first|refine M.o1 @h1 ?_|refine M.gs ?_ ?_<;>intro h|refine M.z1 3 ?_|refine M.gk ?_|fail);all_goals first
   |rfl
   |(exfalso;simp_all;done)
 rw[if_pos ⟨hk,ht⟩] at he;rw[decide_eq_true ht] at h1;obtain⟨l1,l2⟩:=YK hfs hgs hk;refine M.F Tryz.func51 ?_;(repeat' first|refine M.w1 @h1 ?_|refine M.gs ?_ ?_<;>intro h|fail);all_goals first
  |(exfalso;simp at h;omega)
  |(exfalso;simp at h;exact h hk)
  |skip
 refine M.rp f.terms.length (fun m=>∀j (h1:j<f.terms.length) (h2:j<g.terms.length),j<m->FA f.terms[j] g.terms[j] 1000=0)
  (fun m=>([(2,.ptr 0 0),(3,.ptr 1 0),(24,.i f.terms.length),(25,.i m)],⟨2,[(0,.var f.view),(1,.var g.view)]⟩))
  (fun j _ _ h=>kn) (M.W Bo) ?_ ?_
 .intro m hm hP;have hm2:m<g.terms.length:=kn
  have hs1:=zc Tm.full (fA hm);have hs2:=zc Tm.full (fA hm2);have hc:=Ym1 f.terms[m] g.terms[m] kn kn 1000;by_cases e0:FA f.terms[m] g.terms[m] 1000=0
  .rw[e0] at hc;refine M.w1 @hc ?_;refine⟨rfl,fun j h1 h2 hj=> ?_,(M.W Bo)⟩;by_cases hjm:j=m
   .subst hjm;exact e0
   .exact hP j h1 h2 kn
  .have e1:=ZI f.terms g.terms m hm hm2 hP e0;rw[if_pos (by rw[e1];exact e0),e1] at he;rw[he];(repeat' first|refine M.w1 @hc ?_|refine M.cs ?_ ?_<;>intro h|fail)
   .rfl
   .exfalso;simp at h;exact e0 h
 .intro hP;have e1:=XT f.terms g.terms fun j h1 h2=>hP j h1 h2 kn;rw[if_neg (by simp[e1])] at he;refine M.w0 ?_;refine M.rp f.args.length (fun m=>∀j (h1:j<f.args.length) (h2:j<g.args.length),j<m->Gs f.args[j] g.args[j]=0)
   (fun m=>([(2,.ptr 0 0),(3,.ptr 1 0),(45,.i f.args.length),(46,.i m)],⟨2,[(0,.var f.view),(1,.var g.view)]⟩))
   (fun j _ _ h=>kn) (M.W Bo) ?_ ?_
  .intro m hm hP2;have hm2:m<g.args.length:=kn
   have hs1:=zc Fm.full (fA hm);have hs2:=zc Fm.full (fA hm2);have hc:=ih f.args[m] g.args[m] kn kn kn (zp hfs (fA hm)) (zp hgs (fA hm2));by_cases e0:Gs f.args[m] g.args[m]=0
   .rw[e0] at hc;refine M.w1 @hc ?_;refine⟨rfl,fun j h1 h2 hj=> ?_,(M.W Bo)⟩;by_cases hjm:j=m
    .subst hjm;exact e0
    .exact hP2 j h1 h2 kn
   .have e3:=dZ f.args g.args m hm hm2 hP2 e0;rw[e3] at he;rw[he];(repeat' first|refine M.w1 @hc ?_|refine M.cs ?_ ?_<;>intro h|fail)
    .rfl
    .exfalso;simp at h;exact e0 h
  .intro hP2;have e3:=aS f.args g.args fun j h1 h2=>hP2 j h1 h2 kn;rw[e3] at he;rw[he];refine M.w0 ?_
   rfl
end Go.Ab
