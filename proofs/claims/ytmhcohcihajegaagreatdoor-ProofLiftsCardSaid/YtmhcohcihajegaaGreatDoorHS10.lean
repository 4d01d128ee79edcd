/- A part of this seat's proofs. No conditions. -/
import Derived.Test.YtmhcohcihajegaaGreatDoorHDT1
import Derived.Test.YtmhcohcihajegaaGreatDoorHS2
namespace Go.Ab
open Go Go.Proofs
set_option maxRecDepth 100000
set_option maxHeartbeats 4000000
set_option linter.all false
theorem uu:∀(b:Nat) (f:Fm),f.full<=b->b<1099511627776->PC E 42 [.agg f.view] (.agg f.view):=by
 intro b;induction b with
 |zero=>intro f h;have:=f.full_pos;omega
 |succ b ih=>
 intro f hsz hb;have hsz':=f.full_eq;have hlen:=zg Fm.full Fm.full_pos f.args;have hlen2:=zg Tm.full Tm.full_pos f.terms;have hty:=vq _ f.ty (Nat.le_refl _) (by omega);refine M.F Tryz.func42 ?_;refine M.w1 @hty ?_;refine M.rt f.terms.length
  (fun m=>([(1,.ptr 0 0),(2,.ptr 1 0),(3,.ptr 2 0),(15,.s .tm f.terms),(16,.i f.terms.length),(17,.i m)],⟨4,[(0,.var f.view),(1,.var [.i 0,.i 0,.slice .nil (.t .ty []),.slice .nil (.t .tm []),.slice .nil (.t .fm [])]),(2,.var [.i f.kind,.i f.ty.kind,.s .ty f.ty.args,.slice (.own 3) (.t .tm (f.terms.take m)),.slice .nil (.t .fm [])]),(3,.row)]⟩))
  (M.W rn3) ?_ ?_
 ·intro m hm _;have hs2:=zc Tm.full (List.getElem_mem hm);(repeat' first|refine M.w0 ?_|refine M.c2 (Za8 _ _ (Nat.le_refl _) ?_) ?_|exact M.lt|fail);exact⟨rfl,trivial,(M.W [some 0,some 1,some 2,some 5] (he:=(by(repeat'(first|exact trivial|exact Or.inr ⟨_,U,rfl⟩|refine And.intro ?_ ?_|refine⟨_,U,_,U,_,U,?_⟩|exact VLe.refl _|exact VLe.of_eq (by simp[Sto.upd,List.take_append_getElem])));done)))⟩
 ·intro _;simp only[List.take_length];refine M.w0 ?_;refine M.rt f.args.length
   (fun m=>([(1,.ptr 0 0),(2,.ptr 1 0),(3,.ptr 2 0),(30,.s .fm f.args),(31,.i f.args.length),(32,.i m)],⟨5,[(0,.var f.view),(1,.var [.i 0,.i 0,.slice .nil (.t .ty []),.slice .nil (.t .tm []),.slice .nil (.t .fm [])]),(2,.var [.i f.kind,.i f.ty.kind,.s .ty f.ty.args,.slice (.own 3) (.t .tm f.terms),.slice (.own 4) (.t .fm (f.args.take m))]),(3,.row),(4,.row)]⟩))
   (M.W rn4) ?_ ?_
  ·intro m hm _;have hs2:=zc Fm.full (List.getElem_mem hm);(repeat' first|refine M.w0 ?_|refine M.c2 (ih _ ?_ ?_) ?_|exact M.le|exact M.lt|fail);exact⟨rfl,trivial,(M.W [some 0,some 1,some 2,some 3,some 6] (he:=(by(repeat'(first|exact trivial|exact Or.inr ⟨_,U,rfl⟩|refine And.intro ?_ ?_|refine⟨_,U,_,U,_,U,?_⟩|exact VLe.refl _|exact VLe.of_eq (by simp[Sto.upd,List.take_append_getElem])));done)))⟩
  ·intro _;simp only[List.take_length];refine M.w0 ?_
   rfl
theorem Zdw(a b:Tm)(ha:a.full<1099511627776)(hb:b.full<1099511627776):PC E 60 [.agg a.view,.agg b.view] (.agg (eqF a b).view):=by
 have h1:=Za8 _ a (Nat.le_refl _) ha;have h2:=Za8 _ b (Nat.le_refl _) hb;refine M.F Tryz.func60 ?_;refine M.w2 @h1 @h2 ?_
 rfl
theorem Zjs(k:Int)(a b:Fm)(ha:a.full<1099511627776)(hb:b.full<1099511627776):PC E 89 [.i k,.agg a.view,.agg b.view] (.agg (Fm.mk k (.mk 0 []) [] [a,b]).view):=by
 have h1:=uu _ a (Nat.le_refl _) ha;have h2:=uu _ b (Nat.le_refl _) hb;refine M.F Tryz.func89 ?_;refine M.w2 @h1 @h2 ?_
 rfl
theorem Zhl(k:Int)(s:Ty)(f:Fm)(hs:s.size<1099511627776)(hf:f.full<1099511627776):PC E 59 [.i k,.agg s.view,.agg f.view] (.agg (Fm.mk k s [] [f]).view):=by
 have h1:=vq _ s (Nat.le_refl _) hs;have h2:=uu _ f (Nat.le_refl _) hf;refine M.F Tryz.func59 ?_;refine M.w2 @h1 @h2 ?_
 rfl
theorem Yih(t:Tm)(b:Int)(ht:t.full<1099511627776):PC E 210 [.agg t.view,.i b] (.agg t.view):=by
 have h1:=Zrx _ t (Nat.le_refl _) ht;refine M.F Tryz.func210 ?_;refine M.w1 @h1 ?_;simp[zn,V.wk,V.wks,za,Ty.view,Tm.view]
theorem Yha:∀(n:Nat) (f:Fm) (bl:Int),f.full<=n->n<549755813888->0<=bl->bl+n<549755813888->PC E 182 [.agg f.view,.i bl,.fn (.func 210) [] []] (.agg f.view):=by
 intro n;induction n with
 |zero=>intro f bl h;have:=f.full_pos;omega
 |succ n ih=>
 intro f bl hsz hb hbl hbn;have hsz':=f.full_eq;have hlen:=zg Fm.full Fm.full_pos f.args;have hlen2:=zg Tm.full Tm.full_pos f.terms;have hty:=Zfa _ f.ty (Nat.le_refl _) (by omega);have hq:=Zb7 f.kind;refine M.F Tryz.func182 ?_;refine M.w1 @hty ?_;refine M.rt f.terms.length
  (fun m=>([(1,.i bl),(2,.fn (.func 210) [] []),(3,.ptr 0 0),(6,.ptr 1 0),(7,.ptr 2 0),(19,.s .tm f.terms),(20,.i f.terms.length),(21,.i m)],⟨4,[(0,.var f.view),(1,.var [.i 0,.i 0,.slice .nil (.t .ty []),.slice .nil (.t .tm []),.slice .nil (.t .fm [])]),(2,.var [.i f.kind,.i f.ty.kind,.s .ty f.ty.args,.slice (.own 3) (.t .tm (f.terms.take m)),.slice .nil (.t .fm [])]),(3,.row)]⟩))
  (M.W rn3) ?_ ?_
 ·intro m hm _;have hs2:=zc Tm.full (List.getElem_mem hm);have hc:=Yih f.terms[m] bl (by omega);(repeat' first|refine M.w0 ?_|refine M.cv (hc) [] 0 ?_|fail);exact⟨rfl,trivial,(M.W [some 0,some 1,some 2,some 5] (he:=(by(repeat'(first|exact trivial|exact Or.inr ⟨_,U,rfl⟩|refine And.intro ?_ ?_|refine⟨_,U,_,U,_,U,?_⟩|exact VLe.refl _|exact VLe.of_eq (by simp[Sto.upd,List.take_append_getElem])));done)))⟩
 ·intro _;simp only[List.take_length];cases hqk:x9 f.kind with
  |true=>
   rw[hqk] at hq;refine M.w1 @hq ?_;refine M.rt f.args.length
    (fun m=>([(1,.i (bl+1)),(2,.fn (.func 210) [] []),(3,.ptr 0 0),(6,.ptr 1 0),(7,.ptr 2 0),(41,.s .fm f.args),(42,.i f.args.length),(43,.i m)],⟨5,[(0,.var f.view),(1,.var [.i 0,.i 0,.slice .nil (.t .ty []),.slice .nil (.t .tm []),.slice .nil (.t .fm [])]),(2,.var [.i f.kind,.i f.ty.kind,.s .ty f.ty.args,.slice (.own 3) (.t .tm f.terms),.slice (.own 4) (.t .fm (f.args.take m))]),(3,.row),(4,.row)]⟩))
    (M.W rn4) ?_ ?_
   ·intro m hm _;have hs2:=zc Fm.full (List.getElem_mem hm);have hc:=ih f.args[m] (bl+1) (by omega) (by omega) (by omega) (by omega);refine M.w1 @hc ?_;exact⟨rfl,trivial,(M.W [some 0,some 1,some 2,some 3,some 6] (he:=(by(repeat'(first|exact trivial|exact Or.inr ⟨_,U,rfl⟩|refine And.intro ?_ ?_|refine⟨_,U,_,U,_,U,?_⟩|exact VLe.refl _|exact VLe.of_eq (by simp[Sto.upd,List.take_append_getElem])));done)))⟩
   ·intro _;simp only[List.take_length];refine M.w0 ?_
    rfl
  |false=>
   rw[hqk] at hq;refine M.w1 @hq ?_;refine M.rt f.args.length
    (fun m=>([(1,.i bl),(2,.fn (.func 210) [] []),(3,.ptr 0 0),(6,.ptr 1 0),(7,.ptr 2 0),(41,.s .fm f.args),(42,.i f.args.length),(43,.i m)],⟨5,[(0,.var f.view),(1,.var [.i 0,.i 0,.slice .nil (.t .ty []),.slice .nil (.t .tm []),.slice .nil (.t .fm [])]),(2,.var [.i f.kind,.i f.ty.kind,.s .ty f.ty.args,.slice (.own 3) (.t .tm f.terms),.slice (.own 4) (.t .fm (f.args.take m))]),(3,.row),(4,.row)]⟩))
    (M.W rn4) ?_ ?_
   ·intro m hm _;have hs2:=zc Fm.full (List.getElem_mem hm);have hc:=ih f.args[m] bl (by omega) (by omega) (by omega) (by omega);refine M.w1 @hc ?_;exact⟨rfl,trivial,(M.W [some 0,some 1,some 2,some 3,some 6] (he:=(by(repeat'(first|exact trivial|exact Or.inr ⟨_,U,rfl⟩|refine And.intro ?_ ?_|refine⟨_,U,_,U,_,U,?_⟩|exact VLe.refl _|exact VLe.of_eq (by simp[Sto.upd,List.take_append_getElem])));done)))⟩
   ·intro _;simp only[List.take_length];refine M.w0 ?_
    rfl
theorem Yab(f:Fm)(hf:f.full<274877906944):PC E 170 [.agg f.view] (.agg f.view):=by
 have h1:=Yha _ f 0 (Nat.le_refl _) (by omega) (by omega) (by omega);refine M.F Tryz.func170 ?_;refine M.w1 @h1 ?_
 rfl
def srJ(r:Nat):List Int->AF×Sto
 |[]=>([(3,.slice .nil (.t .int [])),(7,.raw (.pointer (some ⟨r,0,none⟩)))],⟨1,[(0,.gone)]⟩)
 |x::d=>([(3,.arr 1 (d.length+1) 1),(7,.raw (.pointer (some ⟨r,0,none⟩)))],⟨2,[(1,.var ((yq (x::d)).flatMap EC.int.view)),(0,.gone)]⟩)
theorem Ybs(r:Nat)(d:List Int)(q:Int):srJ r (d++[q])=([(3,.arr 1 (d.length+1) 1),(7,.raw (.pointer (some ⟨r,0,none⟩)))],⟨2,[(1,.var ((yq (d++[q])).flatMap EC.int.view)),(0,.gone)]⟩):=by
 cases d with
 |nil=>rfl
 |cons x d=>simp[srJ]
def srL(r:Nat)(l:List Int)(q:Int)(i:Nat):AF×Sto:=([(3,.arr 1 (l.length+1) 1),(4,.i q),(5,.i i),(7,.raw (.pointer (some ⟨r,0,none⟩)))],⟨2,[(1,.var ((Zgu (yq l) q i).flatMap EC.int.view)),(0,.gone)]⟩)
theorem Zp4{ks:List Int}(hnd:ks.Nodup)(hlen:ks.length<549755813888):AC E 189 [.mp 0] ⟨1,[(0,.map .bl ks (List.replicate ks.length true))]⟩ (.s .int (yq ks)) ⟨1,[(0,.map .bl ks (List.replicate ks.length true))]⟩:=by
 refine AC.mk Tryz.func189 rfl rfl rfl rfl rfl (Nat.le_of_ble_eq_true rfl) ?_;repeat'(first|((with_reducible refine D.nil ?_);refine AX.nilL ?_)|((with_reducible refine D.assign ?_);refine L.asg U U U ?_)|((with_reducible refine D.aw ?_);(fail_if_success with_reducible refine D.stopR (id:=2) ?_);(fail_if_success with_reducible refine D.stopS (id:=2) ?_);refine K.sq (AW.regL ?_))|with_reducible refine K.tN ?_)
 refine K.sq (AW.rangeM (n:=0) (c:= .bl) (ks:=ks) (xs:=List.replicate ks.length true) (kt:=3) (et:=4) (J:=srJ) ?_ ?_ ?_ ?_ hnd ?_ ?_ ?_ ?_ ?_ ?_ ?_)
 ·rfl
 ·rfl
 ·exact Nat.lt_succ_self 0
 ·kernel_rfl
 ·rfl
 ·intro r l;cases l<;>rfl
 ·intro r l t ht;simp only[List.mem_cons,List.not_mem_nil,or_false] at ht;rcases ht with rfl|rfl|rfl|rfl|rfl<;>cases l<;>rfl
 ·intro r l e he;cases l<;>cases he<;>rfl
 ·intro r;exact(Weak.mk [some 0] _ _ _ U U U U (by(repeat'(first|exact trivial|refine And.intro ?_ ?_|refine⟨_,U,_,U,?_⟩|exact VLe.refl _));done) (by(repeat'(first|exact trivial|refine And.intro ?_ ?_|exact Eq.refl true));done))
 ·intro r l q hl hlk hq hql;have hll:=Zn9 hl hlk;have hsl:=Zgj l;rw[Ybs];have tail:∀(i:Nat),i<=l.length->(∀x∈(yq l).drop i,q<x)->(∀(hi:0<i) (hl:i-1<(yq l).length),(yq l)[i-1]<=q)->((Zgu (yq l) q i).set i q)=yq (l++[q]):=fun i hi h1 h2=>by
   rw[Yac (by omega)];exact Zxr h1 h2 (by omega)
  have hE:Zgu (yq l) q l.length=yq l++[q]:=by rw[<-hsl];exact Ycb _ _
  have hat:∀j (h:j<l.length) (h':j<(Zgu (yq l) q (j+1)).length),(Zgu (yq l) q (j+1))[j]=(yq l)[j]'(by omega):=fun j h h'=>Ygn (by omega) h';have hst:∀j (h:j<l.length),(Zgu (yq l) q (j+1)).set (j+1) ((yq l)[j]'(by omega))=Zgu (yq l) q j:=fun j h=>Zwb (by omega);have hln:∀i,i<=l.length->(Zgu (yq l) q i).length=l.length+1:=fun i hi=>by rw[Ydd (by omega),hsl]
  cases l with
  |nil=>
   repeat'(first|((with_reducible refine D.nil ?_);refine AX.nilL ?_)|((with_reducible refine D.move ?_);refine L.mv U U U ?_)|((with_reducible refine D.assign ?_);refine L.asg U U U ?_)|((with_reducible refine D.call ?_);refine L.lnt U U U U ?_)|((with_reducible refine D.aw ?_);(fail_if_success with_reducible refine D.stopR (id:=6) ?_);(fail_if_success with_reducible refine D.stopS (id:=6) ?_);refine K.sq (AW.regL ?_))|with_reducible refine K.tN ?_)
   refine K.sq (AW.regL ?_);refine L.mv rfl rfl rfl ?_;refine L.mv rfl rfl rfl ?_;refine L.bs1 rfl rfl rfl rfl rfl (EC.fold_of rfl) rfl rfl ?_;refine L.apA (te:=3) (e:= .int) (l:=[q]) rfl rfl rfl rfl (by kernel_rfl) rfl rfl rfl rfl (by simp) (by simp) ?_;repeat'(first|((with_reducible refine D.nil ?_);refine AX.nilL ?_)|((with_reducible refine D.assign ?_);refine L.asg U U U ?_)|with_reducible refine K.tN ?_)
   refine K.sq (AW.block (AW.loop (ι:={i:Nat // i<=0/\∀x∈(yq []).drop i,q<x}) (fun i=>srL r [] q i.1) (fun i=>i.1) ⟨0,Nat.le_refl _,by simp[Zfy]⟩ ?_ ?_))
   ·show Weak _ _ _ _ _ (srL r [] q 0).1 (srL r [] q 0).2;simp only[srL];rw[show Zgu (yq []) q 0=[q] from hE.trans (by rw[Zfy];rfl)];exact(Weak.mk [some 0,some 1] _ _ _ U U U U (by(repeat'(first|exact trivial|refine And.intro ?_ ?_|refine⟨_,U,_,U,?_⟩|exact VLe.refl _));done) (by(repeat'(first|exact trivial|refine And.intro ?_ ?_|refine⟨_,U,_,U,_,U,?_⟩|exact VLe.refl _|exact Eq.refl true));done))
   ·rintro ⟨i,hi,h1⟩;obtain rfl:i=0:=by omega
    repeat'(first|((with_reducible refine D.nil ?_);refine AX.nilL ?_)|((with_reducible refine D.load ?_);refine AX.sk U U ?_)|((with_reducible refine D.move ?_);first|refine L.mv U U U ?_|refine AX.sk U U ?_)|((with_reducible refine D.bin ?_);first|refine L.bn U U U U U ?_|refine AX.sk U U ?_)|((with_reducible refine D.indexAddr ?_);refine AX.sk U U ?_)|((with_reducible refine D.pick ?_);refine L.pk U U U U ?_)|((with_reducible refine D.aw ?_);first|refine K.sq (K.sq ?_)|refine AW.regL ?_|refine AW.condF U ?_|refine AW.exit ?_)|with_reducible refine K.tN ?_|with_reducible refine K.tE ?_|with_reducible refine K.bX (by with_unfolding_all rfl) ?_|with_reducible refine K.lE ?_)
    refine L.ixr 0 rfl rfl rfl rfl rfl (by decide) rfl ?_;refine L.sta (c:= .int) (l:=Zgu (yq []) q 0) (u:=q) 0 rfl rfl rfl rfl rfl rfl rfl rfl (by rw[hln 0 (Nat.le_refl _)];decide) rfl ?_;repeat'(first|((with_reducible refine D.nil ?_);refine AX.nilL ?_))
    refine⟨rfl,?_⟩;simp only[tail 0 (Nat.le_refl _) h1 (fun h=>absurd h (by decide))];exact(Weak.mk [some 0,some 1] _ _ _ U U U U (by(repeat'(first|exact trivial|refine And.intro ?_ ?_|refine⟨_,U,_,U,?_⟩|exact VLe.refl _));done) (by(repeat'(first|exact trivial|refine And.intro ?_ ?_|exact VsLe.refl _|exact Eq.refl true|refine⟨_,U,_,wm _ _ _,_,U,?_⟩));done))
  |cons x d=>
   skip;refine K.sq (AW.regL ?_);refine L.mv rfl rfl rfl ?_;refine L.lnR rfl rfl rfl rfl ?_;repeat'(first|((with_reducible refine D.nil ?_);refine AX.nilL ?_)|((with_reducible refine D.assign ?_);refine L.asg U U U ?_)|with_reducible refine K.tN ?_)
   refine K.sq (AW.regL ?_);refine L.mv rfl rfl rfl ?_;refine L.mv rfl rfl rfl ?_;refine L.bs1 rfl rfl rfl rfl rfl (EC.fold_of rfl) rfl rfl ?_;refine L.apR (te:=3) (e:= .int) (l:=[q]) rfl rfl rfl rfl (by kernel_rfl) rfl rfl (by rw[Zat,hsl];rfl) rfl rfl rfl (by simp) (by simp only[List.length_cons,List.length_nil] at hll ⊢;omega) ?_;rw[<-List.flatMap_append];repeat'(first|((with_reducible refine D.nil ?_);refine AX.nilL ?_)|((with_reducible refine D.assign ?_);refine L.asg U U U ?_)|with_reducible refine K.tN ?_)
   refine K.sq (AW.block (AW.loop (ι:={i:Nat // i<=(x::d).length/\∀y∈(yq (x::d)).drop i,q<y}) (fun i=>srL r (x::d) q i.1) (fun i=>i.1) ⟨(x::d).length,Nat.le_refl _,by rw[<-hsl,List.drop_length];intro y hy;cases hy⟩ ?_ ?_))
   ·show Weak _ _ _ _ _ (srL r (x::d) q (x::d).length).1 (srL r (x::d) q (x::d).length).2;simp only[srL];rw[hE];exact(Weak.mk [some 0,some 2] _ _ _ U U U U (by(repeat'(first|exact trivial|refine And.intro ?_ ?_|refine⟨_,U,_,U,?_⟩|exact VLe.refl _));done) (by(repeat'(first|exact trivial|refine And.intro ?_ ?_|exact VsLe.refl _|exact Eq.refl true|refine⟨_,U,_,wm _ _ _,_,U,?_⟩));done))
   ·rintro ⟨i,hi,h1⟩;cases i with
    |zero=>
     repeat'(first|((with_reducible refine D.nil ?_);refine AX.nilL ?_)|((with_reducible refine D.load ?_);refine AX.sk U U ?_)|((with_reducible refine D.move ?_);first|refine L.mv U U U ?_|refine AX.sk U U ?_)|((with_reducible refine D.bin ?_);first|refine L.bn U U U U U ?_|refine AX.sk U U ?_)|((with_reducible refine D.indexAddr ?_);refine AX.sk U U ?_)|((with_reducible refine D.pick ?_);refine L.pk U U U U ?_)|((with_reducible refine D.aw ?_);first|refine K.sq (K.sq ?_)|refine AW.regL ?_|refine AW.condF U ?_|refine AW.exit ?_)|with_reducible refine K.tN ?_|with_reducible refine K.tE ?_|with_reducible refine K.bX (by with_unfolding_all rfl) ?_|with_reducible refine K.lE ?_)
     refine L.ixr 0 rfl rfl rfl rfl rfl (Nat.succ_pos _) rfl ?_;refine L.sta (c:= .int) (l:=Zgu (yq (x::d)) q 0) (u:=q) 0 rfl rfl rfl rfl rfl rfl rfl rfl (by rw[hln 0 (Nat.zero_le _)];exact Nat.succ_pos _) rfl ?_;repeat'(first|((with_reducible refine D.nil ?_);refine AX.nilL ?_))
     refine⟨rfl,?_⟩;simp only[tail 0 (Nat.zero_le _) h1 (fun h=>absurd h (by decide))];exact(Weak.mk [some 0,some 1] _ _ _ U U U U (by(repeat'(first|exact trivial|refine And.intro ?_ ?_|refine⟨_,U,_,U,?_⟩|exact VLe.refl _));done) (by(repeat'(first|exact trivial|refine And.intro ?_ ?_|exact VsLe.refl _|exact Eq.refl true|refine⟨_,U,_,wm _ _ _,_,U,?_⟩));done))
    |succ i=>
     have hi':i<(x::d).length:=by omega
     have hsi:i<(yq (x::d)).length:=by omega
     have hdl:(x::d).length=d.length+1:=rfl;have hl0:=hln (i+1) hi;have hl1:i<(Zgu (yq (x::d)) q (i+1)).length:=by omega
     have ha:=hat i hi' hl1;have hs:=hst i hi';show AW _ _ _ _ (srL r (x::d) q (i+1)).1 (srL r (x::d) q (i+1)).2 _;repeat'(first|((with_reducible refine D.nil ?_);refine AX.nilL ?_)|((with_reducible refine D.load ?_);refine AX.sk U U ?_)|((with_reducible refine D.move ?_);first|refine L.mv U U U ?_|refine AX.sk U U ?_|((fail_if_success refine AX.wt U ?_);refine AX.gs U U (fun _=>trivial) (fun h=> ?_) (fun h=> ?_)))|((with_reducible refine D.bin ?_);first|refine L.sb U U U U (by omega) ?_|refine L.bn U U U U U ?_|refine AX.sk U U ?_)|((with_reducible refine D.indexAddr ?_);refine AX.sk U U ?_)|((with_reducible refine D.pick ?_);refine L.pk U U U U ?_)|((with_reducible refine D.aw ?_);first|refine K.sq (K.sq ?_)|refine AW.regL ?_|refine AW.condF U ?_|refine AW.exit ?_)|with_reducible refine K.tN ?_|with_reducible refine K.tE ?_|with_reducible refine K.bX (by with_unfolding_all rfl) ?_|with_reducible refine K.lE ?_)
     ·refine L.ixr i rfl rfl rfl rfl (by simp) (by omega) rfl ?_;refine L.ldr (c:= .int) (l:=Zgu (yq (x::d)) q (i+1)) i rfl rfl rfl rfl rfl hl1 rfl rfl rfl ?_;rw[ha];repeat'(first|((with_reducible refine D.nil ?_);refine AX.nilL ?_)|((with_reducible refine D.move ?_);refine L.mv U U U ?_)|((with_reducible refine D.bin ?_);refine L.bn U U U U U ?_)|((with_reducible refine D.pick ?_);refine L.pk U U U U ?_)|((with_reducible refine D.aw ?_);first|refine AW.regL ?_|refine AW.condS U (fun h=> ?_) (fun h=> ?_)|refine AW.skip ?_|refine AW.exit ?_)|with_reducible refine K.tN ?_|with_reducible refine K.tE ?_|with_reducible refine K.bX (by with_unfolding_all rfl) ?_|with_reducible refine K.lE ?_)
      ·have hgt:q<(yq (x::d))[i]:=by simpa using h
       repeat'(first|((with_reducible refine D.move ?_);refine L.mv U U U ?_)|((with_reducible refine D.bin ?_);refine L.sb U U U U (by omega) ?_)|((with_reducible refine D.aw ?_);first|((with_reducible refine D.blk ?_);refine AW.block ?_)|refine K.sq (AW.regL ?_)))
       refine L.ixr i rfl rfl rfl rfl (by simp) (by omega) rfl ?_;refine L.ldr (c:= .int) (l:=Zgu (yq (x::d)) q (i+1)) i rfl rfl rfl rfl rfl hl1 rfl rfl rfl ?_;rw[ha];refine L.ixr (i+1) rfl rfl rfl rfl rfl (by omega) rfl ?_;refine L.sta (c:= .int) (l:=Zgu (yq (x::d)) q (i+1)) (u:=(yq (x::d))[i]) (i+1) rfl rfl rfl rfl rfl rfl rfl rfl (by omega) rfl ?_;rw[hs];repeat'(first|((with_reducible refine D.nil ?_);refine AX.nilL ?_)|((with_reducible refine D.move ?_);refine L.mv U U U ?_)|((with_reducible refine D.assign ?_);refine L.asg U U U ?_)|((with_reducible refine D.bin ?_);refine L.sb U U U U (by omega) ?_)|((with_reducible refine D.aw ?_);refine AW.regL ?_)|with_reducible refine K.tN ?_|with_reducible refine K.bN ?_)
       refine⟨⟨i,by omega,fun y hy=> ?_⟩,by show i<i+1;omega,?_⟩
       ·rw[List.drop_eq_getElem_cons hsi] at hy;rcases List.mem_cons.1 hy with rfl|hy
        ·exact hgt
        ·exact h1 y hy
       ·simp only[srL,show(((i+1:Nat):Int)-1)=(i:Int) by omega];exact(Weak.mk [some 0,some 1] _ _ _ U U U U (by(repeat'(first|exact trivial|refine And.intro ?_ ?_|refine⟨_,U,_,U,?_⟩|exact VLe.refl _));done) (by(repeat'(first|exact trivial|refine And.intro ?_ ?_|exact VsLe.refl _|exact Eq.refl true|refine⟨_,U,_,wm _ _ _,_,U,?_⟩));done))
      ·have hle:(yq (x::d))[i]<=q:=by simpa using h
       refine L.ixr (i+1) rfl rfl rfl rfl rfl (by omega) rfl ?_;refine L.sta (c:= .int) (l:=Zgu (yq (x::d)) q (i+1)) (u:=q) (i+1) rfl rfl rfl rfl rfl rfl rfl rfl (by omega) rfl ?_;repeat'(first|((with_reducible refine D.nil ?_);refine AX.nilL ?_))
       refine⟨rfl,?_⟩;simp only[tail (i+1) hi h1 (fun _ _=>hle)];exact(Weak.mk [some 0,some 1] _ _ _ U U U U (by(repeat'(first|exact trivial|refine And.intro ?_ ?_|refine⟨_,U,_,U,?_⟩|exact VLe.refl _));done) (by(repeat'(first|exact trivial|refine And.intro ?_ ?_|exact VsLe.refl _|exact Eq.refl true|refine⟨_,U,_,wm _ _ _,_,U,?_⟩));done))
     ·exfalso;simp at h
 ·intro r l hp;cases l with
  |nil=>
   have hk0:ks=[]:=by simpa using hp.symm.eq_nil
   subst hk0;simp only[srJ,Zfy];repeat'(first|((with_reducible refine D.nil ?_);refine AX.nilL ?_)|((with_reducible refine D.move ?_);refine L.mv U U U ?_)|((with_reducible refine D.assign ?_);refine L.asg U U U ?_)|((with_reducible refine D.aw ?_);first|refine K.sq (AW.regL ?_)|refine AW.ret ?_)|with_reducible refine K.tN ?_)
   (exact K.n2 [some 0] U U U U U (by(repeat'(first|exact trivial|refine And.intro ?_ ?_|refine⟨_,U,_,_,U,?_,?_⟩|with_reducible exact rfl));done) U (by simp[zn,V.wk,V.wks,za,Ty.view,Tm.view,Zfy]))
  |cons x d=>
   have hk0:yq (x::d)=yq ks:=Zfz hp;simp only[srJ,hk0];refine AW.frz (c:= .int) 1 (d.length+1) (yq ks) rfl (by rw[<-hk0,Zgj];rfl) (by(repeat'(first|exact trivial|exact fun _=>rfl|exact fun h=>absurd rfl h|exact fun h=>absurd h (by decide)|refine And.intro ?_ ?_|intro _));done) (by(repeat'(first|exact trivial|exact fun _=>rfl|exact fun h=>absurd rfl h|exact fun h=>absurd h (by decide)|refine And.intro ?_ ?_|intro _));done) ?_;repeat'(first|((with_reducible refine D.nil ?_);refine AX.nilL ?_)|((with_reducible refine D.move ?_);refine L.mv U U U ?_)|((with_reducible refine D.assign ?_);refine L.asg U U U ?_)|((with_reducible refine D.aw ?_);first|refine K.sq (AW.regL ?_)|refine AW.ret ?_)|with_reducible refine K.tN ?_)
   (exact K.n2 [some 0] U U U U U (by(repeat'(first|exact trivial|refine And.intro ?_ ?_|refine⟨_,U,_,_,U,?_,?_⟩|with_reducible exact rfl));done) U (by simp[zn,V.wk,V.wks,za,Ty.view,Tm.view,V.frz]))
end Go.Ab
