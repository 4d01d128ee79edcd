/- A part of the proofs of this seat's statements: S118b, S88, S123, S89, S90, S91. It has no conditions of its own. -/
import Derived.Test.YtdkjbjikpofgbaaGreatDoorA2
import Derived.Test.YtdkjbjikpofgbaaGreatDoorST1
import Derived.Test.YtdkjbjikpofgbaaGreatDoorS5
import Derived.Test.YtdkjbjikpofgbaaGreatDoorDT1
namespace Go.Ab
open Go Go.Proofs
set_option maxRecDepth 100000
set_option maxHeartbeats 4000000
set_option linter.all false
theorem Znk:∀(b:Nat) (p:Pf),p.full≤b→b<549755813888→PC E 86 [.agg p.view] (.agg p.view):=by
 intro b
 induction b with
 |zero=>intro f h;have:=f.full_pos;omega
 |succ b ih=>
 intro p hsz hb
 have hsz':=p.full_eq
 have hlen:=zc Pf.full Pf.full_pos p.args
 have hlen1:=zc Fm.full Fm.full_pos p.forms
 have hlen2:=zc Tm.full Tm.full_pos p.terms
 have hty:=x8 _ p.ty (Nat.le_refl _) (by omega)
 refine M.F Tryz.func86 ?_
 repeat'(first|refine M.gw ?_|refine M.c2 (hty) ?_|refine L.lkb U U U U U U U U U U ?_|((fail_if_success refine AX.wt U ?_);refine AX.gs U U (fun _=>trivial) (fun h=> ?_) (fun h=> ?_))|((with_reducible refine D.sblk ?_);refine K.sq (AW.block ?_))|((with_reducible refine D.blk ?_);refine AW.block ?_)|refine K.sq (AW.condS U (fun h=> ?_) (fun h=> ?_))|refine AW.condS U (fun h=> ?_) (fun h=> ?_)|((with_reducible show @LE.le Nat _ _ _);omega)|((with_reducible show @LT.lt Nat _ _ _);omega)|fail)
 refine AW.range p.terms.length (fun m=>True)
  (fun m=>([(1,.ptr 0 0),(2,.ptr 1 0),(3,.ptr 2 0),(19,.s .tm p.terms),(20,.i p.terms.length),(21,.i m)],⟨4,[(0,.var p.view),(1,.var [.i 0,.i 0,.i 0,.slice .nil (.t .ty []),.slice .nil (.t .tm []),.slice .nil (.t .fm []),.slice .nil (.t .pf [])]),(2,.var [.i p.kind,.i p.index,.i p.ty.kind,.s .ty p.ty.args,.slice (.own 3) (.t .tm (p.terms.take m)),.slice .nil (.t .fm []),.slice .nil (.t .pf [])]),(3,.row)]⟩))
  (by omega) (fun m=>rfl) (fun m=>rfl) rfl trivial (M.W [some 0,some 1,some 2,none]) ?_ ?_
 ·intro m hm _
  have hs2:=zb Tm.full (List.getElem_mem hm)
  repeat'(first|refine M.gw ?_|refine M.c2 (uh _ _ (Nat.le_refl _) ?_) ?_|refine L.lkb U U U U U U U U U U ?_|((fail_if_success refine AX.wt U ?_);refine AX.gs U U (fun _=>trivial) (fun h=> ?_) (fun h=> ?_))|((with_reducible refine D.sblk ?_);refine K.sq (AW.block ?_))|((with_reducible refine D.blk ?_);refine AW.block ?_)|refine K.sq (AW.condS U (fun h=> ?_) (fun h=> ?_))|refine AW.condS U (fun h=> ?_) (fun h=> ?_)|((with_reducible show @LE.le Nat _ _ _);omega)|((with_reducible show @LT.lt Nat _ _ _);omega)|fail)
  exact⟨rfl,trivial,(M.W [some 0,some 1,some 2,some 5] (hf:=(by(repeat'(first|exact trivial|exact Or.inl U|exact Or.inr ⟨_,U,rfl⟩|refine And.intro ?_ ?_|refine⟨_,U,_,U,_,U,?_⟩|refine⟨_,U,_,U,?_⟩|exact VLe.refl _|exact VLe.any _ _|exact VsLe.refl _|refine VLe.agg ?_|exact VLe.of_eq (by simp[Sto.upd,List.take_append_getElem])|refine⟨_,U,_,_,U,?_,?_⟩|with_reducible exact rfl|(simp[Sto.upd,List.take_append_getElem];done)|exact Eq.refl true|refine⟨_,U,_,yh _ _ _,_,U,?_⟩));done)) (he:=(by(repeat'(first|exact trivial|exact Or.inl U|exact Or.inr ⟨_,U,rfl⟩|refine And.intro ?_ ?_|refine⟨_,U,_,U,_,U,?_⟩|refine⟨_,U,_,U,?_⟩|exact VLe.refl _|exact VLe.any _ _|exact VsLe.refl _|refine VLe.agg ?_|exact VLe.of_eq (by simp[Sto.upd,List.take_append_getElem])|refine⟨_,U,_,_,U,?_,?_⟩|with_reducible exact rfl|(simp[Sto.upd,List.take_append_getElem];done)|exact Eq.refl true|refine⟨_,U,_,yh _ _ _,_,U,?_⟩));done)))⟩
 ·intro _
  simp only[List.take_length]
  repeat'(first|refine M.gw ?_|refine L.lkb U U U U U U U U U U ?_|((fail_if_success refine AX.wt U ?_);refine AX.gs U U (fun _=>trivial) (fun h=> ?_) (fun h=> ?_))|((with_reducible refine D.sblk ?_);refine K.sq (AW.block ?_))|((with_reducible refine D.blk ?_);refine AW.block ?_)|refine K.sq (AW.condS U (fun h=> ?_) (fun h=> ?_))|refine AW.condS U (fun h=> ?_) (fun h=> ?_)|((with_reducible show @LE.le Nat _ _ _);omega)|((with_reducible show @LT.lt Nat _ _ _);omega)|fail)
  refine AW.range p.forms.length (fun m=>True)
   (fun m=>([(1,.ptr 0 0),(2,.ptr 1 0),(3,.ptr 2 0),(34,.s .fm p.forms),(35,.i p.forms.length),(36,.i m)],⟨5,[(0,.var p.view),(1,.var [.i 0,.i 0,.i 0,.slice .nil (.t .ty []),.slice .nil (.t .tm []),.slice .nil (.t .fm []),.slice .nil (.t .pf [])]),(2,.var [.i p.kind,.i p.index,.i p.ty.kind,.s .ty p.ty.args,.slice (.own 3) (.t .tm p.terms),.slice (.own 4) (.t .fm (p.forms.take m)),.slice .nil (.t .pf [])]),(3,.row),(4,.row)]⟩))
   (by omega) (fun m=>rfl) (fun m=>rfl) rfl trivial (M.W [some 0,some 1,some 2,some 3,none]) ?_ ?_
  ·intro m hm _
   have hs2:=zb Fm.full (List.getElem_mem hm)
   repeat'(first|refine M.gw ?_|refine M.c2 (w9 _ _ (Nat.le_refl _) ?_) ?_|refine L.lkb U U U U U U U U U U ?_|((fail_if_success refine AX.wt U ?_);refine AX.gs U U (fun _=>trivial) (fun h=> ?_) (fun h=> ?_))|((with_reducible refine D.sblk ?_);refine K.sq (AW.block ?_))|((with_reducible refine D.blk ?_);refine AW.block ?_)|refine K.sq (AW.condS U (fun h=> ?_) (fun h=> ?_))|refine AW.condS U (fun h=> ?_) (fun h=> ?_)|((with_reducible show @LE.le Nat _ _ _);omega)|((with_reducible show @LT.lt Nat _ _ _);omega)|fail)
   exact⟨rfl,trivial,(M.W [some 0,some 1,some 2,some 3,some 6] (hf:=(by(repeat'(first|exact trivial|exact Or.inl U|exact Or.inr ⟨_,U,rfl⟩|refine And.intro ?_ ?_|refine⟨_,U,_,U,_,U,?_⟩|refine⟨_,U,_,U,?_⟩|exact VLe.refl _|exact VLe.any _ _|exact VsLe.refl _|refine VLe.agg ?_|exact VLe.of_eq (by simp[Sto.upd,List.take_append_getElem])|refine⟨_,U,_,_,U,?_,?_⟩|with_reducible exact rfl|(simp[Sto.upd,List.take_append_getElem];done)|exact Eq.refl true|refine⟨_,U,_,yh _ _ _,_,U,?_⟩));done)) (he:=(by(repeat'(first|exact trivial|exact Or.inl U|exact Or.inr ⟨_,U,rfl⟩|refine And.intro ?_ ?_|refine⟨_,U,_,U,_,U,?_⟩|refine⟨_,U,_,U,?_⟩|exact VLe.refl _|exact VLe.any _ _|exact VsLe.refl _|refine VLe.agg ?_|exact VLe.of_eq (by simp[Sto.upd,List.take_append_getElem])|refine⟨_,U,_,_,U,?_,?_⟩|with_reducible exact rfl|(simp[Sto.upd,List.take_append_getElem];done)|exact Eq.refl true|refine⟨_,U,_,yh _ _ _,_,U,?_⟩));done)))⟩
  ·intro _
   simp only[List.take_length]
   repeat'(first|refine M.gw ?_|refine L.lkb U U U U U U U U U U ?_|((fail_if_success refine AX.wt U ?_);refine AX.gs U U (fun _=>trivial) (fun h=> ?_) (fun h=> ?_))|((with_reducible refine D.sblk ?_);refine K.sq (AW.block ?_))|((with_reducible refine D.blk ?_);refine AW.block ?_)|refine K.sq (AW.condS U (fun h=> ?_) (fun h=> ?_))|refine AW.condS U (fun h=> ?_) (fun h=> ?_)|((with_reducible show @LE.le Nat _ _ _);omega)|((with_reducible show @LT.lt Nat _ _ _);omega)|fail)
   refine AW.range p.args.length (fun m=>True)
    (fun m=>([(1,.ptr 0 0),(2,.ptr 1 0),(3,.ptr 2 0),(49,.s .pf p.args),(50,.i p.args.length),(51,.i m)],⟨6,[(0,.var p.view),(1,.var [.i 0,.i 0,.i 0,.slice .nil (.t .ty []),.slice .nil (.t .tm []),.slice .nil (.t .fm []),.slice .nil (.t .pf [])]),(2,.var [.i p.kind,.i p.index,.i p.ty.kind,.s .ty p.ty.args,.slice (.own 3) (.t .tm p.terms),.slice (.own 4) (.t .fm p.forms),.slice (.own 5) (.t .pf (p.args.take m))]),(3,.row),(4,.row),(5,.row)]⟩))
    (by omega) (fun m=>rfl) (fun m=>rfl) rfl trivial (M.W [some 0,some 1,some 2,some 3,some 4,none]) ?_ ?_
   ·intro m hm _
    have hs2:=zb Pf.full (List.getElem_mem hm)
    repeat'(first|refine M.gw ?_|refine M.c2 (ih _ ?_ ?_) ?_|refine L.lkb U U U U U U U U U U ?_|((fail_if_success refine AX.wt U ?_);refine AX.gs U U (fun _=>trivial) (fun h=> ?_) (fun h=> ?_))|((with_reducible refine D.sblk ?_);refine K.sq (AW.block ?_))|((with_reducible refine D.blk ?_);refine AW.block ?_)|refine K.sq (AW.condS U (fun h=> ?_) (fun h=> ?_))|refine AW.condS U (fun h=> ?_) (fun h=> ?_)|((with_reducible show @LE.le Nat _ _ _);omega)|((with_reducible show @LT.lt Nat _ _ _);omega)|fail)
    exact⟨rfl,trivial,(M.W [some 0,some 1,some 2,some 3,some 4,some 7] (hf:=(by(repeat'(first|exact trivial|exact Or.inl U|exact Or.inr ⟨_,U,rfl⟩|refine And.intro ?_ ?_|refine⟨_,U,_,U,_,U,?_⟩|refine⟨_,U,_,U,?_⟩|exact VLe.refl _|exact VLe.any _ _|exact VsLe.refl _|refine VLe.agg ?_|exact VLe.of_eq (by simp[Sto.upd,List.take_append_getElem])|refine⟨_,U,_,_,U,?_,?_⟩|with_reducible exact rfl|(simp[Sto.upd,List.take_append_getElem];done)|exact Eq.refl true|refine⟨_,U,_,yh _ _ _,_,U,?_⟩));done)) (he:=(by(repeat'(first|exact trivial|exact Or.inl U|exact Or.inr ⟨_,U,rfl⟩|refine And.intro ?_ ?_|refine⟨_,U,_,U,_,U,?_⟩|refine⟨_,U,_,U,?_⟩|exact VLe.refl _|exact VLe.any _ _|exact VsLe.refl _|refine VLe.agg ?_|exact VLe.of_eq (by simp[Sto.upd,List.take_append_getElem])|refine⟨_,U,_,_,U,?_,?_⟩|with_reducible exact rfl|(simp[Sto.upd,List.take_append_getElem];done)|exact Eq.refl true|refine⟨_,U,_,yh _ _ _,_,U,?_⟩));done)))⟩
   ·intro _
    simp only[List.take_length]
    repeat'(first|refine M.gw ?_|refine L.lkb U U U U U U U U U U ?_|((fail_if_success refine AX.wt U ?_);refine AX.gs U U (fun _=>trivial) (fun h=> ?_) (fun h=> ?_))|((with_reducible refine D.sblk ?_);refine K.sq (AW.block ?_))|((with_reducible refine D.blk ?_);refine AW.block ?_)|refine K.sq (AW.condS U (fun h=> ?_) (fun h=> ?_))|refine AW.condS U (fun h=> ?_) (fun h=> ?_)|((with_reducible show @LE.le Nat _ _ _);omega)|((with_reducible show @LT.lt Nat _ _ _);omega)|fail)
    rfl
theorem uy(k:Int)(l:List Pf)(hl:l.length<1000000)(h:∀p∈l,p.full<500000000000):PC E 20 [.i k,.s .pf l] (.agg (Pf.mk k 0 (.mk 0 []) [] [] l).view):=by
 refine M.F Tryz.func20 ?_
 repeat'(first|refine M.gw ?_|refine L.lkb U U U U U U U U U U ?_|((fail_if_success refine AX.wt U ?_);refine AX.gs U U (fun _=>trivial) (fun h=> ?_) (fun h=> ?_))|((with_reducible refine D.sblk ?_);refine K.sq (AW.block ?_))|((with_reducible refine D.blk ?_);refine AW.block ?_)|refine K.sq (AW.condS U (fun h=> ?_) (fun h=> ?_))|refine AW.condS U (fun h=> ?_) (fun h=> ?_)|((with_reducible show @LE.le Nat _ _ _);omega)|((with_reducible show @LT.lt Nat _ _ _);omega)|fail)
 refine AW.range l.length (fun m=>True)
  (fun m=>([(4,.ptr 0 0),(5,.ptr 1 0),(10,.s .pf l),(11,.i l.length),(12,.i m)],⟨3,[(0,.var [.i 0,.i 0,.i 0,.slice .nil (.t .ty []),.slice .nil (.t .tm []),.slice .nil (.t .fm []),.slice .nil (.t .pf [])]),(1,.var [.i k,.i 0,.i 0,.slice .nil (.t .ty []),.slice .nil (.t .tm []),.slice .nil (.t .fm []),.slice (.own 2) (.t .pf (l.take m))]),(2,.row)]⟩))
  (by omega) (fun m=>rfl) (fun m=>rfl) rfl trivial (M.W [some 0,some 1,none]) ?_ ?_
 ·intro m hm _
  have hc:=Znk _ l[m] (Nat.le_refl _) (by have:=h _ (List.getElem_mem hm);omega)
  repeat'(first|refine M.gw ?_|refine M.c2 (hc) ?_|refine L.lkb U U U U U U U U U U ?_|((fail_if_success refine AX.wt U ?_);refine AX.gs U U (fun _=>trivial) (fun h=> ?_) (fun h=> ?_))|((with_reducible refine D.sblk ?_);refine K.sq (AW.block ?_))|((with_reducible refine D.blk ?_);refine AW.block ?_)|refine K.sq (AW.condS U (fun h=> ?_) (fun h=> ?_))|refine AW.condS U (fun h=> ?_) (fun h=> ?_)|((with_reducible show @LE.le Nat _ _ _);omega)|((with_reducible show @LT.lt Nat _ _ _);omega)|fail)
  exact⟨rfl,trivial,(M.W [some 0,some 1,some 4] (hf:=(by(repeat'(first|exact trivial|exact Or.inl U|exact Or.inr ⟨_,U,rfl⟩|refine And.intro ?_ ?_|refine⟨_,U,_,U,_,U,?_⟩|refine⟨_,U,_,U,?_⟩|exact VLe.refl _|exact VLe.any _ _|exact VsLe.refl _|refine VLe.agg ?_|exact VLe.of_eq (by simp[Sto.upd,List.take_append_getElem])|refine⟨_,U,_,_,U,?_,?_⟩|with_reducible exact rfl|(simp[Sto.upd,List.take_append_getElem];done)|exact Eq.refl true|refine⟨_,U,_,yh _ _ _,_,U,?_⟩));done)) (he:=(by(repeat'(first|exact trivial|exact Or.inl U|exact Or.inr ⟨_,U,rfl⟩|refine And.intro ?_ ?_|refine⟨_,U,_,U,_,U,?_⟩|refine⟨_,U,_,U,?_⟩|exact VLe.refl _|exact VLe.any _ _|exact VsLe.refl _|refine VLe.agg ?_|exact VLe.of_eq (by simp[Sto.upd,List.take_append_getElem])|refine⟨_,U,_,_,U,?_,?_⟩|with_reducible exact rfl|(simp[Sto.upd,List.take_append_getElem];done)|exact Eq.refl true|refine⟨_,U,_,yh _ _ _,_,U,?_⟩));done)))⟩
 ·intro _
  simp only[List.take_length]
  repeat'(first|refine M.gw ?_|refine L.lkb U U U U U U U U U U ?_|((fail_if_success refine AX.wt U ?_);refine AX.gs U U (fun _=>trivial) (fun h=> ?_) (fun h=> ?_))|((with_reducible refine D.sblk ?_);refine K.sq (AW.block ?_))|((with_reducible refine D.blk ?_);refine AW.block ?_)|refine K.sq (AW.condS U (fun h=> ?_) (fun h=> ?_))|refine AW.condS U (fun h=> ?_) (fun h=> ?_)|((with_reducible show @LE.le Nat _ _ _);omega)|((with_reducible show @LT.lt Nat _ _ _);omega)|fail)
  rfl
theorem Zia(k:Int)(t:Tm)(p:Pf)(ht:t.full<500000000000)(hp:p.full<500000000000):PC E 40 [.i k,.agg t.view,.agg p.view] (.agg (Pf.mk k 0 (.mk 0 []) [t] [] [p]).view):=by
 have h1:=uy k [p] (by simp) (by simp;omega)
 have h2:=uh _ t (Nat.le_refl _) (by omega)
 refine M.F Tryz.func40 ?_
 repeat'(first|refine M.gw ?_|refine M.c2 (h1) ?_|refine M.c2 (h2) ?_|refine L.lkb U U U U U U U U U U ?_|((fail_if_success refine AX.wt U ?_);refine AX.gs U U (fun _=>trivial) (fun h=> ?_) (fun h=> ?_))|((with_reducible refine D.sblk ?_);refine K.sq (AW.block ?_))|((with_reducible refine D.blk ?_);refine AW.block ?_)|refine K.sq (AW.condS U (fun h=> ?_) (fun h=> ?_))|refine AW.condS U (fun h=> ?_) (fun h=> ?_)|((with_reducible show @LE.le Nat _ _ _);omega)|((with_reducible show @LT.lt Nat _ _ _);omega)|fail)
 rfl
theorem Zft(f:Fm)(p:Pf)(hf:f.full<500000000000)(hp:p.full<500000000000):PC E 29 [.agg f.view,.agg p.view] (.agg (Pf.mk 6 0 (.mk 0 []) [] [f] [p]).view):=by
 have h1:=uy 6 [p] (by simp) (by simp;omega)
 have h2:=w9 _ f (Nat.le_refl _) (by omega)
 refine M.F Tryz.func29 ?_
 repeat'(first|refine M.gw ?_|refine M.c2 (h1) ?_|refine M.c2 (h2) ?_|refine L.lkb U U U U U U U U U U ?_|((fail_if_success refine AX.wt U ?_);refine AX.gs U U (fun _=>trivial) (fun h=> ?_) (fun h=> ?_))|((with_reducible refine D.sblk ?_);refine K.sq (AW.block ?_))|((with_reducible refine D.blk ?_);refine AW.block ?_)|refine K.sq (AW.condS U (fun h=> ?_) (fun h=> ?_))|refine AW.condS U (fun h=> ?_) (fun h=> ?_)|((with_reducible show @LE.le Nat _ _ _);omega)|((with_reducible show @LT.lt Nat _ _ _);omega)|fail)
 rfl
theorem Zc8(k:Int)(s:Ty)(p:Pf)(hs:s.size<500000000000)(hp:p.full<500000000000):PC E 38 [.i k,.agg s.view,.agg p.view] (.agg (Pf.mk k 0 s [] [] [p]).view):=by
 have h1:=uy k [p] (by simp) (by simp;omega)
 have h2:=x8 _ s (Nat.le_refl _) (by omega)
 refine M.F Tryz.func38 ?_
 repeat'(first|refine M.gw ?_|refine M.c2 (h1) ?_|refine M.c2 (h2) ?_|refine L.lkb U U U U U U U U U U ?_|((fail_if_success refine AX.wt U ?_);refine AX.gs U U (fun _=>trivial) (fun h=> ?_) (fun h=> ?_))|((with_reducible refine D.sblk ?_);refine K.sq (AW.block ?_))|((with_reducible refine D.blk ?_);refine AW.block ?_)|refine K.sq (AW.condS U (fun h=> ?_) (fun h=> ?_))|refine AW.condS U (fun h=> ?_) (fun h=> ?_)|((with_reducible show @LE.le Nat _ _ _);omega)|((with_reducible show @LT.lt Nat _ _ _);omega)|fail)
 rfl
theorem Zcv(k:Int)(f:Fm)(t:Tm)(p:Pf)(hf:f.full<500000000000)(ht:t.full<500000000000)(hp:p.full<500000000000):PC E 45 [.i k,.agg f.view,.agg t.view,.agg p.view] (.agg (Pf.mk k 0 (.mk 0 []) [t] [f] [p]).view):=by
 have h1:=Zia k t p ht hp
 have h2:=w9 _ f (Nat.le_refl _) (by omega)
 refine M.F Tryz.func45 ?_
 repeat'(first|refine M.gw ?_|refine M.c2 (h1) ?_|refine M.c2 (h2) ?_|refine L.lkb U U U U U U U U U U ?_|((fail_if_success refine AX.wt U ?_);refine AX.gs U U (fun _=>trivial) (fun h=> ?_) (fun h=> ?_))|((with_reducible refine D.sblk ?_);refine K.sq (AW.block ?_))|((with_reducible refine D.blk ?_);refine AW.block ?_)|refine K.sq (AW.condS U (fun h=> ?_) (fun h=> ?_))|refine AW.condS U (fun h=> ?_) (fun h=> ?_)|((with_reducible show @LE.le Nat _ _ _);omega)|((with_reducible show @LT.lt Nat _ _ _);omega)|fail)
 rfl
theorem Ziw(k:Int)(f:Fm)(t:Tm)(p q:Pf)(hf:f.full<500000000000)(ht:t.full<500000000000)(hp:p.full<500000000000)(hq:q.full<500000000000):PC E 49 [.i k,.agg f.view,.agg t.view,.agg p.view,.agg q.view] (.agg (Pf.mk k 0 (.mk 0 []) [t] [f] [p,q]).view):=by
 have h1:=uy k [p,q] (by simp) (by intro x hx;simp only[List.mem_cons,List.not_mem_nil,or_false] at hx;rcases hx with rfl|rfl<;>omega)
 have h2:=w9 _ f (Nat.le_refl _) (by omega)
 have h3:=uh _ t (Nat.le_refl _) (by omega)
 refine M.F Tryz.func49 ?_
 repeat'(first|refine M.gw ?_|refine M.c2 (h1) ?_|refine M.c2 (h2) ?_|refine M.c2 (h3) ?_|refine L.lkb U U U U U U U U U U ?_|((fail_if_success refine AX.wt U ?_);refine AX.gs U U (fun _=>trivial) (fun h=> ?_) (fun h=> ?_))|((with_reducible refine D.sblk ?_);refine K.sq (AW.block ?_))|((with_reducible refine D.blk ?_);refine AW.block ?_)|refine K.sq (AW.condS U (fun h=> ?_) (fun h=> ?_))|refine AW.condS U (fun h=> ?_) (fun h=> ?_)|((with_reducible show @LE.le Nat _ _ _);omega)|((with_reducible show @LT.lt Nat _ _ _);omega)|fail)
 rfl
theorem vh(t:Tm)(ht:t.full<500000000000):PC E 46 [.agg t.view] (.agg (Pf.mk 18 0 (.mk 0 []) [t] [] []).view):=by
 have h2:=uh _ t (Nat.le_refl _) (by omega)
 refine M.F Tryz.func46 ?_
 repeat'(first|refine M.gw ?_|refine M.c2 (h2) ?_|refine L.lkb U U U U U U U U U U ?_|((fail_if_success refine AX.wt U ?_);refine AX.gs U U (fun _=>trivial) (fun h=> ?_) (fun h=> ?_))|((with_reducible refine D.sblk ?_);refine K.sq (AW.block ?_))|((with_reducible refine D.blk ?_);refine AW.block ?_)|refine K.sq (AW.condS U (fun h=> ?_) (fun h=> ?_))|refine AW.condS U (fun h=> ?_) (fun h=> ?_)|((with_reducible show @LE.le Nat _ _ _);omega)|((with_reducible show @LT.lt Nat _ _ _);omega)|fail)
 rfl
theorem Zhn(f:Fm)(p q:Pf)(hf:f.full<500000000000)(hp:p.full<500000000000)(hq:q.full<500000000000):PC E 52 [.agg f.view,.agg p.view,.agg q.view] (.agg (Pf.mk 19 0 (.mk 0 []) [] [f] [p,q]).view):=by
 have h1:=uy 19 [p,q] (by simp) (by intro x hx;simp only[List.mem_cons,List.not_mem_nil,or_false] at hx;rcases hx with rfl|rfl<;>omega)
 have h2:=w9 _ f (Nat.le_refl _) (by omega)
 refine M.F Tryz.func52 ?_
 repeat'(first|refine M.gw ?_|refine M.c2 (h1) ?_|refine M.c2 (h2) ?_|refine L.lkb U U U U U U U U U U ?_|((fail_if_success refine AX.wt U ?_);refine AX.gs U U (fun _=>trivial) (fun h=> ?_) (fun h=> ?_))|((with_reducible refine D.sblk ?_);refine K.sq (AW.block ?_))|((with_reducible refine D.blk ?_);refine AW.block ?_)|refine K.sq (AW.condS U (fun h=> ?_) (fun h=> ?_))|refine AW.condS U (fun h=> ?_) (fun h=> ?_)|((with_reducible show @LE.le Nat _ _ _);omega)|((with_reducible show @LT.lt Nat _ _ _);omega)|fail)
 rfl
theorem Fm.re_sh(G:Int→Tm→Tm)(c:Int)(f:Fm):∀b,f.re (fun b t=>G (c+b) t) b=f.re G (c+b):=by
 induction f using Fm.ind with
 |h f ih=>
  intro b
  rw[Fm.re_eq,Fm.re_eq]
  congr 1
  refine List.map_congr_left fun x hx=> ?_
  have e:upF f.kind (c+b)=c+upF f.kind b:=by simp only[upF];split<;>omega
  rw[e];exact ih x hx _
theorem Ycr(f:Fm)(fr by_:Int):f.lft fr by_=f.re (fun b t=>t.re (zq b by_) 0) fr:=by
 have:=Fm.re_sh (fun b t=>t.re (zq b by_) 0) fr f 0
 rw[Int.add_zero] at this
 exact this
theorem Yco(by_:Int)(hby: -549755813888≤by_∧by_≤549755813888):∀(n:Nat) (f:Fm) (fr:Int),f.full≤n→n<274877906944→-274877906944≤fr→fr+n<549755813888→f.shape=true→(∀p∈f.tms 0,∀q∈p.1.vars 0,0≤q.1∧q.1<549755813888)→
 PC E 47 [.agg f.view,.i fr,.i by_] (.agg (f.re (fun b t=>t.re (zq b by_) 0) fr).view):=by
 intro n
 induction n with
 |zero=>intro f dp h;have:=f.full_pos;omega
 |succ n ih=>
 intro f fr hsz hn h1 h2 hf hix
 have hsz':=f.full_eq
 have hlen:=zc Fm.full Fm.full_pos f.args
 have hlen2:=zc Tm.full Tm.full_pos f.terms
 have hup:=Zhw f.kind fr
 have hpl:=Ze9 f.kind fr
 have hb:=Zdx f
 have he:=Fm.re_eq (fun b t=>t.re (zq b by_) 0) fr f
 have htm:=f.tms_eq 0
 refine M.F Tryz.func47 ?_
 repeat'(first|refine M.gw ?_|fail)
 refine AW.range f.terms.length (fun m=>True) (fun m=>([(1,.i fr),(2,.i by_),(3,.ptr 0 0),(6,.ptr 1 0),(7,.ptr 2 0),(18,.s .tm f.terms),(19,.i f.terms.length),(20,.i m)],⟨4,[(0,.var f.view),(1,.var [.i 0,.i 0,.slice .nil (.t .ty []),.slice .nil (.t .tm []),.slice .nil (.t .fm [])]),(2,.var [.i f.kind,.i f.ty.kind,.s .ty f.ty.args,.slice (.own 3) (.t .tm ((f.terms.take m).map fun t=>t.re (zq fr by_) 0)),.slice .nil (.t .fm [])]),(3,.row)]⟩))
  (by omega) (fun m=>rfl) (fun m=>rfl) rfl trivial (M.W [some 0,some 1,some 2,none]) ?_ ?_
 ·intro m hm _
  have hs2:=zb Tm.full (List.getElem_mem hm)
  have hc:=Zzn by_ hby _ f.terms[m] fr (Nat.le_refl _) (by omega) (by omega) (by omega) (yd hf (List.getElem_mem hm)) (fun p hp=>hix (f.terms[m],0) (by rw[htm];exact List.mem_append_left _ (List.mem_map.2 ⟨_,List.getElem_mem hm,rfl⟩)) p hp)
  repeat'(first|refine M.gw ?_|refine M.c2 (hc) ?_|fail)
  exact⟨rfl,trivial,(M.W [some 0,some 1,some 2,some 5] (he:=(by(repeat'(first|exact trivial|exact Or.inr ⟨_,U,rfl⟩|refine And.intro ?_ ?_|refine⟨_,U,_,U,_,U,?_⟩|exact VLe.refl _|exact VLe.of_eq (by simp[Sto.upd,yc _ _ _ hm])));done)))⟩
 ·intro _
  simp only[List.take_length]
  repeat'(first|refine M.gw ?_|fail)
  refine AW.range f.args.length (fun m=>True) (fun m=>([(1,.i fr),(2,.i by_),(3,.ptr 0 0),(6,.ptr 1 0),(7,.ptr 2 0),(35,.s .fm f.args),(36,.i f.args.length),(37,.i m)],⟨5,[(0,.var f.view),(1,.var [.i 0,.i 0,.slice .nil (.t .ty []),.slice .nil (.t .tm []),.slice .nil (.t .fm [])]),(2,.var [.i f.kind,.i f.ty.kind,.s .ty f.ty.args,.slice (.own 3) (.t .tm (f.terms.map fun t=>t.re (zq fr by_) 0)),.slice (.own 4) (.t .fm ((f.args.take m).map fun x=>x.re (fun b t=>t.re (zq b by_) 0) (upF f.kind fr)))]),(3,.row),(4,.row)]⟩))
   (by omega) (fun m=>rfl) (fun m=>rfl) rfl trivial (M.W [some 0,some 1,some 2,some 3,none]) ?_ ?_
  ·intro m hm _
   have hs2:=zb Fm.full (List.getElem_mem hm)
   have hc:=ih f.args[m] (upF f.kind fr) (by omega) (by omega) (by omega) (by omega) (zo hf (List.getElem_mem hm)) (fun p hp q hq=>by
    obtain⟨p',hp',hpe⟩:=Zue (b':=upF f.kind 0) p hp
    rw[←hpe] at hq
    exact hix p' (by rw[htm];exact List.mem_append_right _ (List.mem_flatMap.2 ⟨_,List.getElem_mem hm,hp'⟩)) q hq)
   rw[←hpl] at hc
   simp only[←hpl]
   repeat'(first|refine M.gw ?_|refine M.c2 (hb) ?_|refine M.c2 (hc) ?_|fail)
   exact⟨rfl,trivial,(M.W [some 0,some 1,some 2,some 3,some 6] (he:=(by(repeat'(first|exact trivial|exact Or.inr ⟨_,U,rfl⟩|refine And.intro ?_ ?_|refine⟨_,U,_,U,_,U,?_⟩|exact VLe.refl _|exact VLe.of_eq (by simp[Sto.upd,yc _ _ _ hm])));done)))⟩
  ·intro _
   simp only[List.take_length]
   repeat'(first|refine M.gw ?_|fail)
   rw[he]
   rfl
theorem Zdm{f:Fm}{g:List Ty}(hok:f.okT g)(hs:f.shape=true)(hz:f.size≤20000000)(hg:g.length≤100)(fr by_:Int)(h1:0≤fr∧fr≤100)(h2: -100≤by_∧by_≤100):
 PC E 47 [.agg f.view,.i fr,.i by_] (.agg (f.lft fr by_).view):=by
 have hfl:=Zak f hs
 rw[Ycr]
 exact Yco by_ (by omega) _ f fr (Nat.le_refl _) (by omega) (by omega) (by omega) hs (fun p hp q hq=>by
  have a1:=Zgg hok hs p hp q hq
  have a2:=Tm.vars_nonneg p.1 (Zkx f hs 0 p hp) 0 q hq
  omega)
theorem Zpr:∀(n:Nat) (f:Fm),f.size≤n→f.shape=true→PC E 215 [.agg f.view] (.bool (Za3 f)):=by
 intro n
 induction n with
 |zero=>intro f h;have:=f.size_pos;omega
 |succ n ih=>
 intro f hz hs
 rcases Zca hs with⟨k,_⟩|⟨k,_⟩|⟨k,_⟩
 ·obtain ⟨a,b,rfl⟩:=Yag hs k
  exact Zw4 a b
 ·obtain ⟨a,b,e⟩:=Zk5 hs k
  rw[e] at hz hs
  rw[Zdw] at hz
  have ha:=ih a (by omega) (zo hs (by simp[vk]))
  have hb:=ih b (by omega) (zo hs (by simp[vk]))
  rcases k with k|k
  ·rw [k] at e
   subst e
   have e:Za3 (vk 2 a b)=(Za3 a||Za3 b):=by rw[Zja];rfl
   rw[e]
   clear e hz hs k
   unfold vk
   cases h0:Za3 a with
   |true=>
    rw[h0] at ha
    refine M.F Tryz.func215 ?_
    repeat'(first|refine M.gw ?_|refine M.c2 (ha) ?_|((with_reducible refine D.blk ?_);refine AW.block ?_)|fail)
    rfl
   |false=>
    rw[h0] at ha
    refine M.F Tryz.func215 ?_
    repeat'(first|refine M.gw ?_|refine M.c2 (ha) ?_|refine M.c2 (hb) ?_|((with_reducible refine D.blk ?_);refine AW.block ?_)|fail)
    rfl
  ·rw [k] at e
   subst e
   have e:Za3 (vk 3 a b)=Za3 b:=by rw[Zja];rfl
   rw[e]
   clear e hz hs k
   unfold vk
   refine M.F Tryz.func215 ?_
   repeat'(first|refine M.gw ?_|refine M.c2 (hb) ?_|((with_reducible refine D.blk ?_);refine AW.block ?_)|fail)
   rfl
 ·obtain ⟨a,e⟩:=Zhg hs (by omega)
  rw[e] at hz hs
  rw[Zcf] at hz
  have ha:=ih a (by omega) (zo hs (by simp[quF]))
  have e2:Za3 (quF f.kind f.ty a)=if f.kind=5 then true else Za3 a:=by
   rw[Zja]
   show(if f.kind=1 then false else if f.kind=2 then _ else if f.kind=5 then true else Za3 a)=_
   rw[if_neg (by omega),if_neg (by omega)]
  rw[←e] at e2
  rw[e2,e]
  clear e2 hz hs
  generalize f.ty=s at*
  rcases k with k|k|k|k
  all_goals(rw[k])
  all_goals(clear e k)
  all_goals(unfold quF)
  all_goals(refine M.F Tryz.func215 ?_)
  all_goals(repeat'(first|refine M.gw ?_|refine M.c2 (ha) ?_|((with_reducible refine D.blk ?_);refine AW.block ?_)|fail))
  all_goals rfl
theorem Zo9(f:Fm)(he:f.err=0):PC E 163 [.agg f.view] (.tup [.bool (Za3 f),.i 0]):=by
 have s:=(Fm.err_iff f).1 he
 have h1:=Zaz f (by have:=Zak f s.1;omega)
 have h2:=Zpr _ f (Nat.le_refl _) s.1
 rw[he] at h1
 refine M.F Tryz.func163 ?_
 repeat'(first|refine M.gw ?_|refine M.c2 (h1) ?_|refine M.c2 (h2) ?_|fail)
 rfl
theorem Zxw(l:List Int):PC E 231 [.s .int l] (.bool (Ya1 l)):=by
 cases l with
 |nil=>
  refine M.F Tryz.func231 ?_
  repeat'(first|refine M.gw ?_|fail)
  rfl
 |cons x l=>
  refine M.F Tryz.func231 ?_
  repeat'(first|refine M.go ?_|((fail_if_success refine AX.wt U ?_);refine AX.gs U U (fun _=>trivial) (fun h=> ?_) (fun h=> ?_))|((with_reducible refine D.aw ?_);(fail_if_success with_reducible refine D.stopR (id:=9) ?_);(fail_if_success with_reducible refine D.stopS (id:=9) ?_);first|refine M.ga ?_)|refine M.gk ?_|fail)
  all_goals first
   |rfl
   |(exfalso;simp at h;done)
   |(exfalso;simp at h;omega)
theorem Ziu(t:Tm){g:List Ty}{T:Ty}(ht:t.err=0)(hi:t.inf g=(T,0))(hg:g.length≤100):PC E 233 [.agg t.view] (.s .int (Zco t)):=by
 have s:=(Tm.err_iff t).1 ht
 have hfl:=z8 ht
 have h1:=Zy5 t (by omega) (fun _ p hp=>by
  have a1:=Za1 t g 0 (g.length+t.size) (by rw[hi]) s.1 (by omega) p hp
  have a2:=Tm.vars_nonneg t s.1 0 p hp
  omega)
 unfold Zco
 refine M.F Tryz.func233 ?_
 repeat'(first|refine M.gw ?_|refine M.c2 (h1) ?_|fail)
 simp[zi,V.wk,V.wks]
theorem Zh5(f:Fm)(t:Tm)(hf:f.full<549755813888)(ht:t.full<549755813888):PC E 234 [.agg f.view,.agg t.view] (.tup [.agg (Ze2 f t).1.view,.i (Ze2 f t).2]):=by
 have h1:=Zyl f 0 t hf ht
 refine M.F Tryz.func234 ?_
 repeat'(first|refine M.gw ?_|refine M.c2 (h1) ?_|fail)
 rfl
theorem Zf6(c:Ck)(v h:Nat)(h1:c.tys.length≤1000∧v≤1000)(h2:c.hyps.length≤1000∧h≤1000):PC E 202 [.agg c.view,.i v,.i h] (.i (c.room v h)):=by
 unfold Ck.room
 by_cases a1:c.tys.length+v>16
 ·rw [if_pos (.inl a1)]
  have b1:decide (((c.tys.length:Nat):Int)+v>16)=true:=by simp;omega
  refine M.F Tryz.func202 ?_
  repeat'(first|refine M.gw ?_|((fail_if_success refine AX.wt U ?_);refine AX.gs U U (fun _=>trivial) (fun h=> ?_) (fun h=> ?_))|refine AW.condS U (fun h=> ?_) (fun h=> ?_)|fail)
  all_goals first
   |rfl
   |(exfalso;simp at*;omega)
 ·by_cases a2:c.hyps.length+h>16
  ·rw [if_pos (.inr a2)]
   refine M.F Tryz.func202 ?_
   repeat'(first|refine M.gw ?_|((fail_if_success refine AX.wt U ?_);refine AX.gs U U (fun _=>trivial) (fun h=> ?_) (fun h=> ?_))|refine AW.condS U (fun h=> ?_) (fun h=> ?_)|fail)
   all_goals first
    |rfl
    |(exfalso;simp at*;omega)
  ·rw [if_neg (by omega)]
   refine M.F Tryz.func202 ?_
   repeat'(first|refine M.gw ?_|((fail_if_success refine AX.wt U ?_);refine AX.gs U U (fun _=>trivial) (fun h=> ?_) (fun h=> ?_))|refine AW.condS U (fun h=> ?_) (fun h=> ?_)|fail)
   all_goals first
    |rfl
    |(exfalso;simp at*;omega)
theorem Zig(c:Ck)(f:Fm)(h:c.hyps.length≤1000):PC E 203 [.agg c.view,.agg f.view] (.agg (c.with_ f).view):=by
 unfold Ck.with_
 refine M.F Tryz.func203 ?_
 repeat'(first|refine M.gw ?_|fail)
 rfl
theorem Zs5(c:Ck)(t:Tm)(k:Int)(ht:t.full<137438953000)(hg:(c.tys.map Ty.size).sum<1099511627776):PC E 211 [.agg c.view,.agg t.view,.i k] (.i (Zlx c t k)):=by
 have h1:=Zjf c.tys t (by omega) hg
 unfold Zlx
 by_cases e:(yy c.tys t).2=0
 ·rw [if_neg (by simp[e])]
  rw[e] at h1
  by_cases e2:(yy c.tys t).1.kind=k
  ·rw [if_neg (by simp[e2])]
   refine M.F Tryz.func211 ?_
   repeat'(first|refine M.gw ?_|refine M.c2 (h1) ?_|refine AW.condS U (fun h=> ?_) (fun h=> ?_)|fail)
   all_goals first
    |rfl
    |(exfalso;simp at h;exact h e2)
  ·rw [if_pos e2]
   refine M.F Tryz.func211 ?_
   repeat'(first|refine M.gw ?_|refine M.c2 (h1) ?_|refine AW.condS U (fun h=> ?_) (fun h=> ?_)|fail)
   all_goals first
    |rfl
    |(exfalso;simp at h;exact e2 h)
 ·rw [if_pos e]
  refine M.F Tryz.func211 ?_
  repeat'(first|refine M.gw ?_|refine M.c2 (h1) ?_|refine AW.condS U (fun h=> ?_) (fun h=> ?_)|fail)
  all_goals first
   |rfl
   |(exfalso;simp_all;done)
theorem Zoa{acc l:List Int}{m:Nat}(hm:m<l.length):nub acc (l.take (m+1))=ve l[m] (nub acc (l.take m)):=by
 rw[List.take_succ_eq_append_getElem hm,Zeu,Zjr]
theorem uf(a b:List Int)(ha:a.length≤100000)(hb:b.length≤100000):PC E 201 [.s .int a,.s .int b] (.s .int (vf a b)):=by
 have hl1:=Zb7 a []
 have hl2:=Zb7 b (nub [] a)
 have hs:=Zlu (ks:=nub (nub [] a) b) (vw (vw List.nodup_nil)) (by simp at hl1;omega)
 refine M.F Tryz.func201 ?_
 repeat'(first|refine M.gw ?_|fail)
 refine AW.range a.length (fun m=>True)
  (fun m=>([(1,.s .int b),(5,.mp 0),(11,.s .int a),(12,.i a.length),(13,.i m)],⟨1,[(0,.map .bl (nub [] (a.take m)) (List.replicate (nub [] (a.take m)).length true))]⟩))
  (by omega) (fun m=>rfl) (fun m=>rfl) rfl trivial ?_ ?_ ?_
 ·simp only[List.take_zero,Zbd,List.length_nil,List.replicate_zero]
  exact(M.W [some 0])
 ·intro m hm _
  repeat'(first|refine M.gw ?_|fail)
  refine⟨rfl,trivial,?_⟩
  simp only[Zoa hm]
  rw[←uq]
  exact(M.W [some 0])
 ·intro _
  simp only[List.take_length]
  repeat'(first|refine M.gw ?_|fail)
  refine AW.range b.length (fun m=>True)
   (fun m=>([(5,.mp 0),(20,.s .int b),(21,.i b.length),(22,.i m)],⟨1,[(0,.map .bl (nub (nub [] a) (b.take m)) (List.replicate (nub (nub [] a) (b.take m)).length true))]⟩))
   (by omega) (fun m=>rfl) (fun m=>rfl) rfl trivial ?_ ?_ ?_
  ·simp only[List.take_zero,Zbd]
   exact(M.W [some 0])
  ·intro m hm _
   repeat'(first|refine M.gw ?_|fail)
   refine⟨rfl,trivial,?_⟩
   simp only[Zoa hm]
   rw[←uq]
   exact(M.W [some 0])
  ·intro _
   simp only[List.take_length]
   repeat'(first|refine M.gw ?_|refine M.cb (hs) [0] 0 ?_|fail)
   rfl
theorem Ztl{l:List Int}{n:Int}{m:Nat}(hm:m<l.length):Zhc (l.take (m+1)) n=if l[m]≥n then Zhc (l.take m) n++[l[m]-n] else Zhc (l.take m) n:=by
 unfold Zhc
 rw[List.take_succ_eq_append_getElem hm,List.filter_append,List.map_append]
 by_cases h:l[m]≥n
 ·rw [if_pos h];simp[List.filter,h]
 ·rw [if_neg h];simp[List.filter,h]
theorem Zfo(l:List Int)(n:Int):(Zhc l n).length≤l.length:=by unfold Zhc;rw[List.length_map];exact List.length_filter_le _ _
theorem Zn7(l:List Int)(n:Int)(hl:l.length≤100000)(hn:0≤n∧n≤100)(hx:∀x∈l,0≤x∧x≤1000000):PC E 230 [.s .int l,.i n] (.s .int (Zhc l n)):=by
 refine M.F Tryz.func230 ?_
 repeat'(first|refine M.gw ?_|fail)
 refine AW.range l.length (fun m=>True)
  (fun m=>([(1,.i n),(5,.slice (.own 0) (.t .int (Zhc (l.take m) n))),(8,.s .int l),(9,.i l.length),(10,.i m)],⟨1,[(0,.row)]⟩))
  (by omega) (fun m=>rfl) (fun m=>rfl) rfl trivial (M.W [none]) ?_ ?_
 ·intro m hm _
  have hol:=Zfo (l.take m) n
  have hol2:(Zhc (l.take m) n).length≤l.length:=by rw[List.length_take] at hol;omega
  have hv:=hx l[m] (List.getElem_mem hm)
  have he:=Ztl (n:=n) hm
  repeat'(first|refine M.gw ?_|refine AW.condS U (fun h=> ?_) (fun h=> ?_)|fail)
  ·have h':l[m]≥n:=by simpa using h
   rw[if_pos h'] at he
   refine⟨rfl,trivial,?_⟩
   simp only[he]
   exact(M.W [some 1])
  ·have h':¬l[m]≥n:=by simpa using h
   rw[if_neg h'] at he
   refine⟨rfl,trivial,?_⟩
   simp only[he]
   exact(M.W [some 0])
 ·intro _
  simp only[List.take_length]
  repeat'(first|refine M.gw ?_|fail)
  rfl
theorem Zij(tys:List Ty)(hyps:List Fm)(f:Fm)(hl:hyps.length≤1000):PC E 36 [.agg [.s .ty tys,.s .fm hyps],.agg f.view] (.agg [.s .ty tys,.s .fm (hyps++[f])]):=by
 refine M.F Tryz.func36 ?_
 repeat'(first|refine M.gw ?_|fail)
 all_goals first
  |rfl
  |simp[zi,V.wk,V.wks,za,Ty.view,Tm.view]
  |trace_state
theorem Za2(tys:List Ty)(hyps:List Fm)(l:List Ty)(hh:∀f∈hyps,f.err=0∧f.okT tys)(hg:tys.length≤20)(hl:l.length≤2)(hn:hyps.length≤20):
 PC E 39 [.agg [.s .ty tys,.s .fm hyps],.s .ty l] (.agg [.s .ty (tys++l),.s .fm (hyps.map fun f=>f.lft 0 l.length)]):=by
 have h1:=ul tys l (by omega)
 refine M.F Tryz.func39 ?_
 repeat'(first|refine M.gw ?_|refine M.c2 (h1) ?_|fail)
 refine AW.range hyps.length (fun m=>True)
  (fun m=>([(1,.s .ty l),(4,.ptr 1 0),(5,.ptr 2 0),(14,.s .fm hyps),(15,.i hyps.length),(16,.i m)],⟨4,[(0,.var [.s .ty tys,.s .fm hyps]),(1,.var [.slice .nil (.t .ty []),.slice .nil (.t .fm [])]),(2,.var [.s .ty (tys++l),.slice (.own 3) (.t .fm ((hyps.take m).map fun f=>f.lft 0 l.length))]),(3,.row)]⟩))
  (by omega) (fun m=>rfl) (fun m=>rfl) rfl trivial (M.W [some 0,some 1,some 2,none]) ?_ ?_
 ·intro m hm _
  have hf:=hh hyps[m] (List.getElem_mem hm)
  have hc:=Zdm hf.2 ((Fm.err_iff _).1 hf.1).1 (by have:=((Fm.err_iff _).1 hf.1).2;omega) (by omega) 0 l.length (by omega) (by omega)
  repeat'(first|refine M.gw ?_|refine M.c2 (hc) ?_|fail)
  exact⟨rfl,trivial,(M.W [some 0,some 1,some 2,some 5] (he:=(by(repeat'(first|exact trivial|exact Or.inr ⟨_,U,rfl⟩|refine And.intro ?_ ?_|refine⟨_,U,_,U,_,U,?_⟩|exact VLe.refl _|exact VLe.of_eq (by simp[Sto.upd,yc _ _ _ hm])));done)))⟩
 ·intro _
  simp only[List.take_length]
  repeat'(first|refine M.gw ?_|fail)
  all_goals first
   |rfl
   |simp[zi,V.wk,V.wks,za,Ty.view,Tm.view]
   |trace_state
theorem Zss{g:List Ty}{t:Tm}(he:t.err=0)(hi:t.inf g=(natT,0))(hg:g.length≤20):PC E 43 [.agg t.view] (.agg (t.re (zq 0 1) 0).view):=by
 have hf:=z8 he
 have hs:=(Tm.err_iff t).1 he
 have h1:=Zb5 t t (by omega) (by omega)
 have h2:=Zdm (f:=eqF t t) (g:=g) (eq_okT.2 ⟨hi,hi⟩) (ux hs.1 hs.1) (by have:=Zba t t;omega) (by omega) 0 1 (by omega) (by omega)
 rw[Zz4] at h2
 rw[show(0:Int)+0=0 from rfl] at h2
 generalize t.re (zq 0 1) 0=u at*
 refine M.F Tryz.func43 ?_
 repeat'(first|refine M.gw ?_|refine M.c2 (h1) ?_|refine M.c2 (h2) ?_|fail)
 all_goals first
  |rfl
  |simp[zi,V.wk,V.wks,za,Ty.view,Tm.view]
  |trace_state
theorem Zxb(k:Int)(f:Fm)(t:Tm)(p:Pf)(hf:f.full<500000000000)(ht:t.full<500000000000)(hp:p.full<500000000000):
 AC E 45 [.i k,.agg f.view,.agg t.view,.agg p.view] ⟨0,[]⟩ (.agg [.i k,.i 0,.i 0,.s .ty [],.s .tm [t],.arr 0 1 5,.s .pf [p]]) ⟨1,[(0,.var f.view)]⟩:=by
 have h1:=Zia k t p ht hp
 have h2:=w9 _ f (Nat.le_refl _) (by omega)
 refine M.F Tryz.func45 ?_
 repeat'(first|refine M.go ?_|refine M.c2 (h1) ?_|((with_reducible refine D.aw ?_);(fail_if_success with_reducible refine D.stopR (id:=2) ?_);(fail_if_success with_reducible refine D.stopS (id:=2) ?_);first|refine M.ga ?_)|refine M.gk ?_|fail)
 refine K.sq (AW.regL ?_)
 refine L.ldb rfl rfl rfl rfl rfl rfl ?_
 refine L.c2 h2 rfl rfl rfl rfl ?_
 refine L.bsA1 0 rfl rfl rfl rfl rfl rfl rfl ?_
 repeat'(first|refine M.gw ?_|fail)
 refine K.rt [some 5] rfl rfl rfl rfl rfl ?_ rfl ?_
 ·exact ⟨⟨_,rfl,_,rfl,_,rfl,VsLe.refl _⟩,trivial⟩
 ·first
   |exact VLe.refl _
   |(refine VLe.of_eq ?_;simp[zi,Ty.view,Tm.view];rfl)
theorem Zfn(c:Ck)(hc:c.ok)(l:List Ty)(hl:0<l.length)(hl2:l.length≤2):PC E 229 [.agg c.view,.s .ty l] (.agg (c.below l).view):=by
 have hlen:=hc.len
 have hnh:=hc.nh
 refine M.F Tryz.func229 ?_
 repeat'(first|refine M.gw ?_|fail)
 refine AW.range c.hyps.length (fun m=>True)
  (fun m=>([(1,.s .ty l),(2,.ptr 0 0),(4,.ptr 1 0),(5,.ptr 3 0),(23,.s .fm c.hyps),(24,.i c.hyps.length),(25,.i m)],⟨5,[(0,.var c.view),(1,.var [.slice .nil (.t .fm []),.slice .nil (.t .ty []),.slice .nil (.t .fm [])]),(2,.row),(3,.var [.s .fm c.lems,.slice (.own 2) (.t .ty (c.tys++l)),.slice (.own 4) (.t .fm ((c.hyps.take m).map fun f=>f.lft 0 l.length))]),(4,.row)]⟩))
  (by omega) (fun m=>rfl) (fun m=>rfl) rfl trivial (M.W [some 0,some 1,some 2,some 3,none]) ?_ ?_
 ·intro m hm _
  obtain⟨h1,h2⟩:=hc.hyps c.hyps[m] (List.getElem_mem hm)
  have s:=(Fm.err_iff _).1 h1
  have hcall:=Zdm h2 s.1 (by omega) (by omega) 0 l.length (by omega) (by omega)
  repeat'(first|refine M.gw ?_|refine M.c2 (hcall) ?_|fail)
  exact⟨rfl,trivial,(M.W [some 0,some 1,some 2,some 3,some 6] (he:=(by(repeat'(first|exact trivial|exact Or.inr ⟨_,U,rfl⟩|refine And.intro ?_ ?_|refine⟨_,U,_,U,_,U,?_⟩|exact VLe.refl _|exact VLe.of_eq (by simp[Sto.upd,yc _ _ _ hm])));done)))⟩
 ·intro _
  simp only[List.take_length]
  repeat'(first|refine M.gw ?_|fail)
  rfl
theorem Zno:∀{l:List Tm} {m:Nat} (hm:m<l.length),(∀j (hj:j<l.length),j<m→(xm l[j] 1000).2.2=0)→(xm l[m] 1000).2.2≠0→uk l=([],(xm l[m] 1000).2.2)
 |[],m,hm,_,_=>by simp at hm
 |x::l,0,hm,_,h=>by simp only[uk,List.getElem_cons_zero] at h ⊢;rw[if_pos h]
 |x::l,m+1,hm,h0,h=>by
  have h1:=h0 0 (by simp) (by omega)
  simp only[List.getElem_cons_zero] at h1
  simp only[List.getElem_cons_succ] at h ⊢
  have h2:=Zno (l:=l) (m:=m) (by simpa using hm) (fun j hj hjm=>by have:=h0 (j+1) (by simpa using hj) (by omega);simpa using this) h
  simp only[uk]
  rw[if_neg (by simp[h1]),h2,if_pos h]
theorem Zh1:∀{l:List Tm},(∀j (hj:j<l.length),j<l.length→(xm l[j] 1000).2.2=0)→uk l=(l.map fun t=>(xm t 1000).1,0)
 |[],_=>rfl
 |x::l,h0=>by
  have h1:=h0 0 (by simp) (by simp)
  simp only[List.getElem_cons_zero] at h1
  have h2:=Zh1 (l:=l) fun j hj _=>by have:=h0 (j+1) (by simpa using hj) (by simpa using hj);simpa using this
  simp only[uk]
  rw[if_neg (by simp[h1]),h2];rfl
theorem Zlf:∀{l:List Fm} {m:Nat} (hm:m<l.length),(∀j (hj:j<l.length),j<m→(xq l[j]).2=0)→(xq l[m]).2≠0→y0 l=([],(xq l[m]).2)
 |[],m,hm,_,_=>by simp at hm
 |x::l,0,hm,_,h=>by simp only[y0,List.getElem_cons_zero] at h ⊢;rw[if_pos h]
 |x::l,m+1,hm,h0,h=>by
  have h1:=h0 0 (by simp) (by omega)
  simp only[List.getElem_cons_zero] at h1
  simp only[List.getElem_cons_succ] at h ⊢
  have h2:=Zlf (l:=l) (m:=m) (by simpa using hm) (fun j hj hjm=>by have:=h0 (j+1) (by simpa using hj) (by omega);simpa using this) h
  simp only[y0]
  rw[if_neg (by simp[h1]),h2,if_pos h]
theorem Zgf:∀{l:List Fm},(∀j (hj:j<l.length),j<l.length→(xq l[j]).2=0)→y0 l=(l.map fun t=>(xq t).1,0)
 |[],_=>rfl
 |x::l,h0=>by
  have h1:=h0 0 (by simp) (by simp)
  simp only[List.getElem_cons_zero] at h1
  have h2:=Zgf (l:=l) fun j hj _=>by have:=h0 (j+1) (by simpa using hj) (by simpa using hj);simpa using this
  simp only[y0]
  rw[if_neg (by simp[h1]),h2];rfl
theorem Zsh:∀(n:Nat) (f:Fm),f.full≤n→n<274877906944→PC E 237 [.agg f.view] (.tup [.agg (xq f).1.view,.i (xq f).2]):=by
 intro n
 induction n with
 |zero=>intro f h;have:=f.full_pos;omega
 |succ n ih=>
 intro f hsz hn
 have hsz':=f.full_eq
 have hlen:=zc Fm.full Fm.full_pos f.args
 have hlen2:=zc Tm.full Tm.full_pos f.terms
 have he:=Zny f
 refine M.F Tryz.func237 ?_
 repeat'(first|refine M.gw ?_|fail)
 refine AW.range f.terms.length (fun m=>∀j (hj:j<f.terms.length),j<m→(xm f.terms[j] 1000).2.2=0)
  (fun m=>([(1,.ptr 0 0),(2,.ptr 1 0),(4,.ptr 2 0),(20,.s .tm f.terms),(21,.i f.terms.length),(22,.i m)],⟨4,[(0,.var f.view),(1,.var [.i 0,.i 0,.slice .nil (.t .ty []),.slice .nil (.t .tm []),.slice .nil (.t .fm [])]),(2,.var [.i f.kind,.i f.ty.kind,.s .ty f.ty.args,.slice (.own 3) (.t .tm ((f.terms.take m).map fun t=>(xm t 1000).1)),.slice .nil (.t .fm [])]),(3,.row)]⟩))
  (by omega) (fun m=>rfl) (fun m=>rfl) rfl (fun j hj h=>by omega) (M.W [some 0,some 1,some 2,none]) ?_ ?_
 ·intro m hm hP
  have hs2:=zb Tm.full (List.getElem_mem hm)
  have hc:=Zf5 f.terms[m] 1000 (by omega)
  by_cases hx:(xm f.terms[m] 1000).2.2=0
  ·rw [hx] at hc
   repeat'(first|refine M.gw ?_|refine M.c2 (hc) ?_|fail)
   exact⟨rfl,yb (p:=fun t=>(xm t 1000).2.2=0) hm hP hx,(M.W [some 0,some 1,some 2,some 6] (he:=(by(repeat'(first|exact trivial|exact Or.inr ⟨_,U,rfl⟩|refine And.intro ?_ ?_|refine⟨_,U,_,U,_,U,?_⟩|exact VLe.refl _|exact VLe.of_eq (by simp[Sto.upd,yc _ _ _ hm])));done)))⟩
  ·have e1:=Zno hm hP hx
   rw[e1,if_pos hx] at he
   rw[he]
   repeat'(first|refine M.gw ?_|refine M.c2 (hc) ?_|refine AW.condS U (fun h=> ?_) (fun h=> ?_)|fail)
   all_goals first
    |rfl
    |(exfalso;simp at h;exact hx h)
 ·intro hP
  have e1:=Zh1 (l:=f.terms) fun j hj _=>hP j hj hj
  rw[e1,if_neg (by simp)] at he
  simp only[List.take_length]
  repeat'(first|refine M.gw ?_|fail)
  refine AW.range f.args.length (fun m=>∀j (hj:j<f.args.length),j<m→(xq f.args[j]).2=0)
   (fun m=>([(1,.ptr 0 0),(2,.ptr 1 0),(4,.ptr 2 0),(44,.s .fm f.args),(45,.i f.args.length),(46,.i m)],⟨5,[(0,.var f.view),(1,.var [.i 0,.i 0,.slice .nil (.t .ty []),.slice .nil (.t .tm []),.slice .nil (.t .fm [])]),(2,.var [.i f.kind,.i f.ty.kind,.s .ty f.ty.args,.slice (.own 3) (.t .tm (f.terms.map fun t=>(xm t 1000).1)),.slice (.own 4) (.t .fm ((f.args.take m).map fun x=>(xq x).1))]),(3,.row),(4,.row)]⟩))
   (by omega) (fun m=>rfl) (fun m=>rfl) rfl (fun j hj h=>by omega) (M.W [some 0,some 1,some 2,some 3,none]) ?_ ?_
  ·intro m hm hP2
   have hs2:=zb Fm.full (List.getElem_mem hm)
   have hc:=ih f.args[m] (by omega) (by omega)
   by_cases hx:(xq f.args[m]).2=0
   ·rw [hx] at hc
    repeat'(first|refine M.gw ?_|refine M.c2 (hc) ?_|fail)
    exact⟨rfl,yb (p:=fun t=>(xq t).2=0) hm hP2 hx,(M.W [some 0,some 1,some 2,some 3,some 7] (he:=(by(repeat'(first|exact trivial|exact Or.inr ⟨_,U,rfl⟩|refine And.intro ?_ ?_|refine⟨_,U,_,U,_,U,?_⟩|exact VLe.refl _|exact VLe.of_eq (by simp[Sto.upd,yc _ _ _ hm])));done)))⟩
   ·have e2:=Zlf hm hP2 hx
    rw[e2,if_pos hx] at he
    rw[he]
    repeat'(first|refine M.gw ?_|refine M.c2 (hc) ?_|refine AW.condS U (fun h=> ?_) (fun h=> ?_)|fail)
    all_goals first
     |rfl
     |(exfalso;simp at h;exact hx h)
  ·intro hP2
   have e2:=Zgf (l:=f.args) fun j hj _=>hP2 j hj hj
   rw[e2,if_neg (by simp)] at he
   simp only[List.take_length]
   rw[he]
   repeat'(first|refine M.gw ?_|fail)
   rfl
abbrev Zj0(f:Fm)(u:List Int)(e:Int):V:= .tup [.agg (f.view++[.s .int u]),.i e]
abbrev Za8(r:Res):V:= .tup [.agg r.1.view,.s .int r.2.1,.i r.2.2]
theorem Ck.ok.sum{c:Ck}(hc:c.ok):(c.tys.map Ty.size).sum≤1024:=by
 have h1:=hc.len
 have h2:=Zev (f:=Ty.size) (C:=64) c.tys fun x hx=>((Ty.err_iff x).1 (hc.all x hx)).2
 omega
theorem Zqg{c:Ck}(hc:c.ok){f:Fm}{u:List Int}{e:Int}(h:Zdk c (f,u,e)):f.full≤266240∧u.length≤16∧∀x∈u,0≤x∧x≤1000000:=by
 have hl:=hc.len
 by_cases he:e=0
 ·obtain ⟨h1,_,h3⟩:=h.1 he
  have h4:=h3.len
  refine⟨yr h1,by simp only at h4;omega,fun x hx=> ?_⟩
  have:=h3.2 x hx
  omega
 ·have h1:=h.2 he
  simp only[ya,Prod.mk.injEq] at h1
  rw[h1.1,h1.2.1]
  exact⟨by decide,by simp,fun x hx=>by cases hx⟩
theorem Zz9{c:Ck}(hc:c.ok)(i:Int)(hi:0≤i):PC E 161 [.agg c.view,.agg (Pf.mk 1 i (.mk 0 []) [] [] []).view] (Za8 (Ycu c i)):=by
 have hn:=hc.nh
 unfold Ycu
 by_cases h1:i≥c.hyps.length
 ·rw [if_pos h1]
  refine M.F Tryz.func161 ?_
  repeat'(first|refine M.gw ?_|((with_reducible refine D.blk ?_);refine AW.block ?_)|refine AW.condS U (fun h=> ?_) (fun h=> ?_)|fail)
  all_goals first
   |rfl
   |(exfalso;simp at h;omega)
 ·rw [if_neg h1]
  have hlt:c.hyps.length-1-i.toNat<c.hyps.length:=by omega
  rw[Zgy hlt]
  simp only[Pf.view,Pf.kind,Pf.index,Pf.ty,Pf.terms,Pf.forms,Pf.args]
  refine M.F Tryz.func161 ?_
  repeat'(first|refine M.gw ?_|((with_reducible refine D.blk ?_);refine AW.block ?_)|refine AW.condS U (fun h=> ?_) (fun h=> ?_)|fail)
  ·exfalso;simp at h;omega
  ·refine L.ixt (c.hyps.length-1-i.toNat) rfl rfl rfl rfl (by omega) rfl rfl (by omega) ?_
   repeat'(first|refine M.gw ?_|fail)
   rfl
theorem Zza{c:Ck}(hc:c.ok)(i:Int)(hi:0≤i):PC E 161 [.agg c.view,.agg (Pf.mk 2 i (.mk 0 []) [] [] []).view] (Za8 (Ycp c i)):=by
 have hn:=hc.nl
 unfold Ycp
 by_cases h1:i≥c.lems.length
 ·rw [if_pos h1]
  refine M.F Tryz.func161 ?_
  repeat'(first|refine M.gw ?_|((with_reducible refine D.blk ?_);refine AW.block ?_)|refine AW.condS U (fun h=> ?_) (fun h=> ?_)|fail)
  all_goals first
   |rfl
   |(exfalso;simp at h;omega)
 ·rw [if_neg h1]
  have hlt:i.toNat<c.lems.length:=by omega
  rw[Zgy hlt]
  simp only[Pf.view,Pf.kind,Pf.index,Pf.ty,Pf.terms,Pf.forms,Pf.args]
  refine M.F Tryz.func161 ?_
  repeat'(first|refine M.gw ?_|((with_reducible refine D.blk ?_);refine AW.block ?_)|refine AW.condS U (fun h=> ?_) (fun h=> ?_)|fail)
  ·exfalso;simp at h;omega
  ·refine L.ixt i.toNat rfl rfl rfl rfl (by omega) rfl rfl (by omega) ?_
   repeat'(first|refine M.gw ?_|fail)
   rfl
section
variable {c:Ck} (hc:c.ok) {p q:Pf} {f0 f1:Fm} {u0 u1:List Int} {e0 e1:Int}
include hc
theorem Zzi(hp:PC E 108 [.agg c.view,.agg p.view] (Zj0 f0 u0 e0))(hq:PC E 108 [.agg c.view,.agg q.view] (Zj0 f1 u1 e1))(o0:Zdk c (f0,u0,e0))(o1:Zdk c (f1,u1,e1)):
 PC E 161 [.agg c.view,.agg (Pf.mk 3 0 (.mk 0 []) [] [] [p,q]).view] (Za8 (Ybs (fun _=>(f0,u0,e0)) (fun _=>(f1,u1,e1)) c)):=by
 have b0:=Zqg hc o0
 have b1:=Zqg hc o1
 have h2:=Zg8 2 f0 f1 (by omega) (by omega)
 have h3:=uf u0 u1 (by omega) (by omega)
 unfold Ybs
 by_cases he:e0=0
 ·subst he
  rw[if_neg (by simp)]
  refine M.F Tryz.func161 ?_
  repeat'(first|refine M.gw ?_|refine M.c2 (hp) ?_|refine M.c2 (hq) ?_|refine M.c2 (h2) ?_|refine M.c2 (h3) ?_|((with_reducible refine D.blk ?_);refine AW.block ?_)|fail)
  rfl
 ·rw [if_pos he]
  refine M.F Tryz.func161 ?_
  repeat'(first|refine M.gw ?_|refine M.c2 (hp) ?_|refine M.c2 (hq) ?_|refine M.c2 (h2) ?_|refine M.c2 (h3) ?_|((with_reducible refine D.blk ?_);refine AW.block ?_)|refine AW.condS U (fun h=> ?_) (fun h=> ?_)|fail)
  all_goals first
   |rfl
   |(exfalso;simp at h;exact he h)
theorem Zsx(j:Nat)(hj:j<2)(hp:PC E 108 [.agg c.view,.agg p.view] (Zj0 f0 u0 e0))(o0:Zdk c (f0,u0,e0)):
 PC E 161 [.agg c.view,.agg (Pf.mk (4+j) 0 (.mk 0 []) [] [] [p]).view] (Za8 (Ybw j (fun _=>(f0,u0,e0)) c)):=by
 unfold Ybw
 by_cases he:e0=0
 ·subst he
  rw[if_neg (by simp)]
  by_cases hk:f0.kind=2
  ·rw [if_neg (by simp[hk])]
   obtain⟨x,y,e⟩:=Zk5 ((Fm.err_iff _).1 (o0.1 rfl).1).1 (.inl hk)
   simp only at e
   rw[hk] at e
   subst e
   rcases j with _|_|j
   ·refine M.F Tryz.func161 ?_
    repeat'(first|refine M.gw ?_|refine M.c2 (hp) ?_|((with_reducible refine D.blk ?_);refine AW.block ?_)|fail)
    rfl
   ·refine M.F Tryz.func161 ?_
    repeat'(first|refine M.gw ?_|refine M.c2 (hp) ?_|((with_reducible refine D.blk ?_);refine AW.block ?_)|fail)
    rfl
   ·omega
  ·rw [if_pos hk]
   rcases j with _|_|j
   ·refine M.F Tryz.func161 ?_
    repeat'(first|refine M.go ?_|refine M.c2 (hp) ?_|((with_reducible refine D.aw ?_);(fail_if_success with_reducible refine D.stopR (id:=24) ?_);(fail_if_success with_reducible refine D.stopS (id:=24) ?_);first|refine M.ga ?_|((with_reducible refine D.blk ?_);refine AW.block ?_)|refine AW.condS U (fun h=> ?_) (fun h=> ?_))|refine M.gk ?_|fail)
    all_goals first
     |rfl
     |(exfalso;simp at h;exact hk h)
   ·refine M.F Tryz.func161 ?_
    repeat'(first|refine M.go ?_|refine M.c2 (hp) ?_|((with_reducible refine D.aw ?_);(fail_if_success with_reducible refine D.stopR (id:=24) ?_);(fail_if_success with_reducible refine D.stopS (id:=24) ?_);first|refine M.ga ?_|((with_reducible refine D.blk ?_);refine AW.block ?_)|refine AW.condS U (fun h=> ?_) (fun h=> ?_))|refine M.gk ?_|fail)
    all_goals first
     |rfl
     |(exfalso;simp at h;exact hk h)
   ·omega
 ·rw [if_pos he]
  rcases j with _|_|j
  ·refine M.F Tryz.func161 ?_
   repeat'(first|refine M.go ?_|refine M.c2 (hp) ?_|((with_reducible refine D.aw ?_);(fail_if_success with_reducible refine D.stopR (id:=22) ?_);(fail_if_success with_reducible refine D.stopS (id:=22) ?_);first|refine M.ga ?_|((with_reducible refine D.blk ?_);refine AW.block ?_)|refine AW.condS U (fun h=> ?_) (fun h=> ?_))|refine M.gk ?_|fail)
   all_goals first
    |rfl
    |(exfalso;simp at h;exact he h)
  ·refine M.F Tryz.func161 ?_
   repeat'(first|refine M.go ?_|refine M.c2 (hp) ?_|((with_reducible refine D.aw ?_);(fail_if_success with_reducible refine D.stopR (id:=22) ?_);(fail_if_success with_reducible refine D.stopS (id:=22) ?_);first|refine M.ga ?_|((with_reducible refine D.blk ?_);refine AW.block ?_)|refine AW.condS U (fun h=> ?_) (fun h=> ?_))|refine M.gk ?_|fail)
   all_goals first
    |rfl
    |(exfalso;simp at h;exact he h)
  ·omega
theorem Zwq{f:Fm}(hf:f.full≤300000)(hp:ym c.tys f=0→c.room 0 1=0→PC E 108 [.agg (c.with_ f).view,.agg p.view] (Zj0 f0 u0 e0))(b0:ym c.tys f=0→c.room 0 1=0→f0.full≤266240):
 PC E 161 [.agg c.view,.agg (Pf.mk 6 0 (.mk 0 []) [] [f] [p]).view] (Za8 (Zr9 f (fun _=>(f0,u0,e0)) c)):=by
 have hl:=hc.len
 have hn:=hc.nh
 have h1:=Zfh c.tys f (by omega) (by have:=hc.sum;omega)
 have h2:=Zf6 c 0 1 (by omega) (by omega)
 have h3:=Zig c f (by omega)
 unfold Zr9
 by_cases t0:ym c.tys f=0
 ·rw [if_neg (by simp[t0])]
  rw[t0] at h1
  by_cases r0:c.room 0 1=0
  ·rw [if_neg (by simp[r0])]
   rw[r0] at h2
   have h5:=hp t0 r0
   have b1:=b0 t0 r0
   have h4:=Zg8 3 f f0 (by omega) (by omega)
   refine M.F Tryz.func161 ?_
   repeat'(first|refine M.gw ?_|refine M.c2 (h1) ?_|refine M.c2 (h2) ?_|refine M.c2 (h3) ?_|refine M.c2 (h4) ?_|refine M.c2 (h5) ?_|((with_reducible refine D.blk ?_);refine AW.block ?_)|fail)
   rfl
  ·rw [if_pos r0]
   rw[Zgs r0] at h2
   refine M.F Tryz.func161 ?_
   repeat'(first|refine M.gw ?_|refine M.c2 (h1) ?_|refine M.c2 (h2) ?_|((with_reducible refine D.blk ?_);refine AW.block ?_)|fail)
   rfl
 ·rw [if_pos t0]
  refine M.F Tryz.func161 ?_
  repeat'(first|refine M.go ?_|refine M.c2 (h1) ?_|((with_reducible refine D.aw ?_);(fail_if_success with_reducible refine D.stopR (id:=29) ?_);(fail_if_success with_reducible refine D.stopS (id:=29) ?_);first|refine M.ga ?_|((with_reducible refine D.blk ?_);refine AW.block ?_)|refine AW.condS U (fun h=> ?_) (fun h=> ?_))|refine M.gk ?_|fail)
  all_goals first
   |rfl
   |(exfalso;simp at h;exact t0 h)
theorem Zw8(hp:PC E 108 [.agg c.view,.agg p.view] (Zj0 f0 u0 e0))(hq:PC E 108 [.agg c.view,.agg q.view] (Zj0 f1 u1 e1))(o0:Zdk c (f0,u0,e0))(o1:Zdk c (f1,u1,e1)):
 PC E 161 [.agg c.view,.agg (Pf.mk 7 0 (.mk 0 []) [] [] [p,q]).view] (Za8 (Zre (fun _=>(f0,u0,e0)) (fun _=>(f1,u1,e1)) c)):=by
 have b0:=Zqg hc o0
 have b1:=Zqg hc o1
 have h3:=uf u0 u1 (by omega) (by omega)
 unfold Zre
 by_cases he:e0=0
 case neg=>
  rw[if_pos he]
  refine M.F Tryz.func161 ?_
  repeat'(first|refine M.go ?_|refine M.c2 (hp) ?_|((with_reducible refine D.aw ?_);(fail_if_success with_reducible refine D.stopR (id:=38) ?_);(fail_if_success with_reducible refine D.stopS (id:=38) ?_);first|refine M.ga ?_|((with_reducible refine D.blk ?_);refine AW.block ?_)|refine AW.condS U (fun h=> ?_) (fun h=> ?_))|refine M.gk ?_|fail)
  all_goals first
   |rfl
   |(exfalso;simp at h;exact he h)
 subst he
 rw[if_neg (by simp)]
 by_cases hk:f0.kind=3
 case neg=>
  rw[if_pos hk]
  refine M.F Tryz.func161 ?_
  repeat'(first|refine M.gw ?_|refine M.c2 (hp) ?_|((with_reducible refine D.blk ?_);refine AW.block ?_)|refine AW.condS U (fun h=> ?_) (fun h=> ?_)|fail)
  all_goals first
   |rfl
   |(exfalso;simp at h;exact hk h)
   |trace_state
 rw[if_neg (by simp[hk])]
 obtain⟨x,y,e⟩:=Zk5 ((Fm.err_iff _).1 (o0.1 rfl).1).1 (.inr hk)
 simp only at e
 rw[hk] at e
 subst e
 by_cases he1:e1=0
 case neg=>
  rw[if_pos he1]
  refine M.F Tryz.func161 ?_
  repeat'(first|refine M.gw ?_|refine M.c2 (hp) ?_|refine M.c2 (hq) ?_|((with_reducible refine D.blk ?_);refine AW.block ?_)|refine AW.condS U (fun h=> ?_) (fun h=> ?_)|fail)
  all_goals first
   |rfl
   |(exfalso;simp at h;exact he1 h)
   |trace_state
 subst he1
 rw[if_neg (by simp)]
 have ex:=w4 (o0.1 rfl).1 (x:=x) (by simp[vk])
 have h4:=Zkz x f1 (by have:=yr ex;omega) (by omega)
 refine M.F Tryz.func161 ?_
 repeat'(first|refine M.gw ?_|refine M.c2 (hp) ?_|refine M.c2 (hq) ?_|refine M.c2 (h3) ?_|refine M.c2 (h4) ?_|((with_reducible refine D.blk ?_);refine AW.block ?_)|fail)
 rfl
end
theorem Zuh(f:Fm)(t:Tm):(Ze2 f t).1.full≤1200000000:=by
 unfold Ze2
 by_cases h:yo f 0 t=0
 ·rw [if_pos h];exact Zq2 h
 ·rw [if_neg h];exact Nat.le_trans (by decide:noFm.full≤2) (by decide)
section
variable {c:Ck} (hc:c.ok) {p q:Pf} {f0 f1:Fm} {u0 u1:List Int} {e0 e1:Int}
include hc
theorem Zc6{f:Fm}{t:Tm}(hf:f.full≤1200000000)(ht:t.full≤300000)(hp:PC E 108 [.agg c.view,.agg p.view] (Zj0 f0 u0 e0))(o0:Zdk c (f0,u0,e0)):
 PC E 235 [.agg c.view,.agg p.view,.agg f.view,.agg t.view] (.tup [.s .int (yz (fun _=>(f0,u0,e0)) c f t).1,.i (yz (fun _=>(f0,u0,e0)) c f t).2]):=by
 have b0:=Zqg hc o0
 have h1:=Zh5 f t (by omega) (by omega)
 have hb:=Zuh f t
 have h2:=Zkz (Ze2 f t).1 f0 (by omega) (by omega)
 unfold yz
 by_cases he:e0=0
 case neg=>
  rw[if_pos he]
  refine M.F Tryz.func235 ?_
  repeat'(first|refine M.go ?_|refine M.c2 (hp) ?_|((with_reducible refine D.aw ?_);(fail_if_success with_reducible refine D.stopR (id:=4) ?_);(fail_if_success with_reducible refine D.stopS (id:=4) ?_);first|refine M.ga ?_|refine AW.condS U (fun h=> ?_) (fun h=> ?_))|refine M.gk ?_|fail)
  all_goals first
   |rfl
   |(exfalso;simp at h;exact he h)
 subst he
 rw[if_neg (by simp)]
 by_cases h0:(Ze2 f t).2=0
 case neg=>
  rw[if_pos h0]
  refine M.F Tryz.func235 ?_
  repeat'(first|refine M.go ?_|refine M.c2 (hp) ?_|refine M.c2 (h1) ?_|((with_reducible refine D.aw ?_);(fail_if_success with_reducible refine D.stopR (id:=7) ?_);(fail_if_success with_reducible refine D.stopS (id:=7) ?_);first|refine M.ga ?_|refine AW.condS U (fun h=> ?_) (fun h=> ?_))|refine M.gk ?_|fail)
  all_goals first
   |rfl
   |(exfalso;simp at h;exact h0 h)
 rw[if_neg (by simp[h0])]
 rw[h0] at h1
 refine M.F Tryz.func235 ?_
 repeat'(first|refine M.gw ?_|refine M.c2 (hp) ?_|refine M.c2 (h1) ?_|refine M.c2 (h2) ?_|fail)
 rfl
theorem Zx3{k:Int}(hk:k=8∨k=12){s:Ty}(hs:s.err=0)(hp:c.room 1 0=0→PC E 108 [.agg (c.below [s]).view,.agg p.view] (Zj0 f0 u0 e0))(b0:c.room 1 0=0→f0.full≤266240∧u0.length≤16∧∀x∈u0,0≤x∧x≤1000000):
 PC E 205 [.agg c.view,.agg (Pf.mk k 0 s [] [] [p]).view] (Za8 (Yb1 k s (fun _=>(f0,u0,e0)) c)):=by
 have hl:=hc.len
 have hn:=hc.nh
 have h1:=Zf6 c 1 0 (by omega) (by omega)
 have hsz:=((Ty.err_iff s).1 hs).2
 unfold Yb1
 by_cases r0:c.room 1 0=0
 case neg=>
  rw[if_pos r0]
  rw[Zgs r0] at h1
  refine M.F Tryz.func205 ?_
  repeat'(first|refine M.gw ?_|refine M.c2 (h1) ?_|fail)
  rfl
 rw[if_neg (by simp[r0])]
 rw[r0] at h1
 have b:=b0 r0
 have h2:=Zfn c hc [s] (by simp) (by simp)
 have h3:=hp r0
 have h4:=Zxw u0
 have h5:=Zn7 u0 1 (by omega) (by omega) b.2.2
 have h6:=Zet 4 s f0 (by omega) (by omega)
 have h7:=Zet 6 s f0 (by omega) (by omega)
 by_cases he:e0=0
 case neg=>
  rw[if_pos he]
  refine M.F Tryz.func205 ?_
  repeat'(first|refine M.go ?_|refine M.c2 (h1) ?_|refine M.c2 (h2) ?_|refine M.c2 (h3) ?_|((with_reducible refine D.aw ?_);(fail_if_success with_reducible refine D.stopR (id:=7) ?_);(fail_if_success with_reducible refine D.stopS (id:=7) ?_);first|refine M.ga ?_|refine AW.condS U (fun h=> ?_) (fun h=> ?_))|refine M.gk ?_|fail)
  all_goals first
   |rfl
   |(exfalso;simp at h;exact he h)
   |trace_state
 subst he
 rw[if_neg (by simp)]
 rcases hk with rfl|rfl
 ·rw [if_pos rfl]
  refine M.F Tryz.func205 ?_
  repeat'(first|refine M.gw ?_|refine M.c2 (h1) ?_|refine M.c2 (h2) ?_|refine M.c2 (h3) ?_|refine M.c2 (h5) ?_|refine M.c2 (h6) ?_|fail)
  rfl
 ·rw [if_neg (by decide)]
  cases hh:Ya1 u0 with
  |true=>
   rw[hh] at h4
   rw[if_pos rfl]
   refine M.F Tryz.func205 ?_
   repeat'(first|refine M.gw ?_|refine M.c2 (h1) ?_|refine M.c2 (h2) ?_|refine M.c2 (h3) ?_|refine M.c2 (h4) ?_|fail)
   rfl
  |false=>
   rw[hh] at h4
   rw[if_neg (by simp)]
   refine M.F Tryz.func205 ?_
   repeat'(first|refine M.gw ?_|refine M.c2 (h1) ?_|refine M.c2 (h2) ?_|refine M.c2 (h3) ?_|refine M.c2 (h4) ?_|refine M.c2 (h5) ?_|refine M.c2 (h7) ?_|fail)
   rfl
theorem Ydo{k:Int}(hk:k=9∨k=13){t:Tm}(ht:t.full≤300000)(hp:PC E 108 [.agg c.view,.agg p.view] (Zj0 f0 u0 e0))(o0:Zdk c (f0,u0,e0)):
 PC E 206 [.agg c.view,.agg (Pf.mk k 0 (.mk 0 []) [t] [] [p]).view] (Za8 (atR k t (fun _=>(f0,u0,e0)) c)):=by
 have hl:=hc.len
 have hsum:=hc.sum
 have b0:=Zqg hc o0
 have h1:=Zjf c.tys t (by omega) (by omega)
 unfold atR
 by_cases t0:(yy c.tys t).2=0
 case neg=>
  rw[if_pos t0]
  refine M.F Tryz.func206 ?_
  repeat'(first|refine M.go ?_|refine M.c2 (h1) ?_|((with_reducible refine D.aw ?_);(fail_if_success with_reducible refine D.stopR (id:=5) ?_);(fail_if_success with_reducible refine D.stopS (id:=5) ?_);first|refine M.ga ?_|refine AW.condS U (fun h=> ?_) (fun h=> ?_))|refine M.gk ?_|fail)
  all_goals first
   |rfl
   |(exfalso;simp at h;exact t0 h)
 rw[if_neg (by simp[t0])]
 rw[t0] at h1
 obtain⟨_,t1,t2,_⟩:=Zax t0
 by_cases he:e0=0
 case neg=>
  rw[if_pos he]
  refine M.F Tryz.func206 ?_
  repeat'(first|refine M.go ?_|refine M.c2 (h1) ?_|refine M.c2 (hp) ?_|((with_reducible refine D.aw ?_);(fail_if_success with_reducible refine D.stopR (id:=8) ?_);(fail_if_success with_reducible refine D.stopS (id:=8) ?_);first|refine M.ga ?_|refine AW.condS U (fun h=> ?_) (fun h=> ?_))|refine M.gk ?_|fail)
  all_goals first
   |rfl
   |(exfalso;simp at h;exact he h)
   |(exfalso;simp at h;done)
 subst he
 rw[if_neg (by simp)]
 have hfr:=Ziu t t1 t2 (by omega)
 have hfl:=(vr t2).len
 have hun:=uf u0 (Zco t) (by omega) (by omega)
 by_cases hkd:f0.kind=kI k 13 6 4
 case neg=>
  rw[if_pos hkd]
  rcases hk with rfl|rfl
  all_goals
   refine M.F Tryz.func206 ?_
   repeat'(first|refine M.go ?_|refine M.c2 (h1) ?_|refine M.c2 (hp) ?_|refine M.c2 (hfr) ?_|refine M.c2 (hun) ?_|((with_reducible refine D.aw ?_);(fail_if_success with_reducible refine D.stopR (id:=13) ?_);(fail_if_success with_reducible refine D.stopS (id:=13) ?_);first|refine M.ga ?_|refine AW.condS U (fun h=> ?_) (fun h=> ?_))|refine M.gk ?_|fail)
   all_goals first
    |rfl
    |(exfalso;simp at h;exact hkd h)
    |trace_state
 rw[if_neg (by simp[hkd])]
 have hkk:4≤f0.kind∧f0.kind≤7:=by rw[hkd,kI];split<;>omega
 have s0:=(Fm.err_iff _).1 (o0.1 rfl).1
 obtain⟨x,e⟩:=Zhg s0.1 hkk
 simp only at e
 have ex:=w4 (o0.1 rfl).1 (x:=x) (by rw[show(f0,u0,(0:Int)).1=f0 from rfl,e];simp[quF])
 have hte:=Zey s0.1 hkk
 have hsame:=xj _ f0.ty (yy c.tys t).1 (Nat.le_refl _) (by have:=((Ty.err_iff _).1 hte).2;simp only at this;omega)
 have hput:=Zh5 x t (by have:=yr ex;omega) (by omega)
 have hx:f0.args.getD 0 noFm=x:=by rw[e];rfl
 rw[hx]
 generalize hty:f0.ty=s at*
 by_cases hts:s=(yy c.tys t).1
 case neg=>
  rw[if_pos hts]
  rw[decide_eq_false hts] at hsame
  rw[hkd] at e
  subst e
  rcases hk with rfl|rfl
  all_goals
   simp only[kI] at*
   refine M.F Tryz.func206 ?_
   repeat'(first|refine M.gw ?_|refine M.c2 (h1) ?_|refine M.c2 (hp) ?_|refine M.c2 (hfr) ?_|refine M.c2 (hun) ?_|refine M.c2 (hsame) ?_|fail)
   all_goals first
    |rfl
    |trace_state
 rw[if_neg (by simp[hts])]
 rw[decide_eq_true hts] at hsame
 rw[hkd] at e
 subst e
 rcases hk with rfl|rfl
 all_goals
  simp only[kI] at*
  refine M.F Tryz.func206 ?_
  repeat'(first|refine M.gw ?_|refine M.c2 (h1) ?_|refine M.c2 (hp) ?_|refine M.c2 (hfr) ?_|refine M.c2 (hun) ?_|refine M.c2 (hsame) ?_|refine M.c2 (hput) ?_|fail)
  all_goals first
   |rfl
   |trace_state
end
end Go.Ab
