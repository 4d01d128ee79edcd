/- A part of the proofs of this seat's statements: S55, S56, S62, S61, S82. It has no conditions of its own. -/
import Derived.Test.YtdkjbjikpofgbaaGreatDoorA2
import Derived.Test.YtdkjbjikpofgbaaGreatDoorS3
import Derived.Test.YtdkjbjikpofgbaaGreatDoorD1
import Derived.Test.YtdkjbjikpofgbaaGreatDoorS1
namespace Go.Ab
open Go Go.Proofs
set_option maxRecDepth 100000
set_option maxHeartbeats 4000000
set_option linter.all false
theorem Zi4(k:Int):PC E 165 [.i k] (.bool (xi k)):=by
 have e:xi k=decide (k=4∨k=5∨k=6∨k=7):=by rw[Bool.eq_iff_iff,quantK_iff,decide_eq_true_iff];omega
 rw[e]
 refine M.F Tryz.func165 ?_
 repeat'(first|refine M.gw ?_|((fail_if_success refine AX.wt U ?_);refine AX.gs U U (fun _=>trivial) (fun h=> ?_) (fun h=> ?_))|fail)
 all_goals(simp_all[zi,V.wk,V.wks,za];try(first|omega|(rw[Bool.eq_iff_iff];simp)))
theorem Zdx(f:Fm):PC E 112 [.agg f.view] (.i (upF f.kind 0)):=by
 have h1:=Zi4 f.kind
 cases hq:xi f.kind with
 |true=>
  have e:upF f.kind 0=1:=by simp[upF,hq]
  rw[hq] at h1
  rw[e]
  refine M.F Tryz.func112 ?_
  repeat'(first|refine M.gw ?_|refine M.c2 (h1) ?_|fail)
  rfl
 |false=>
  have e:upF f.kind 0=0:=by simp[upF,hq]
  rw[hq] at h1
  rw[e]
  refine M.F Tryz.func112 ?_
  repeat'(first|refine M.gw ?_|refine M.c2 (h1) ?_|fail)
  rfl
theorem Ze9(k b:Int):b+upF k 0=upF k b:=by simp only[upF];split<;>omega
theorem Zi7(t:Ty):t.ok=(t.err==0):=Ty.ok_err t
theorem Zu9{f:Fm}(hk:f.kind=1):f.shape=(decide (f.args.length=0)&&f.ty.isNo&&decide (f.terms.length=2)&&f.terms.all Tm.shape):=by
 rw[Fm.shape_eq]
 simp only[Fm.head,hk,if_true]
 by_cases h:f.args.length=0
 ·have ha:f.args=[]:=List.length_eq_zero_iff.1 h
  rw[ha]
  cases f.ty.isNo<;>simp
  rw[Bool.eq_iff_iff];simp
 ·simp [h]
theorem Zrj{f:Fm}(hk:f.kind=2∨f.kind=3):f.shape=(decide (f.terms.length=0)&&f.ty.isNo&&decide (f.args.length=2)&&f.args.all Fm.shape):=by
 rw[Fm.shape_eq]
 have h1:¬f.kind=1:=by omega
 simp only[Fm.head,if_neg h1,if_pos hk]
 by_cases h:f.terms.length=0
 ·have ha:f.terms=[]:=List.length_eq_zero_iff.1 h
  rw[ha]
  cases f.ty.isNo<;>simp
  rw[Bool.eq_iff_iff];simp
 ·simp [h]
theorem Zor{f:Fm}(hk:xi f.kind=true):f.shape=(decide (f.terms.length=0)&&f.ty.ok&&decide (f.args.length=1)&&f.args.all Fm.shape):=by
 rw[Fm.shape_eq]
 rw[quantK_iff] at hk
 have h1:¬f.kind=1:=by omega
 have h2:¬(f.kind=2∨f.kind=3):=by omega
 have h3:f.kind=4∨f.kind=5∨f.kind=6∨f.kind=7:=by omega
 simp only[Fm.head,if_neg h1,if_neg h2,if_pos h3]
 by_cases h:f.terms.length=0
 ·have ha:f.terms=[]:=List.length_eq_zero_iff.1 h
  rw[ha]
  cases f.ty.ok<;>simp
  rw[Bool.eq_iff_iff];simp
 ·simp [h]
theorem Zwu{f:Fm}(h1:f.kind≠1)(h2:¬(f.kind=2∨f.kind=3))(h3:xi f.kind=false):f.shape=false:=by
 rw[Fm.shape_eq]
 have h4:¬(f.kind=4∨f.kind=5∨f.kind=6∨f.kind=7):=by
  intro hc
  have:xi f.kind=true:=by rw[quantK_iff];omega
  rw[h3] at this;cases this
 simp only[Fm.head,if_neg h1,if_neg h2,if_neg h4,Bool.false_and]
theorem Zlr:∀(n:Nat) (f:Fm),f.full≤n→n<549755813888→PC E 198 [.agg f.view] (.bool f.shape):=by
 intro n
 induction n with
 |zero=>intro f h;have:=f.full_pos;omega
 |succ n ih=>
 intro f hsz hn
 have hsz':=f.full_eq
 have hlen:=zc Fm.full Fm.full_pos f.args
 have hlen2:=zc Tm.full Tm.full_pos f.terms
 have hz:=Zjs f.ty
 have hty:=ut f.ty (by omega)
 have hq:=Zi4 f.kind
 have ht:∀x∈f.terms,PC E 100 [.agg x.view] (.bool x.shape):=fun x hx=>Zfw _ x (Nat.le_refl _) (by have:=zb Tm.full hx;omega)
 have ha:∀x∈f.args,PC E 198 [.agg x.view] (.bool x.shape):=fun x hx=>ih x (by have:=zb Fm.full hx;omega) (by omega)
 clear ih
 by_cases k1:f.kind=1
 ·have e:=Zu9 k1
  obtain⟨k,ty,ts,fs⟩:=f
  simp only[Fm.kind_mk,Fm.ty_mk,Fm.terms_mk,Fm.args_mk] at*
  subst k1
  by_cases hl:ts.length=2
  ·obtain ⟨a,b,rfl⟩:=Zwj hl
   have t1:=ht a (by simp)
   have t2:=ht b (by simp)
   rw[e]
   refine M.F Tryz.func198 ?_
   repeat'(first|refine M.gw ?_|refine M.c2 (hz) ?_|refine M.c2 (t1) ?_|refine M.c2 (t2) ?_|((fail_if_success refine AX.wt U ?_);refine AX.gs U U (fun _=>trivial) (fun h=> ?_) (fun h=> ?_))|((with_reducible refine D.sblk ?_);refine K.sq (AW.block ?_))|fail)
   all_goals(simp at*;simp_all[zi,V.wk,V.wks,za];done)
  ·have e2:(Fm.mk 1 ty ts fs).shape=false:=by rw[e];simp[hl]
   rw[e2]
   refine M.F Tryz.func198 ?_
   repeat'(first|refine M.gw ?_|refine M.c2 (hz) ?_|((fail_if_success refine AX.wt U ?_);refine AX.gs U U (fun _=>trivial) (fun h=> ?_) (fun h=> ?_))|((with_reducible refine D.sblk ?_);refine K.sq (AW.block ?_))|fail)
   all_goals first
    |(simp at*;simp_all[zi,V.wk,V.wks,za];done)
    |(exfalso;simp at*;omega)
 by_cases k2:f.kind=2∨f.kind=3
 ·have e:=Zrj k2
  obtain⟨k,ty,ts,fs⟩:=f
  simp only[Fm.kind_mk,Fm.ty_mk,Fm.terms_mk,Fm.args_mk] at*
  by_cases hl:fs.length=2
  ·obtain ⟨a,b,rfl⟩:=Zwj hl
   have t1:=ha a (by simp)
   have t2:=ha b (by simp)
   rw[e]
   rcases k2 with rfl|rfl
   all_goals
    refine M.F Tryz.func198 ?_
    repeat'(first|refine M.gw ?_|refine M.c2 (hz) ?_|refine M.c2 (t1) ?_|refine M.c2 (t2) ?_|((fail_if_success refine AX.wt U ?_);refine AX.gs U U (fun _=>trivial) (fun h=> ?_) (fun h=> ?_))|((with_reducible refine D.sblk ?_);refine K.sq (AW.block ?_))|fail)
    all_goals(simp at*;simp_all[zi,V.wk,V.wks,za];done)
  ·have e2:(Fm.mk k ty ts fs).shape=false:=by rw[e];simp[hl]
   rw[e2]
   rcases k2 with rfl|rfl
   all_goals
    refine M.F Tryz.func198 ?_
    repeat'(first|refine M.gw ?_|refine M.c2 (hz) ?_|((fail_if_success refine AX.wt U ?_);refine AX.gs U U (fun _=>trivial) (fun h=> ?_) (fun h=> ?_))|((with_reducible refine D.sblk ?_);refine K.sq (AW.block ?_))|fail)
    all_goals first
     |(simp at*;simp_all[zi,V.wk,V.wks,za];done)
     |(exfalso;simp at*;omega)
 cases k3:xi f.kind with
 |true=>
  have e:=Zor k3
  rw[k3] at hq
  have hk:f.kind=4∨f.kind=5∨f.kind=6∨f.kind=7:=by rw[quantK_iff] at k3;omega
  obtain⟨k,ty,ts,fs⟩:=f
  simp only[Fm.kind_mk,Fm.ty_mk,Fm.terms_mk,Fm.args_mk] at*
  rw[Zi7] at e
  by_cases hl:fs.length=1
  ·obtain ⟨a,rfl⟩:=Yap hl
   have t1:=ha a (by simp)
   rw[e]
   rcases hk with rfl|rfl|rfl|rfl
   all_goals
    refine M.F Tryz.func198 ?_
    repeat'(first|refine M.gw ?_|refine M.c2 (hty) ?_|refine M.c2 (hq) ?_|refine M.c2 (t1) ?_|((fail_if_success refine AX.wt U ?_);refine AX.gs U U (fun _=>trivial) (fun h=> ?_) (fun h=> ?_))|((with_reducible refine D.sblk ?_);refine K.sq (AW.block ?_))|fail)
    all_goals(simp at*;simp_all[zi,V.wk,V.wks,za];done)
  ·have e2:(Fm.mk k ty ts fs).shape=false:=by rw[e];simp[hl]
   rw[e2]
   rcases hk with rfl|rfl|rfl|rfl
   all_goals
    refine M.F Tryz.func198 ?_
    repeat'(first|refine M.gw ?_|refine M.c2 (hty) ?_|refine M.c2 (hq) ?_|((fail_if_success refine AX.wt U ?_);refine AX.gs U U (fun _=>trivial) (fun h=> ?_) (fun h=> ?_))|((with_reducible refine D.sblk ?_);refine K.sq (AW.block ?_))|fail)
    all_goals first
     |(simp at*;simp_all[zi,V.wk,V.wks,za];done)
     |(exfalso;simp at*;omega)
 |false=>
  have e:=Zwu k1 k2 k3
  rw[k3] at hq
  rw[e]
  refine M.F Tryz.func198 ?_
  repeat'(first|refine M.gw ?_|refine M.c2 (hq) ?_|((fail_if_success refine AX.wt U ?_);refine AX.gs U U (fun _=>trivial) (fun h=> ?_) (fun h=> ?_))|((with_reducible refine D.sblk ?_);refine K.sq (AW.block ?_))|refine AW.condS U (fun h=> ?_) (fun h=> ?_)|fail)
  all_goals first
   |rfl
   |(exfalso;simp at*;omega)
theorem Zdu:∀(n:Nat) (f:Fm),f.full≤n→n<549755813888→PC E 214 [.agg f.view] (.i f.size):=by
 intro n
 induction n with
 |zero=>intro f h;have:=f.full_pos;omega
 |succ n ih=>
 intro f hsz hn
 have hsz':=f.full_eq
 have hse:=f.size_eq
 have hlen:=zc Fm.full Fm.full_pos f.args
 have hlen2:=zc Tm.full Tm.full_pos f.terms
 have hle1:=yx (f:=Tm.size) (g:=Tm.full) f.terms fun x _=>x.size_le_full
 have hle2:=yx (f:=Fm.size) (g:=Fm.full) f.args fun x _=>x.size_le_full
 refine M.F Tryz.func214 ?_
 repeat'(first|refine M.gw ?_|fail)
 refine AW.range f.terms.length (fun m=>True)
  (fun m=>([(1,.ptr 0 0),(3,.i (1+((f.terms.take m).map Tm.size).sum:Nat)),(9,.s .tm f.terms),(10,.i f.terms.length),(11,.i m)],⟨1,[(0,.var f.view)]⟩))
  (by omega) (fun m=>rfl) (fun m=>rfl) rfl trivial (M.W [some 0]) ?_ ?_
 ·intro m hm _
  have hs1:=yk Tm.size f.terms m hm
  have hs2:=zb Tm.full (List.getElem_mem hm)
  have hs3:=zk Tm.size f.terms (m+1)
  have hc:=yq _ f.terms[m] (Nat.le_refl _) (by omega)
  repeat'(first|refine M.gw ?_|refine M.c2 (hc) ?_|fail)
  refine⟨rfl,trivial,?_⟩
  simp only[hs1]
  exact(M.W [some 0] (hf:=(by(repeat'(first|exact trivial|refine And.intro ?_ ?_|refine⟨_,U,_,U,?_⟩|exact VLe.refl _|exact VLe.of_eq (by simp[Sto.upd,Int.natCast_add,Int.add_assoc])));done)))
 ·intro _
  simp only[List.take_length]
  repeat'(first|refine M.gw ?_|fail)
  refine AW.range f.args.length (fun m=>True)
   (fun m=>([(1,.ptr 0 0),(3,.i (1+(f.terms.map Tm.size).sum+((f.args.take m).map Fm.size).sum:Nat)),(21,.s .fm f.args),(22,.i f.args.length),(23,.i m)],⟨1,[(0,.var f.view)]⟩))
   (by omega) (fun m=>rfl) (fun m=>rfl) rfl trivial (M.W [some 0]) ?_ ?_
  ·intro m hm _
   have hs1:=yk Fm.size f.args m hm
   have hs2:=zb Fm.full (List.getElem_mem hm)
   have hs3:=zk Fm.size f.args (m+1)
   have hc:=ih f.args[m] (by omega) (by omega)
   repeat'(first|refine M.gw ?_|refine M.c2 (hc) ?_|fail)
   refine⟨rfl,trivial,?_⟩
   simp only[hs1]
   exact(M.W [some 0] (hf:=(by(repeat'(first|exact trivial|refine And.intro ?_ ?_|refine⟨_,U,_,U,?_⟩|exact VLe.refl _|exact VLe.of_eq (by simp[Sto.upd,Int.natCast_add,Int.add_assoc])));done)))
  ·intro _
   simp only[List.take_length]
   repeat'(first|refine M.gw ?_|fail)
   rw[hse]
   rfl
theorem Zaz(f:Fm)(hf:f.full<549755813888):PC E 162 [.agg f.view] (.i f.err):=by
 have h1:=Zlr _ f (Nat.le_refl _) hf
 have h2:=Zdu _ f (Nat.le_refl _) hf
 have hle:=f.size_le_full
 cases hs:f.shape with
 |false=>
  have e:f.err=2:=by simp[Fm.err,hs]
  rw[hs] at h1
  rw[e]
  refine M.F Tryz.func162 ?_
  repeat'(first|refine M.gw ?_|refine M.c2 (h1) ?_|fail)
  rfl
 |true=>
  rw[hs] at h1
  by_cases hz:f.size>4096
  ·have e:f.err=4:=by simp[Fm.err,hs,hz]
   rw[e]
   refine M.F Tryz.func162 ?_
   repeat'(first|refine M.gw ?_|refine M.c2 (h1) ?_|refine M.c2 (h2) ?_|refine AW.condS U (fun h=> ?_) (fun h=> ?_)|fail)
   ·rfl
   ·exfalso;simp at h;omega
  ·have e:f.err=0:=by simp[Fm.err,hs,hz]
   rw[e]
   refine M.F Tryz.func162 ?_
   repeat'(first|refine M.gw ?_|refine M.c2 (h1) ?_|refine M.c2 (h2) ?_|refine AW.condS U (fun h=> ?_) (fun h=> ?_)|fail)
   ·exfalso;simp at h;omega
   ·rfl
theorem Zx2:∀(n:Nat) (f:Fm) (at_:Int),f.full≤n→n<274877906944→-274877906944≤at_→at_+n<549755813888→f.shape=true→PC E 236 [.agg f.view,.i at_] (.bool (decide (y1 at_ f≠0))):=by
 intro n
 induction n with
 |zero=>intro f at_ h;have:=f.full_pos;omega
 |succ n ih=>
 intro f at_ hsz hn h1 h2 hs
 have hsz':=f.full_eq
 have hlen:=zc Fm.full Fm.full_pos f.args
 have hlen2:=zc Tm.full Tm.full_pos f.terms
 have he:=Zj4 (at_:=at_) hs
 have hup:=Zhw f.kind at_
 have hpl:=Ze9 f.kind at_
 have hb:=Zdx f
 refine M.F Tryz.func236 ?_
 repeat'(first|refine M.gw ?_|fail)
 refine AW.range f.terms.length (fun m=>∀j (hj:j<f.terms.length),j<m→yt at_ f.terms[j]=0)
  (fun m=>([(1,.i at_),(2,.ptr 0 0),(10,.s .tm f.terms),(11,.i f.terms.length),(12,.i m)],⟨1,[(0,.var f.view)]⟩))
  (by omega) (fun m=>rfl) (fun m=>rfl) rfl (fun j hj h=>by omega) (M.W [some 0]) ?_ ?_
 ·intro m hm hP
  have hs2:=zb Tm.full (List.getElem_mem hm)
  have hc:=Ybo _ f.terms[m] at_ (Nat.le_refl _) (by omega) (by omega) (by omega) (yd hs (List.getElem_mem hm))
  repeat'(first|refine M.gw ?_|refine M.c2 (hc) ?_|refine AW.condS U (fun h=> ?_) (fun h=> ?_)|fail)
  ·have hx:yt at_ f.terms[m]≠0:=by simpa using h
   have:=Zm7 hm hx
   rw[he,decide_eq_true (show _≠0 by omega)];rfl
  ·have hx:yt at_ f.terms[m]=0:=by simpa using h
   exact⟨rfl,yb (p:=fun t'=>yt at_ t'=0) hm hP hx,(M.W [some 0])⟩
 ·intro hP
  rw[Zib (f:=yt at_) fun j hj=>hP j hj hj,Nat.zero_add] at he
  repeat'(first|refine M.gw ?_|fail)
  refine AW.range f.args.length (fun m=>∀j (hj:j<f.args.length),j<m→y1 (upF f.kind at_) f.args[j]=0)
   (fun m=>([(1,.i at_),(2,.ptr 0 0),(21,.s .fm f.args),(22,.i f.args.length),(23,.i m)],⟨1,[(0,.var f.view)]⟩))
   (by omega) (fun m=>rfl) (fun m=>rfl) rfl (fun j hj h=>by omega) (M.W [some 0]) ?_ ?_
  ·intro m hm hP
   have hs2:=zb Fm.full (List.getElem_mem hm)
   have hc:=ih f.args[m] (upF f.kind at_) (by omega) (by omega) (by omega) (by omega) (zo hs (List.getElem_mem hm))
   rw[←hpl] at hc
   rw[←hpl] at hP he
   repeat'(first|refine M.gw ?_|refine M.c2 (hb) ?_|refine M.c2 (hc) ?_|refine AW.condS U (fun h=> ?_) (fun h=> ?_)|fail)
   ·have hx:y1 (at_+upF f.kind 0) f.args[m]≠0:=by simpa using h
    rw[he,decide_eq_true (Zm7 hm hx)];rfl
   ·have hx:y1 (at_+upF f.kind 0) f.args[m]=0:=by simpa using h
    exact⟨rfl,by rw[←hpl];exact yb (p:=fun t'=>y1 (at_+upF f.kind 0) t'=0) hm hP hx,(M.W [some 0])⟩
  ·intro hP
   rw[he,Zib fun j hj=>hP j hj hj]
   repeat'(first|refine M.gw ?_|fail)
   rfl
theorem Zwo:∀(n:Nat) (f:Fm) (g:List Ty),f.full≤n→n<100000000→f.shape=true→(∀x∈g,x.err=0)→g.length+n<274877906944→g.length+f.size<100000→PC E 226 [.s .ty g,.agg f.view] (.i (f.tyE g)):=by
 intro n
 induction n with
 |zero=>intro f g h;have:=f.full_pos;omega
 |succ n ih=>
 intro f g hsz hn hs hg hgl hgz
 have hsz':=f.full_eq
 have hse:=f.size_eq
 have hlen:=zc Fm.full Fm.full_pos f.args
 have hlen2:=zc Tm.full Tm.full_pos f.terms
 have he:=Fm.tyE_eq g f
 have hq:=Zi4 f.kind
 refine M.F Tryz.func226 ?_
 repeat'(first|refine M.gw ?_|fail)
 refine AW.range f.terms.length (fun m=>∀j (hj:j<f.terms.length),j<m→tE g f.terms[j]=0)
  (fun m=>([(0,.s .ty g),(3,.ptr 0 0),(13,.s .tm f.terms),(14,.i f.terms.length),(15,.i m)],⟨1,[(0,.var f.view)]⟩))
  (by omega) (fun m=>rfl) (fun m=>rfl) rfl (fun j hj h=>by omega) (M.W [some 0]) ?_ ?_
 ·intro m hm hP
  have hs2:=zb Tm.full (List.getElem_mem hm)
  have hc:=Zn8 g f.terms[m] (by omega) hg (by omega)
  have hfi:tE g f.terms[m]≠0→f.tyE g=tE g f.terms[m]:=fun hx=>by
   have h1:=Za5 hm hP hx
   rw[he,h1,if_pos hx]
  by_cases hx:(Zau g f.terms[m]).2=0
  ·by_cases hk:(Zau g f.terms[m]).1.kind=1
   ·have ht:tE g f.terms[m]=0:=by simp[tE,hx,hk]
    rw[hx] at hc
    repeat'(first|refine M.gw ?_|refine M.c2 (hc) ?_|refine AW.condS U (fun h=> ?_) (fun h=> ?_)|fail)
    ·exfalso;simp at h;exact h hk
    ·exact ⟨rfl,yb (p:=fun t'=>tE g t'=0) hm hP ht,(M.W [some 0])⟩
   ·have ht:tE g f.terms[m]=7:=by simp[tE,hx,hk]
    rw[ht] at hfi
    rw[hfi (by decide)]
    rw[hx] at hc
    repeat'(first|refine M.gw ?_|refine M.c2 (hc) ?_|refine AW.condS U (fun h=> ?_) (fun h=> ?_)|fail)
    ·rfl
    ·exfalso;simp at h;exact hk h
  ·have ht:tE g f.terms[m]=(Zau g f.terms[m]).2:=by simp[tE,hx]
   rw[ht] at hfi
   rw[hfi hx]
   repeat'(first|refine M.gw ?_|refine M.c2 (hc) ?_|refine AW.condS U (fun h=> ?_) (fun h=> ?_)|fail)
   ·rfl
   all_goals(exfalso;simp_all)
 ·intro hP
  have h0:y9 (tE g) f.terms=0:=wm fun j hj _=>hP j hj hj
  rw[if_neg (by simp[h0])] at he
  have htyl:=f.ty.size_pos
  have hrest:∀g',g'=Ze7 g f→(∀x∈g',x.err=0)∧g'.length≤g.length+1∧∀(m:Nat) (hm:m<f.args.length),PC E 226 [.s .ty g',.agg f.args[m].view] (.i (f.args[m].tyE g')):=fun g' hg'=>by
   have hl:g'.length≤g.length+1:=by rw[hg'];simp only[Ze7];split<;>simp
   have hee:∀x∈g',x.err=0:=fun x hx=>by
    rw[hg'] at hx
    simp only[Ze7] at hx
    split at hx
    ·rename_i hqk
     rcases List.mem_append.1 hx with hx|hx
     ·exact hg x hx
     ·rw [List.mem_singleton] at hx;subst hx
      have h1:=Zor hqk
      rw[hs] at h1
      have h2:f.ty.ok=true:=by
       cases ho:f.ty.ok with
       |true=>rfl
       |false=>rw[ho] at h1;simp at h1
      rw[Zi7] at h2
      simpa using h2
    ·exact hg x hx
   refine⟨hee,hl,fun m hm=> ?_⟩
   have hs2:=zb Fm.full (List.getElem_mem hm)
   have hs3:=zb Fm.size (List.getElem_mem hm)
   exact ih f.args[m] g' (by omega) (by omega) (zo hs (List.getElem_mem hm)) hee (by omega) (by omega)
  cases hqk:xi f.kind with
  |true=>
   rw[hqk] at hq
   have hcx:Ze7 g f=g++[f.ty]:=Zdt hqk
   obtain⟨_,_,hcall⟩:=hrest (g++[f.ty]) hcx.symm
   rw[hcx] at he
   repeat'(first|refine M.gw ?_|refine M.c2 (hq) ?_|fail)
   refine AW.range f.args.length (fun m=>∀j (hj:j<f.args.length),j<m→f.args[j].tyE (g++[f.ty])=0)
    (fun m=>([(0,.s .ty (g++[f.ty])),(3,.ptr 0 0),(46,.s .fm f.args),(47,.i f.args.length),(48,.i m)],⟨1,[(0,.var f.view)]⟩))
    (by omega) (fun m=>rfl) (fun m=>rfl) rfl (fun j hj h=>by omega) (M.W [some 0]) ?_ ?_
   ·intro m hm hP
    have hc:=hcall m hm
    by_cases hx:f.args[m].tyE (g++[f.ty])=0
    ·rw [hx] at hc
     repeat'(first|refine M.gw ?_|refine M.c2 (hc) ?_|fail)
     exact⟨rfl,yb (p:=fun t'=>Fm.tyE (g++[f.ty]) t'=0) hm hP hx,(M.W [some 0])⟩
    ·rw [he,Za5 hm hP hx]
     repeat'(first|refine M.gw ?_|refine M.c2 (hc) ?_|refine AW.condS U (fun h=> ?_) (fun h=> ?_)|fail)
     ·rfl
     ·exfalso;simp at h;exact hx h
   ·intro hP
    rw[he,wm fun j hj _=>hP j hj hj]
    repeat'(first|refine M.gw ?_|fail)
    rfl
  |false=>
   rw[hqk] at hq
   have hcx:Ze7 g f=g:=Zdn (by simp[hqk])
   obtain⟨_,_,hcall⟩:=hrest g hcx.symm
   rw[hcx] at he
   repeat'(first|refine M.gw ?_|refine M.c2 (hq) ?_|fail)
   refine AW.range f.args.length (fun m=>∀j (hj:j<f.args.length),j<m→f.args[j].tyE g=0)
    (fun m=>([(0,.s .ty g),(3,.ptr 0 0),(46,.s .fm f.args),(47,.i f.args.length),(48,.i m)],⟨1,[(0,.var f.view)]⟩))
    (by omega) (fun m=>rfl) (fun m=>rfl) rfl (fun j hj h=>by omega) (M.W [some 0]) ?_ ?_
   ·intro m hm hP
    have hc:=hcall m hm
    by_cases hx:f.args[m].tyE g=0
    ·rw [hx] at hc
     repeat'(first|refine M.gw ?_|refine M.c2 (hc) ?_|fail)
     exact⟨rfl,yb (p:=fun t'=>Fm.tyE g t'=0) hm hP hx,(M.W [some 0])⟩
    ·rw [he,Za5 hm hP hx]
     repeat'(first|refine M.gw ?_|refine M.c2 (hc) ?_|refine AW.condS U (fun h=> ?_) (fun h=> ?_)|fail)
     ·rfl
     ·exfalso;simp at h;exact hx h
   ·intro hP
    rw[he,wm fun j hj _=>hP j hj hj]
    repeat'(first|refine M.gw ?_|fail)
    rfl
theorem Zfg(g:List Ty)(f:Fm)(hf:f.full<549755813888)(hg:∀x∈g,x.err=0)(hgl:g.length<90000):PC E 196 [.s .ty g,.agg f.view] (.i (ww g f)):=by
 have h1:=Zaz f hf
 by_cases he:f.err=0
 ·have h2:=(Fm.err_iff f).1 he
  have h3:=yr he
  have h4:=Zwo _ f g (Nat.le_refl _) (by omega) h2.1 hg (by omega) (by omega)
  have e:ww g f=f.tyE g:=by simp only[ww];rw[if_neg (by simp[he])]
  rw[he] at h1
  rw[e]
  refine M.F Tryz.func196 ?_
  repeat'(first|refine M.gw ?_|refine M.c2 (h1) ?_|refine M.c2 (h4) ?_|fail)
  rfl
 ·have e:ww g f=f.err:=by simp only[ww];rw[if_pos he]
  rw[e]
  refine M.F Tryz.func196 ?_
  repeat'(first|refine M.gw ?_|refine M.c2 (h1) ?_|refine AW.condS U (fun h=> ?_) (fun h=> ?_)|fail)
  ·rfl
  ·exfalso;simp at h;exact he h
theorem Zfh(g:List Ty)(f:Fm)(hf:f.full<549755813888)(hg:(g.map Ty.size).sum<1099511627776):PC E 157 [.s .ty g,.agg f.view] (.i (ym g f)):=by
 have h1:=Zen g hg
 by_cases he:y6 g=0
 ·have h2:=vj he
  have h4:=Zfg g f hf h2.2 (by omega)
  have e:ym g f=ww g f:=by simp only[ym];rw[if_neg (by simp[he])]
  rw[he] at h1
  rw[e]
  refine M.F Tryz.func157 ?_
  repeat'(first|refine M.gw ?_|refine M.c2 (h1) ?_|refine M.c2 (h4) ?_|fail)
  rfl
 ·have e:ym g f=y6 g:=by simp only[ym];rw[if_pos he]
  rw[e]
  refine M.F Tryz.func157 ?_
  repeat'(first|refine M.gw ?_|refine M.c2 (h1) ?_|refine AW.condS U (fun h=> ?_) (fun h=> ?_)|fail)
  ·rfl
  ·exfalso;simp at h;exact he h
theorem Zug{at_ b:Int}{s t:Tm}(h:t.kind≠1):t.re (y5 at_ s) b= .mk t.kind t.index t.ty (t.args.map fun x=>x.re (y5 at_ s) (up t.kind b)):=y8 h
theorem Ydg(at_:Int)(s:Tm)(hat:0≤at_∧at_<137438953472)(hs:s.shape=true)(hsf:s.full<137438953472)(hsi:∀p∈s.vars 0,0≤p.1∧p.1<274877906944):∀(n:Nat) (t:Tm) (dp:Int),t.full≤n→n<137438953472→0≤dp→dp+n<274877906944→t.shape=true→(∀p∈t.vars 0,0≤p.1∧p.1<274877906944)→
 PC E 275 [.agg t.view,.i at_,.i dp,.agg s.view] (.agg (t.re (y5 at_ s) dp).view):=by
 intro n
 induction n with
 |zero=>intro t dp h;have:=t.full_pos;omega
 |succ n ih=>
 intro t dp hsz hn h1 h2 ht hix
 have hsz':=Tm.full_eq t
 have hlen:=zc Tm.full Tm.full_pos t.args
 have hup:=Zrf t.kind dp
 have hpl:=Zg6 t.kind dp
 have hb:=Zdl t
 by_cases hv:t.kind=1
 ·have hti:=hix (t.index,0) (by rw[vt ht hv];simp)
  rw[Zhz ht hv]
  generalize t.index=i at hti
  simp only at hti
  rw[Zek,Zad]
  have hvi:(vT i).index=i:=rfl
  have hu:=Zzn (at_+dp) (by omega) _ s 0 (Nat.le_refl _) (by omega) (by omega) (by omega) hs fun p hp=>by have:=hsi p hp;omega
  have hvc:=Zbb (i-1)
  clear ih hix
  by_cases h3:i-dp=at_
  ·rw [if_pos h3]
   have h3':i=at_+dp:=by omega
   subst h3'
   refine M.F Tryz.func275 ?_
   repeat'(first|refine M.go ?_|refine M.c2 (hu) ?_|((with_reducible refine D.aw ?_);(fail_if_success with_reducible refine D.stopR (id:=4) ?_);(fail_if_success with_reducible refine D.stopS (id:=4) ?_);first|refine M.ga ?_|refine AW.condS U (fun h=> ?_) (fun h=> ?_))|refine M.gk ?_|fail)
   all_goals first
    |rfl
    |(exfalso;simp at h;done)
    |(exfalso;simp at h;omega)
  ·rw [if_neg h3]
   by_cases h4:i-dp>at_
   ·rw [if_pos h4]
    refine M.F Tryz.func275 ?_
    repeat'(first|refine M.go ?_|((with_reducible refine D.aw ?_);(fail_if_success with_reducible refine D.stopR (id:=3) ?_);(fail_if_success with_reducible refine D.stopS (id:=3) ?_);(fail_if_success with_reducible refine D.stopR (id:=5) ?_);(fail_if_success with_reducible refine D.stopS (id:=5) ?_);(fail_if_success with_reducible refine D.stopR (id:=6) ?_);(fail_if_success with_reducible refine D.stopS (id:=6) ?_);first|refine M.ga ?_|refine AW.condS U (fun h=> ?_) (fun h=> ?_))|refine M.gk ?_|fail)
    all_goals first
     |(exfalso;simp at h;omega)
     |skip
    repeat'(first|refine M.gw ?_|refine M.c2 (hvc) ?_|fail)
    rfl
   ·rw [if_neg h4]
    refine M.F Tryz.func275 ?_
    repeat'(first|refine M.go ?_|((with_reducible refine D.aw ?_);(fail_if_success with_reducible refine D.stopR (id:=3) ?_);(fail_if_success with_reducible refine D.stopS (id:=3) ?_);(fail_if_success with_reducible refine D.stopR (id:=5) ?_);(fail_if_success with_reducible refine D.stopS (id:=5) ?_);(fail_if_success with_reducible refine D.stopR (id:=6) ?_);(fail_if_success with_reducible refine D.stopS (id:=6) ?_);first|refine M.ga ?_|refine AW.condS U (fun h=> ?_) (fun h=> ?_))|refine M.gk ?_|fail)
    all_goals first
     |(exfalso;simp at h;omega)
     |skip
    repeat'(first|refine M.gw ?_|fail)
    rfl
 have he:=Zug (at_:=at_) (b:=dp) (s:=s) hv
 refine M.F Tryz.func275 ?_
 repeat'(first|refine M.go ?_|((with_reducible refine D.aw ?_);(fail_if_success with_reducible refine D.stopR (id:=2) ?_);(fail_if_success with_reducible refine D.stopS (id:=2) ?_);first|refine M.ga ?_|refine AW.condS U (fun h=> ?_) (fun h=> ?_))|refine M.gk ?_|fail)
 all_goals first
  |(exfalso;simp at h;exact hv h)
  |skip
 skip
 refine AW.range t.args.length (fun m=>True) (fun m=>([(1,.i at_),(2,.i dp),(4,.ptr 0 0),(7,.ptr 1 0),(8,.ptr 2 0),(9,.ptr 3 0),(45,.s .tm t.args),(46,.i t.args.length),(47,.i m)],⟨5,[(0,.var t.view),(1,.var s.view),(2,.var [.i 0,.i 0,.i 0,.slice .nil (.t .ty []),.slice .nil (.t .tm [])]),(3,.var [.i t.kind,.i t.index,.i t.ty.kind,.s .ty t.ty.args,.slice (.own 4) (.t .tm ((t.args.take m).map fun x=>x.re (y5 at_ s) (up t.kind dp)))]),(4,.row)]⟩))
  (by omega) (fun m=>rfl) (fun m=>rfl) rfl trivial (M.W [some 0,some 1,some 2,some 3,none]) ?_ ?_
 ·intro m hm _
  have hs2:=zb Tm.full (List.getElem_mem hm)
  have hc:=ih t.args[m] (up t.kind dp) (by omega) (by omega) (by omega) (by omega) (zd ht _ (List.getElem_mem hm)) (fun p hp=>by
   obtain⟨q,hq,hqe⟩:=Znh (b':=up t.kind 0) p hp
   have:=hix q (Zdb hv (List.getElem_mem hm) hq)
   rw[←hqe];exact this)
  rw[←hpl] at hc
  simp only[←hpl]
  repeat'(first|refine M.gw ?_|refine M.c2 (hb) ?_|refine M.c2 (hc) ?_|fail)
  exact⟨rfl,trivial,(M.W [some 0,some 1,some 2,some 3,some 6] (he:=(by(repeat'(first|exact trivial|exact Or.inr ⟨_,U,rfl⟩|refine And.intro ?_ ?_|refine⟨_,U,_,U,_,U,?_⟩|exact VLe.refl _|exact VLe.of_eq (by simp[Sto.upd,yc _ _ _ hm])));done)))⟩
 ·intro _
  simp only[List.take_length]
  repeat'(first|refine M.gw ?_|fail)
  rw[he]
  simp[zi,V.wk,V.wks,za,Ty.view,Tm.view]
theorem Zju{t:Tm}(h:t.near=true):∀q∈t.vars 0,q.1≤536870912:=fun q hq=>by simpa using List.all_eq_true.1 h q hq
theorem Zri:∀(n:Nat) (f:Fm) (at_:Int),f.full≤n→n<274877906944→-274877906944≤at_→at_+n<549755813888→f.shape=true→PC E 264 [.agg f.view,.i at_] (.i (y1 at_ f)):=by
 intro n
 induction n with
 |zero=>intro f at_ h;have:=f.full_pos;omega
 |succ n ih=>
 intro f at_ hsz hn h1 h2 hs
 have hsz':=f.full_eq
 have hlen:=zc Fm.full Fm.full_pos f.args
 have hlen2:=zc Tm.full Tm.full_pos f.terms
 have he:=Zj4 (at_:=at_) hs
 have hup:=Zhw f.kind at_
 have hpl:=Ze9 f.kind at_
 have hb:=Zdx f
 have hle1:∀m,((f.terms.take m).map (yt at_)).sum≤(f.terms.map Tm.full).sum:=fun m=>by
  have a1:=zk Tm.full f.terms m
  have a2:=yx (f:=yt at_) (g:=Tm.full) (f.terms.take m) fun x _=>Nat.le_trans (Zbw x _) x.size_le_full
  omega
 have hle2:∀m,((f.args.take m).map (y1 (upF f.kind at_))).sum≤(f.args.map Fm.full).sum:=fun m=>by
  have a1:=zk Fm.full f.args m
  have a2:=yx (f:=y1 (upF f.kind at_)) (g:=Fm.full) (f.args.take m) fun x _=>Nat.le_trans (Zgk _ x) x.size_le_full
  omega
 refine M.F Tryz.func264 ?_
 repeat'(first|refine M.gw ?_|fail)
 refine AW.range f.terms.length (fun m=>True)
  (fun m=>([(1,.i at_),(2,.ptr 0 0),(5,.i (((f.terms.take m).map (yt at_)).sum:Nat)),(11,.s .tm f.terms),(12,.i f.terms.length),(13,.i m)],⟨1,[(0,.var f.view)]⟩))
  (by omega) (fun m=>rfl) (fun m=>rfl) rfl trivial (M.W [some 0]) ?_ ?_
 ·intro m hm _
  have hs1:=yk (yt at_) f.terms m hm
  have hs2:=zb Tm.full (List.getElem_mem hm)
  have hs3:=hle1 m
  have hs4:=Zbw f.terms[m] at_
  have hs5:=f.terms[m].size_le_full
  have hc:=Zod _ f.terms[m] at_ (Nat.le_refl _) (by omega) (by omega) (by omega) (yd hs (List.getElem_mem hm))
  repeat'(first|refine M.gw ?_|refine M.c2 (hc) ?_|fail)
  refine⟨rfl,trivial,?_⟩
  simp only[hs1]
  exact(M.W [some 0])
 ·intro _
  have hs6:=hle1 f.terms.length
  simp only[List.take_length] at hs6 ⊢
  repeat'(first|refine M.gw ?_|fail)
  refine AW.range f.args.length (fun m=>True)
   (fun m=>([(1,.i at_),(2,.ptr 0 0),(5,.i ((f.terms.map (yt at_)).sum+((f.args.take m).map (y1 (upF f.kind at_))).sum:Nat)),(24,.s .fm f.args),(25,.i f.args.length),(26,.i m)],⟨1,[(0,.var f.view)]⟩))
   (by omega) (fun m=>rfl) (fun m=>rfl) rfl trivial (M.W [some 0]) ?_ ?_
  ·intro m hm _
   have hs1:=yk (y1 (upF f.kind at_)) f.args m hm
   have hs2:=zb Fm.full (List.getElem_mem hm)
   have hs3:=hle2 m
   have hs4:=Zgk (upF f.kind at_) f.args[m]
   have hs5:=f.args[m].size_le_full
   have hc:=ih f.args[m] (upF f.kind at_) (by omega) (by omega) (by omega) (by omega) (zo hs (List.getElem_mem hm))
   rw[←hpl] at hc hs1 hs3 hs4
   simp only[←hpl]
   repeat'(first|refine M.gw ?_|refine M.c2 (hb) ?_|refine M.c2 (hc) ?_|fail)
   refine⟨rfl,trivial,?_⟩
   simp only[hs1]
   exact(M.W [some 0] (hf:=(by(repeat'(first|exact trivial|refine And.intro ?_ ?_|refine⟨_,U,_,U,?_⟩|exact VLe.refl _|exact VLe.of_eq (by simp[Sto.upd,Int.natCast_add,Int.add_assoc])));done)))
  ·intro _
   simp only[List.take_length]
   repeat'(first|refine M.gw ?_|fail)
   rw[he]
   rfl
theorem Zrk(most:Int)(h0:0≤most):∀(n:Nat) (f:Fm),f.full≤n→n<549755813888→f.shape=true→PC E 262 [.agg f.view,.i most] (.bool (u2 most f)):=by
 intro n
 induction n with
 |zero=>intro f h;have:=f.full_pos;omega
 |succ n ih=>
 intro f hsz hn hs
 have hsz':=f.full_eq
 have hlen:=zc Fm.full Fm.full_pos f.args
 have hlen2:=zc Tm.full Tm.full_pos f.terms
 have he:=Zsm most f
 refine M.F Tryz.func262 ?_
 repeat'(first|refine M.gw ?_|fail)
 refine AW.range f.terms.length (fun m=>∀j (hj:j<f.terms.length),j<m→xg most f.terms[j]=true)
  (fun m=>([(1,.i most),(2,.ptr 0 0),(10,.s .tm f.terms),(11,.i f.terms.length),(12,.i m)],⟨1,[(0,.var f.view)]⟩))
  (by omega) (fun m=>rfl) (fun m=>rfl) rfl (fun j hj h=>by omega) (M.W [some 0]) ?_ ?_
 ·intro m hm hP
  have hs2:=zb Tm.full (List.getElem_mem hm)
  have hc:=Zjy most h0 _ f.terms[m] (Nat.le_refl _) (by omega) (yd hs (List.getElem_mem hm))
  repeat'(first|refine M.gw ?_|refine M.c2 (hc) ?_|refine AW.condS U (fun h=> ?_) (fun h=> ?_)|fail)
  ·have hx:xg most f.terms[m]=false:=by simpa using h
   rw[he,wo (xg most) hm hx];rfl
  ·have hx:xg most f.terms[m]=true:=by simpa using h
   exact⟨rfl,yb (p:=fun t=>xg most t=true) hm hP hx,(M.W [some 0])⟩
 ·intro hP
  rw[Zac (xg most) f.terms fun j hj=>hP j hj hj,Bool.true_and] at he
  repeat'(first|refine M.gw ?_|fail)
  refine AW.range f.args.length (fun m=>∀j (hj:j<f.args.length),j<m→u2 most f.args[j]=true)
   (fun m=>([(1,.i most),(2,.ptr 0 0),(22,.s .fm f.args),(23,.i f.args.length),(24,.i m)],⟨1,[(0,.var f.view)]⟩))
   (by omega) (fun m=>rfl) (fun m=>rfl) rfl (fun j hj h=>by omega) (M.W [some 0]) ?_ ?_
  ·intro m hm hP
   have hs2:=zb Fm.full (List.getElem_mem hm)
   have hc:=ih f.args[m] (by omega) (by omega) (zo hs (List.getElem_mem hm))
   repeat'(first|refine M.gw ?_|refine M.c2 (hc) ?_|refine AW.condS U (fun h=> ?_) (fun h=> ?_)|fail)
   ·have hx:u2 most f.args[m]=false:=by simpa using h
    rw[he,wo (u2 most) hm hx];rfl
   ·have hx:u2 most f.args[m]=true:=by simpa using h
    exact⟨rfl,yb (p:=fun t=>u2 most t=true) hm hP hx,(M.W [some 0])⟩
  ·intro hP
   rw[he,Zac (u2 most) f.args fun j hj=>hP j hj hj]
   repeat'(first|refine M.gw ?_|fail)
   rfl
theorem Zmr:∀(b:Nat) (t:Ty) (most:Int),t.size≤b→-1000≤most∧most≤1000000000→PC E 134 [.agg t.view,.i most] (.i (t.cn most)):=by
 intro b
 induction b with
 |zero=>intro t most h;have:=t.size_pos;omega
 |succ b ih=>
 intro t most hsz hm
 have hsz':=t.size_eq
 have he:=Ty.cn_eq most t
 have hbd:=t.cn_bd most
 refine M.F Tryz.func134 ?_
 repeat'(first|refine M.gw ?_|fail)
 refine AW.block (AW.upto t.args.length (fun i=>(i:Int)<Ty.cns most 1 (t.args.take i)∧(Ty.cns most 1 (t.args.take i)≤1∨Ty.cns most 1 (t.args.take i)≤most+1))
  (fun i=>([(1,.i most),(2,.ptr 0 0),(5,.i (Ty.cns most 1 (t.args.take i))),(6,.i i)],⟨1,[(0,.var t.view)]⟩))
  ⟨by simp[Ty.cns],.inl (by simp[Ty.cns])⟩ (M.W [some 0]) fun i hi hP=> ?_)
 obtain⟨p1,p2⟩:=hP
 by_cases hlt:i<t.args.length
 ·by_cases hle:Ty.cns most 1 (t.args.take i)≤most
  ·have htk:=Ty.cns_take hlt hle
   have hs2:=zb Ty.size (List.getElem_mem hlt)
   have hx:=t.args[i].cn_bd (most-Ty.cns most 1 (t.args.take i))
   have hc:=ih t.args[i] (most-Ty.cns most 1 (t.args.take i)) (by omega) (by omega)
   repeat'(first|refine M.go ?_|((fail_if_success refine AX.wt U ?_);refine AX.gs U U (fun _=>trivial) (fun h=> ?_) (fun h=> ?_))|((with_reducible refine D.aw ?_);(fail_if_success with_reducible refine D.stopR (id:=5) ?_);(fail_if_success with_reducible refine D.stopS (id:=5) ?_);first|refine M.ga ?_|refine AW.condS U (fun h=> ?_) (fun h=> ?_))|refine M.gk ?_|fail)
   all_goals first
    |(exfalso;simp at h;omega)
    |(exfalso;simp at*;omega)
    |skip
   refine K.sq (AW.block ?_)
   repeat'(first|refine M.gw ?_|refine M.c2 (hc) ?_|fail)
   refine⟨hlt,(show((i+1:Nat):Int)<Ty.cns most 1 (t.args.take (i+1))∧(Ty.cns most 1 (t.args.take (i+1))≤1∨Ty.cns most 1 (t.args.take (i+1))≤most+1) by omega),?_⟩
   simp only[htk]
   exact(M.W [some 0])
  ·have e:=Ty.cns_end hle
   repeat'(first|refine M.go ?_|((fail_if_success refine AX.wt U ?_);refine AX.gs U U (fun _=>trivial) (fun h=> ?_) (fun h=> ?_))|((with_reducible refine D.aw ?_);(fail_if_success with_reducible refine D.stopR (id:=5) ?_);(fail_if_success with_reducible refine D.stopS (id:=5) ?_);first|refine M.ga ?_|refine AW.condS U (fun h=> ?_) (fun h=> ?_))|refine M.gk ?_|fail)
   all_goals first
    |(exfalso;simp at*;omega)
    |(rw[he,e];rfl)
 ·have e:t.args.take i=t.args:=List.take_of_length_le (by omega)
  rw[e]
  repeat'(first|refine M.go ?_|((fail_if_success refine AX.wt U ?_);refine AX.gs U U (fun _=>trivial) (fun h=> ?_) (fun h=> ?_))|((with_reducible refine D.aw ?_);(fail_if_success with_reducible refine D.stopR (id:=5) ?_);(fail_if_success with_reducible refine D.stopS (id:=5) ?_);first|refine M.ga ?_|refine AW.condS U (fun h=> ?_) (fun h=> ?_))|refine M.gk ?_|fail)
  all_goals first
   |(exfalso;simp at*;omega)
   |(rw[he];rfl)
theorem Zuf:∀(b:Nat) (t:Tm) (most:Int),t.full≤b→-100≤most∧most≤1000000000→PC E 135 [.agg t.view,.i most] (.i (t.cn most)):=by
 intro b
 induction b with
 |zero=>intro t most h;have:=t.full_pos;omega
 |succ b ih=>
 intro t most hsz hm
 have hsz':=t.full_eq
 have he:=Tm.cn_eq most t
 have hbt:=t.ty.cn_bd (most-1)
 have h1:=Zmr _ t.ty (most-1) (Nat.le_refl _) (by omega)
 refine M.F Tryz.func135 ?_
 repeat'(first|refine M.gw ?_|refine M.c2 (h1) ?_|fail)
 generalize hn0:1+t.ty.cn (most-1)=n0 at*
 have hn1:2≤n0∧(n0≤2∨n0≤most+1):=by omega
 clear hbt h1 hn0
 refine AW.block (AW.upto t.args.length (fun i=>(i:Int)<Tm.cns most n0 (t.args.take i)∧(Tm.cns most n0 (t.args.take i)≤2∨Tm.cns most n0 (t.args.take i)≤most+2))
  (fun i=>([(1,.i most),(2,.ptr 0 0),(5,.i (Tm.cns most n0 (t.args.take i))),(6,.i i)],⟨1,[(0,.var t.view)]⟩))
  ⟨by simp[Tm.cns];omega,by simp[Tm.cns];omega⟩ (M.W [some 0]) fun i hi hP=> ?_)
 obtain⟨p1,p2⟩:=hP
 by_cases hlt:i<t.args.length
 ·by_cases hle:Tm.cns most n0 (t.args.take i)≤most
  ·have htk:=Tm.cns_take hlt hle
   have hs2:=zb Tm.full (List.getElem_mem hlt)
   have hx:=t.args[i].cn_bd (most-Tm.cns most n0 (t.args.take i))
   have hc:=ih t.args[i] (most-Tm.cns most n0 (t.args.take i)) (by omega) (by omega)
   repeat'(first|refine M.go ?_|((fail_if_success refine AX.wt U ?_);refine AX.gs U U (fun _=>trivial) (fun h=> ?_) (fun h=> ?_))|((with_reducible refine D.aw ?_);(fail_if_success with_reducible refine D.stopR (id:=5) ?_);(fail_if_success with_reducible refine D.stopS (id:=5) ?_);first|refine M.ga ?_|refine AW.condS U (fun h=> ?_) (fun h=> ?_))|refine M.gk ?_|fail)
   all_goals first
    |(exfalso;simp at h;omega)
    |(exfalso;simp at*;omega)
    |skip
   refine K.sq (AW.block ?_)
   repeat'(first|refine M.gw ?_|refine M.c2 (hc) ?_|fail)
   refine⟨hlt,(show((i+1:Nat):Int)<Tm.cns most n0 (t.args.take (i+1))∧(Tm.cns most n0 (t.args.take (i+1))≤2∨Tm.cns most n0 (t.args.take (i+1))≤most+2) by omega),?_⟩
   simp only[htk]
   exact(M.W [some 0])
  ·have e:=Tm.cns_end hle
   repeat'(first|refine M.go ?_|((fail_if_success refine AX.wt U ?_);refine AX.gs U U (fun _=>trivial) (fun h=> ?_) (fun h=> ?_))|((with_reducible refine D.aw ?_);(fail_if_success with_reducible refine D.stopR (id:=5) ?_);(fail_if_success with_reducible refine D.stopS (id:=5) ?_);first|refine M.ga ?_|refine AW.condS U (fun h=> ?_) (fun h=> ?_))|refine M.gk ?_|fail)
   all_goals first
    |(exfalso;simp at*;omega)
    |(rw[he,e];rfl)
 ·have e:t.args.take i=t.args:=List.take_of_length_le (by omega)
  rw[e]
  repeat'(first|refine M.go ?_|((fail_if_success refine AX.wt U ?_);refine AX.gs U U (fun _=>trivial) (fun h=> ?_) (fun h=> ?_))|((with_reducible refine D.aw ?_);(fail_if_success with_reducible refine D.stopR (id:=5) ?_);(fail_if_success with_reducible refine D.stopS (id:=5) ?_);first|refine M.ga ?_|refine AW.condS U (fun h=> ?_) (fun h=> ?_))|refine M.gk ?_|fail)
  all_goals first
   |(exfalso;simp at*;omega)
   |(rw[he];rfl)
theorem Zzx:∀(b:Nat) (t:Fm) (most:Int),t.full≤b→-100≤most∧most≤1000000000→PC E 136 [.agg t.view,.i most] (.i (t.cn most)):=by
 intro b
 induction b with
 |zero=>intro t most h;have:=t.full_pos;omega
 |succ b ih=>
 intro t most hsz hm
 have hsz':=t.full_eq
 have he:=Fm.cn_eq most t
 have hbt:=t.ty.cn_bd (most-1)
 have h1:=Zmr _ t.ty (most-1) (Nat.le_refl _) (by omega)
 refine M.F Tryz.func136 ?_
 repeat'(first|refine M.gw ?_|refine M.c2 (h1) ?_|fail)
 generalize hn0:1+t.ty.cn (most-1)=n0 at*
 have hn1:2≤n0∧(n0≤2∨n0≤most+1):=by omega
 have hall:=Tm.cns_bd most t.terms n0
 clear hbt h1 hn0
 refine AW.cutT (ι:=Unit) (fun _=>([(1,.i most),(2,.ptr 0 0),(5,.i (Tm.cns most n0 t.terms))],⟨1,[(0,.var t.view)]⟩)) ?_ ?_
 ·refine AW.block (AW.upto t.terms.length (fun i=>(i:Int)<Tm.cns most n0 (t.terms.take i)∧(Tm.cns most n0 (t.terms.take i)≤2∨Tm.cns most n0 (t.terms.take i)≤most+2))
   (fun i=>([(1,.i most),(2,.ptr 0 0),(5,.i (Tm.cns most n0 (t.terms.take i))),(6,.i i)],⟨1,[(0,.var t.view)]⟩))
   ⟨by simp[Tm.cns];omega,by simp[Tm.cns];omega⟩ (M.W [some 0]) fun i hi hP=> ?_)
  obtain⟨p1,p2⟩:=hP
  by_cases hlt:i<t.terms.length
  ·by_cases hle:Tm.cns most n0 (t.terms.take i)≤most
   ·have htk:=Tm.cns_take hlt hle
    have hs2:=zb Tm.full (List.getElem_mem hlt)
    have hx:=t.terms[i].cn_bd (most-Tm.cns most n0 (t.terms.take i))
    have hc:=Zuf _ t.terms[i] (most-Tm.cns most n0 (t.terms.take i)) (Nat.le_refl _) (by omega)
    repeat'(first|refine M.go ?_|((fail_if_success refine AX.wt U ?_);refine AX.gs U U (fun _=>trivial) (fun h=> ?_) (fun h=> ?_))|((with_reducible refine D.aw ?_);(fail_if_success with_reducible refine D.stopR (id:=5) ?_);(fail_if_success with_reducible refine D.stopS (id:=5) ?_);first|refine M.ga ?_|refine AW.condS U (fun h=> ?_) (fun h=> ?_))|refine M.gk ?_|fail)
    all_goals first
     |(exfalso;simp at h;omega)
     |(exfalso;simp at*;omega)
     |skip
    refine K.sq (AW.block ?_)
    repeat'(first|refine M.gw ?_|refine M.c2 (hc) ?_|fail)
    refine⟨hlt,(show((i+1:Nat):Int)<Tm.cns most n0 (t.terms.take (i+1))∧(Tm.cns most n0 (t.terms.take (i+1))≤2∨Tm.cns most n0 (t.terms.take (i+1))≤most+2) by omega),?_⟩
    simp only[htk]
    exact(M.W [some 0])
   ·have e:=Tm.cns_end hle
    rw[←e]
    repeat'(first|refine M.go ?_|((fail_if_success refine AX.wt U ?_);refine AX.gs U U (fun _=>trivial) (fun h=> ?_) (fun h=> ?_))|((with_reducible refine D.aw ?_);(fail_if_success with_reducible refine D.stopR (id:=5) ?_);(fail_if_success with_reducible refine D.stopS (id:=5) ?_);first|refine M.ga ?_|refine AW.condS U (fun h=> ?_) (fun h=> ?_))|refine M.gk ?_|fail)
    all_goals first
     |(exfalso;simp at*;omega)
     |(exfalso;simp at*;rw[e] at*;omega)
     |exact⟨(),(M.W [some 0])⟩
  ·have e:t.terms.take i=t.terms:=List.take_of_length_le (by omega)
   rw[e]
   repeat'(first|refine M.go ?_|((fail_if_success refine AX.wt U ?_);refine AX.gs U U (fun _=>trivial) (fun h=> ?_) (fun h=> ?_))|((with_reducible refine D.aw ?_);(fail_if_success with_reducible refine D.stopR (id:=5) ?_);(fail_if_success with_reducible refine D.stopS (id:=5) ?_);first|refine M.ga ?_|refine AW.condS U (fun h=> ?_) (fun h=> ?_))|refine M.gk ?_|fail)
   all_goals first
    |(exfalso;simp at*;omega)
    |exact⟨(),(M.W [some 0])⟩
 intro _
 generalize Tm.cns most n0 t.terms=n1 at*
 have hn2:2≤n1∧(n1≤2∨n1≤most+2):=by omega
 clear hall hn1
 repeat'(first|refine M.gw ?_|fail)
 refine AW.block (AW.upto t.args.length (fun i=>(i:Int)<Fm.cns most n1 (t.args.take i)∧(Fm.cns most n1 (t.args.take i)≤2∨Fm.cns most n1 (t.args.take i)≤most+2))
  (fun i=>([(1,.i most),(2,.ptr 0 0),(5,.i (Fm.cns most n1 (t.args.take i))),(7,.i i)],⟨1,[(0,.var t.view)]⟩))
  ⟨by simp[Fm.cns];omega,by simp[Fm.cns];omega⟩ (M.W [some 0]) fun i hi hP=> ?_)
 obtain⟨p1,p2⟩:=hP
 by_cases hlt:i<t.args.length
 ·by_cases hle:Fm.cns most n1 (t.args.take i)≤most
  ·have htk:=Fm.cns_take hlt hle
   have hs2:=zb Fm.full (List.getElem_mem hlt)
   have hx:=t.args[i].cn_bd (most-Fm.cns most n1 (t.args.take i))
   have hc:=ih t.args[i] (most-Fm.cns most n1 (t.args.take i)) (by omega) (by omega)
   repeat'(first|refine M.go ?_|((fail_if_success refine AX.wt U ?_);refine AX.gs U U (fun _=>trivial) (fun h=> ?_) (fun h=> ?_))|((with_reducible refine D.aw ?_);(fail_if_success with_reducible refine D.stopR (id:=9) ?_);(fail_if_success with_reducible refine D.stopS (id:=9) ?_);first|refine M.ga ?_|refine AW.condS U (fun h=> ?_) (fun h=> ?_))|refine M.gk ?_|fail)
   all_goals first
    |(exfalso;simp at h;omega)
    |(exfalso;simp at*;omega)
    |skip
   refine K.sq (AW.block ?_)
   repeat'(first|refine M.gw ?_|refine M.c2 (hc) ?_|fail)
   refine⟨hlt,(show((i+1:Nat):Int)<Fm.cns most n1 (t.args.take (i+1))∧(Fm.cns most n1 (t.args.take (i+1))≤2∨Fm.cns most n1 (t.args.take (i+1))≤most+2) by omega),?_⟩
   simp only[htk]
   exact(M.W [some 0])
  ·have e:=Fm.cns_end hle
   repeat'(first|refine M.go ?_|((fail_if_success refine AX.wt U ?_);refine AX.gs U U (fun _=>trivial) (fun h=> ?_) (fun h=> ?_))|((with_reducible refine D.aw ?_);(fail_if_success with_reducible refine D.stopR (id:=9) ?_);(fail_if_success with_reducible refine D.stopS (id:=9) ?_);first|refine M.ga ?_|refine AW.condS U (fun h=> ?_) (fun h=> ?_))|refine M.gk ?_|fail)
   all_goals first
    |(exfalso;simp at*;omega)
    |(rw[he,e];rfl)
 ·have e:t.args.take i=t.args:=List.take_of_length_le (by omega)
  rw[e]
  repeat'(first|refine M.go ?_|((fail_if_success refine AX.wt U ?_);refine AX.gs U U (fun _=>trivial) (fun h=> ?_) (fun h=> ?_))|((with_reducible refine D.aw ?_);(fail_if_success with_reducible refine D.stopR (id:=9) ?_);(fail_if_success with_reducible refine D.stopS (id:=9) ?_);first|refine M.ga ?_|refine AW.condS U (fun h=> ?_) (fun h=> ?_))|refine M.gk ?_|fail)
  all_goals first
   |(exfalso;simp at*;omega)
   |(rw[he];rfl)
theorem Yb0(t:Tm)(hs:t.shape=true):PC E 276 [.agg t.view] (.bool (vd t)):=by
 by_cases k3:t.kind=3
 ·obtain ⟨i,th,f,a,rfl,hf,ha⟩:=Zc0 hs k3 rfl
  refine M.F Tryz.func276 ?_
  repeat'(first|refine M.gw ?_|((with_reducible refine D.blk ?_);refine AW.block ?_)|fail)
  rfl
 ·by_cases k6:t.kind=6
  ·obtain ⟨i,th,x,y,z,rfl,_,_,_⟩:=Zeo hs k6 rfl
   by_cases h4:z.kind=4
   ·have e:vd (.mk 6 i th [x,y,z])=true:=by simp[vd,Tm.arg,h4]
    rw[e]
    refine M.F Tryz.func276 ?_
    repeat'(first|refine M.gw ?_|((fail_if_success refine AX.wt U ?_);refine AX.gs U U (fun _=>trivial) (fun h=> ?_) (fun h=> ?_))|((with_reducible refine D.blk ?_);refine AW.block ?_)|fail)
    all_goals first
     |rfl
     |(exfalso;simp_all;done)
   ·have e:vd (.mk 6 i th [x,y,z])=(z.kind==5):=by simp[vd,Tm.arg,h4]
    rw[e]
    refine M.F Tryz.func276 ?_
    repeat'(first|refine M.gw ?_|((fail_if_success refine AX.wt U ?_);refine AX.gs U U (fun _=>trivial) (fun h=> ?_) (fun h=> ?_))|((with_reducible refine D.blk ?_);refine AW.block ?_)|fail)
    all_goals first
     |rfl
     |(exfalso;simp_all;done)
  ·by_cases k9:t.kind=9
   ·obtain ⟨i,th,x,y,z,rfl,_,_,_⟩:=Zeo hs k9 rfl
    by_cases h4:z.kind=7
    ·have e:vd (.mk 9 i th [x,y,z])=true:=by simp[vd,Tm.arg,h4]
     rw[e]
     refine M.F Tryz.func276 ?_
     repeat'(first|refine M.gw ?_|((fail_if_success refine AX.wt U ?_);refine AX.gs U U (fun _=>trivial) (fun h=> ?_) (fun h=> ?_))|((with_reducible refine D.blk ?_);refine AW.block ?_)|fail)
     all_goals first
      |rfl
      |(exfalso;simp_all;done)
    ·have e:vd (.mk 9 i th [x,y,z])=(z.kind==8):=by simp[vd,Tm.arg,h4]
     rw[e]
     refine M.F Tryz.func276 ?_
     repeat'(first|refine M.gw ?_|((fail_if_success refine AX.wt U ?_);refine AX.gs U U (fun _=>trivial) (fun h=> ?_) (fun h=> ?_))|((with_reducible refine D.blk ?_);refine AW.block ?_)|fail)
     all_goals first
      |rfl
      |(exfalso;simp_all;done)
   ·by_cases k11:t.kind=11
    ·obtain ⟨i,th,x,rfl,_⟩:=Zao hs k11 rfl
     refine M.F Tryz.func276 ?_
     repeat'(first|refine M.gw ?_|((with_reducible refine D.blk ?_);refine AW.block ?_)|fail)
     rfl
    ·by_cases k12:t.kind=12
     ·obtain ⟨i,th,x,rfl,_⟩:=Zao hs k12 rfl
      refine M.F Tryz.func276 ?_
      repeat'(first|refine M.gw ?_|((with_reducible refine D.blk ?_);refine AW.block ?_)|fail)
      rfl
     ·have e:vd t=false:=by simp[vd,k3,k6,k9,k11,k12]
      rw[e]
      have b3:¬(t.kind==3)=true:=by simpa using k3
      have b6:¬(t.kind==6)=true:=by simpa using k6
      have b9:¬(t.kind==9)=true:=by simpa using k9
      have b11:¬(t.kind==11)=true:=by simpa using k11
      have b12:¬(t.kind==12)=true:=by simpa using k12
      refine M.F Tryz.func276 ?_
      repeat'(first|refine M.gw ?_|((fail_if_success refine AX.wt U ?_);refine AX.gs U U (fun _=>trivial) (fun h=> ?_) (fun h=> ?_))|((with_reducible refine D.blk ?_);refine AW.block ?_)|refine AW.condS U (fun h=> ?_) (fun h=> ?_)|fail)
      all_goals first
       |rfl
       |contradiction
theorem Zzz{t x:Tm}(hv:RV t x)(hs:t.shape=true)(hz:t.size≤4096):PC E 277 [.agg t.view] (.i (Zdg t)):=by
 have hfull:=yn t hs
 have h0:=yq _ t (Nat.le_refl _) (by omega)
 cases hv with
 |beta i th j s b a=>
  have hb:b.shape=true:=zd (zd hs (.mk 2 j s [b]) (by simp)) b (by simp)
  have ha:a.shape=true:=zd hs a (by simp)
  have hsz:(Tm.mk 3 i th [Tm.mk 2 j s [b],a]).size=2+b.size+a.size:=by simp[Tm.size,Tm.sizes];omega
  have fb:=yn b hb
  have fa:=yn a ha
  have h1:=yq _ b (Nat.le_refl _) (by omega)
  have h2:=Zod _ b 0 (Nat.le_refl _) (by omega) (by omega) (by omega) hb
  have h3:=yq _ a (Nat.le_refl _) (by omega)
  have htl:=Zbw b 0
  have hap:=a.size_pos
  have hm:=Zx5 (yt 0 b) (a.size-1) (by omega) (by omega)
  have hm': -9223372036854775808≤(yt 0 b:Int)*(a.size-1)∧(yt 0 b:Int)*(a.size-1)≤9223372036854775807:=by omega
  have e:Zdg (Tm.mk 3 i th [Tm.mk 2 j s [b],a])=b.size+yt 0 b*(a.size-1)-(Tm.mk 3 i th [Tm.mk 2 j s [b],a]).size:=by
   have hc:=Zgh b 0 0 hb
   rw[Int.add_zero] at hc
   show((b.re (y5 0 a) 0).size:Int)-_=_
   rw[Zfd 0 a b ha 0 hb,hc]
   congr 1
   rw[Int.natCast_add,Int.natCast_mul]
   congr 2
   omega
  rw[e]
  clear e
  refine M.F Tryz.func277 ?_
  repeat'(first|refine M.gw ?_|refine M.c2 (h0) ?_|refine M.c2 (h1) ?_|refine M.c2 (h2) ?_|refine M.c2 (h3) ?_|((with_reducible refine D.blk ?_);refine AW.block ?_)|fail)
  rfl
 |rz i th _ f j s=>
  have h1:=yq _ x (Nat.le_refl _) (by have:=yn x (zd hs x (by simp));have:=zb Tm.size (l:=[x,f,Tm.mk 4 j s []]) (t:=x) (by simp);have:=Tm.size_eq (Tm.mk 6 i th [x,f,Tm.mk 4 j s []]);simp only[Tm.args_mk] at this;omega)
  have e:(x.size:Int)≤4096:=by have:=zb Tm.size (l:=[x,f,Tm.mk 4 j s []]) (t:=x) (by simp);have:=Tm.size_eq (Tm.mk 6 i th [x,f,Tm.mk 4 j s []]);simp only[Tm.args_mk] at this;omega
  have e2:Zdg (Tm.mk 6 i th [x,f,Tm.mk 4 j s []])=x.size-(Tm.mk 6 i th [x,f,Tm.mk 4 j s []]).size:=rfl
  rw[e2]
  refine M.F Tryz.func277 ?_
  repeat'(first|refine M.gw ?_|refine M.c2 (h0) ?_|refine M.c2 (h1) ?_|((with_reducible refine D.blk ?_);refine AW.block ?_)|fail)
  rfl
 |fz i th _ f j s=>
  have h1:=yq _ x (Nat.le_refl _) (by have:=yn x (zd hs x (by simp));have:=zb Tm.size (l:=[x,f,Tm.mk 7 j s []]) (t:=x) (by simp);have:=Tm.size_eq (Tm.mk 9 i th [x,f,Tm.mk 7 j s []]);simp only[Tm.args_mk] at this;omega)
  have e:(x.size:Int)≤4096:=by have:=zb Tm.size (l:=[x,f,Tm.mk 7 j s []]) (t:=x) (by simp);have:=Tm.size_eq (Tm.mk 9 i th [x,f,Tm.mk 7 j s []]);simp only[Tm.args_mk] at this;omega
  have e2:Zdg (Tm.mk 9 i th [x,f,Tm.mk 7 j s []])=x.size-(Tm.mk 9 i th [x,f,Tm.mk 7 j s []]).size:=rfl
  rw[e2]
  refine M.F Tryz.func277 ?_
  repeat'(first|refine M.gw ?_|refine M.c2 (h0) ?_|refine M.c2 (h1) ?_|((with_reducible refine D.blk ?_);refine AW.block ?_)|fail)
  rfl
 |rs i th x f j s n=>
  have hn:n.shape=true:=zd (zd hs (.mk 5 j s [n]) (by simp)) n (by simp)
  have hsz:(Tm.mk 6 i th [x,f,Tm.mk 5 j s [n]]).size=2+x.size+f.size+n.size:=by simp[Tm.size,Tm.sizes];omega
  have h1:=yq _ f (Nat.le_refl _) (by have:=yn f (zd hs f (by simp));omega)
  have h2:=yq _ n (Nat.le_refl _) (by have:=yn n hn;omega)
  have e2:Zdg (Tm.mk 6 i th [x,f,Tm.mk 5 j s [n]])=2+f.size+n.size+(Tm.mk 6 i th [x,f,Tm.mk 5 j s [n]]).size-1-(Tm.mk 6 i th [x,f,Tm.mk 5 j s [n]]).size:=by
   show((apT (apT f n) (.mk 6 0 th [x,f,n])).size:Int)-_=_
   simp[apT,Tm.size,Tm.sizes];omega
  rw[e2]
  clear e2
  refine M.F Tryz.func277 ?_
  repeat'(first|refine M.gw ?_|refine M.c2 (h0) ?_|refine M.c2 (h1) ?_|refine M.c2 (h2) ?_|((with_reducible refine D.blk ?_);refine AW.block ?_)|fail)
  rfl
 |fs i th x f j s n l=>
  have hn:n.shape=true:=zd (zd hs (.mk 8 j s [n,l]) (by simp)) n (by simp)
  have hl:l.shape=true:=zd (zd hs (.mk 8 j s [n,l]) (by simp)) l (by simp)
  have hsz:(Tm.mk 9 i th [x,f,Tm.mk 8 j s [n,l]]).size=2+x.size+f.size+n.size+l.size:=by simp[Tm.size,Tm.sizes];omega
  have h1:=yq _ f (Nat.le_refl _) (by have:=yn f (zd hs f (by simp));omega)
  have h2:=yq _ n (Nat.le_refl _) (by have:=yn n hn;omega)
  have h3:=yq _ l (Nat.le_refl _) (by have:=yn l hl;omega)
  have e2:Zdg (Tm.mk 9 i th [x,f,Tm.mk 8 j s [n,l]])=3+f.size+n.size+l.size+(Tm.mk 9 i th [x,f,Tm.mk 8 j s [n,l]]).size-1-n.size-(Tm.mk 9 i th [x,f,Tm.mk 8 j s [n,l]]).size:=by
   show((apT (apT (apT f n) l) (.mk 9 0 th [x,f,l])).size:Int)-_=_
   simp[apT,Tm.size,Tm.sizes];omega
  rw[e2]
  clear e2
  refine M.F Tryz.func277 ?_
  repeat'(first|refine M.gw ?_|refine M.c2 (h0) ?_|refine M.c2 (h1) ?_|refine M.c2 (h2) ?_|refine M.c2 (h3) ?_|((with_reducible refine D.blk ?_);refine AW.block ?_)|fail)
  rfl
 |p1 i th j s _ y=>
  have hsz:(Tm.mk 11 i th [Tm.mk 10 j s [x,y]]).size=2+x.size+y.size:=by simp[Tm.size,Tm.sizes];omega
  have hx:x.shape=true:=zd (zd hs (.mk 10 j s [x,y]) (by simp)) x (by simp)
  have h1:=yq _ x (Nat.le_refl _) (by have:=yn x hx;omega)
  have e2:Zdg (Tm.mk 11 i th [Tm.mk 10 j s [x,y]])=x.size-(Tm.mk 11 i th [Tm.mk 10 j s [x,y]]).size:=rfl
  rw[e2]
  clear e2
  refine M.F Tryz.func277 ?_
  repeat'(first|refine M.gw ?_|refine M.c2 (h0) ?_|refine M.c2 (h1) ?_|((with_reducible refine D.blk ?_);refine AW.block ?_)|fail)
  rfl
 |p2 i th j s y _=>
  have hsz:(Tm.mk 12 i th [Tm.mk 10 j s [y,x]]).size=2+x.size+y.size:=by simp[Tm.size,Tm.sizes];omega
  have hx:x.shape=true:=zd (zd hs (.mk 10 j s [y,x]) (by simp)) x (by simp)
  have h1:=yq _ x (Nat.le_refl _) (by have:=yn x hx;omega)
  have e2:Zdg (Tm.mk 12 i th [Tm.mk 10 j s [y,x]])=x.size-(Tm.mk 12 i th [Tm.mk 10 j s [y,x]]).size:=rfl
  rw[e2]
  clear e2
  refine M.F Tryz.func277 ?_
  repeat'(first|refine M.gw ?_|refine M.c2 (h0) ?_|refine M.c2 (h1) ?_|((with_reducible refine D.blk ?_);refine AW.block ?_)|fail)
  rfl
theorem Zjn{t x:Tm}{B:Int}(hx:x∈t.args)(h:∀p∈t.vars 0,0≤p.1∧p.1<B):∀p∈x.vars 0,0≤p.1∧p.1<B:=by
 intro p hp
 have e:=Zay x 0 (up t.kind 0)
 have hm:(p.1,p.2+up t.kind 0)∈t.vars 0:=by
  rw[Tm.vars_eq]
  refine List.mem_append_right _ (List.mem_flatMap.2 ⟨x,hx,?_⟩)
  rw[Int.zero_add] at e
  rw[e]
  exact List.mem_map.2 ⟨p,hp,rfl⟩
 have h3:=h (p.1,p.2+up t.kind 0) hm
 exact h3
theorem Ydi{t x:Tm}(hv:RV t x)(hs:t.shape=true)(hz:t.size≤4096)(hix:∀p∈t.vars 0,0≤p.1∧p.1<1073741824):PC E 278 [.agg t.view] (.agg x.view):=by
 have hfull:=yn t hs
 cases hv with
 |beta i th j s b a=>
  have hb:b.shape=true:=zd (zd hs (.mk 2 j s [b]) (by simp)) b (by simp)
  have ha:a.shape=true:=zd hs a (by simp)
  have hsz:(Tm.mk 3 i th [Tm.mk 2 j s [b],a]).size=2+b.size+a.size:=by simp[Tm.size,Tm.sizes];omega
  have fb:=yn b hb
  have fa:=yn a ha
  have hia:=Zjn (t:=Tm.mk 3 i th [Tm.mk 2 j s [b],a]) (x:=a) (by simp) hix
  have hib:=Zjn (t:=Tm.mk 2 j s [b]) (x:=b) (by simp) (Zjn (t:=Tm.mk 3 i th [Tm.mk 2 j s [b],a]) (x:=Tm.mk 2 j s [b]) (by simp) hix)
  have h1:=Ydg 0 a (by omega) ha (by omega) (fun p hp=>by have:=hia p hp;omega) _ b 0 (Nat.le_refl _) (by omega) (by omega) (by omega) hb (fun p hp=>by have:=hib p hp;omega)
  refine M.F Tryz.func278 ?_
  repeat'(first|refine M.gw ?_|refine M.c2 (h1) ?_|((with_reducible refine D.blk ?_);refine AW.block ?_)|fail)
  rfl
 |rz i th _ f j s=>
  refine M.F Tryz.func278 ?_
  repeat'(first|refine M.gw ?_|((with_reducible refine D.blk ?_);refine AW.block ?_)|fail)
  rfl
 |fz i th _ f j s=>
  refine M.F Tryz.func278 ?_
  repeat'(first|refine M.gw ?_|((with_reducible refine D.blk ?_);refine AW.block ?_)|fail)
  rfl
 |rs i th x f j s n=>
  have hff:(Tm.mk 6 i th [x,f,Tm.mk 5 j s [n]]).full=2+th.size+s.size+x.full+f.full+n.full:=by simp[Tm.full,Tm.fulls];omega
  have h1:=n_c 3 [f,n] (by simp;omega)
  have h2:=t_c 6 th [x,f,n] (by simp;omega) (by omega)
  have h3:=n_c 3 [apT f n,.mk 6 0 th [x,f,n]] (by simp[apT,Tm.full,Tm.fulls,Ty.size,Ty.sizes];omega)
  refine M.F Tryz.func278 ?_
  repeat'(first|refine M.gw ?_|refine M.c2 (h1) ?_|refine M.c2 (h2) ?_|refine M.c2 (h3) ?_|((with_reducible refine D.blk ?_);refine AW.block ?_)|fail)
  rfl
 |fs i th x f j s n l=>
  have hff:(Tm.mk 9 i th [x,f,Tm.mk 8 j s [n,l]]).full=2+th.size+s.size+x.full+f.full+n.full+l.full:=by simp[Tm.full,Tm.fulls];omega
  have h1:=n_c 3 [f,n] (by simp;omega)
  have h2:=n_c 3 [apT f n,l] (by simp[apT,Tm.full,Tm.fulls,Ty.size,Ty.sizes];omega)
  have h3:=t_c 9 th [x,f,l] (by simp;omega) (by omega)
  have h4:=n_c 3 [apT (apT f n) l,.mk 9 0 th [x,f,l]] (by simp[apT,Tm.full,Tm.fulls,Ty.size,Ty.sizes];omega)
  refine M.F Tryz.func278 ?_
  repeat'(first|refine M.gw ?_|refine M.c2 (h1) ?_|refine M.c2 (h2) ?_|refine M.c2 (h3) ?_|refine M.c2 (h4) ?_|((with_reducible refine D.blk ?_);refine AW.block ?_)|fail)
  rfl
 |p1 i th j s _ y=>
  refine M.F Tryz.func278 ?_
  repeat'(first|refine M.gw ?_|((with_reducible refine D.blk ?_);refine AW.block ?_)|fail)
  rfl
 |p2 i th j s y _=>
  refine M.F Tryz.func278 ?_
  repeat'(first|refine M.gw ?_|((with_reducible refine D.blk ?_);refine AW.block ?_)|fail)
  rfl
end Go.Ab
