/- A part of the proofs of this seat's statements: S21, S22, S24, S31, S41, S42, S43, S44, S46, S47, S54. It has no conditions of its own. -/
import Derived.Test.YtdkjbjikpofgbaaGreatDoorA2
import Derived.Test.YtdkjbjikpofgbaaGreatDoorS2
import Derived.Test.YtdkjbjikpofgbaaGreatDoorD1
namespace Go.Ab
open Go Go.Proofs
set_option maxRecDepth 100000
set_option maxHeartbeats 4000000
set_option linter.all false
theorem Zn8(g:List Ty)(t:Tm)(ht:t.full<137438953472)(hg:∀x∈g,x.err=0)(hl:g.length<100000):PC E 243 [.s .ty g,.agg t.view] (.tup [.agg (Zau g t).1.view,.i (Zau g t).2]):=by
 have h1:=vn t (by omega)
 have h2:t.err=0→_:=fun h=>Zzp _ t g (Nat.le_refl _) (by omega) ((Tm.err_iff t).1 h).1 hg (by omega)
 refine M.F Tryz.func243 ?_
 repeat'(first|refine M.gw ?_|refine M.c2 (h1) ?_|refine M.c2 (h2 (by simpa using h)) ?_|refine AW.condS U (fun h=> ?_) (fun h=> ?_)|fail)
 ·have h':t.err≠0:=by simpa using h
  simp[zi,V.wk,V.wks,za,Ty.view,Zau,h',noTy]
 ·have h':t.err=0:=by simpa using h
  simp[zi,V.wk,V.wks,za,Ty.view,Zau,h']
theorem Zjf(g:List Ty)(t:Tm)(ht:t.full<137438953472)(hg:(g.map Ty.size).sum<1099511627776):PC E 232 [.s .ty g,.agg t.view] (.tup [.agg (yy g t).1.view,.i (yy g t).2]):=by
 have h1:=Zen g hg
 have h2:y6 g=0→_:=fun h=>Zn8 g t ht (vj h).2 (by have:=(vj h).1;omega)
 refine M.F Tryz.func232 ?_
 repeat'(first|refine M.gw ?_|refine M.c2 (h1) ?_|refine M.c2 (h2 (by simpa using h)) ?_|refine AW.condS U (fun h=> ?_) (fun h=> ?_)|fail)
 ·have h':y6 g≠0:=by simpa using h
  simp[zi,V.wk,V.wks,za,Ty.view,yy,h',noTy]
 ·have h':y6 g=0:=by simpa using h
  simp[zi,V.wk,V.wks,za,Ty.view,yy,h']
theorem Zl4(d:Dk)(h:d.ok):AC E 14 [.ptr 0 0,.i 1] ⟨1,[(0,.var d.cells)]⟩ (.agg (d.type 1).1.view) ⟨1,[(0,.var (d.type 1).2.cells)]⟩:=Zhm 1 1 d (by omega) (by omega) (by omega) h
end Go.Ab
namespace Go.Ab
open Go Go.Proofs
set_option maxRecDepth 100000
set_option maxHeartbeats 2000000
set_option linter.all false
theorem Zs8{x:Ty}(h:x.err=0)(hk:x.kind=1):x=natT:=(Ty.eq_iff _ _).2 ⟨hk,Zar ((Ty.err_iff x).1 h).1 (by omega)⟩
theorem Zq0{x:Ty}(h:x.err=0)(hk:x.kind=2):x=listT:=(Ty.eq_iff _ _).2 ⟨hk,Zar ((Ty.err_iff x).1 h).1 (by omega)⟩
end Go.Ab
namespace Go.Ab
open Go Go.Proofs
set_option maxRecDepth 100000
set_option maxHeartbeats 4000000
set_option linter.all false
def lamsT(b:Tm)(l:List Ty):Tm:=l.foldr lmT b
def dflS(t:Ty):Tm:=if t.err=0 then dfl t else Zbo
theorem Zbx(k:Int):PC E 176 [.i k] (.bool (xi k)):=by
 refine M.F Tryz.func176 ?_
 repeat'(first|refine M.gw ?_|((fail_if_success refine AX.wt U ?_);refine AX.gs U U (fun _=>trivial) (fun h=> ?_) (fun h=> ?_))|fail)
 all_goals(simp_all[zi,V.wk,V.wks,za,xi];try omega)
theorem Zw9(f:Fm)(ht:f.ty.size<1099511627776):PC E 175 [.agg f.view] (.bool f.head):=by
 have h1:=Zie f.ty
 have h2:=Zg9 f.ty ht
 have hok:=Ty.ok_err f.ty
 obtain⟨k,h,ts,fs⟩:=f
 simp only[Fm.ty_mk] at*
 have hk:k=1∨k=2∨k=3∨k=4∨k=5∨k=6∨k=7∨(k≠1∧k≠2∧k≠3∧k≠4∧k≠5∧k≠6∧k≠7):=by omega
 rcases hk with rfl|rfl|rfl|rfl|rfl|rfl|rfl|hk
 ·cases hn:h.isNo with
  |false=>
   rw[hn] at h1
   refine M.F Tryz.func175 ?_
   repeat'(first|refine M.gw ?_|refine M.c2 (h1) ?_|((with_reducible refine D.blk ?_);refine AW.block ?_)|fail)
   simp[zi,V.wk,V.wks,za,Fm.head,hn]
  |true=>
   rw[hn] at h1
   refine M.F Tryz.func175 ?_
   repeat'(first|refine M.gw ?_|refine M.c2 (h1) ?_|((fail_if_success refine AX.wt U ?_);refine AX.gs U U (fun _=>trivial) (fun h=> ?_) (fun h=> ?_))|((with_reducible refine D.blk ?_);refine AW.block ?_)|fail)
   ·have h':ts.length=2:=by simp at h;omega
    have e:((fs.length:Int)==0)=(fs.length==0):=by rw[Bool.eq_iff_iff];simp
    simp[zi,V.wk,V.wks,za,Fm.head,hn,h',e]
   ·have h':¬ts.length=2:=by simp at h;omega
    simp[zi,V.wk,V.wks,za,Fm.head,hn,h']
 all_goals first
  |(cases hn:h.isNo with
    |false=>
     rw[hn] at h1
     refine M.F Tryz.func175 ?_
     repeat'(first|refine M.gw ?_|refine M.c2 (h1) ?_|((with_reducible refine D.blk ?_);refine AW.block ?_)|refine AW.condS U (fun h=> ?_) (fun h=> ?_)|fail)
     simp[zi,V.wk,V.wks,za,Fm.head,hn]
     done
    |true=>
     rw[hn] at h1
     refine M.F Tryz.func175 ?_
     repeat'(first|refine M.gw ?_|refine M.c2 (h1) ?_|((fail_if_success refine AX.wt U ?_);refine AX.gs U U (fun _=>trivial) (fun h=> ?_) (fun h=> ?_))|((with_reducible refine D.blk ?_);refine AW.block ?_)|fail)
     ·have h':ts.length=0:=by simp at h;simp[h]
      have e:((fs.length:Int)==2)=(fs.length==2):=by rw[Bool.eq_iff_iff];simp;omega
      simp[zi,V.wk,V.wks,za,Fm.head,hn,h',e]
     ·have h':¬ts.length=0:=by simp at h;simpa using h
      simp[zi,V.wk,V.wks,za,Fm.head,hn,h']
      done)
  |(by_cases hn:h.err=0
    ·rw [hn] at h2
     refine M.F Tryz.func175 ?_
     repeat'(first|refine M.gw ?_|refine M.c2 (h2) ?_|((fail_if_success refine AX.wt U ?_);refine AX.gs U U (fun _=>trivial) (fun h=> ?_) (fun h=> ?_))|((with_reducible refine D.blk ?_);refine AW.block ?_)|refine AW.condS U (fun h=> ?_) (fun h=> ?_)|fail)
     ·have h':ts.length=0:=by simp at h;simp[h]
      have e:((fs.length:Int)==1)=(fs.length==1):=by rw[Bool.eq_iff_iff];simp;omega
      simp[zi,V.wk,V.wks,za,Fm.head,hok,hn,h',e]
     ·have h':¬ts.length=0:=by simp at h;simpa using h
      simp[zi,V.wk,V.wks,za,Fm.head,hok,hn,h']
      done
    ·have hb:(h.err !=0)=true:=by simpa using hn
     refine M.F Tryz.func175 ?_
     repeat'(first|refine M.gw ?_|refine M.c2 (h2) ?_|((fail_if_success refine AX.wt U ?_);refine AX.gs U U (fun _=>trivial) (fun h=> ?_) (fun h=> ?_))|((with_reducible refine D.blk ?_);refine AW.block ?_)|refine AW.condS U (fun h=> ?_) (fun h=> ?_)|fail)
     ·simp [zi,V.wk,V.wks,za,Fm.head,hok,hn]
     all_goals(exfalso;simp_all;done))
  |(refine M.F Tryz.func175 ?_
    repeat'(first|refine M.gw ?_|((with_reducible refine D.blk ?_);refine AW.block ?_)|refine AW.condS U (fun h=> ?_) (fun h=> ?_)|fail)
    all_goals first
     |(exfalso;simp_all;done)
     |(simp[zi,V.wk,V.wks,za,Fm.head,hk];done))
theorem Zhh:∀(b:Nat) (f:Fm),f.full≤b→b<1099511627776→PC E 123 [.agg f.view] (.tup [.i f.nodes,.bool f.shape]):=by
 intro b
 induction b with
 |zero=>intro f h;have:=f.full_pos;omega
 |succ b ih=>
 intro f hsz hb
 have hsz':=f.full_eq
 have hse:=f.size_eq
 have hle:=f.size_le_full
 have hlen:=zc Fm.full Fm.full_pos f.args
 have hlen2:=zc Tm.full Tm.full_pos f.terms
 have hsh:=f.shape_eq
 have h1:=Zw9 f (by omega)
 cases hh:f.head with
 |false=>
  rw[hh] at h1 hsh
  have e:f.shape=false:=by rw[hsh];rfl
  rw[show f.nodes=0 by simp[Fm.nodes,e],e]
  refine M.F Tryz.func123 ?_
  repeat'(first|refine M.gw ?_|refine M.c2 (h1) ?_|fail)
  rfl
 |true=>
 rw[hh] at h1 hsh
 refine M.F Tryz.func123 ?_
 repeat'(first|refine M.gw ?_|refine M.c2 (h1) ?_|fail)
 refine AW.range f.terms.length (fun m=>∀j (hj:j<f.terms.length),j<m→(f.terms[j]).shape=true)
  (fun m=>([(1,.ptr 0 0),(4,.i (1+((f.terms.take m).map Tm.size).sum:Nat)),(17,.s .tm f.terms),(18,.i f.terms.length),(19,.i m)],⟨1,[(0,.var f.view)]⟩))
  (by omega) (fun m=>rfl) (fun m=>rfl) rfl (fun j hj h=>by omega) (M.W [some 0]) ?_ ?_
 ·intro m hm hP
  have hs1:=yk Tm.size f.terms m hm
  have hs2:=zb Tm.full (List.getElem_mem hm)
  have hs3:=zk Tm.size f.terms m
  have hs4:=yx (f:=Tm.size) (g:=Tm.full) f.terms fun x _=>x.size_le_full
  have hs5:=f.terms[m].size_le_full
  have hc:=Zhb _ f.terms[m] (Nat.le_refl _) (by omega)
  cases hx:(f.terms[m]).shape with
  |false=>
   rw[show Zgb f.terms[m]= .tup [.i 0,.bool false] by simp[Zgb,Tm.nodes,hx]] at hc
   have e:f.shape=false:=by rw[hsh,wo Tm.shape hm hx];rfl
   rw[show f.nodes=0 by simp[Fm.nodes,e],e]
   repeat'(first|refine M.gw ?_|refine M.c2 (hc) ?_|fail)
   rfl
  |true=>
   rw[show Zgb f.terms[m]= .tup [.i f.terms[m].size,.bool true] by simp[Zgb,Tm.nodes,hx]] at hc
   repeat'(first|refine M.gw ?_|refine M.c2 (hc) ?_|fail)
   refine⟨rfl,yb (p:=fun t=>Tm.shape t=true) hm hP hx,?_⟩
   simp only[hs1]
   exact(M.W [some 0] (hf:=(by(repeat'(first|exact trivial|refine And.intro ?_ ?_|refine⟨_,U,_,U,?_⟩|exact VLe.refl _|exact VLe.of_eq (by simp[Sto.upd,Int.natCast_add,Int.add_assoc])));done)))
 ·intro hP
  have hpt:=Zac Tm.shape f.terms fun j hj=>hP j hj hj
  rw[hpt] at hsh
  simp only[List.take_length]
  repeat'(first|refine M.gw ?_|fail)
  refine AW.range f.args.length (fun m=>∀j (hj:j<f.args.length),j<m→(f.args[j]).shape=true)
   (fun m=>([(1,.ptr 0 0),(4,.i (1+(f.terms.map Tm.size).sum+((f.args.take m).map Fm.size).sum:Nat)),(35,.s .fm f.args),(36,.i f.args.length),(37,.i m)],⟨1,[(0,.var f.view)]⟩))
   (by omega) (fun m=>rfl) (fun m=>rfl) rfl (fun j hj h=>by omega) (M.W [some 0]) ?_ ?_
  ·intro m hm hP
   have hs0:=yx (f:=Tm.size) (g:=Tm.full) f.terms fun x _=>x.size_le_full
   have hs1:=yk Fm.size f.args m hm
   have hs2:=zb Fm.full (List.getElem_mem hm)
   have hs3:=zk Fm.size f.args m
   have hs4:=yx (f:=Fm.size) (g:=Fm.full) f.args fun x _=>x.size_le_full
   have hs5:=f.args[m].size_le_full
   have hc:=ih f.args[m] (by omega) (by omega)
   cases hx:(f.args[m]).shape with
   |false=>
    rw[hx,show(f.args[m]).nodes=0 by simp[Fm.nodes,hx]] at hc
    have e:f.shape=false:=by rw[hsh,wo Fm.shape hm hx];rfl
    rw[show f.nodes=0 by simp[Fm.nodes,e],e]
    repeat'(first|refine M.gw ?_|refine M.c2 (hc) ?_|fail)
    rfl
   |true=>
    rw[hx,show(f.args[m]).nodes=(f.args[m]).size by simp[Fm.nodes,hx]] at hc
    repeat'(first|refine M.gw ?_|refine M.c2 (hc) ?_|fail)
    refine⟨rfl,yb (p:=fun t=>Fm.shape t=true) hm hP hx,?_⟩
    simp only[hs1]
    exact(M.W [some 0] (hf:=(by(repeat'(first|exact trivial|refine And.intro ?_ ?_|refine⟨_,U,_,U,?_⟩|exact VLe.refl _|exact VLe.of_eq (by simp[Sto.upd,Int.natCast_add,Int.add_assoc])));done)))
  ·intro hP
   have hpa:=Zac Fm.shape f.args fun j hj=>hP j hj hj
   rw[hpa] at hsh
   have e:f.shape=true:=hsh
   rw[show f.nodes=f.size by simp[Fm.nodes,e],e,hse]
   simp only[List.take_length]
   repeat'(first|refine M.gw ?_|fail)
   rfl
theorem Zgo(f:Fm)(hf:f.full<1099511627776):PC E 64 [.agg f.view] (.tup [.i f.num,.i f.err]):=by
 have h1:=Zhh _ f (Nat.le_refl _) hf
 have hle:=f.size_le_full
 cases hs:f.shape with
 |false=>
  have e:f.err=2:=by simp[Fm.err,hs]
  rw[hs,show f.nodes=0 by simp[Fm.nodes,hs]] at h1
  rw[show f.num=0 by simp[Fm.num,e],e]
  refine M.F Tryz.func64 ?_
  repeat'(first|refine M.gw ?_|refine M.c2 (h1) ?_|((with_reducible refine D.sblk ?_);refine K.sq (AW.block ?_))|fail)
  rfl
 |true=>
  rw[hs,show f.nodes=f.size by simp[Fm.nodes,hs]] at h1
  by_cases hz:f.size>4096
  ·have e:f.err=4:=by simp[Fm.err,hs,hz]
   rw[show f.num=0 by simp[Fm.num,e],e]
   refine M.F Tryz.func64 ?_
   repeat'(first|refine M.gw ?_|refine M.c2 (h1) ?_|((with_reducible refine D.sblk ?_);refine K.sq (AW.block ?_))|refine AW.condS U (fun h=> ?_) (fun h=> ?_)|fail)
   ·rfl
   ·exfalso;simp at h;omega
  ·have e:f.err=0:=by simp[Fm.err,hs,hz]
   rw[show f.num=f.size by simp[Fm.num,e],e]
   refine M.F Tryz.func64 ?_
   repeat'(first|refine M.gw ?_|refine M.c2 (h1) ?_|((with_reducible refine D.sblk ?_);refine K.sq (AW.block ?_))|refine AW.condS U (fun h=> ?_) (fun h=> ?_)|fail)
   ·exfalso;simp at h;omega
   ·rfl
theorem w9:∀(b:Nat) (f:Fm),f.full≤b→b<1099511627776→PC E 103 [.agg f.view] (.agg f.view):=by
 intro b
 induction b with
 |zero=>intro f h;have:=f.full_pos;omega
 |succ b ih=>
 intro f hsz hb
 have hsz':=f.full_eq
 have hlen:=zc Fm.full Fm.full_pos f.args
 have hlen2:=zc Tm.full Tm.full_pos f.terms
 have hty:=x8 _ f.ty (Nat.le_refl _) (by omega)
 refine M.F Tryz.func103 ?_
 repeat'(first|refine M.gw ?_|refine M.c2 (hty) ?_|fail)
 refine AW.range f.terms.length (fun m=>True)
  (fun m=>([(1,.ptr 0 0),(2,.ptr 1 0),(3,.ptr 2 0),(15,.s .tm f.terms),(16,.i f.terms.length),(17,.i m)],⟨4,[(0,.var f.view),(1,.var [.i 0,.i 0,.slice .nil (.t .ty []),.slice .nil (.t .tm []),.slice .nil (.t .fm [])]),(2,.var [.i f.kind,.i f.ty.kind,.s .ty f.ty.args,.slice (.own 3) (.t .tm (f.terms.take m)),.slice .nil (.t .fm [])]),(3,.row)]⟩))
  (by omega) (fun m=>rfl) (fun m=>rfl) rfl trivial (M.W [some 0,some 1,some 2,none]) ?_ ?_
 ·intro m hm _
  have hs2:=zb Tm.full (List.getElem_mem hm)
  repeat'(first|refine M.gw ?_|refine M.c2 (uh _ _ (Nat.le_refl _) ?_) ?_|((with_reducible show @LT.lt Nat _ _ _);omega)|fail)
  exact⟨rfl,trivial,(M.W [some 0,some 1,some 2,some 5] (he:=(by(repeat'(first|exact trivial|exact Or.inr ⟨_,U,rfl⟩|refine And.intro ?_ ?_|refine⟨_,U,_,U,_,U,?_⟩|exact VLe.refl _|exact VLe.of_eq (by simp[Sto.upd,List.take_append_getElem])));done)))⟩
 ·intro _
  simp only[List.take_length]
  repeat'(first|refine M.gw ?_|fail)
  refine AW.range f.args.length (fun m=>True)
   (fun m=>([(1,.ptr 0 0),(2,.ptr 1 0),(3,.ptr 2 0),(30,.s .fm f.args),(31,.i f.args.length),(32,.i m)],⟨5,[(0,.var f.view),(1,.var [.i 0,.i 0,.slice .nil (.t .ty []),.slice .nil (.t .tm []),.slice .nil (.t .fm [])]),(2,.var [.i f.kind,.i f.ty.kind,.s .ty f.ty.args,.slice (.own 3) (.t .tm f.terms),.slice (.own 4) (.t .fm (f.args.take m))]),(3,.row),(4,.row)]⟩))
   (by omega) (fun m=>rfl) (fun m=>rfl) rfl trivial (M.W [some 0,some 1,some 2,some 3,none]) ?_ ?_
  ·intro m hm _
   have hs2:=zb Fm.full (List.getElem_mem hm)
   repeat'(first|refine M.gw ?_|refine M.c2 (ih _ ?_ ?_) ?_|((with_reducible show @LE.le Nat _ _ _);omega)|((with_reducible show @LT.lt Nat _ _ _);omega)|fail)
   exact⟨rfl,trivial,(M.W [some 0,some 1,some 2,some 3,some 6] (he:=(by(repeat'(first|exact trivial|exact Or.inr ⟨_,U,rfl⟩|refine And.intro ?_ ?_|refine⟨_,U,_,U,_,U,?_⟩|exact VLe.refl _|exact VLe.of_eq (by simp[Sto.upd,List.take_append_getElem])));done)))⟩
  ·intro _
   simp only[List.take_length]
   repeat'(first|refine M.gw ?_|fail)
   rfl
theorem Zb5(a b:Tm)(ha:a.full<1099511627776)(hb:b.full<1099511627776):PC E 42 [.agg a.view,.agg b.view] (.agg (eqF a b).view):=by
 have h1:=uh _ a (Nat.le_refl _) ha
 have h2:=uh _ b (Nat.le_refl _) hb
 refine M.F Tryz.func42 ?_
 repeat'(first|refine M.gw ?_|refine M.c2 (h1) ?_|refine M.c2 (h2) ?_|fail)
 rfl
theorem Zg8(k:Int)(a b:Fm)(ha:a.full<1099511627776)(hb:b.full<1099511627776):PC E 105 [.i k,.agg a.view,.agg b.view] (.agg (Fm.mk k (.mk 0 []) [] [a,b]).view):=by
 have h1:=w9 _ a (Nat.le_refl _) ha
 have h2:=w9 _ b (Nat.le_refl _) hb
 refine M.F Tryz.func105 ?_
 repeat'(first|refine M.gw ?_|refine M.c2 (h1) ?_|refine M.c2 (h2) ?_|fail)
 rfl
theorem Zet(k:Int)(s:Ty)(f:Fm)(hs:s.size<1099511627776)(hf:f.full<1099511627776):PC E 41 [.i k,.agg s.view,.agg f.view] (.agg (Fm.mk k s [] [f]).view):=by
 have h1:=x8 _ s (Nat.le_refl _) hs
 have h2:=w9 _ f (Nat.le_refl _) hf
 refine M.F Tryz.func41 ?_
 repeat'(first|refine M.gw ?_|refine M.c2 (h1) ?_|refine M.c2 (h2) ?_|fail)
 rfl
theorem Zy0(d:Dk)(h:d.ok):AC E 14 [.ptr 0 0,.i 0] ⟨1,[(0,.var d.cells)]⟩ (.agg (d.type 0).1.view) ⟨1,[(0,.var (d.type 0).2.cells)]⟩:=Zhm 0 0 d (by omega) (by omega) (by omega) h
theorem Zs2:∀(n:Nat) (d:Dk) (g:List Ty) (k:Int),n≤3→k=n→d.ok→smalls g→g.length+n≤5000→
 AC E 33 [.ptr 0 0,.s .ty g,.i k] ⟨1,[(0,.var d.cells)]⟩ (.agg (Dk.fm n d g).1.view) ⟨1,[(0,.var (Dk.fm n d g).2.cells)]⟩:=by
 have bd:∀(n:Nat) (d:Dk) (g:List Ty),n≤3→smalls g→(Dk.fm n d g).1.full≤10000:=fun n d g hn hg=>by
  have h1:=(Dk.fm_good n d g hg).2.2
  have h2:2^n≤2^3:=Nat.pow_le_pow_right (by omega) hn
  omega
 have eqc:∀(d:Dk) (g:List Ty),d.ok→smalls g→g.length≤5000→∃(x:Tm) (d1:Dk) (y:Tm) (d2:Dk),d.eqf g=(eqF x y,d2)∧x.full≤1000∧y.full≤1000∧
  AC E 13 [.ptr 0 0,.s .ty g,.agg natT.view,.i 1] ⟨1,[(0,.var d.cells)]⟩ (.agg x.view) ⟨1,[(0,.var d1.cells)]⟩∧
  AC E 13 [.ptr 0 0,.s .ty g,.agg natT.view,.i 1] ⟨1,[(0,.var d1.cells)]⟩ (.agg y.view) ⟨1,[(0,.var d2.cells)]⟩:=fun d g hd hg hl=>by
  have d1:=Dk.tm_ok 3 d g natT hd
  have m1:=(Dk.tm_mk 3 d g natT hg ze (by omega) (by omega)).full hg ze
  have m2:=(Dk.tm_mk 3 (Dk.tm 3 d g natT).2 g natT hg ze (by omega) (by omega)).full hg ze
  exact⟨_,_,_,_,rfl,by omega,by omega,Zex 3 (by omega) d g natT 1 (by omega) hd hg ze (by omega) (by omega) (by omega),
   Zex 3 (by omega) (Dk.tm 3 d g natT).2 g natT 1 (by omega) d1 hg ze (by omega) (by omega) (by omega)⟩
 intro n
 induction n with
 |zero=>
  intro d g k _ hk hd hg hl
  obtain⟨x,d1,y,d2,e,fx,fy,h1,h2⟩:=eqc d g hd hg (by omega)
  have he:=Zb5 x y (by omega) (by omega)
  rw[show Dk.fm 0 d g=(eqF x y,d2) from e]
  obtain rfl:k=0:=hk
  refine M.F Tryz.func33 ?_
  repeat'(first|refine M.gw ?_|refine M.c2 (vb) ?_|refine M.cb (h1) [0] 0 ?_|refine M.cb (h2) [0] 0 ?_|refine M.c2 (he) ?_|fail)
  (exact M.n2 [some 0] (h8:=(by simp[zi,V.wk,V.wks,za,Ty.view,Tm.view,eqF,Fm.view])))
 |succ n ih=>
 intro d g k hn hk hd hg hl
 have h9:=ud d 9 hd (by omega)
 have hbd:=Dk.next_bd d 9 (by omega)
 have d9:=Dk.next_ok hd 9
 have hkp:k>0:=by omega
 have efm:Dk.fm (n+1) d g=Dk.fm (n+1) d g:=rfl
 conv at efm=>rhs;rw[Dk.fm]
 generalize hr:(d.next 9).1=r at*
 generalize (d.next 9).2=e1 at*
 have hr9:r=0∨r=1∨r=2∨r=3∨r=4∨r=5∨r=6∨r=7∨r=8:=by omega
 rcases hr9 with rfl|rfl|rfl|rfl|rfl|rfl|rfl|rfl|rfl
 ·simp only[show((0:Int)=1)=False by simp,show((0:Int)=2)=False by simp,show((0:Int)=3)=False by simp,show((0:Int)=4)=False by simp,show((0:Int)=5)=False by simp,show((0:Int)=6)=False by simp,if_false,if_true,or_self,or_true,true_or,or_false,false_or] at efm
  rw[efm]
  have a1:=ih e1 g (k-1) (by omega) (by omega) d9 hg (by omega)
  have f1:=bd n e1 g (by omega) hg
  have k1:=Dk.fm_ok n e1 g d9
  generalize (Dk.fm n e1 g).1=x at*
  generalize (Dk.fm n e1 g).2=e2 at*
  have a2:=ih e2 g (k-1) (by omega) (by omega) k1 hg (by omega)
  have f2:=bd n e2 g (by omega) hg
  generalize (Dk.fm n e2 g).1=y at*
  generalize (Dk.fm n e2 g).2=e3 at*
  have hw:=Zg8 2 x y (by omega) (by omega)
  refine M.F Tryz.func33 ?_
  repeat'(first|refine M.gw ?_|refine M.cb (h9) [0] 0 ?_|refine M.cb (a1) [0] 0 ?_|refine M.cb (a2) [0] 0 ?_|refine M.c2 (hw) ?_|((with_reducible refine D.blk ?_);refine AW.block ?_)|refine AW.condS U (fun h=> ?_) (fun h=> ?_)|fail)
  all_goals first
   |(exfalso;simp at h;omega)
   |skip
  (exact M.n2 [some 0] (h8:=(by simp[zi,V.wk,V.wks,za,Ty.view,Tm.view,vk,Fm.view])))
 ·simp only[show((1:Int)=0)=False by simp,show((1:Int)=2)=False by simp,show((1:Int)=3)=False by simp,show((1:Int)=4)=False by simp,show((1:Int)=5)=False by simp,show((1:Int)=6)=False by simp,if_false,if_true,or_self,or_true,true_or,or_false,false_or] at efm
  rw[efm]
  have a1:=ih e1 g (k-1) (by omega) (by omega) d9 hg (by omega)
  have f1:=bd n e1 g (by omega) hg
  have k1:=Dk.fm_ok n e1 g d9
  generalize (Dk.fm n e1 g).1=x at*
  generalize (Dk.fm n e1 g).2=e2 at*
  have a2:=ih e2 g (k-1) (by omega) (by omega) k1 hg (by omega)
  have f2:=bd n e2 g (by omega) hg
  generalize (Dk.fm n e2 g).1=y at*
  generalize (Dk.fm n e2 g).2=e3 at*
  have hw:=Zg8 3 x y (by omega) (by omega)
  refine M.F Tryz.func33 ?_
  repeat'(first|refine M.gw ?_|refine M.cb (h9) [0] 0 ?_|refine M.cb (a1) [0] 0 ?_|refine M.cb (a2) [0] 0 ?_|refine M.c2 (hw) ?_|((with_reducible refine D.blk ?_);refine AW.block ?_)|refine AW.condS U (fun h=> ?_) (fun h=> ?_)|fail)
  all_goals first
   |(exfalso;simp at h;omega)
   |skip
  (exact M.n2 [some 0] (h8:=(by simp[zi,V.wk,V.wks,za,Ty.view,Tm.view,vk,Fm.view])))
 ·simp only[show((2:Int)=0)=False by simp,show((2:Int)=1)=False by simp,show((2:Int)=3)=False by simp,show((2:Int)=4)=False by simp,show((2:Int)=5)=False by simp,show((2:Int)=6)=False by simp,if_false,if_true,or_self,or_true,true_or,or_false,false_or] at efm
  rw[efm]
  have a1:=ih e1 g (k-1) (by omega) (by omega) d9 hg (by omega)
  have f1:=bd n e1 g (by omega) hg
  have k1:=Dk.fm_ok n e1 g d9
  generalize (Dk.fm n e1 g).1=x at*
  generalize (Dk.fm n e1 g).2=e2 at*
  have a2:=ih e2 g (k-1) (by omega) (by omega) k1 hg (by omega)
  have f2:=bd n e2 g (by omega) hg
  generalize (Dk.fm n e2 g).1=y at*
  generalize (Dk.fm n e2 g).2=e3 at*
  have hw:=Zg8 3 x y (by omega) (by omega)
  refine M.F Tryz.func33 ?_
  repeat'(first|refine M.gw ?_|refine M.cb (h9) [0] 0 ?_|refine M.cb (a1) [0] 0 ?_|refine M.cb (a2) [0] 0 ?_|refine M.c2 (hw) ?_|((with_reducible refine D.blk ?_);refine AW.block ?_)|refine AW.condS U (fun h=> ?_) (fun h=> ?_)|fail)
  all_goals first
   |(exfalso;simp at h;omega)
   |skip
  (exact M.n2 [some 0] (h8:=(by simp[zi,V.wk,V.wks,za,Ty.view,Tm.view,vk,Fm.view])))
 ·simp only[show((3:Int)=0)=False by simp,show((3:Int)=1)=False by simp,show((3:Int)=2)=False by simp,show((3:Int)=4)=False by simp,show((3:Int)=5)=False by simp,show((3:Int)=6)=False by simp,if_false,if_true,or_self,or_true,true_or,or_false,false_or] at efm
  rw[efm]
  have ts:=Zl4 e1 d9
  have ss:=Dk.type1 e1
  have k1:=Dk.type_ok 1 e1 d9
  generalize (e1.type 1).1=s at*
  generalize (e1.type 1).2=e2 at*
  have gs:=zl hg (zg ss zj)
  have hlg:=ul g [s] (by simp;omega)
  have a1:=ih e2 (g++[s]) (k-1) (by omega) (by omega) k1 gs (by simp;omega)
  have f1:=bd n e2 (g++[s]) (by omega) gs
  generalize (Dk.fm n e2 (g++[s])).1=x at*
  generalize (Dk.fm n e2 (g++[s])).2=e3 at*
  have hw:=Zet 4 s x (by have:=ss.2;omega) (by omega)
  refine M.F Tryz.func33 ?_
  repeat'(first|refine M.gw ?_|refine M.cb (h9) [0] 0 ?_|refine M.cb (ts) [0] 0 ?_|refine M.c2 (hlg) ?_|refine M.cb (a1) [0] 0 ?_|refine M.c2 (hw) ?_|((with_reducible refine D.blk ?_);refine AW.block ?_)|refine AW.condS U (fun h=> ?_) (fun h=> ?_)|fail)
  all_goals first
   |(exfalso;simp at h;omega)
   |skip
  (exact M.n2 [some 0] (h8:=(by simp[zi,V.wk,V.wks,za,Ty.view,Tm.view,quF,Fm.view])))
 ·simp only[show((4:Int)=0)=False by simp,show((4:Int)=1)=False by simp,show((4:Int)=2)=False by simp,show((4:Int)=3)=False by simp,show((4:Int)=5)=False by simp,show((4:Int)=6)=False by simp,if_false,if_true,or_self,or_true,true_or,or_false,false_or] at efm
  rw[efm]
  have ts:=Zl4 e1 d9
  have ss:=Dk.type1 e1
  have k1:=Dk.type_ok 1 e1 d9
  generalize (e1.type 1).1=s at*
  generalize (e1.type 1).2=e2 at*
  have gs:=zl hg (zg ss zj)
  have hlg:=ul g [s] (by simp;omega)
  have a1:=ih e2 (g++[s]) (k-1) (by omega) (by omega) k1 gs (by simp;omega)
  have f1:=bd n e2 (g++[s]) (by omega) gs
  generalize (Dk.fm n e2 (g++[s])).1=x at*
  generalize (Dk.fm n e2 (g++[s])).2=e3 at*
  have hw:=Zet 4 s x (by have:=ss.2;omega) (by omega)
  refine M.F Tryz.func33 ?_
  repeat'(first|refine M.gw ?_|refine M.cb (h9) [0] 0 ?_|refine M.cb (ts) [0] 0 ?_|refine M.c2 (hlg) ?_|refine M.cb (a1) [0] 0 ?_|refine M.c2 (hw) ?_|((with_reducible refine D.blk ?_);refine AW.block ?_)|refine AW.condS U (fun h=> ?_) (fun h=> ?_)|fail)
  all_goals first
   |(exfalso;simp at h;omega)
   |skip
  (exact M.n2 [some 0] (h8:=(by simp[zi,V.wk,V.wks,za,Ty.view,Tm.view,quF,Fm.view])))
 ·simp only[show((5:Int)=0)=False by simp,show((5:Int)=1)=False by simp,show((5:Int)=2)=False by simp,show((5:Int)=3)=False by simp,show((5:Int)=4)=False by simp,show((5:Int)=6)=False by simp,if_false,if_true,or_self,or_true,true_or,or_false,false_or] at efm
  rw[efm]
  have ts:=Zl4 e1 d9
  have ss:=Dk.type1 e1
  have k1:=Dk.type_ok 1 e1 d9
  generalize (e1.type 1).1=s at*
  generalize (e1.type 1).2=e2 at*
  have gs:=zl hg (zg ss zj)
  have hlg:=ul g [s] (by simp;omega)
  have a1:=ih e2 (g++[s]) (k-1) (by omega) (by omega) k1 gs (by simp;omega)
  have f1:=bd n e2 (g++[s]) (by omega) gs
  generalize (Dk.fm n e2 (g++[s])).1=x at*
  generalize (Dk.fm n e2 (g++[s])).2=e3 at*
  have hw:=Zet 5 s x (by have:=ss.2;omega) (by omega)
  refine M.F Tryz.func33 ?_
  repeat'(first|refine M.gw ?_|refine M.cb (h9) [0] 0 ?_|refine M.cb (ts) [0] 0 ?_|refine M.c2 (hlg) ?_|refine M.cb (a1) [0] 0 ?_|refine M.c2 (hw) ?_|((with_reducible refine D.blk ?_);refine AW.block ?_)|refine AW.condS U (fun h=> ?_) (fun h=> ?_)|fail)
  all_goals first
   |(exfalso;simp at h;omega)
   |skip
  (exact M.n2 [some 0] (h8:=(by simp[zi,V.wk,V.wks,za,Ty.view,Tm.view,quF,Fm.view])))
 ·simp only[show((6:Int)=0)=False by simp,show((6:Int)=1)=False by simp,show((6:Int)=2)=False by simp,show((6:Int)=3)=False by simp,show((6:Int)=4)=False by simp,show((6:Int)=5)=False by simp,if_false,if_true,or_self,or_true,true_or,or_false,false_or] at efm
  rw[efm]
  have ts:=Zy0 e1 d9
  have ss0:=Dk.type0 e1
  have ss:=zp ss0.1 ss0.2
  have k1:=Dk.type_ok 0 e1 d9
  generalize (e1.type 0).1=s at*
  generalize (e1.type 0).2=e2 at*
  have h2:=ud e2 2 k1 (by omega)
  have hb2:=Dk.next_bd e2 2 (by omega)
  have k2:=Dk.next_ok k1 2
  generalize (e2.next 2).1=u at*
  generalize (e2.next 2).2=e3 at*
  have gs:=zl hg (zg ss zj)
  have hlg:=ul g [s] (by simp;omega)
  have a1:=ih e3 (g++[s]) (k-1) (by omega) (by omega) k2 gs (by simp;omega)
  have f1:=bd n e3 (g++[s]) (by omega) gs
  generalize (Dk.fm n e3 (g++[s])).1=x at*
  generalize (Dk.fm n e3 (g++[s])).2=e4 at*
  have hw:=Zet (6+u) s x (by have:=ss.2;omega) (by omega)
  refine M.F Tryz.func33 ?_
  repeat'(first|refine M.gw ?_|refine M.cb (h9) [0] 0 ?_|refine M.cb (ts) [0] 0 ?_|refine M.cb (h2) [0] 0 ?_|refine M.c2 (hlg) ?_|refine M.cb (a1) [0] 0 ?_|refine M.c2 (hw) ?_|((with_reducible refine D.blk ?_);refine AW.block ?_)|refine AW.condS U (fun h=> ?_) (fun h=> ?_)|fail)
  all_goals first
   |(exfalso;simp at h;omega)
   |skip
  (exact M.n2 [some 0] (h8:=(by simp[zi,V.wk,V.wks,za,Ty.view,Tm.view,quF,Fm.view])))
 ·simp only[show((7:Int)=0)=False by simp,show((7:Int)=1)=False by simp,show((7:Int)=2)=False by simp,show((7:Int)=3)=False by simp,show((7:Int)=4)=False by simp,show((7:Int)=5)=False by simp,show((7:Int)=6)=False by simp,if_false,if_true,or_self,or_true,true_or,or_false,false_or] at efm
  rw[efm]
  obtain⟨x,d1,y,d2,e,fx,fy,h1,h2⟩:=eqc e1 g d9 hg (by omega)
  rw[e]
  have he:=Zb5 x y (by omega) (by omega)
  refine M.F Tryz.func33 ?_
  repeat'(first|refine M.gw ?_|refine M.cb (h9) [0] 0 ?_|refine M.c2 (vb) ?_|refine M.cb (h1) [0] 0 ?_|refine M.cb (h2) [0] 0 ?_|refine M.c2 (he) ?_|((with_reducible refine D.blk ?_);refine AW.block ?_)|refine AW.condS U (fun h=> ?_) (fun h=> ?_)|fail)
  all_goals first
   |(exfalso;simp at h;omega)
   |skip
  (exact M.n2 [some 0] (h8:=(by simp[zi,V.wk,V.wks,za,Ty.view,Tm.view,eqF,Fm.view])))
 ·simp only[show((8:Int)=0)=False by simp,show((8:Int)=1)=False by simp,show((8:Int)=2)=False by simp,show((8:Int)=3)=False by simp,show((8:Int)=4)=False by simp,show((8:Int)=5)=False by simp,show((8:Int)=6)=False by simp,if_false,if_true,or_self,or_true,true_or,or_false,false_or] at efm
  rw[efm]
  obtain⟨x,d1,y,d2,e,fx,fy,h1,h2⟩:=eqc e1 g d9 hg (by omega)
  rw[e]
  have he:=Zb5 x y (by omega) (by omega)
  refine M.F Tryz.func33 ?_
  repeat'(first|refine M.gw ?_|refine M.cb (h9) [0] 0 ?_|refine M.c2 (vb) ?_|refine M.cb (h1) [0] 0 ?_|refine M.cb (h2) [0] 0 ?_|refine M.c2 (he) ?_|((with_reducible refine D.blk ?_);refine AW.block ?_)|refine AW.condS U (fun h=> ?_) (fun h=> ?_)|fail)
  all_goals first
   |(exfalso;simp at h;omega)
   |skip
  (exact M.n2 [some 0] (h8:=(by simp[zi,V.wk,V.wks,za,Ty.view,Tm.view,eqF,Fm.view])))
def nearG(b:Bool)(l:List (Int×Int)):Bool:=b&&l.all fun p=>decide (p.1≤268435456)
theorem Zyf(b:Bool)(t:Tm)(bl:Int)(ht:t.full<1099511627776):AC E 169 [.agg t.view,.i bl,.ptr 0 0] ⟨1,[(0,.var [.bool b])]⟩ (.tup []) ⟨1,[(0,.var [.bool (Zmf Tm.near b [(t,bl)])])]⟩:=by
 have hc:=Zsn t ht
 refine M.F Tryz.func169 ?_
 repeat'(first|refine M.gw ?_|refine M.c2 (hc) ?_|((fail_if_success refine AX.wt U ?_);refine AX.gs U U (fun _=>trivial) (fun h=> ?_) (fun h=> ?_))|fail)
 ·(exact M.n2 [some 0] (h6:=(by(repeat'(first|exact trivial|refine And.intro ?_ ?_|refine⟨_,U,_,U,_,U,?_⟩|exact VLe.of_eq (by simp[Sto.upd,Zfb,h])));done)) (h8:=(by simp[zi,V.wk,V.wks,za,Ty.view,Tm.view,Zfb,h])))
 ·(exact M.n2 [some 0] (h6:=(by(repeat'(first|exact trivial|refine And.intro ?_ ?_|refine⟨_,U,_,U,_,U,?_⟩|exact VLe.of_eq (by simp[Sto.upd,Zfb,h])));done)) (h8:=(by simp[zi,V.wk,V.wks,za,Ty.view,Tm.view,Zfb,h])))
theorem Zvl(at_ c:Int)(t:Tm)(bl:Int)(ht:t.full<549755813888)(hc0:0≤c∧c<549755813888)(ha:0≤at_∧at_<549755813888)(hb:0≤bl∧bl<549755813888)(hix:∀p∈t.vars 0,0≤p.1∧p.1<1099511627776):
 AC E 125 [.agg t.view,.i bl,.ptr 0 0,.ptr 1 0] ⟨2,[(0,.var [.i c]),(1,.var [.i at_])]⟩ (.tup []) ⟨2,[(0,.var [.i (c+wu at_ [(t,bl)])]),(1,.var [.i at_])]⟩:=by
 have hc:=Zte t (at_+bl) ht hix
 have h1:=Zn1 (at_+bl) (t.vars 0)
 have h2:=t.vars_len 0
 have h3:=t.size_le_full
 refine M.F Tryz.func125 ?_
 repeat'(first|refine M.gw ?_|refine M.c2 (hc) ?_|fail)
 (exact M.n2 [some 0,some 1] (h8:=(by simp[zi,V.wk,V.wks,za,Ty.view,Tm.view,wu])))
theorem Zpm:∀(n:Nat) (f:Fm) (b:Bool) (bl:Int),f.full≤n→n<549755813888→0≤bl→bl+n<549755813888→AC E 124 [.agg f.view,.i bl,.fn (.func 169) [] [.ptr 0 0]] ⟨1,[(0,.var [.bool b])]⟩ (.tup []) ⟨1,[(0,.var [.bool (Zmf Tm.near b (f.tms bl))])]⟩:=by
 intro n
 induction n with
 |zero=>intro f;intros;have:=f.full_pos;omega
 |succ n ih=>
 intro f b bl hsz hn hbl hbn
 have hsz':=f.full_eq
 have hlen:=zc Fm.full Fm.full_pos f.args
 have hlen2:=zc Tm.full Tm.full_pos f.terms
 have htm:=f.tms_eq bl
 have hq:=Zbx f.kind
 refine M.F Tryz.func124 ?_
 repeat'(first|refine M.gw ?_|fail)
 refine AW.range f.terms.length (fun m=>True)
  (fun m=>([(1,.i bl),(2,.fn (.func 169) [] [.ptr 0 0]),(3,.ptr 1 0),(11,.s .tm f.terms),(12,.i f.terms.length),(13,.i m)],⟨2,[(0,.var [.bool (Zmf Tm.near b ((f.terms.take m).map (fun t=>(t,bl))))]),(1,.var f.view)]⟩))
  (by omega) (fun m=>rfl) (fun m=>rfl) rfl trivial ?_ ?_ ?_
 ·exact (M.W [some 0,some 1] (he:=(by(repeat'(first|exact trivial|refine And.intro ?_ ?_|refine⟨_,U,_,U,_,U,?_⟩|exact VLe.refl _|exact VLe.of_eq (by simp[Sto.upd,Zid])));done)))
 ·intro m hm _
  have hs2:=zb Tm.full (List.getElem_mem hm)
  have hc:=Zyf (Zmf Tm.near b ((f.terms.take m).map (fun t=>(t,bl)))) f.terms[m] bl (by omega)
  repeat'(first|refine M.gw ?_|refine M.cv (hc) [0] 0 ?_|fail)
  refine⟨rfl,trivial,?_⟩
  exact(M.W [some 0,some 1] (he:=(by(repeat'(first|exact trivial|refine And.intro ?_ ?_|refine⟨_,U,_,U,_,U,?_⟩|exact VLe.refl _|exact VLe.of_eq (by simp[Sto.upd,Zg2,yc _ _ _ hm])));done)))
 ·intro _
  simp only[List.take_length]
  repeat'(first|refine M.gw ?_|refine M.c2 (hq) ?_|refine AW.condS U (fun h=> ?_) (fun h=> ?_)|fail)
  all_goals
   have hup:upF f.kind bl≤bl+1:=by simp only[upF];split<;>omega
   have hup0:0≤upF f.kind bl:=by simp only[upF];split<;>omega
   refine AW.range f.args.length (fun m=>True)
    (fun m=>([(1,.i (upF f.kind bl)),(2,.fn (.func 169) [] [.ptr 0 0]),(3,.ptr 1 0),(28,.s .fm f.args),(29,.i f.args.length),(30,.i m)],⟨2,[(0,.var [.bool (Zmf Tm.near b (f.terms.map (fun t=>(t,bl))++(f.args.take m).flatMap (Fm.tms (upF f.kind bl))))]),(1,.var f.view)]⟩))
    (by omega) (fun m=>rfl) (fun m=>rfl) rfl trivial ?_ ?_ ?_
   ·exact (M.W [some 0,some 1] (hf:=(by(repeat'(first|exact trivial|refine And.intro ?_ ?_|refine⟨_,U,_,U,?_⟩|exact VLe.refl _|exact VLe.of_eq (by simp[Sto.upd,upF,h,Zid])));done)) (he:=(by(repeat'(first|exact trivial|refine And.intro ?_ ?_|refine⟨_,U,_,U,_,U,?_⟩|exact VLe.refl _|exact VLe.of_eq (by simp[Sto.upd,upF,h,Zid])));done)))
   ·intro m hm _
    have hs2:=zb Fm.full (List.getElem_mem hm)
    have hc:=ih f.args[m] (Zmf Tm.near b (f.terms.map (fun t=>(t,bl))++(f.args.take m).flatMap (Fm.tms (upF f.kind bl)))) (upF f.kind bl) (by omega) (by omega) hup0 (by omega)
    repeat'(first|refine M.gw ?_|refine M.cv (hc) [0] 0 ?_|fail)
    refine⟨rfl,trivial,?_⟩
    exact(M.W [some 0,some 1] (he:=(by(repeat'(first|exact trivial|refine And.intro ?_ ?_|refine⟨_,U,_,U,_,U,?_⟩|exact VLe.refl _|exact VLe.of_eq (by simp[Sto.upd,Zg2,Zav _ _ _ hm])));done)))
   ·intro _
    skip
    (exact M.n2 [some 0] (h6:=(by(repeat'(first|exact trivial|refine And.intro ?_ ?_|refine⟨_,U,_,U,_,U,?_⟩|exact VLe.of_eq (by simp[Sto.upd,htm])));done)) (h8:=(by simp[zi,V.wk,V.wks,za,Ty.view,Tm.view,htm])))
theorem Zmn(at_ C:Int)(ha:0≤at_∧at_<549755813888)(hC:C<549755813888):∀(n:Nat) (f:Fm) (c:Int) (bl:Int),f.full≤n→n<549755813888→0≤bl→bl+n<549755813888→0≤c→c+f.size≤C→(∀p∈f.tms bl,∀q∈p.1.vars 0,0≤q.1∧q.1<1099511627776)→AC E 124 [.agg f.view,.i bl,.fn (.func 125) [] [.ptr 0 0,.ptr 1 0]] ⟨2,[(0,.var [.i c]),(1,.var [.i at_])]⟩ (.tup []) ⟨2,[(0,.var [.i (c+wu at_ (f.tms bl))]),(1,.var [.i at_])]⟩:=by
 intro n
 induction n with
 |zero=>intro f;intros;have:=f.full_pos;omega
 |succ n ih=>
 intro f c bl hsz hn hbl hbn hc0 hcC hix
 have hsz':=f.full_eq
 have hlen:=zc Fm.full Fm.full_pos f.args
 have hlen2:=zc Tm.full Tm.full_pos f.terms
 have htm:=f.tms_eq bl
 have hq:=Zbx f.kind
 refine M.F Tryz.func124 ?_
 repeat'(first|refine M.gw ?_|fail)
 refine AW.range f.terms.length (fun m=>True)
  (fun m=>([(1,.i bl),(2,.fn (.func 125) [] [.ptr 0 0,.ptr 1 0]),(3,.ptr 2 0),(11,.s .tm f.terms),(12,.i f.terms.length),(13,.i m)],⟨3,[(0,.var [.i (c+wu at_ ((f.terms.take m).map (fun t=>(t,bl))))]),(1,.var [.i at_]),(2,.var f.view)]⟩))
  (by omega) (fun m=>rfl) (fun m=>rfl) rfl trivial ?_ ?_ ?_
 ·exact (M.W [some 0,some 1,some 2] (he:=(by(repeat'(first|exact trivial|refine And.intro ?_ ?_|refine⟨_,U,_,U,_,U,?_⟩|exact VLe.refl _|exact VLe.of_eq (by simp[Sto.upd,wu])));done)))
 ·intro m hm _
  have hs2:=zb Tm.full (List.getElem_mem hm)
  have hle1:=Zej at_ ((f.terms.take m).map (fun t=>(t,bl)))
  have hle2:(((f.terms.take m).map (fun t=>(t,bl))).map fun p:Tm×Int=>p.1.size).sum≤f.size:=Zzq f bl m
  have hc:=Zvl at_ (c+wu at_ ((f.terms.take m).map (fun t=>(t,bl)))) f.terms[m] bl (by omega) (by omega) ha (by omega) (fun p hp=>hix _ (by rw[htm];exact List.mem_append_left _ (List.mem_map.2 ⟨_,List.getElem_mem hm,rfl⟩)) p hp)
  repeat'(first|refine M.gw ?_|refine M.cv (hc) [0,1] 0 ?_|fail)
  refine⟨rfl,trivial,?_⟩
  exact(M.W [some 0,some 1,some 2] (he:=(by(repeat'(first|exact trivial|refine And.intro ?_ ?_|refine⟨_,U,_,U,_,U,?_⟩|exact VLe.refl _|exact VLe.of_eq (by simp[Sto.upd,yu,Int.natCast_add,Int.add_assoc,yc _ _ _ hm])));done)))
 ·intro _
  simp only[List.take_length]
  repeat'(first|refine M.gw ?_|refine M.c2 (hq) ?_|refine AW.condS U (fun h=> ?_) (fun h=> ?_)|fail)
  all_goals
   have hup:upF f.kind bl≤bl+1:=by simp only[upF];split<;>omega
   have hup0:0≤upF f.kind bl:=by simp only[upF];split<;>omega
   refine AW.range f.args.length (fun m=>True)
    (fun m=>([(1,.i (upF f.kind bl)),(2,.fn (.func 125) [] [.ptr 0 0,.ptr 1 0]),(3,.ptr 2 0),(28,.s .fm f.args),(29,.i f.args.length),(30,.i m)],⟨3,[(0,.var [.i (c+wu at_ (f.terms.map (fun t=>(t,bl))++(f.args.take m).flatMap (Fm.tms (upF f.kind bl))))]),(1,.var [.i at_]),(2,.var f.view)]⟩))
    (by omega) (fun m=>rfl) (fun m=>rfl) rfl trivial ?_ ?_ ?_
   ·exact (M.W [some 0,some 1,some 2] (hf:=(by(repeat'(first|exact trivial|refine And.intro ?_ ?_|refine⟨_,U,_,U,?_⟩|exact VLe.refl _|exact VLe.of_eq (by simp[Sto.upd,upF,h,wu])));done)) (he:=(by(repeat'(first|exact trivial|refine And.intro ?_ ?_|refine⟨_,U,_,U,_,U,?_⟩|exact VLe.refl _|exact VLe.of_eq (by simp[Sto.upd,upF,h,wu])));done)))
   ·intro m hm _
    have hs2:=zb Fm.full (List.getElem_mem hm)
    have hle1:=Zej at_ (f.terms.map (fun t=>(t,bl))++(f.args.take m).flatMap (Fm.tms (upF f.kind bl)))
    have hle2:((f.terms.map (fun t=>(t,bl))++(f.args.take m).flatMap (Fm.tms (upF f.kind bl))).map fun p:Tm×Int=>p.1.size).sum+(f.args[m]).size≤f.size:=Yam f bl m hm
    have hc:=ih f.args[m] (c+wu at_ (f.terms.map (fun t=>(t,bl))++(f.args.take m).flatMap (Fm.tms (upF f.kind bl)))) (upF f.kind bl) (by omega) (by omega) hup0 (by omega) (by omega) (by omega) (fun p hp=>hix p (by rw[htm];exact List.mem_append_right _ (List.mem_flatMap.2 ⟨_,List.getElem_mem hm,hp⟩)))
    repeat'(first|refine M.gw ?_|refine M.cv (hc) [0,1] 0 ?_|fail)
    refine⟨rfl,trivial,?_⟩
    exact(M.W [some 0,some 1,some 2] (he:=(by(repeat'(first|exact trivial|refine And.intro ?_ ?_|refine⟨_,U,_,U,_,U,?_⟩|exact VLe.refl _|exact VLe.of_eq (by simp[Sto.upd,yu,Int.natCast_add,Int.add_assoc,Zav _ _ _ hm])));done)))
   ·intro _
    skip
    (exact M.n2 [some 0,some 1] (h6:=(by(repeat'(first|exact trivial|refine And.intro ?_ ?_|refine⟨_,U,_,U,_,U,?_⟩|exact VLe.refl _|exact VLe.of_eq (by simp[Sto.upd,htm])));done)) (h8:=(by simp[zi,V.wk,V.wks,za,Ty.view,Tm.view,htm])))
theorem Zwm(f:Fm)(hf:f.full<274877906944):PC E 116 [.agg f.view] (.bool f.near):=by
 have hc:=Zpm _ f true 0 (Nat.le_refl _) (by omega) (by omega) (by omega)
 refine M.F Tryz.func116 ?_
 repeat'(first|refine M.gw ?_|refine M.cv (hc) [1] 0 ?_|fail)
 simp[zi,V.wk,V.wks,Zmf,Fm.near]
theorem Zqp(f:Fm)(at_:Int)(ha:0≤at_∧at_<549755813888)(hf:f.full<274877906944)(hix:∀p∈f.tms 0,∀q∈p.1.vars 0,0≤q.1∧q.1<1099511627776):PC E 65 [.agg f.view,.i at_] (.i (wu at_ (f.tms 0))):=by
 have hle:=f.size_le_full
 have hc:=Zmn at_ (f.size) ha (by omega) _ f 0 0 (Nat.le_refl _) (by omega) (by omega) (by omega) (by omega) (by omega) hix
 refine M.F Tryz.func65 ?_
 repeat'(first|refine M.gw ?_|refine M.cv (hc) [2,1] 0 ?_|fail)
 simp[zi,V.wk,V.wks]
theorem Zy2(at_:Int)(s:Tm)(hat:0≤at_∧at_<274877906944)(hs:s.full<274877906944)(hsi:∀p∈s.vars 0,0≤p.1∧p.1<549755813888)(t:Tm)(bl:Int)(ht:t.full<274877906944)(hb:0≤bl∧bl<274877906944)(hix:∀p∈t.vars 0,0≤p.1∧p.1<549755813888):
 AC E 184 [.agg t.view,.i bl,.ptr 0 0,.ptr 1 0] ⟨2,[(0,.var [.i at_]),(1,.var s.view)]⟩ (.agg (t.re (y5 (at_+bl) s) 0).view) ⟨2,[(0,.var [.i at_]),(1,.var s.view)]⟩:=by
 have hc:=Ybf t (at_+bl) s (by omega) hs hsi ht hix
 refine M.F Tryz.func184 ?_
 repeat'(first|refine M.gw ?_|refine M.c2 (hc) ?_|fail)
 (exact M.n2 [some 0,some 1] (h8:=(by simp[zi,V.wk,V.wks,za,Ty.view,Tm.view,hc])))
theorem Zyh(at_:Int)(s:Tm)(hat:0≤at_∧at_<274877906944)(hs:s.full<274877906944)(hsi:∀p∈s.vars 0,0≤p.1∧p.1<549755813888):∀(n:Nat) (f:Fm) (bl:Int),f.full≤n→n<274877906944→0≤bl→bl+n<274877906944→(∀p∈f.tms bl,∀q∈p.1.vars 0,0≤q.1∧q.1<549755813888)→
 AC E 183 [.agg f.view,.i bl,.fn (.func 184) [] [.ptr 0 0,.ptr 1 0]] ⟨2,[(0,.var [.i at_]),(1,.var s.view)]⟩ (.agg (f.re (fun b t=>t.re (y5 (at_+b) s) 0) bl).view) ⟨2,[(0,.var [.i at_]),(1,.var s.view)]⟩:=by
 intro n
 induction n with
 |zero=>intro f bl h;intros;have:=f.full_pos;omega
 |succ n ih=>
 intro f bl hsz hb hbl hbn hix
 have hsz':=f.full_eq
 have hlen:=zc Fm.full Fm.full_pos f.args
 have hlen2:=zc Tm.full Tm.full_pos f.terms
 have hty:=Zjp _ f.ty (Nat.le_refl _) (by omega)
 have hq:=Zbx f.kind
 have hre:=Fm.re_eq (fun b t=>t.re (y5 (at_+b) s) 0) bl f
 have htm:=f.tms_eq bl
 refine M.F Tryz.func183 ?_
 repeat'(first|refine M.gw ?_|refine M.c2 (hty) ?_|fail)
 refine AW.range f.terms.length (fun m=>True)
  (fun m=>([(1,.i bl),(2,.fn (.func 184) [] [.ptr 0 0,.ptr 1 0]),(3,.ptr 2 0),(6,.ptr 3 0),(7,.ptr 4 0),(19,.s .tm f.terms),(20,.i f.terms.length),(21,.i m)],⟨6,[(0,.var [.i at_]),(1,.var s.view),(2,.var f.view),(3,.var [.i 0,.i 0,.slice .nil (.t .ty []),.slice .nil (.t .tm []),.slice .nil (.t .fm [])]),(4,.var [.i f.kind,.i f.ty.kind,.s .ty f.ty.args,.slice (.own 5) (.t .tm ((f.terms.take m).map ((fun b t=>t.re (y5 (at_+b) s) 0) bl))),.slice .nil (.t .fm [])]),(5,.row)]⟩))
  (by omega) (fun m=>rfl) (fun m=>rfl) rfl trivial (M.W [some 0,some 1,some 2,some 3,some 4,none]) ?_ ?_
 ·intro m hm _
  have hs2:=zb Tm.full (List.getElem_mem hm)
  have hc:=Zy2 at_ s hat hs hsi f.terms[m] bl (by omega) (by omega) (fun p hp=>hix _ (by rw[htm];exact List.mem_append_left _ (List.mem_map.2 ⟨_,List.getElem_mem hm,rfl⟩)) p hp)
  repeat'(first|refine M.gw ?_|refine M.cv (hc) [0,1] 0 ?_|fail)
  exact⟨rfl,trivial,(M.W [some 0,some 1,some 2,some 3,some 4,some 7] (he:=(by(repeat'(first|exact trivial|exact Or.inr ⟨_,U,rfl⟩|refine And.intro ?_ ?_|refine⟨_,U,_,U,_,U,?_⟩|exact VLe.refl _|exact VLe.of_eq (by simp[Sto.upd,yc _ _ _ hm])));done)))⟩
 ·intro _
  simp only[List.take_length]
  cases hqk:xi f.kind with
  |true=>
   rw[hqk] at hq
   have hu:upF f.kind bl=bl+1:=by simp[upF,hqk]
   rw[hu] at hre htm
   repeat'(first|refine M.gw ?_|refine M.c2 (hq) ?_|fail)
   refine AW.range f.args.length (fun m=>True)
    (fun m=>([(1,.i (bl+1)),(2,.fn (.func 184) [] [.ptr 0 0,.ptr 1 0]),(3,.ptr 2 0),(6,.ptr 3 0),(7,.ptr 4 0),(41,.s .fm f.args),(42,.i f.args.length),(43,.i m)],⟨7,[(0,.var [.i at_]),(1,.var s.view),(2,.var f.view),(3,.var [.i 0,.i 0,.slice .nil (.t .ty []),.slice .nil (.t .tm []),.slice .nil (.t .fm [])]),(4,.var [.i f.kind,.i f.ty.kind,.s .ty f.ty.args,.slice (.own 5) (.t .tm (f.terms.map ((fun b t=>t.re (y5 (at_+b) s) 0) bl))),.slice (.own 6) (.t .fm ((f.args.take m).map (Fm.re (fun b t=>t.re (y5 (at_+b) s) 0) (bl+1))))]),(5,.row),(6,.row)]⟩))
    (by omega) (fun m=>rfl) (fun m=>rfl) rfl trivial (M.W [some 0,some 1,some 2,some 3,some 4,some 5,none]) ?_ ?_
   ·intro m hm _
    have hs2:=zb Fm.full (List.getElem_mem hm)
    have hc:=ih f.args[m] (bl+1) (by omega) (by omega) (by omega) (by omega) (fun p hp=>hix p (by rw[htm];exact List.mem_append_right _ (List.mem_flatMap.2 ⟨_,List.getElem_mem hm,hp⟩)))
    repeat'(first|refine M.gw ?_|refine M.cv (hc) [0,1] 0 ?_|fail)
    exact⟨rfl,trivial,(M.W [some 0,some 1,some 2,some 3,some 4,some 5,some 8] (he:=(by(repeat'(first|exact trivial|exact Or.inr ⟨_,U,rfl⟩|refine And.intro ?_ ?_|refine⟨_,U,_,U,_,U,?_⟩|exact VLe.refl _|exact VLe.of_eq (by simp[Sto.upd,yc _ _ _ hm])));done)))⟩
   ·intro _
    simp only[List.take_length]
    repeat'(first|refine M.gw ?_|fail)
    (exact M.n2 [some 0,some 1] (h8:=(by simp[zi,V.wk,V.wks,za,Ty.view,Tm.view,hre])))
  |false=>
   rw[hqk] at hq
   have hu:upF f.kind bl=bl:=by simp[upF,hqk]
   rw[hu] at hre htm
   repeat'(first|refine M.gw ?_|refine M.c2 (hq) ?_|fail)
   refine AW.range f.args.length (fun m=>True)
    (fun m=>([(1,.i bl),(2,.fn (.func 184) [] [.ptr 0 0,.ptr 1 0]),(3,.ptr 2 0),(6,.ptr 3 0),(7,.ptr 4 0),(41,.s .fm f.args),(42,.i f.args.length),(43,.i m)],⟨7,[(0,.var [.i at_]),(1,.var s.view),(2,.var f.view),(3,.var [.i 0,.i 0,.slice .nil (.t .ty []),.slice .nil (.t .tm []),.slice .nil (.t .fm [])]),(4,.var [.i f.kind,.i f.ty.kind,.s .ty f.ty.args,.slice (.own 5) (.t .tm (f.terms.map ((fun b t=>t.re (y5 (at_+b) s) 0) bl))),.slice (.own 6) (.t .fm ((f.args.take m).map (Fm.re (fun b t=>t.re (y5 (at_+b) s) 0) bl)))]),(5,.row),(6,.row)]⟩))
    (by omega) (fun m=>rfl) (fun m=>rfl) rfl trivial (M.W [some 0,some 1,some 2,some 3,some 4,some 5,none]) ?_ ?_
   ·intro m hm _
    have hs2:=zb Fm.full (List.getElem_mem hm)
    have hc:=ih f.args[m] bl (by omega) (by omega) (by omega) (by omega) (fun p hp=>hix p (by rw[htm];exact List.mem_append_right _ (List.mem_flatMap.2 ⟨_,List.getElem_mem hm,hp⟩)))
    repeat'(first|refine M.gw ?_|refine M.cv (hc) [0,1] 0 ?_|fail)
    exact⟨rfl,trivial,(M.W [some 0,some 1,some 2,some 3,some 4,some 5,some 8] (he:=(by(repeat'(first|exact trivial|exact Or.inr ⟨_,U,rfl⟩|refine And.intro ?_ ?_|refine⟨_,U,_,U,_,U,?_⟩|exact VLe.refl _|exact VLe.of_eq (by simp[Sto.upd,yc _ _ _ hm])));done)))⟩
   ·intro _
    simp only[List.take_length]
    repeat'(first|refine M.gw ?_|fail)
    (exact M.n2 [some 0,some 1] (h8:=(by simp[zi,V.wk,V.wks,za,Ty.view,Tm.view,hre])))
theorem Zz6(f:Fm)(at_:Int)(s:Tm)(hat:0≤at_∧at_<274877906944)(hs:s.full<274877906944)(hsi:∀p∈s.vars 0,0≤p.1∧p.1<549755813888)(hf:f.full<137438953472)(hix:∀p∈f.tms 0,∀q∈p.1.vars 0,0≤q.1∧q.1<549755813888):PC E 130 [.agg f.view,.i at_,.agg s.view] (.agg (f.put at_ s).view):=by
 have hc:=Zyh at_ s hat hs hsi _ f 0 (Nat.le_refl _) (by omega) (by omega) (by omega) hix
 refine M.F Tryz.func130 ?_
 repeat'(first|refine M.gw ?_|refine M.cv (hc) [1,2] 0 ?_|fail)
 rfl
theorem Zdl(t:Tm):PC E 164 [.agg t.view] (.i (up t.kind 0)):=by
 refine M.F Tryz.func164 ?_
 repeat'(first|refine M.gw ?_|refine AW.condS U (fun h=> ?_) (fun h=> ?_)|fail)
 ·have e:up t.kind 0=1:=by simp only[beq_iff_eq] at h;rw[h];rfl
  rw[e];rfl
 ·have e:up t.kind 0=0:=by simp only[beq_eq_false_iff_ne,ne_eq] at h;exact if_neg h
  rw[e];rfl
theorem Zrf(k b:Int):b≤up k b∧up k b≤b+1:=by simp only[up];split<;>omega
theorem Zg6(k b:Int):b+up k 0=up k b:=by simp only[up];split<;>omega
theorem Zjy(most:Int)(h0:0≤most):∀(n:Nat) (t:Tm),t.full≤n→n<549755813888→t.shape=true→PC E 263 [.agg t.view,.i most] (.bool (xg most t)):=by
 intro n
 induction n with
 |zero=>intro t h;have:=t.full_pos;omega
 |succ n ih=>
 intro t hsz hn hs
 have hsz':=Tm.full_eq t
 have hlen:=zc Tm.full Tm.full_pos t.args
 have he:=Zrw h0 hs
 refine M.F Tryz.func263 ?_
 repeat'(first|refine M.gw ?_|refine AW.condS U (fun h=> ?_) (fun h=> ?_)|fail)
 ·have h1:¬t.index≤most:=by simp at h;omega
  rw[he,decide_eq_false h1];rfl
 have h1:t.index≤most:=by simp at h;omega
 rw[decide_eq_true h1,Bool.true_and] at he
 refine AW.range t.args.length (fun m=>∀j (hj:j<t.args.length),j<m→xg most t.args[j]=true)
  (fun m=>([(1,.i most),(2,.ptr 0 0),(12,.s .tm t.args),(13,.i t.args.length),(14,.i m)],⟨1,[(0,.var t.view)]⟩))
  (by omega) (fun m=>rfl) (fun m=>rfl) rfl (fun j hj h=>by omega) (M.W [some 0]) ?_ ?_
 ·intro m hm hP
  have hs2:=zb Tm.full (List.getElem_mem hm)
  have hc:=ih t.args[m] (by omega) (by omega) (zd hs _ (List.getElem_mem hm))
  repeat'(first|refine M.gw ?_|refine M.c2 (hc) ?_|refine AW.condS U (fun h=> ?_) (fun h=> ?_)|fail)
  ·have hx:xg most t.args[m]=false:=by simpa using h
   rw[he,wo (xg most) hm hx];rfl
  ·have hx:xg most t.args[m]=true:=by simpa using h
   exact⟨rfl,yb (p:=fun t=>xg most t=true) hm hP hx,(M.W [some 0])⟩
 ·intro hP
  rw[he,Zac (xg most) t.args fun j hj=>hP j hj hj]
  repeat'(first|refine M.gw ?_|fail)
  rfl
theorem Ybo:∀(n:Nat) (t:Tm) (at_:Int),t.full≤n→n<274877906944→-274877906944≤at_→at_+n<549755813888→t.shape=true→PC E 247 [.agg t.view,.i at_] (.bool (decide (yt at_ t≠0))):=by
 intro n
 induction n with
 |zero=>intro t at_ h;have:=t.full_pos;omega
 |succ n ih=>
 intro t at_ hsz hn h1 h2 hs
 have hsz':=Tm.full_eq t
 have hlen:=zc Tm.full Tm.full_pos t.args
 have he:=Zdq at_ t
 have hup:=Zrf t.kind at_
 have hpl:=Zg6 t.kind at_
 have hb:=Zdl t
 by_cases hv:t.kind=1∧t.index=at_
 ·rw [if_pos hv] at he
  rw[he]
  refine M.F Tryz.func247 ?_
  repeat'(first|refine M.go ?_|((fail_if_success refine AX.wt U ?_);refine AX.gs U U (fun _=>trivial) (fun h=> ?_) (fun h=> ?_))|((with_reducible refine D.aw ?_);(fail_if_success with_reducible refine D.stopR (id:=4) ?_);(fail_if_success with_reducible refine D.stopS (id:=4) ?_);first|refine M.ga ?_|refine AW.condS U (fun h=> ?_) (fun h=> ?_))|refine M.gk ?_|fail)
  all_goals first
   |rfl
   |(exfalso;simp[hv.1,hv.2] at*;done)
   |(exfalso;simp_all;done)
 rw[if_neg hv] at he
 refine M.F Tryz.func247 ?_
 repeat'(first|refine M.gw ?_|((fail_if_success refine AX.wt U ?_);refine AX.gs U U (fun _=>trivial) (fun h=> ?_) (fun h=> ?_))|refine AW.condS U (fun h=> ?_) (fun h=> ?_)|fail)
 all_goals first
  |(exfalso;simp_all;done)
  |skip
 all_goals
  refine AW.range t.args.length (fun m=>∀j (hj:j<t.args.length),j<m→yt (up t.kind at_) t.args[j]=0)
   (fun m=>([(1,.i at_),(2,.ptr 0 0),(17,.s .tm t.args),(18,.i t.args.length),(19,.i m)],⟨1,[(0,.var t.view)]⟩))
   (by omega) (fun m=>rfl) (fun m=>rfl) rfl (fun j hj h=>by omega) (M.W [some 0]) ?_ ?_
  ·intro m hm hP
   have hs2:=zb Tm.full (List.getElem_mem hm)
   have hc:=ih t.args[m] (up t.kind at_) (by omega) (by omega) (by omega) (by omega) (zd hs _ (List.getElem_mem hm))
   rw[←hpl] at hc
   rw[←hpl] at hP he
   repeat'(first|refine M.gw ?_|refine M.c2 (hb) ?_|refine M.c2 (hc) ?_|refine AW.condS U (fun h=> ?_) (fun h=> ?_)|fail)
   ·have hx:yt (at_+up t.kind 0) t.args[m]≠0:=by simpa using h
    rw[he,decide_eq_true (Zm7 hm hx)];rfl
   ·have hx:yt (at_+up t.kind 0) t.args[m]=0:=by simpa using h
    exact⟨rfl,by rw[←hpl];exact yb (p:=fun t'=>yt (at_+up t.kind 0) t'=0) hm hP hx,(M.W [some 0])⟩
  ·intro hP
   rw[he,Zib fun j hj=>hP j hj hj]
   repeat'(first|refine M.gw ?_|fail)
   rfl
theorem Zod:∀(n:Nat) (t:Tm) (at_:Int),t.full≤n→n<274877906944→-274877906944≤at_→at_+n<549755813888→t.shape=true→PC E 274 [.agg t.view,.i at_] (.i (yt at_ t)):=by
 intro n
 induction n with
 |zero=>intro t at_ h;have:=t.full_pos;omega
 |succ n ih=>
 intro t at_ hsz hn h1 h2 hs
 have hsz':=Tm.full_eq t
 have hlen:=zc Tm.full Tm.full_pos t.args
 have he:=Zdq at_ t
 have hup:=Zrf t.kind at_
 have hpl:=Zg6 t.kind at_
 have hb:=Zdl t
 by_cases hv:t.kind=1∧t.index=at_
 ·rw [if_pos hv] at he
  rw[he]
  have ha:=um hs hv.1
  obtain⟨k,i,th,xs⟩:=t
  simp only[Tm.args_mk] at ha
  subst ha
  obtain⟨hv1,hv2⟩:=hv
  simp only[Tm.kind_mk,Tm.index_mk] at hv1 hv2
  subst hv1;subst hv2
  refine M.F Tryz.func274 ?_
  repeat'(first|refine M.gw ?_|refine AW.condS U (fun h=> ?_) (fun h=> ?_)|fail)
  all_goals first
   |(exfalso;simp at h;done)
   |skip
  all_goals
   refine AW.range 0 (fun m=>True) (fun m=>([(1,.i i),(2,.ptr 0 0),(5,.i 1),(20,.s .tm []),(21,.i 0),(22,.i m)],⟨1,[(0,.var (Tm.mk 1 i th []).view)]⟩))
    (by omega) (fun m=>rfl) (fun m=>rfl) rfl trivial (M.W [some 0]) ?_ ?_
   ·intro m hm;omega
   ·intro _
    repeat'(first|refine M.gw ?_|fail)
    rfl
 rw[if_neg hv] at he
 refine M.F Tryz.func274 ?_
 repeat'(first|refine M.gw ?_|((fail_if_success refine AX.wt U ?_);refine AX.gs U U (fun _=>trivial) (fun h=> ?_) (fun h=> ?_))|refine AW.condS U (fun h=> ?_) (fun h=> ?_)|fail)
 all_goals first
  |(exfalso;simp_all;done)
  |skip
 all_goals
  refine AW.range t.args.length (fun m=>True)
   (fun m=>([(1,.i at_),(2,.ptr 0 0),(5,.i (((t.args.take m).map (yt (up t.kind at_))).sum:Nat)),(20,.s .tm t.args),(21,.i t.args.length),(22,.i m)],⟨1,[(0,.var t.view)]⟩))
   (by omega) (fun m=>rfl) (fun m=>rfl) rfl trivial (M.W [some 0]) ?_ ?_
  ·intro m hm _
   have hs1:=yk (yt (up t.kind at_)) t.args m hm
   have hs2:=zb Tm.full (List.getElem_mem hm)
   have hs3:((t.args.take m).map (yt (up t.kind at_))).sum≤(t.args.map Tm.full).sum:=by
    have a1:=zk Tm.full t.args m
    have a2:=yx (f:=yt (up t.kind at_)) (g:=Tm.full) (t.args.take m) fun x _=>Nat.le_trans (Zbw x _) x.size_le_full
    omega
   have hs4:=Zbw t.args[m] (up t.kind at_)
   have hs5:=t.args[m].size_le_full
   have hc:=ih t.args[m] (up t.kind at_) (by omega) (by omega) (by omega) (by omega) (zd hs _ (List.getElem_mem hm))
   rw[←hpl] at hc hs1 hs3 hs4
   simp only[←hpl]
   repeat'(first|refine M.gw ?_|refine M.c2 (hb) ?_|refine M.c2 (hc) ?_|fail)
   refine⟨rfl,trivial,?_⟩
   simp only[hs1]
   exact(M.W [some 0])
  ·intro _
   repeat'(first|refine M.gw ?_|fail)
   rw[he]
   simp[zi,V.wk,V.wks,za]
theorem Yec(by_:Int)(hby: -549755813888≤by_∧by_≤549755813888):∀(n:Nat) (t:Tm) (fr:Int),t.full≤n→n<274877906944→-274877906944≤fr→fr+n<549755813888→t.shape=true→(∀p∈t.vars 0,0≤p.1∧p.1<9223372036854775808∧p.1+by_<9223372036854775808)→
 PC E 111 [.agg t.view,.i fr,.i by_] (.agg (t.re (zq fr by_) 0).view):=by
 intro n
 induction n with
 |zero=>intro t fr h;have:=t.full_pos;omega
 |succ n ih=>
 intro t fr hsz hn h1 h2 hs hix
 have hsz':=Tm.full_eq t
 have hlen:=zc Tm.full Tm.full_pos t.args
 have hup:=Zrf t.kind fr
 have hpl:=Zg6 t.kind fr
 have hb:=Zdl t
 by_cases hv:t.kind=1
 ·have ht:=Zhz hs hv
  have hi:=hix (t.index,0) (by rw[vt hs hv];simp)
  rw[ht]
  generalize t.index=i at hi
  simp only at hi
  rw[Zek,xr]
  have hvi:(vT i).index=i:=rfl
  refine M.F Tryz.func111 ?_
  repeat'(first|refine M.gw ?_|refine AW.condS U (fun h=> ?_) (fun h=> ?_)|fail)
  all_goals first
   |(exfalso;simp at h;done)
   |skip
  ·have h3:i-0≥fr:=by simp at h;omega
   rw[if_pos h3]
   refine AW.range 0 (fun m=>True) (fun m=>([(1,.i fr),(2,.i by_),(3,.ptr 0 0),(6,.ptr 1 0),(7,.ptr 2 0),(32,.s .tm []),(33,.i 0),(34,.i m)],⟨3,[(0,.var (vT i).view),(1,.var [.i 0,.i 0,.i 0,.slice .nil (.t .ty []),.slice .nil (.t .tm [])]),(2,.var [.i 1,.i (i+by_),.i 0,.s .ty [],.slice .nil (.t .tm [])])]⟩))
    (by omega) (fun m=>rfl) (fun m=>rfl) rfl trivial (M.W [some 0,some 1,some 2]) ?_ ?_
   ·intro m hm;omega
   ·intro _
    repeat'(first|refine M.gw ?_|fail)
    rfl
  ·have h3:¬i-0≥fr:=by simp at h;omega
   rw[if_neg h3]
   refine AW.range 0 (fun m=>True) (fun m=>([(1,.i fr),(2,.i by_),(3,.ptr 0 0),(6,.ptr 1 0),(7,.ptr 2 0),(32,.s .tm []),(33,.i 0),(34,.i m)],⟨3,[(0,.var (vT i).view),(1,.var [.i 0,.i 0,.i 0,.slice .nil (.t .ty []),.slice .nil (.t .tm [])]),(2,.var [.i 1,.i i,.i 0,.s .ty [],.slice .nil (.t .tm [])])]⟩))
    (by omega) (fun m=>rfl) (fun m=>rfl) rfl trivial (M.W [some 0,some 1,some 2]) ?_ ?_
   ·intro m hm;omega
   ·intro _
    repeat'(first|refine M.gw ?_|fail)
    rfl
 have he:=Zrt (fr:=fr) (by_:=by_) hv
 refine M.F Tryz.func111 ?_
 repeat'(first|refine M.gw ?_|((fail_if_success refine AX.wt U ?_);refine AX.gs U U (fun _=>trivial) (fun h=> ?_) (fun h=> ?_))|refine AW.condS U (fun h=> ?_) (fun h=> ?_)|fail)
 all_goals first
  |(exfalso;simp_all;done)
  |skip
 all_goals
  refine AW.range t.args.length (fun m=>True) (fun m=>([(1,.i fr),(2,.i by_),(3,.ptr 0 0),(6,.ptr 1 0),(7,.ptr 2 0),(32,.s .tm t.args),(33,.i t.args.length),(34,.i m)],⟨4,[(0,.var t.view),(1,.var [.i 0,.i 0,.i 0,.slice .nil (.t .ty []),.slice .nil (.t .tm [])]),(2,.var [.i t.kind,.i t.index,.i t.ty.kind,.s .ty t.ty.args,.slice (.own 3) (.t .tm ((t.args.take m).map fun x=>x.re (zq (up t.kind fr) by_) 0))]),(3,.row)]⟩))
   (by omega) (fun m=>rfl) (fun m=>rfl) rfl trivial (M.W [some 0,some 1,some 2,none]) ?_ ?_
  ·intro m hm _
   have hs2:=zb Tm.full (List.getElem_mem hm)
   have hc:=ih t.args[m] (up t.kind fr) (by omega) (by omega) (by omega) (by omega) (zd hs _ (List.getElem_mem hm)) (fun p hp=>by
    obtain⟨q,hq,hqe⟩:=Znh (b':=up t.kind 0) p hp
    have:=hix q (Zdb hv (List.getElem_mem hm) hq)
    rw[←hqe];exact this)
   rw[←hpl] at hc
   simp only[←hpl]
   repeat'(first|refine M.gw ?_|refine M.c2 (hb) ?_|refine M.c2 (hc) ?_|fail)
   exact⟨rfl,trivial,(M.W [some 0,some 1,some 2,some 5] (he:=(by(repeat'(first|exact trivial|exact Or.inr ⟨_,U,rfl⟩|refine And.intro ?_ ?_|refine⟨_,U,_,U,_,U,?_⟩|exact VLe.refl _|exact VLe.of_eq (by simp[Sto.upd,yc _ _ _ hm])));done)))⟩
  ·intro _
   simp only[List.take_length]
   repeat'(first|refine M.gw ?_|fail)
   rw[he]
   simp[zi,V.wk,V.wks,za,Ty.view,Tm.view]
theorem Zzn(by_:Int)(hby: -549755813888≤by_∧by_≤549755813888):∀(n:Nat) (t:Tm) (fr:Int),t.full≤n→n<274877906944→-274877906944≤fr→fr+n<549755813888→t.shape=true→(∀p∈t.vars 0,0≤p.1∧p.1<549755813888)→
 PC E 111 [.agg t.view,.i fr,.i by_] (.agg (t.re (zq fr by_) 0).view):=
 fun n t fr h1 h2 h3 h4 h5 h6=>Yec by_ hby n t fr h1 h2 h3 h4 h5 fun p hp=>by have:=h6 p hp;omega
end Go.Ab
