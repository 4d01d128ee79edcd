/- A part of this seat's proofs. No conditions. -/
import Derived.Test.YtlikcaapgaalhaaGreatDoorES5
namespace Go.Ab
open Go Go.Proofs
set_option maxRecDepth 100000
set_option maxHeartbeats 4000000
set_option linter.all false
def nxV(t:Tm)(o:Option (Tm×Bool)):V:= .tup [.agg ((o.map (·.1)).getD t).view,.bool o.isSome,.bool ((o.map (·.2)).getD true)]
theorem rnext_c(room:Int):∀(n:Nat) (t:Tm),t.size≤n→t.shape=true→t.size≤4096→(∀p∈t.vars 0,0≤p.1∧p.1<1073741824)→PC E 210 [.agg t.view,.i room] (nxV t (nxR room t)):=by
 intro n
 induction n with
 |zero=>intro t h;have:=t.size_pos;omega
 |succ n ih=>
 intro t hsz hs hz hix
 have hfull:=shape_full t hs
 have hse:=t.size_eq
 have hlen:=lsum_len Tm.size Tm.size_pos t.args
 have h1:=root_c t hs
 have he:=nxR_eq room t
 by_cases hr:rootT t=true
 ·have h2:=rgrow_c (root_rv hs hr) hs hz
  rw[hr] at h1
  rw[if_pos hr] at he
  by_cases hg:growT t>room
  ·rw [if_pos hg] at he
   rw[he]
   refine AC.mk Tryz.func210 rfl rfl rfl rfl rfl (Nat.le_of_ble_eq_true rfl) ?_
   repeat'(first|((with_reducible refine D.nil ?_);refine AX.nilL ?_)|((with_reducible refine D.load ?_);refine L.ldb U U U U U U ?_)|((with_reducible refine D.move ?_);refine L.mv U U U ?_)|((with_reducible refine D.assign ?_);refine L.asg U U U ?_)|((with_reducible refine D.bin ?_);refine L.bn U U U U U ?_)|((with_reducible refine D.call ?_);first|refine L.c2 (h1) U U U U ?_|refine L.c2 (h2) U U U U ?_)|((with_reducible refine D.box ?_);refine L.bx U U U U ?_)|((with_reducible refine D.alloc ?_);refine L.al U U U ?_)|((with_reducible refine D.store ?_);refine L.st U U U U U U U U U ?_)|((with_reducible refine D.ax ?_);refine L.bd U U U U U ?_)|((with_reducible refine D.aw ?_);first|refine K.sq (AW.regL ?_)|refine K.sq (K.sq ?_)|refine AW.regL ?_|refine AW.condT U ?_|refine AW.condS U (fun h=> ?_) (fun h=> ?_)|refine AW.skip ?_|refine AW.ret ?_)|with_reducible refine K.tN ?_|with_reducible refine K.tR ?_|with_reducible refine K.r1 (by with_unfolding_all rfl) (by with_unfolding_all rfl) ?_)
   all_goals first
    |rfl
    |(exfalso;simp at h;omega)
  ·rw [if_neg hg] at he
   rw[he]
   have h3:=rred_c (root_rv hs hr) hs hz hix
   refine AC.mk Tryz.func210 rfl rfl rfl rfl rfl (Nat.le_of_ble_eq_true rfl) ?_
   repeat'(first|((with_reducible refine D.nil ?_);refine AX.nilL ?_)|((with_reducible refine D.load ?_);refine L.ldb U U U U U U ?_)|((with_reducible refine D.move ?_);refine L.mv U U U ?_)|((with_reducible refine D.assign ?_);refine L.asg U U U ?_)|((with_reducible refine D.bin ?_);refine L.bn U U U U U ?_)|((with_reducible refine D.call ?_);first|refine L.c2 (h1) U U U U ?_|refine L.c2 (h2) U U U U ?_|refine L.c2 (h3) U U U U ?_)|((with_reducible refine D.box ?_);refine L.bx U U U U ?_)|((with_reducible refine D.alloc ?_);refine L.al U U U ?_)|((with_reducible refine D.store ?_);refine L.st U U U U U U U U U ?_)|((with_reducible refine D.ax ?_);refine L.bd U U U U U ?_)|((with_reducible refine D.aw ?_);first|refine K.sq (AW.regL ?_)|refine K.sq (K.sq ?_)|refine AW.regL ?_|refine AW.condT U ?_|refine AW.condS U (fun h=> ?_) (fun h=> ?_)|refine AW.skip ?_|refine AW.ret ?_)|with_reducible refine K.tN ?_|with_reducible refine K.tR ?_|with_reducible refine K.r1 (by with_unfolding_all rfl) (by with_unfolding_all rfl) ?_)
   all_goals first
    |rfl
    |(exfalso;simp at h;omega)
 rw[if_neg hr] at he
 rw[Bool.not_eq_true] at hr
 rw[hr] at h1
 have hih:∀m (hm:m<t.args.length),PC E 210 [.agg t.args[m].view,.i room] (nxV t.args[m] (nxR room t.args[m])):=fun m hm=>by
  have h5:=lsum_mem Tm.size (List.getElem_mem hm)
  exact ih t.args[m] (by omega) (shape_args hs _ (List.getElem_mem hm)) (by omega) (idx_arg (List.getElem_mem hm) hix)
 clear ih
 refine AC.mk Tryz.func210 rfl rfl rfl rfl rfl (Nat.le_of_ble_eq_true rfl) ?_
 repeat'(first|((with_reducible refine D.nil ?_);refine AX.nilL ?_)|((with_reducible refine D.load ?_);refine L.ldb U U U U U U ?_)|((with_reducible refine D.move ?_);refine L.mv U U U ?_)|((with_reducible refine D.fieldAddr ?_);refine L.fab U U U U U ?_)|((with_reducible refine D.assign ?_);refine L.asg U U U ?_)|((with_reducible refine D.call ?_);first|refine L.lnt U U U U ?_|refine L.c2 (h1) U U U U ?_)|((with_reducible refine D.box ?_);refine L.bx U U U U ?_)|((with_reducible refine D.alloc ?_);refine L.al U U U ?_)|((with_reducible refine D.aw ?_);first|refine K.sq (AW.regL ?_)|refine K.sq (K.sq ?_)|refine AW.regL ?_|refine AW.condF U ?_|refine AW.skip ?_)|with_reducible refine K.tN ?_)
 refine M.rp t.args.length (fun m=>∀j (hj:j<t.args.length),j<m→nxR room t.args[j]=none)
  (fun m=>([(1,.i room),(2,.ptr 0 0),(4,.ptr 1 0),(23,.s .tm t.args),(24,.i t.args.length),(25,.i m)],⟨2,[(0,.var t.view),(1,.var [.i 0,.i 0,.i 0,.slice .nil (.t .ty []),.slice .nil (.t .tm [])])]⟩))
  (fun j hj h=>by omega) (Weak.mk rh2 _ _ _ U U U U (by(repeat'(first|exact trivial|refine And.intro ?_ ?_|refine⟨_,U,_,U,?_⟩|exact VLe.refl _));done) (by(repeat'(first|exact trivial|refine And.intro ?_ ?_|refine⟨_,U,_,U,_,U,?_⟩|exact VLe.refl _));done)) ?_ ?_
 ·intro m hm hP
  have hc:=hih m hm
  cases hn:nxR room t.args[m] with
  |none=>
   rw[hn] at hc
   simp only[nxV,Option.map_none,Option.getD_none,Option.isSome_none] at hc
   repeat'(first|((with_reducible refine D.nil ?_);refine AX.nilL ?_)|((with_reducible refine D.load ?_);first|refine L.ldb U U U U U U ?_|refine L.lda U U U U U ?_)|((with_reducible refine D.move ?_);refine L.mv U U U ?_)|((with_reducible refine D.assign ?_);refine L.asg U U U ?_)|((with_reducible refine D.call ?_);refine L.c2 (hc) U U U U ?_)|((with_reducible refine D.extract ?_);refine L.ex U U U U ?_)|((with_reducible refine D.alloc ?_);refine L.al U U U ?_)|((with_reducible refine D.store ?_);refine L.st U U U U U U U U U ?_)|((with_reducible refine D.indexAddr ?_);refine L.ixt _ U U U U U U U (by first|assumption|fail) ?_)|((with_reducible refine D.not ?_);refine L.nt U U U ?_)|((with_reducible refine D.aw ?_);first|refine K.sq (AW.regL ?_)|refine K.sq (K.sq ?_)|refine AW.regL ?_|refine AW.condT U ?_|refine AW.exit ?_)|with_reducible refine K.tN ?_|with_reducible refine K.tE ?_|with_reducible refine K.bX (by with_unfolding_all rfl) ?_)
   exact⟨rfl,all_step (p:=fun x:Tm=>nxR room x=none) hm hP hn,(Weak.mk rh2 _ _ _ U U U U (by(repeat'(first|exact trivial|refine And.intro ?_ ?_|refine⟨_,U,_,U,?_⟩|exact VLe.refl _));done) (by(repeat'(first|exact trivial|refine And.intro ?_ ?_|refine⟨_,U,_,U,_,U,?_⟩|exact VLe.refl _));done))⟩
  |some u=>
   obtain⟨u,f⟩:=u
   rw[hn] at hc
   simp only[nxV,Option.map_some,Option.getD_some,Option.isSome_some] at hc
   have e:nxR room t=some (.mk t.kind t.index t.ty (t.args.set m u),f):=by rw[he,nxRs_at room t.args m hm (u,f) hn hP];rfl
   rw[e]
   simp only[nxV,Option.map_some,Option.getD_some,Option.isSome_some]
   repeat'(first|((with_reducible refine D.nil ?_);refine AX.nilL ?_)|((with_reducible refine D.load ?_);first|refine L.ldb U U U U U U ?_|refine L.lda U U U U U ?_)|((with_reducible refine D.move ?_);refine L.mv U U U ?_)|((with_reducible refine D.assign ?_);refine L.asg U U U ?_)|((with_reducible refine D.call ?_);refine L.c2 (hc) U U U U ?_)|((with_reducible refine D.extract ?_);refine L.ex U U U U ?_)|((with_reducible refine D.alloc ?_);refine L.al U U U ?_)|((with_reducible refine D.store ?_);refine L.st U U U U U U U U U ?_)|((with_reducible refine D.indexAddr ?_);refine L.ixt _ U U U U U U U (by first|assumption|fail) ?_)|((with_reducible refine D.not ?_);refine L.nt U U U ?_)|((with_reducible refine D.aw ?_);(fail_if_success with_reducible refine D.stopR (id:=11) ?_);(fail_if_success with_reducible refine D.stopS (id:=11) ?_);first|refine K.sq (AW.regL ?_)|refine K.sq (K.sq ?_)|refine AW.regL ?_|refine AW.condF U ?_|refine AW.skip ?_)|with_reducible refine K.tN ?_)
   refine K.sq (AW.regL ?_)
   refine L.fab rfl rfl rfl rfl rfl ?_
   refine L.ldb rfl rfl rfl rfl rfl rfl ?_
   refine L.apA (te:=38) rfl rfl rfl rfl (by kernel_rfl) rfl rfl rfl rfl (by omega) (by omega) ?_
   repeat'(first|((with_reducible refine D.nil ?_);refine AX.nilL ?_)|((with_reducible refine D.load ?_);refine L.ldb U U U U U U ?_)|((with_reducible refine D.move ?_);refine L.mv U U U ?_)|((with_reducible refine D.fieldAddr ?_);refine L.fab U U U U U ?_)|((with_reducible refine D.store ?_);refine L.st U U U U U U U U U ?_)|((with_reducible refine D.aw ?_);refine K.sq (AW.regL ?_))|with_reducible refine K.tN ?_)
   refine L.ixr m rfl rfl rfl rfl rfl hm rfl ?_
   refine L.sta (c:= .tm) (l:=t.args) (u:=u) m rfl rfl rfl rfl rfl rfl rfl rfl hm rfl ?_
   repeat'(first|((with_reducible refine D.nil ?_);refine AX.nilL ?_)|with_reducible refine K.tN ?_)
   refine AW.frz (c:= .tm) 5 t.args.length (t.args.set m u) rfl (by simp) (by(repeat'(first|exact trivial|exact fun _=>rfl|exact fun h=>absurd rfl h|exact fun h=>absurd h (by decide)|refine And.intro ?_ ?_|intro _));done) (by(repeat'(first|exact trivial|exact fun _=>rfl|exact fun h=>absurd rfl h|exact fun h=>absurd h (by decide)|refine And.intro ?_ ?_|intro _));done) ?_
   repeat'(first|((with_reducible refine D.nil ?_);refine AX.nilL ?_)|((with_reducible refine D.load ?_);refine L.ldb U U U U U U ?_)|((with_reducible refine D.move ?_);refine L.mv U U U ?_)|((with_reducible refine D.assign ?_);refine L.asg U U U ?_)|((with_reducible refine D.store ?_);refine L.st U U U U U U U U U ?_)|((with_reducible refine D.aw ?_);first|refine K.sq (AW.regL ?_)|refine AW.ret ?_)|with_reducible refine K.tN ?_|with_reducible refine K.tR ?_|with_reducible refine K.bR ?_|with_reducible refine K.gR ?_|with_reducible refine K.r1 (by with_unfolding_all rfl) (by with_unfolding_all rfl) ?_)
   rfl
 ·intro hP
  have e:nxR room t=none:=by rw[he,nxRs_none room t.args hP];rfl
  rw[e]
  simp only[nxV,Option.map_none,Option.getD_none,Option.isSome_none]
  repeat'(first|((with_reducible refine D.nil ?_);refine AX.nilL ?_)|((with_reducible refine D.load ?_);refine L.ldb U U U U U U ?_)|((with_reducible refine D.assign ?_);refine L.asg U U U ?_)|((with_reducible refine D.store ?_);refine L.st U U U U U U U U U ?_)|((with_reducible refine D.aw ?_);first|refine K.sq (AW.regL ?_)|refine AW.ret ?_)|with_reducible refine K.tN ?_|with_reducible refine K.r1 (by with_unfolding_all rfl) (by with_unfolding_all rfl) ?_)
  simp[tupV,V.wk,V.wks,constV,Tm.view]
theorem vars_depth(t:Tm):∀b:Int,∀p∈t.vars b,p.2<b+t.size:=by
 induction t using Tm.ind with
 |h t ih=>
  intro b p hp
  have hz:=t.size_eq
  rw[t.vars_eq,List.mem_append] at hp
  rcases hp with hp|hp
  ·split at hp
   ·simp at hp;subst hp;simp only;omega
   ·cases hp
  ·obtain ⟨x,hx,hp⟩:=List.mem_flatMap.1 hp
   have h1:=ih x hx _ p hp
   have h2:=lsum_mem Tm.size hx
   have:up t.kind b≤b+1:=by simp only[up];split<;>omega
   omega
theorem free_idx{t:Tm}(he:t.err=0)(hf:∀p∈t.vars 0,p.1-p.2≤536870912):∀p∈t.vars 0,0≤p.1∧p.1<1073741824:=fun p hp=>by
 obtain⟨hs,hz⟩:=err_zero he
 have h1:=t.vars_nonneg hs 0 p hp
 have h2:=hf p hp
 have h3:=vars_depth t 0 p hp
 omega
theorem nrm_none{t:Tm}(h:nxR (4096-t.size) t=none)(k n:Nat):nrm k t n=(t,(n:Int),0):=by
 cases k<;>simp only[nrm,h]
theorem rnormal_c(t:Tm)(steps:Int)(ht:t.full<274877906944):PC E 185 [.agg t.view,.i steps] (.tup [.agg (normR t steps).1.view,.i (normR t steps).2.1,.i (normR t steps).2.2]):=by
 have h1:=checkTmR_c t (by omega)
 unfold normR
 by_cases he:t.err=0
 case neg=>
  rw[if_pos he]
  refine M.F Tryz.func185 ?_
  repeat'(first|refine M.o1 @h1 ?_|refine M.z1 4 ?_|refine M.cs ?_ ?_<;>intro h|refine M.gk ?_|fail)
  all_goals first
   |rfl
   |(exfalso;simp at h;exact he h)
 rw[he] at h1
 rw[if_neg (by simp[he])]
 obtain⟨hs,hz⟩:=err_zero he
 have h2:=rleast_c 536870912 (by omega) _ t (Nat.le_refl _) (by omega) hs
 rw[←near_least] at h2
 by_cases hst:0≤steps∧steps≤65536
 case neg=>
  rw[if_pos (.inl hst)]
  refine M.F Tryz.func185 ?_
  repeat'(first|refine M.w2 @h1 @h2 ?_|refine M.gs ?_ ?_<;>intro h|refine M.cs ?_ ?_<;>intro h|fail)
  all_goals first
   |rfl
   |(exfalso;simp at h;omega)
   |(exfalso;simp at*;omega)
 cases hn:t.near with
 |false=>
  rw[hn] at h2
  rw[if_pos (.inr rfl)]
  refine M.F Tryz.func185 ?_
  repeat'(first|refine M.w2 @h1 @h2 ?_|refine M.gs ?_ ?_<;>intro h|fail)
  all_goals first
   |rfl
   |(exfalso;simp at h;omega)
   |(exfalso;simp at*;omega)
 |true=>
 rw[hn] at h2
 rw[if_neg (by simp[hst])]
 have hfr:∀p∈t.vars 0,p.1-p.2≤536870912:=fun p hp=>by have:=near_all hn p hp;have:=vars_snd t 0 p hp;omega
 generalize hR:nrm steps.toNat t 0=r
 refine M.F Tryz.func185 ?_
 repeat'(first|refine M.w2 @h1 @h2 ?_|refine M.gs ?_ ?_<;>intro h|fail)
 all_goals first
  |(exfalso;simp at h;omega)
  |skip
 refine AW.block (AW.loop (ι:={p:Tm×Nat // p.1.err=0∧(∀q∈p.1.vars 0,q.1-q.2≤536870912)∧p.2≤steps.toNat∧nrm (steps.toNat-p.2) p.1 p.2=r})
  (fun p=>([(1,.i steps),(2,.ptr 0 0),(4,.ptr 1 0),(8,.i p.1.2)],⟨2,[(0,.var p.1.1.view),(1,.var [.i 0,.i 0,.i 0,.slice .nil (.t .ty []),.slice .nil (.t .tm [])])]⟩)) (fun p=>steps.toNat-p.1.2) ⟨(t,0),he,hfr,Nat.zero_le _,hR⟩ (M.W rh2) ?_)
 rintro⟨⟨x,n⟩,hx,hxf,hxn,hxe⟩
 dsimp only at hx hxf hxn hxe ⊢
 obtain⟨hxs,hxz⟩:=err_zero hx
 have hfx:=terr_full hx
 have c1:=countTm_c _ x (Nat.le_refl _) (by omega)
 have c2:=rnext_c (4096-x.size) _ x (Nat.le_refl _) hxs hxz (free_idx hx hxf)
 have c3:=copyTm_c _ x (Nat.le_refl _) (by omega)
 cases hr:nxR (4096-x.size) x with
 |none=>
  rw[hr] at c2
  simp only[nxV,Option.map_none,Option.getD_none,Option.isSome_none] at c2
  rw[nrm_none hr] at hxe
  subst hxe
  repeat'(first|refine M.w3 @c1 @c2 @c3 ?_|refine M.zb ?_|fail)
  rfl
 |some y=>
  obtain⟨y,f⟩:=y
  rw[hr] at c2
  simp only[nxV,Option.map_some,Option.getD_some,Option.isSome_some] at c2
  by_cases hns:n=steps.toNat
  ·have e:r=(noTm,0,5):=by rw[←hxe,hns,Nat.sub_self];simp only[nrm,hr]
   subst e
   repeat'(first|refine M.w2 @c1 @c2 ?_|refine M.zb ?_|refine M.cs ?_ ?_<;>intro h|fail)
   all_goals first
    |rfl
    |(exfalso;simp at h;omega)
    |(exfalso;simp at*;omega)
  ·obtain ⟨k,hk⟩:∃k,steps.toNat-n=k+1:=⟨steps.toNat-n-1,by omega⟩
   rw[hk] at hxe
   cases f with
   |false=>
    have e:r=(noTm,0,4):=by rw[←hxe];simp only[nrm,hr]
    subst e
    repeat'(first|refine M.w2 @c1 @c2 ?_|refine M.zb ?_|refine M.cs ?_ ?_<;>intro h|fail)
    all_goals first
     |rfl
     |(exfalso;simp at h;omega)
     |(exfalso;simp at*;omega)
   |true=>
    have e:nrm k y (n+1)=r:=by rw[←hxe];simp only[nrm,hr]
    obtain⟨f1,f2,f3⟩:=nx_facts _ x y hxs hr
    repeat'(first|refine M.w2 @c1 @c2 ?_|refine M.zb ?_|refine M.cs ?_ ?_<;>intro h|fail)
    all_goals first
     |(exfalso;simp at h;omega)
     |skip
    refine⟨⟨(y,n+1),nx_err hx hr,f3 _ (by omega) 0 (by omega) hxf,by show n+1≤_;omega,by rw[show steps.toNat-(n+1)=k by omega];exact e⟩,by show steps.toNat-(n+1)<steps.toNat-n;omega,?_⟩
    exact(M.W rh2)
theorem rmtch_c(a b:Tm)(ha:a.full<274877906944)(hb:b.full<274877906944)(steps:Int):PC E 130 [.agg a.view,.agg b.view,.i steps] (.i (mtchR a b steps)):=by
 have h1:=checkTmR_c a (by omega)
 have h2:=checkTmR_c b (by omega)
 have h3:=sameTm_c _ a b (Nat.le_refl _) (by omega)
 have h4:=rnormal_c a steps ha
 have h5:=rnormal_c b steps hb
 unfold mtchR
 by_cases ea:a.err=0
 case neg=>
  rw[if_pos ea]
  refine M.F Tryz.func130 ?_
  repeat'(first|refine M.w1 @h1 ?_|refine M.cs ?_ ?_<;>intro h|fail)
  all_goals first
   |rfl
   |(exfalso;simp at h;exact ea h)
 rw[ea] at h1
 rw[if_neg (by simp[ea])]
 by_cases eb:b.err=0
 case neg=>
  rw[if_pos eb]
  refine M.F Tryz.func130 ?_
  repeat'(first|refine M.w2 @h1 @h2 ?_|refine M.cs ?_ ?_<;>intro h|fail)
  all_goals first
   |rfl
   |(exfalso;simp at h;exact eb h)
 rw[eb] at h2
 rw[if_neg (by simp[eb])]
 by_cases eq:a=b
 ·rw [if_pos eq]
  rw[decide_eq_true eq] at h3
  refine M.F Tryz.func130 ?_
  refine M.w3 @h1 @h2 @h3 ?_
  rfl
 rw[if_neg eq]
 rw[decide_eq_false eq] at h3
 have g1:(normR a steps).2.2=0→(normR a steps).1.full<274877906944:=fun h=>norm_full a steps h
 have g2:(normR b steps).2.2=0→(normR b steps).1.full<274877906944:=fun h=>norm_full b steps h
 generalize normR a steps=A at*
 generalize normR b steps=B at*
 obtain⟨x,n,e⟩:=A
 obtain⟨y,m,f⟩:=B
 dsimp only at h4 h5 g1 g2 ⊢
 by_cases he:e=0
 case neg=>
  rw[if_pos he]
  refine M.F Tryz.func130 ?_
  repeat'(first|refine M.w4 @h1 @h2 @h3 @h4 ?_|refine M.cs ?_ ?_<;>intro h|fail)
  all_goals first
   |rfl
   |(exfalso;simp at h;exact he h)
 subst he
 rw[if_neg (by simp)]
 by_cases hf:f=0
 case neg=>
  rw[if_pos hf]
  refine M.F Tryz.func130 ?_
  repeat'(first|refine M.w5 @h1 @h2 @h3 @h4 @h5 ?_|refine M.cs ?_ ?_<;>intro h|fail)
  all_goals first
   |rfl
   |(exfalso;simp at h;exact hf h)
 subst hf
 rw[if_neg (by simp)]
 have h6:=sameTm_c _ x y (Nat.le_refl _) (by have:=g1 rfl;omega)
 refine M.F Tryz.func130 ?_
 repeat'(first|refine M.w6 @h1 @h2 @h3 @h4 @h5 @h6 ?_|refine M.cs ?_ ?_<;>intro h|fail)
 ·have:¬x=y:=by simpa using h
  rw[if_neg this]
  rfl
 ·have:x=y:=by simpa using h
  rw[if_pos this]
  rfl
theorem rfmatch_c:∀(n:Nat) (f g:Fm),f.full≤n→n<274877906944→g.full<274877906944→f.shape=true→g.shape=true→PC E 86 [.agg f.view,.agg g.view] (.i (mtF f g)):=by
 intro n
 induction n with
 |zero=>intro f g h;have:=f.full_pos;omega
 |succ n ih=>
 intro f g hsz hb hg hfs hgs
 have hfull:=Fm.full_eq f
 have hgull:=Fm.full_eq g
 have h1:=sameTy_c _ f.ty g.ty (Nat.le_refl _) (by omega)
 have he:=mtF_eq f g
 have hl:=lsum_len Tm.full Tm.full_pos f.terms
 have hl2:=lsum_len Fm.full Fm.full_pos f.args
 by_cases hk:f.kind=g.kind
 case neg=>
  rw[if_neg (fun h=>hk h.1)] at he
  rw[he]
  refine M.F Tryz.func86 ?_
  repeat'(first|refine M.o1 @h1 ?_|refine M.gs ?_ ?_<;>intro h|refine M.z1 3 ?_|refine M.cs ?_ ?_<;>intro h|refine M.gk ?_|fail)
  all_goals first
   |rfl
   |(exfalso;simp_all;done)
 by_cases ht:f.ty=g.ty
 case neg=>
  rw[if_neg (fun h=>ht h.2)] at he
  rw[he]
  rw[decide_eq_false ht] at h1
  refine M.F Tryz.func86 ?_
  repeat'(first|refine M.o1 @h1 ?_|refine M.gs ?_ ?_<;>intro h|refine M.z1 3 ?_|refine M.gk ?_|fail)
  all_goals first
   |rfl
   |(exfalso;simp_all;done)
 rw[if_pos ⟨hk,ht⟩] at he
 rw[decide_eq_true ht] at h1
 obtain⟨l1,l2⟩:=same_lens hfs hgs hk
 refine M.F Tryz.func86 ?_
 repeat'(first|refine M.w1 @h1 ?_|refine M.gs ?_ ?_<;>intro h|fail)
 all_goals first
  |(exfalso;simp at h;omega)
  |(exfalso;simp at h;exact h hk)
  |skip
 refine M.rp f.terms.length (fun m=>∀j (h1:j<f.terms.length) (h2:j<g.terms.length),j<m→mtchR f.terms[j] g.terms[j] 1000=0)
  (fun m=>([(2,.ptr 0 0),(3,.ptr 1 0),(24,.i f.terms.length),(25,.i m)],⟨2,[(0,.var f.view),(1,.var g.view)]⟩))
  (fun j _ _ h=>by omega) (M.W rh2) ?_ ?_
 ·intro m hm hP
  have hm2:m<g.terms.length:=by omega
  have hs1:=lsum_mem Tm.full (List.getElem_mem hm)
  have hs2:=lsum_mem Tm.full (List.getElem_mem hm2)
  have hc:=rmtch_c f.terms[m] g.terms[m] (by omega) (by omega) 1000
  by_cases e0:mtchR f.terms[m] g.terms[m] 1000=0
  ·rw [e0] at hc
   refine M.w1 @hc ?_
   refine⟨rfl,fun j h1 h2 hj=> ?_,(M.W rh2)⟩
   by_cases hjm:j=m
   ·subst hjm;exact e0
   ·exact hP j h1 h2 (by omega)
  ·have e1:=mtTs_at f.terms g.terms m hm hm2 hP e0
   rw[if_pos (by rw[e1];exact e0),e1] at he
   rw[he]
   repeat'(first|refine M.w1 @hc ?_|refine M.cs ?_ ?_<;>intro h|fail)
   ·rfl
   ·exfalso;simp at h;exact e0 h
 ·intro hP
  have e1:=mtTs_none f.terms g.terms fun j h1 h2=>hP j h1 h2 (by omega)
  rw[if_neg (by simp[e1])] at he
  refine M.w0 ?_
  refine M.rp f.args.length (fun m=>∀j (h1:j<f.args.length) (h2:j<g.args.length),j<m→mtF f.args[j] g.args[j]=0)
   (fun m=>([(2,.ptr 0 0),(3,.ptr 1 0),(45,.i f.args.length),(46,.i m)],⟨2,[(0,.var f.view),(1,.var g.view)]⟩))
   (fun j _ _ h=>by omega) (M.W rh2) ?_ ?_
  ·intro m hm hP2
   have hm2:m<g.args.length:=by omega
   have hs1:=lsum_mem Fm.full (List.getElem_mem hm)
   have hs2:=lsum_mem Fm.full (List.getElem_mem hm2)
   have hc:=ih f.args[m] g.args[m] (by omega) (by omega) (by omega) (fshape_args hfs (List.getElem_mem hm)) (fshape_args hgs (List.getElem_mem hm2))
   by_cases e0:mtF f.args[m] g.args[m]=0
   ·rw [e0] at hc
    refine M.w1 @hc ?_
    refine⟨rfl,fun j h1 h2 hj=> ?_,(M.W rh2)⟩
    by_cases hjm:j=m
    ·subst hjm;exact e0
    ·exact hP2 j h1 h2 (by omega)
   ·have e3:=mtFs_at f.args g.args m hm hm2 hP2 e0
    rw[e3] at he
    rw[he]
    repeat'(first|refine M.w1 @hc ?_|refine M.cs ?_ ?_<;>intro h|fail)
    ·rfl
    ·exfalso;simp at h;exact e0 h
  ·intro hP2
   have e3:=mtFs_none f.args g.args fun j h1 h2=>hP2 j h1 h2 (by omega)
   rw[e3] at he
   rw[he]
   refine M.w0 ?_
   rfl
theorem rcountP_c:∀(n:Nat) (p:Pf),p.full≤n→n<549755813888→PC E 169 [.agg p.view] (.i p.size):=by
 intro n
 induction n with
 |zero=>intro p h;have:=p.full_pos;omega
 |succ n ih=>
 intro p hsz hn
 have hsz':=p.full_eq
 have hse:=p.size_eq
 have hlen:=lsum_len Pf.full Pf.full_pos p.args
 have hlen1:=lsum_len Fm.full Fm.full_pos p.forms
 have hlen2:=lsum_len Tm.full Tm.full_pos p.terms
 have hle0:=lsum_le (f:=Tm.size) (g:=Tm.full) p.terms fun x _=>x.size_le_full
 have hle1:=lsum_le (f:=Fm.size) (g:=Fm.full) p.forms fun x _=>x.size_le_full
 have hle2:=lsum_le (f:=Pf.size) (g:=Pf.full) p.args fun x _=>x.size_le_full
 refine M.F Tryz.func169 ?_
 refine M.w0 ?_
 refine M.rt p.terms.length
  (fun m=>([(1,.ptr 0 0),(3,.i (1+((p.terms.take m).map Tm.size).sum:Nat)),(11,.s .tm p.terms),(12,.i p.terms.length),(13,.i m)],⟨1,[(0,.var p.view)]⟩))
  (M.W rh1) ?_ ?_
 ·intro m hm _
  have hs1:=lsum_take Tm.size p.terms m hm
  have hs2:=lsum_mem Tm.full (List.getElem_mem hm)
  have hs3:=lsum_take_le Tm.size p.terms (m+1)
  have hc:=countTm_c _ p.terms[m] (Nat.le_refl _) (by omega)
  refine M.w1 @hc ?_
  refine⟨rfl,trivial,?_⟩
  simp only[hs1]
  exact(M.W rh1 (hf:=(by(repeat'(first|exact trivial|refine And.intro ?_ ?_|refine⟨_,U,_,U,?_⟩|exact VLe.refl _|exact VLe.of_eq (by simp[Sto.upd,Int.natCast_add,Int.add_assoc])));done)))
 ·intro _
  simp only[List.take_length]
  refine M.w0 ?_
  refine M.rt p.forms.length
   (fun m=>([(1,.ptr 0 0),(3,.i (1+(p.terms.map Tm.size).sum+((p.forms.take m).map Fm.size).sum:Nat)),(23,.s .fm p.forms),(24,.i p.forms.length),(25,.i m)],⟨1,[(0,.var p.view)]⟩))
   (M.W rh1) ?_ ?_
  ·intro m hm _
   have hs1:=lsum_take Fm.size p.forms m hm
   have hs2:=lsum_mem Fm.full (List.getElem_mem hm)
   have hs3:=lsum_take_le Fm.size p.forms (m+1)
   have hc:=fcountR_c _ p.forms[m] (Nat.le_refl _) (by omega)
   refine M.w1 @hc ?_
   refine⟨rfl,trivial,?_⟩
   simp only[hs1]
   exact(M.W rh1 (hf:=(by(repeat'(first|exact trivial|refine And.intro ?_ ?_|refine⟨_,U,_,U,?_⟩|exact VLe.refl _|exact VLe.of_eq (by simp[Sto.upd,Int.natCast_add,Int.add_assoc])));done)))
  ·intro _
   simp only[List.take_length]
   refine M.w0 ?_
   refine M.rt p.args.length
    (fun m=>([(1,.ptr 0 0),(3,.i (1+(p.terms.map Tm.size).sum+(p.forms.map Fm.size).sum+((p.args.take m).map Pf.size).sum:Nat)),(35,.s .pf p.args),(36,.i p.args.length),(37,.i m)],⟨1,[(0,.var p.view)]⟩))
    (M.W rh1) ?_ ?_
   ·intro m hm _
    have hs1:=lsum_take Pf.size p.args m hm
    have hs2:=lsum_mem Pf.full (List.getElem_mem hm)
    have hs3:=lsum_take_le Pf.size p.args (m+1)
    have hc:=ih p.args[m] (by omega) (by omega)
    refine M.w1 @hc ?_
    refine⟨rfl,trivial,?_⟩
    simp only[hs1]
    exact(M.W rh1 (hf:=(by(repeat'(first|exact trivial|refine And.intro ?_ ?_|refine⟨_,U,_,U,?_⟩|exact VLe.refl _|exact VLe.of_eq (by simp[Sto.upd,Int.natCast_add,Int.add_assoc])));done)))
   ·intro _
    simp only[List.take_length]
    refine M.w0 ?_
    rw[hse]
    rfl
theorem rsmallP_c:∀(n:Nat) (p:Pf),p.full≤n→n<549755813888→PC E 168 [.agg p.view] (.bool p.small):=by
 intro n
 induction n with
 |zero=>intro p h;have:=p.full_pos;omega
 |succ n ih=>
 intro p hsz hn
 have hsz':=p.full_eq
 have hse:=p.small_eq
 have hlen:=lsum_len Pf.full Pf.full_pos p.args
 have hlen1:=lsum_len Fm.full Fm.full_pos p.forms
 have hlen2:=lsum_len Tm.full Tm.full_pos p.terms
 refine M.F Tryz.func168 ?_
 refine M.w0 ?_
 refine M.rp p.terms.length (fun m=>∀j (hj:j<p.terms.length),j<m→decide (p.terms[j].size≤4096)=true)
  (fun m=>([(1,.ptr 0 0),(10,.s .tm p.terms),(11,.i p.terms.length),(12,.i m)],⟨1,[(0,.var p.view)]⟩))
  (fun j hj h=>by omega) (M.W rh1) ?_ ?_
 ·intro m hm hP
  have hs2:=lsum_mem Tm.full (List.getElem_mem hm)
  have hc:=countTm_c _ p.terms[m] (Nat.le_refl _) (by omega)
  have hle:=p.terms[m].size_le_full
  repeat'(first|refine M.w1 @hc ?_|refine M.cs ?_ ?_<;>intro h|fail)
  ·have e:p.small=false:=by
    rw[hse,all_not (fun t:Tm=>decide (t.size≤4096)) hm (by simp at h ⊢;omega)];rfl
   rw[e];rfl
  ·exact ⟨rfl,all_step (p:=fun t:Tm=>decide (t.size≤4096)=true) hm hP (by simp at h ⊢;omega),(M.W rh1)⟩
 ·intro hP
  have a1:=all_of (fun t:Tm=>decide (t.size≤4096)) p.terms fun j hj=>hP j hj hj
  rw[a1,Bool.true_and] at hse
  refine M.w0 ?_
  refine M.rp p.forms.length (fun m=>∀j (hj:j<p.forms.length),j<m→decide (p.forms[j].size≤4096)=true)
   (fun m=>([(1,.ptr 0 0),(21,.s .fm p.forms),(22,.i p.forms.length),(23,.i m)],⟨1,[(0,.var p.view)]⟩))
   (fun j hj h=>by omega) (M.W rh1) ?_ ?_
  ·intro m hm hP
   have hs2:=lsum_mem Fm.full (List.getElem_mem hm)
   have hc:=fcountR_c _ p.forms[m] (Nat.le_refl _) (by omega)
   have hle:=p.forms[m].size_le_full
   repeat'(first|refine M.w1 @hc ?_|refine M.cs ?_ ?_<;>intro h|fail)
   ·have e:p.small=false:=by
     rw[hse,all_not (fun t:Fm=>decide (t.size≤4096)) hm (by simp at h ⊢;omega)];rfl
    rw[e];rfl
   ·exact ⟨rfl,all_step (p:=fun t:Fm=>decide (t.size≤4096)=true) hm hP (by simp at h ⊢;omega),(M.W rh1)⟩
  ·intro hP
   have a1:=all_of (fun t:Fm=>decide (t.size≤4096)) p.forms fun j hj=>hP j hj hj
   rw[a1,Bool.true_and] at hse
   refine M.w0 ?_
   refine M.rp p.args.length (fun m=>∀j (hj:j<p.args.length),j<m→p.args[j].small=true)
    (fun m=>([(1,.ptr 0 0),(32,.s .pf p.args),(33,.i p.args.length),(34,.i m)],⟨1,[(0,.var p.view)]⟩))
    (fun j hj h=>by omega) (M.W rh1) ?_ ?_
   ·intro m hm hP
    have hs2:=lsum_mem Pf.full (List.getElem_mem hm)
    have hc:=ih p.args[m] (by omega) (by omega)
    cases hb:p.args[m].small with
    |false=>
     rw[hb] at hc
     have e:p.small=false:=by rw[hse,all_not Pf.small hm hb]
     rw[e]
     refine M.w1 @hc ?_
     rfl
    |true=>
     rw[hb] at hc
     refine M.w1 @hc ?_
     exact⟨rfl,all_step (p:=fun t:Pf=>t.small=true) hm hP hb,(M.W rh1)⟩
   ·intro hP
    have e:p.small=true:=by rw[hse];exact all_of Pf.small p.args fun j hj=>hP j hj hj
    rw[e]
    refine M.w0 ?_
    rfl
theorem rfits_c(p:Pf)(hp:p.full<549755813888):PC E 126 [.agg p.view] (.bool (p.small&&decide (p.size≤16384))):=by
 have h1:=rsmallP_c _ p (Nat.le_refl _) hp
 have h2:=rcountP_c _ p (Nat.le_refl _) hp
 have h3:=p.size_le_full
 cases hs:p.small with
 |false=>
  rw[hs] at h1
  refine M.F Tryz.func126 ?_
  refine M.w1 @h1 ?_
  rfl
 |true=>
  rw[hs] at h1
  have e:decide (((p.size:Nat):Int)≤16384)=decide (p.size≤16384):=by rw[decide_eq_decide];omega
  refine M.F Tryz.func126 ?_
  refine M.w2 @h1 @h2 ?_
  simp[tupV,V.wk,V.wks,constV,e]
theorem rnodes_c(k:Int):PC E 167 [.i k] (.tup [.agg ((ndP k).getD noNd).view,.bool (ndP k).isSome]):=by
 by_cases hk:1≤k∧k≤20
 ·have:k=1∨k=2∨k=3∨k=4∨k=5∨k=6∨k=7∨k=8∨k=9∨k=10∨k=11∨k=12∨k=13∨k=14∨k=15∨k=16∨k=17∨k=18∨k=19∨k=20:=by omega
  rcases this with rfl|rfl|rfl|rfl|rfl|rfl|rfl|rfl|rfl|rfl|rfl|rfl|rfl|rfl|rfl|rfl|rfl|rfl|rfl|rfl
  all_goals(refine M.F Tryz.func167 ?_)
  all_goals(refine M.v0 ?_)
  all_goals rfl
 ·have e:ndP k=none:=by
   unfold ndP
   repeat rw[if_neg (by omega)]
  rw[e]
  have b:∀j:Int,1≤j→j≤20→¬(k==j)=true:=fun j h1 h2 h=>by simp at h;omega
  have b1:=b 1 (by omega) (by omega)
  have b2:=b 2 (by omega) (by omega)
  have b3:=b 3 (by omega) (by omega)
  have b4:=b 4 (by omega) (by omega)
  have b5:=b 5 (by omega) (by omega)
  have b6:=b 6 (by omega) (by omega)
  have b7:=b 7 (by omega) (by omega)
  have b8:=b 8 (by omega) (by omega)
  have b9:=b 9 (by omega) (by omega)
  have b10:=b 10 (by omega) (by omega)
  have b11:=b 11 (by omega) (by omega)
  have b12:=b 12 (by omega) (by omega)
  have b13:=b 13 (by omega) (by omega)
  have b14:=b 14 (by omega) (by omega)
  have b15:=b 15 (by omega) (by omega)
  have b16:=b 16 (by omega) (by omega)
  have b17:=b 17 (by omega) (by omega)
  have b18:=b 18 (by omega) (by omega)
  have b19:=b 19 (by omega) (by omega)
  have b20:=b 20 (by omega) (by omega)
  refine M.F Tryz.func167 ?_
  repeat'(first|refine M.v0 ?_|refine M.cs ?_ ?_<;>intro h|fail)
  all_goals first
   |contradiction
   |rfl
theorem rshapeP_c:∀(n:Nat) (p:Pf),p.full≤n→n<549755813888→PC E 125 [.agg p.view] (.bool p.shape):=by
 intro n
 induction n with
 |zero=>intro p h;have:=p.full_pos;omega
 |succ n ih=>
 intro p hsz hn
 have hsz':=p.full_eq
 have hse:=p.shape_eq
 have hlen:=lsum_len Pf.full Pf.full_pos p.args
 have hlen1:=lsum_len Fm.full Fm.full_pos p.forms
 have hlen2:=lsum_len Tm.full Tm.full_pos p.terms
 have h1:=rnodes_c p.kind
 cases hnd:ndP p.kind with
 |none=>
  have e:p.shape=false:=by rw[hse];simp[Pf.head,hnd]
  rw[hnd] at h1
  rw[e]
  refine M.F Tryz.func125 ?_
  refine M.w1 @h1 ?_
  rfl
 |some nd=>
 rw[hnd] at h1
 simp only[Option.getD_some,Option.isSome_some] at h1
 have h3:=zeroTy_c p.ty
 have h4:=checkTyR_c p.ty (by omega)
 have hok:=tyok_err p.ty
 refine M.F Tryz.func125 ?_
 repeat'(first|refine M.w3 @h1 @h3 @h4 ?_|refine M.gs ?_ ?_<;>intro h|refine M.cs ?_ ?_<;>intro h|fail)
 all_goals first
  |(have hd:p.head=false:=by(simp only[Pf.head,hnd];simp_all;done)
    have:p.shape=false:=by rw[hse,hd];rfl
    simp[this,tupV,constV,V.wk,V.wks];done)
  |(have hd:p.head=false:=by(simp only[Pf.head,hnd];simp_all;omega)
    have:p.shape=false:=by rw[hse,hd];rfl
    simp[this,tupV,constV,V.wk,V.wks];done)
  |(have hd:p.head=true:=by(simp only[Pf.head,hnd];simp_all;try omega)
    rw[hd,Bool.true_and] at hse
    refine M.rp p.terms.length (fun m=>∀j (hj:j<p.terms.length),j<m→p.terms[j].shape=true)
     (fun m=>([(1,.ptr 0 0),(78,.s .tm p.terms),(79,.i p.terms.length),(80,.i m)],⟨2,[(0,.var p.view),(1,.var nd.view)]⟩))
     (fun j hj h=>by omega) (M.W rh2) ?_ ?_
    ·intro m hm hP
     have hs2:=lsum_mem Tm.full (List.getElem_mem hm)
     have hc:=shapeTm_c _ p.terms[m] (Nat.le_refl _) (by omega)
     cases hb:p.terms[m].shape with
     |false=>
      rw[hb] at hc
      have e:p.shape=false:=by rw[hse,all_not Tm.shape hm hb];rfl
      rw[e]
      refine M.w1 @hc ?_
      rfl
     |true=>
      rw[hb] at hc
      refine M.w1 @hc ?_
      exact⟨rfl,all_step (p:=fun t:Tm=>t.shape=true) hm hP hb,(M.W rh2)⟩
    ·intro hP
     have a1:=all_of Tm.shape p.terms fun j hj=>hP j hj hj
     rw[a1,Bool.true_and] at hse
     refine M.w0 ?_
     refine M.rp p.forms.length (fun m=>∀j (hj:j<p.forms.length),j<m→p.forms[j].shape=true)
      (fun m=>([(1,.ptr 0 0),(89,.s .fm p.forms),(90,.i p.forms.length),(91,.i m)],⟨2,[(0,.var p.view),(1,.var nd.view)]⟩))
      (fun j hj h=>by omega) (M.W rh2) ?_ ?_
     ·intro m hm hP
      have hs2:=lsum_mem Fm.full (List.getElem_mem hm)
      have hc:=fshapeR_c _ p.forms[m] (Nat.le_refl _) (by omega)
      cases hb:p.forms[m].shape with
      |false=>
       rw[hb] at hc
       have e:p.shape=false:=by rw[hse,all_not Fm.shape hm hb];rfl
       rw[e]
       refine M.w1 @hc ?_
       rfl
      |true=>
       rw[hb] at hc
       refine M.w1 @hc ?_
       exact⟨rfl,all_step (p:=fun t:Fm=>t.shape=true) hm hP hb,(M.W rh2)⟩
     ·intro hP
      have a1:=all_of Fm.shape p.forms fun j hj=>hP j hj hj
      rw[a1,Bool.true_and] at hse
      refine M.w0 ?_
      refine M.rp p.args.length (fun m=>∀j (hj:j<p.args.length),j<m→p.args[j].shape=true)
       (fun m=>([(1,.ptr 0 0),(100,.s .pf p.args),(101,.i p.args.length),(102,.i m)],⟨2,[(0,.var p.view),(1,.var nd.view)]⟩))
       (fun j hj h=>by omega) (M.W rh2) ?_ ?_
      ·intro m hm hP
       have hs2:=lsum_mem Pf.full (List.getElem_mem hm)
       have hc:=ih p.args[m] (by omega) (by omega)
       cases hb:p.args[m].shape with
       |false=>
        rw[hb] at hc
        have e:p.shape=false:=by rw[hse,all_not Pf.shape hm hb]
        rw[e]
        refine M.w1 @hc ?_
        rfl
       |true=>
        rw[hb] at hc
        refine M.w1 @hc ?_
        exact⟨rfl,all_step (p:=fun t:Pf=>t.shape=true) hm hP hb,(M.W rh2)⟩
      ·intro hP
       have e:p.shape=true:=by rw[hse];exact all_of Pf.shape p.args fun j hj=>hP j hj hj
       rw[e]
       refine M.w0 ?_
       rfl)
theorem rcheckP_c(p:Pf)(hp:p.full<549755813888):PC E 82 [.agg p.view] (.i p.err):=by
 have h1:=rshapeP_c _ p (Nat.le_refl _) hp
 have h2:=rfits_c p hp
 cases hs:p.shape with
 |false=>
  have e:p.err=2:=by simp[Pf.err,hs]
  rw[hs] at h1
  rw[e]
  refine M.F Tryz.func82 ?_
  refine M.w1 @h1 ?_
  rfl
 |true=>
  rw[hs] at h1
  cases hf:p.small&&decide (p.size≤16384) with
  |false=>
   have e:p.err=4:=by
    simp only[Pf.err,hs]
    rw[if_neg (by simp),if_pos]
    cases hm:p.small with
    |false=>exact .inl rfl
    |true=>rw[hm] at hf;simp at hf;exact .inr hf
   rw[hf] at h2
   rw[e]
   refine M.F Tryz.func82 ?_
   refine M.w2 @h1 @h2 ?_
   rfl
  |true=>
   have e:p.err=0:=by simp at hf;exact(Pf.err_iff p).2 ⟨hs,hf.1,hf.2⟩
   rw[hf] at h2
   rw[e]
   refine M.F Tryz.func82 ?_
   refine M.w2 @h1 @h2 ?_
   rfl
theorem rfMatch_c(f g:Fm)(hf:f.full<274877906944)(hg:g.full<274877906944):PC E 49 [.agg f.view,.agg g.view] (.i (mtchF f g)):=by
 have h1:=fcheckR_c f (by omega)
 have h2:=fcheckR_c g (by omega)
 unfold mtchF
 by_cases ef:f.err=0
 case neg=>
  rw[if_pos ef]
  refine M.F Tryz.func49 ?_
  repeat'(first|refine M.w1 @h1 ?_|refine M.cs ?_ ?_<;>intro h|fail)
  all_goals first
   |rfl
   |(exfalso;simp at h;exact ef h)
 rw[ef] at h1
 rw[if_neg (by simp[ef])]
 by_cases eg:g.err=0
 case neg=>
  rw[if_pos eg]
  refine M.F Tryz.func49 ?_
  repeat'(first|refine M.w2 @h1 @h2 ?_|refine M.cs ?_ ?_<;>intro h|fail)
  all_goals first
   |rfl
   |(exfalso;simp at h;exact eg h)
 rw[eg] at h2
 rw[if_neg (by simp[eg])]
 have h3:=rfmatch_c _ f g (Nat.le_refl _) hf hg ((Fm.err_iff f).1 ef).1 ((Fm.err_iff g).1 eg).1
 refine M.F Tryz.func49 ?_
 refine M.w3 @h1 @h2 @h3 ?_
 rfl
theorem contEq_c(a b:Tm):PC E 183 [.agg (eqF a b).view] (.bool false):=by
 unfold eqF
 refine M.F Tryz.func183 ?_
 refine M.v0 ?_
 rfl
theorem keyAt_none{k:Int}:∀{l:List Int},k∉l→keyAt k l=none
 |[],_=>rfl
 |x::l,h=>by
  have h1:¬x=k:=fun e=>h (by simp[e])
  have h2:k∉l:=fun hm=>h (by simp[hm])
  simp only[keyAt,if_neg h1,keyAt_none h2,Option.map_none]
theorem keyAt_mem{k:Int}:∀{l:List Int},k∈l→∃i,keyAt k l=some i
 |[],h=>by cases h
 |x::l,h=>by
  by_cases h1:x=k
  ·exact ⟨0,by simp only[keyAt,if_pos h1]⟩
  ·obtain ⟨i,hi⟩:=keyAt_mem (l:=l) (by
    rcases List.mem_cons.1 h with h2|h2
    ·exact absurd h2.symm h1
    ·exact h2)
   exact⟨i+1,by simp only[keyAt,if_neg h1,hi,Option.map_some]⟩
theorem lowered_c(t:Tm)(b:Int)(hb:0≤b∧b<549755813888)(hs:t.shape=true)(hf:t.full<137438953472)(hC:∀q∈t.vars 0,q.1≤268435456):PC E 133 [.agg t.view,.i b] (.tup [.agg (low b.toNat t).1.view,.bool (low b.toNat t).2]):=by
 have hbn:(b.toNat:Int)=b:=by omega
 refine M.F Tryz.func133 ?_
 refine M.w0 ?_
 refine AW.range b.toNat (fun m=>∀j,j<m→cnt 0 ((lowI j t).vars 0)=0)
  (fun m=>([(2,.ptr 0 0),(4,.ptr 1 0),(6,.i b),(7,.i m)],⟨2,[(0,.var (lowI m t).view),(1,.var [.i 0,.i 0,.i 0,.slice .nil (.t .ty []),.slice .nil (.t .tm [])])]⟩))
  (by omega) (fun m=>rfl) (fun m=>by rw[←hbn];rfl) rfl (by intro j hj;omega) (M.W rh2) ?_ ?_
 ·intro m hm hP
  obtain⟨h1,h2,h3⟩:=lowI_ok hs hC m hP
  have hc:=count_c (lowI m t) 0 (by omega) fun p hp=>⟨(lowI m t).vars_nonneg h1 0 p hp,by have:=h3 p hp;omega⟩
  have hp:=put_c (lowI m t) 0 noTm (by omega) (by decide) (by intro p hp;simp[noTm,Tm.vars,Tm.varss] at hp) (by omega) fun p hp=>⟨(lowI m t).vars_nonneg h1 0 p hp,by have:=h3 p hp;omega⟩
  repeat'(first|refine M.w2 @hc @hp ?_|refine M.cs ?_ ?_<;>intro h|fail)
  ·have e:low b.toNat t=(noTm,false):=by
    simp only[low]
    rw[if_neg]
    intro hc
    have:=hc m hm
    simp at h;omega
   rw[e]
   simp[tupV,V.wk,V.wks,constV,Ty.view,Tm.view,noTm]
  ·refine ⟨rfl,?_,(M.W rh2)⟩
   intro j hj
   by_cases hjm:j=m
   ·subst hjm;simp at h;omega
   ·exact hP j (by omega)
 ·intro hP
  have e:low b.toNat t=(lowI b.toNat t,true):=by simp only[low];rw[if_pos hP]
  rw[e]
  refine M.w0 ?_
  simp[tupV,V.wk,V.wks,constV,Ty.view,Tm.view]
theorem ibeq(a b:Int):(a==b)=decide (a=b):=by by_cases h:a=b<;>simp[h]
theorem termM_c(ho:Int)(hh:0≤ho∧ho≤4096):∀(n:Nat) (p t:Tm) (m:FMap) (b:Int),p.full≤n→n<137438953472→0≤b→b+n<274877906944→p.shape=true→t.shape=true→t.full<137438953472→
 (∀q∈p.vars 0,q.1≤268435456)→(∀q∈t.vars 0,q.1≤268435456)→
 AC E 93 [.ptr 0 0,.agg p.view,.agg t.view,.i b] ⟨2,[(0,.var [.i ho,.mp 1]),(1,.map .tm (m.map (·.1)) (m.map (·.2)))]⟩ (.bool (mT ho b p t m).1)
  ⟨2,[(0,.var [.i ho,.mp 1]),(1,.map .tm ((mT ho b p t m).2.map (·.1)) ((mT ho b p t m).2.map (·.2)))]⟩:=by
 intro n
 induction n with
 |zero=>intro p;intros;have:=p.full_pos;omega
 |succ n ih=>
 intro p t m b hsz hn hb hbn hps hts htf hpv htv
 have hsz':=p.full_eq
 have hlen:=lsum_len Tm.full Tm.full_pos p.args
 have hmt:=mT_eq ho b p t m
 have hpi:0≤p.index∧p.index≤268435456:=by
  have h0:=shape_index hps
  by_cases hk:p.kind=1
  ·have h1:(p.index,(0:Int))∈p.vars 0:=by rw[p.vars_eq,if_pos hk];simp
   exact⟨h0.1,hpv _ h1⟩
  ·have:=h0.2 hk;omega
 have hlow:=lowered_c t b (by omega) hts htf htv
 have hty:=sameTy2_c _ p.ty t.ty (Nat.le_refl _) (by omega)
 refine M.F Tryz.func93 ?_
 repeat'(first|refine M.o0 ?_|refine M.z1 2 ?_|refine M.gk ?_|fail)
 refine AW.cut (ι:=Unit) (fun _=>([(0,.ptr 0 0),(3,.i b),(5,.ptr 2 0),(6,.ptr 3 0),(9,.i (p.index-b)),(34,.bool (decide (p.kind=1∧0≤p.index-b∧p.index-b<ho)))],⟨4,[(0,.var [.i ho,.mp 1]),(1,.map .tm (m.map (·.1)) (m.map (·.2))),(2,.var p.view),(3,.var t.view)]⟩)) ?_ ?_
 ·clear ih hmt hlow hty hpv htv hsz'
  repeat'(first|refine M.w0 ?_|refine M.gs ?_ ?_<;>intro h|fail)
  ·rename_i h0
   simp only[beq_iff_eq,decide_eq_true_eq] at h0 h
   have e:decide (p.kind=1∧0≤p.index-b∧p.index-b<ho)=decide (p.index-b<ho):=decide_eq_decide.2 (by omega)
   rw[e]
   exact⟨(),(M.W rh4)⟩
  ·simp only[decide_eq_false_iff_not] at h
   have e:decide (p.kind=1∧0≤p.index-b∧p.index-b<ho)=false:=decide_eq_false (by omega)
   rw[e]
   exact⟨(),(M.W rh4)⟩
  ·simp only[beq_eq_false_iff_ne,ne_eq] at h
   have e:decide (p.kind=1∧0≤p.index-b∧p.index-b<ho)=false:=decide_eq_false (by omega)
   rw[e]
   exact⟨(),(M.W rh4)⟩
 intro _
 by_cases hhole:p.kind=1∧0≤p.index-b∧p.index-b<ho
 ·rw [if_pos hhole] at hmt
  have hd:decide (p.kind=1∧0≤p.index-b∧p.index-b<ho)=true:=decide_eq_true hhole
  rw[hd]
  by_cases hmem:(p.index-b)∈m.map (·.1)
  ·rw [if_pos hmem] at hmt
   obtain⟨i,hi⟩:=keyAt_mem hmem
   have hil:i<m.length:=by have:=(keyAt_some hi).2;simpa using this
   have hc0:(m.map (·.2))[i]? =some (m[i]).2:=by rw[List.getElem?_map,List.getElem?_eq_getElem hil];rfl
   rw[hmt]
   refine M.w0 ?_
   (exact M.n2 rh2 (h8:=(by simp[tupV,V.wk,V.wks,constV,Ty.view,Tm.view,hmt])))
  ·rw [if_neg hmem] at hmt
   have hi:=keyAt_none hmem
   rw[hmt]
   refine M.w1 @hlow ?_
   (exact M.n2 rh2 (h6:=(by(repeat'(first|exact trivial|refine And.intro ?_ ?_|refine⟨_,U,_,U,_,U,?_⟩|exact VLe.refl _|refine⟨_,U,_,_,U,?_,?_⟩|(simp[Sto.upd,hmt,putKs,putCs,hi];done)));done)) (h8:=(by simp[tupV,V.wk,V.wks,constV,Ty.view,Tm.view,hmt,putKs,putCs,hi])))
 rw[if_neg hhole] at hmt
 have hd:decide (p.kind=1∧0≤p.index-b∧p.index-b<ho)=false:=decide_eq_false hhole
 rw[hd]
 repeat'(first|refine M.o0 ?_|refine M.z1 9 ?_|refine M.gk ?_|fail)
 refine K.sq ?_
 refine AW.cut (ι:=Unit) (fun _=>([(0,.ptr 0 0),(3,.i b),(5,.ptr 2 0),(6,.ptr 3 0),(70,.bool (!decide (p.kind=t.kind∧p.ty=t.ty)))],⟨4,[(0,.var [.i ho,.mp 1]),(1,.map .tm (m.map (·.1)) (m.map (·.2))),(2,.var p.view),(3,.var t.view)]⟩)) ?_ ?_
 ·clear ih hmt hlow hpv htv hsz'
  repeat'(first|refine M.w1 @hty ?_|refine M.gs ?_ ?_<;>intro h|fail)
  ·have e:(!decide (p.kind=t.kind∧p.ty=t.ty))=true:=by
    simp only[bne_iff_ne,ne_eq] at h
    simp[h]
   rw[e]
   exact⟨(),(M.W rh4)⟩
  ·have e:(!decide (p.kind=t.kind∧p.ty=t.ty))= !decide (p.ty=t.ty):=by
    simp only[bne_eq_false_iff_eq] at h
    simp[h]
   rw[e]
   exact⟨(),(M.W rh4)⟩
 intro _
 by_cases hne:¬(p.kind=t.kind∧p.ty=t.ty)
 ·rw [if_neg hne] at hmt
  have hd2:(!decide (p.kind=t.kind∧p.ty=t.ty))=true:=by rw[decide_eq_false hne];rfl
  rw[hd2,hmt]
  refine M.w0 ?_
  (exact M.n2 rh2 (h8:=(by simp[tupV,V.wk,V.wks,constV,Ty.view,Tm.view,hmt])))
 have heq:=Classical.not_not.1 hne
 have hd2:(!decide (p.kind=t.kind∧p.ty=t.ty))=false:=by rw[decide_eq_true heq];rfl
 rw[if_pos heq] at hmt
 rw[hd2]
 have hal:=head_args hps hts heq.1
 by_cases hk1:p.kind=1
 ·rw [if_pos hk1] at hmt
  have hti:0≤t.index∧t.index≤268435456:=by
   have h1:(t.index,(0:Int))∈t.vars 0:=by rw[t.vars_eq,if_pos (heq.1▸hk1)];simp
   exact⟨(shape_index hts).1,htv _ h1⟩
  rw[hmt]
  repeat'(first|refine M.w0 ?_|refine M.cs ?_ ?_<;>intro h|fail)
  ·have hle:b≤p.index:=by simpa using h
   (exact M.n2 rh2 (h8:=(by simp[tupV,V.wk,V.wks,constV,Ty.view,Tm.view,hle,ibeq])))
  ·have hle:¬b≤p.index:=by simpa using h
   (exact M.n2 rh2 (h8:=(by simp[tupV,V.wk,V.wks,constV,Ty.view,Tm.view,hle,ibeq])))
  ·exfalso;rename_i h0;simp[hk1] at h0
  ·exfalso;rename_i h0;simp[hk1] at h0
 rw[if_neg hk1] at hmt
 rw[hmt]
 repeat'(first|refine M.w0 ?_|refine M.cs ?_ ?_<;>intro h|fail)
 ·exfalso;rename_i h0;simp[hk1] at h0
 ·exfalso;rename_i h0;simp[hk1] at h0
 all_goals
  refine M.rp p.args.length (fun k=>(mTs ho (up p.kind b) (p.args.take k) (t.args.take k) m).1=true)
   (fun k=>([(0,.ptr 0 0),(3,.i (up p.kind b)),(5,.ptr 2 0),(6,.ptr 3 0),(99,.s .tm p.args),(100,.i p.args.length),(101,.i k)],⟨4,[(0,.var [.i ho,.mp 1]),(1,.map .tm ((mTs ho (up p.kind b) (p.args.take k) (t.args.take k) m).2.map (·.1)) ((mTs ho (up p.kind b) (p.args.take k) (t.args.take k) m).2.map (·.2))),(2,.var p.view),(3,.var t.view)]⟩))
   rfl ?_ ?_ ?_
  ·simp only[beq_iff_eq,beq_eq_false_iff_ne,ne_eq] at h
   exact(M.W rh4 (hf:=(by(repeat'(first|exact trivial|refine And.intro ?_ ?_|refine⟨_,U,_,U,?_⟩|exact VLe.refl _|exact VLe.of_eq (by simp[Sto.upd,up,h,mTs])));done)) (he:=(by(repeat'(first|exact trivial|refine And.intro ?_ ?_|refine⟨_,U,_,U,_,U,?_⟩|exact VLe.refl _|refine⟨_,U,_,_,U,?_,?_⟩|(simp[Sto.upd,up,h,mTs];done)));done)))
  ·intro k hk hP
   have hk2:k<t.args.length:=by omega
   have hs2:=lsum_mem Tm.full (List.getElem_mem hk)
   have hs3:=lsum_mem Tm.full (List.getElem_mem hk2)
   have hs4:=t.full_eq
   have hup:up p.kind b≤b+1:=by simp only[up];split<;>omega
   have hup0:0≤up p.kind b:=by simp only[up];split<;>omega
   have hc:=ih p.args[k] t.args[k] (mTs ho (up p.kind b) (p.args.take k) (t.args.take k) m).2 (up p.kind b) (by omega) (by omega) hup0 (by omega) (shape_args hps _ (List.getElem_mem hk)) (shape_args hts _ (List.getElem_mem hk2)) (by omega)
    (vars_bd hpv (List.getElem_mem hk)) (vars_bd htv (List.getElem_mem hk2))
   have htk:=mTs_take (m:=m) hal hk hP
   repeat'(first|refine M.w0 ?_|refine M.cb (hc) [0,1] 0 ?_|refine M.cs ?_ ?_<;>intro h|fail)
   ·have h1:(mT ho (up p.kind b) p.args[k] t.args[k] (mTs ho (up p.kind b) (p.args.take k) (t.args.take k) m).2).1=false:=by simpa using h
    have e:=mTs_stop (m:=m) hal hk hP h1
    rw[e]
    (exact M.n2 rh2 (h8:=(by simp[tupV,V.wk,V.wks,constV,Ty.view,Tm.view,h1])))
   ·have h1:(mT ho (up p.kind b) p.args[k] t.args[k] (mTs ho (up p.kind b) (p.args.take k) (t.args.take k) m).2).1=true:=by simpa using h
    refine⟨rfl,by simp only[htk];exact h1,?_⟩
    simp only[htk]
    exact(M.W rh4)
  ·intro hP
   have e:mTs ho (up p.kind b) p.args t.args m=(true,(mTs ho (up p.kind b) p.args t.args m).2):=by
    have h1:=hP
    rw[List.take_of_length_le (Nat.le_refl _),List.take_of_length_le (by omega)] at h1
    exact Prod.ext h1 rfl
   rw[List.take_of_length_le (Nat.le_refl _),List.take_of_length_le (show t.args.length≤p.args.length by omega)]
   rw[e]
   refine M.w0 ?_
   (exact M.n2 rh2 (h8:=(by simp[tupV,V.wk,V.wks,constV,Ty.view,Tm.view,e])))
theorem formM_c(ho:Int)(hh:0≤ho∧ho≤4096):∀(n:Nat) (p f:Fm) (m:FMap) (b:Int),p.full≤n→n<68719476736→0≤b→b+n<137438953472→p.shape=true→f.shape=true→f.full<68719476736→
 p.nearE=true→f.nearE=true→
 AC E 52 [.ptr 0 0,.agg p.view,.agg f.view,.i b] ⟨2,[(0,.var [.i ho,.mp 1]),(1,.map .tm (m.map (·.1)) (m.map (·.2)))]⟩ (.bool (mF ho b p f m).1)
  ⟨2,[(0,.var [.i ho,.mp 1]),(1,.map .tm ((mF ho b p f m).2.map (·.1)) ((mF ho b p f m).2.map (·.2)))]⟩:=by
 intro n
 induction n with
 |zero=>intro p;intros;have:=p.full_pos;omega
 |succ n ih=>
 intro p f m b hsz hn hb hbn hps hfs hff hpv hfv
 have hsz':=p.full_eq
 have hlen:=lsum_len Fm.full Fm.full_pos p.args
 have hlen2:=lsum_len Tm.full Tm.full_pos p.terms
 have hff':=f.full_eq
 have hmt:=mF_eq ho b p f m
 have hq:=quantifier_c p.kind
 have hty:=sameTy2_c _ p.ty f.ty (Nat.le_refl _) (by omega)
 refine M.F Tryz.func52 ?_
 repeat'(first|refine M.o0 ?_|refine M.z1 1 ?_|refine M.gk ?_|fail)
 refine K.sq ?_
 refine AW.cut (ι:=Unit) (fun _=>([(0,.ptr 0 0),(3,.i b),(5,.ptr 2 0),(6,.ptr 3 0),(25,.bool (!decide (p.kind=f.kind∧p.ty=f.ty)))],⟨4,[(0,.var [.i ho,.mp 1]),(1,.map .tm (m.map (·.1)) (m.map (·.2))),(2,.var p.view),(3,.var f.view)]⟩)) ?_ ?_
 ·clear ih hmt hpv hfv hsz' hq hff'
  repeat'(first|refine M.w1 @hty ?_|refine M.gs ?_ ?_<;>intro h|fail)
  ·have e:(!decide (p.kind=f.kind∧p.ty=f.ty))=true:=by
    simp only[bne_iff_ne,ne_eq] at h
    simp[h]
   rw[e]
   exact⟨(),(M.W rh4)⟩
  ·have e:(!decide (p.kind=f.kind∧p.ty=f.ty))= !decide (p.ty=f.ty):=by
    simp only[bne_eq_false_iff_eq] at h
    simp[h]
   rw[e]
   exact⟨(),(M.W rh4)⟩
 intro _
 by_cases hne:¬(p.kind=f.kind∧p.ty=f.ty)
 ·rw [if_neg hne] at hmt
  have hd2:(!decide (p.kind=f.kind∧p.ty=f.ty))=true:=by rw[decide_eq_false hne];rfl
  rw[hd2,hmt]
  refine M.w0 ?_
  (exact M.n2 rh2 (h8:=(by simp[tupV,V.wk,V.wks,constV,Ty.view,Tm.view,hmt])))
 have heq:=Classical.not_not.1 hne
 have hd2:(!decide (p.kind=f.kind∧p.ty=f.ty))=false:=by rw[decide_eq_true heq];rfl
 rw[if_pos heq] at hmt
 rw[hd2]
 have hal:=head_fm hps hfs heq.1
 refine M.w0 ?_
 refine M.rp p.terms.length (fun k=>(mTs ho b (p.terms.take k) (f.terms.take k) m).1=true)
  (fun k=>([(0,.ptr 0 0),(3,.i b),(5,.ptr 2 0),(6,.ptr 3 0),(27,.s .tm p.terms),(28,.i p.terms.length),(29,.i k)],⟨4,[(0,.var [.i ho,.mp 1]),(1,.map .tm ((mTs ho b (p.terms.take k) (f.terms.take k) m).2.map (·.1)) ((mTs ho b (p.terms.take k) (f.terms.take k) m).2.map (·.2))),(2,.var p.view),(3,.var f.view)]⟩))
  U (M.W rh4 (he:=(by(repeat'(first|exact trivial|refine And.intro ?_ ?_|refine⟨_,U,_,U,_,U,?_⟩|exact VLe.refl _|refine⟨_,U,_,_,U,?_,?_⟩|(simp[Sto.upd,mTs];done)));done))) ?_ ?_
 ·intro k hk hP
  have hk2:k<f.terms.length:=by omega
  have hs2:=lsum_mem Tm.full (List.getElem_mem hk)
  have hs3:=lsum_mem Tm.full (List.getElem_mem hk2)
  have hc:=termM_c ho hh _ p.terms[k] f.terms[k] (mTs ho b (p.terms.take k) (f.terms.take k) m).2 b (Nat.le_refl _) (by omega) hb (by omega) (fshape_terms hps (List.getElem_mem hk)) (fshape_terms hfs (List.getElem_mem hk2)) (by omega)
   (nearE_terms hpv (List.getElem_mem hk)) (nearE_terms hfv (List.getElem_mem hk2))
  have htk:=mTs_take (m:=m) hal.1 hk hP
  repeat'(first|refine M.w0 ?_|refine M.cb (hc) [0,1] 0 ?_|refine M.cs ?_ ?_<;>intro h|fail)
  ·have h1:(mT ho b p.terms[k] f.terms[k] (mTs ho b (p.terms.take k) (f.terms.take k) m).2).1=false:=by simpa using h
   have e:=mTs_stop (m:=m) hal.1 hk hP h1
   rw[e] at hmt
   rw[hmt]
   (exact M.n2 rh2 (h8:=(by simp[tupV,V.wk,V.wks,constV,Ty.view,Tm.view,h1])))
  ·have h1:(mT ho b p.terms[k] f.terms[k] (mTs ho b (p.terms.take k) (f.terms.take k) m).2).1=true:=by simpa using h
   refine⟨rfl,by simp only[htk];exact h1,?_⟩
   simp only[htk]
   exact(M.W rh4)
 intro hP
 rw[List.take_of_length_le (Nat.le_refl _),List.take_of_length_le (by omega)] at hP
 rw[List.take_of_length_le (Nat.le_refl _),List.take_of_length_le (show f.terms.length≤p.terms.length by omega)]
 have e1:mTs ho b p.terms f.terms m=(true,(mTs ho b p.terms f.terms m).2):=Prod.ext hP rfl
 have hmt2:mF ho b p f m=mFs ho (upF p.kind b) p.args f.args (mTs ho b p.terms f.terms m).2:=by rw[hmt,e1]
 rw[hmt2]
 repeat'(first|refine M.w1 @hq ?_|refine M.cs ?_ ?_<;>intro h|fail)
 all_goals
  refine M.rp p.args.length (fun k=>(mFs ho (upF p.kind b) (p.args.take k) (f.args.take k) (mTs ho b p.terms f.terms m).2).1=true)
   (fun k=>([(0,.ptr 0 0),(3,.i (upF p.kind b)),(5,.ptr 2 0),(6,.ptr 3 0),(51,.s .fm p.args),(52,.i p.args.length),(53,.i k)],⟨4,[(0,.var [.i ho,.mp 1]),(1,.map .tm ((mFs ho (upF p.kind b) (p.args.take k) (f.args.take k) (mTs ho b p.terms f.terms m).2).2.map (·.1)) ((mFs ho (upF p.kind b) (p.args.take k) (f.args.take k) (mTs ho b p.terms f.terms m).2).2.map (·.2))),(2,.var p.view),(3,.var f.view)]⟩))
   rfl ?_ ?_ ?_
  ·exact (M.W rh4 (hf:=(by(repeat'(first|exact trivial|refine And.intro ?_ ?_|refine⟨_,U,_,U,?_⟩|exact VLe.refl _|exact VLe.of_eq (by simp[Sto.upd,upF,h,mFs])));done)) (he:=(by(repeat'(first|exact trivial|refine And.intro ?_ ?_|refine⟨_,U,_,U,_,U,?_⟩|exact VLe.refl _|refine⟨_,U,_,_,U,?_,?_⟩|(simp[Sto.upd,upF,h,mFs];done)));done)))
  ·intro k hk hP
   have hk2:k<f.args.length:=by omega
   have hs2:=lsum_mem Fm.full (List.getElem_mem hk)
   have hs3:=lsum_mem Fm.full (List.getElem_mem hk2)
   have hup:upF p.kind b≤b+1:=by simp only[upF];split<;>omega
   have hup0:0≤upF p.kind b:=by simp only[upF];split<;>omega
   have hc:=ih p.args[k] f.args[k] (mFs ho (upF p.kind b) (p.args.take k) (f.args.take k) (mTs ho b p.terms f.terms m).2).2 (upF p.kind b) (by omega) (by omega) hup0 (by omega) (fshape_args hps (List.getElem_mem hk)) (fshape_args hfs (List.getElem_mem hk2)) (by omega)
    (nearE_args hpv (List.getElem_mem hk)) (nearE_args hfv (List.getElem_mem hk2))
   have htk:=mFs_take (m:=(mTs ho b p.terms f.terms m).2) hal.2 hk hP
   repeat'(first|refine M.w0 ?_|refine M.cb (hc) [0,1] 0 ?_|refine M.cs ?_ ?_<;>intro h|fail)
   ·have h1:(mF ho (upF p.kind b) p.args[k] f.args[k] (mFs ho (upF p.kind b) (p.args.take k) (f.args.take k) (mTs ho b p.terms f.terms m).2).2).1=false:=by simpa using h
    have e:=mFs_stop (m:=(mTs ho b p.terms f.terms m).2) hal.2 hk hP h1
    rw[e]
    (exact M.n2 rh2 (h8:=(by simp[tupV,V.wk,V.wks,constV,Ty.view,Tm.view,h1])))
   ·have h1:(mF ho (upF p.kind b) p.args[k] f.args[k] (mFs ho (upF p.kind b) (p.args.take k) (f.args.take k) (mTs ho b p.terms f.terms m).2).2).1=true:=by simpa using h
    refine⟨rfl,by simp only[htk];exact h1,?_⟩
    simp only[htk]
    exact(M.W rh4)
  ·intro hP
   have e:mFs ho (upF p.kind b) p.args f.args (mTs ho b p.terms f.terms m).2=(true,(mFs ho (upF p.kind b) p.args f.args (mTs ho b p.terms f.terms m).2).2):=by
    have h1:=hP
    rw[List.take_of_length_le (Nat.le_refl _),List.take_of_length_le (by omega)] at h1
    exact Prod.ext h1 rfl
   rw[List.take_of_length_le (Nat.le_refl _),List.take_of_length_le (show f.args.length≤p.args.length by omega)]
   rw[e]
   refine M.w0 ?_
   (exact M.n2 rh2 (h8:=(by simp[tupV,V.wk,V.wks,constV,Ty.view,Tm.view,e])))
end Go.Ab
