/- A part of this seat's proofs. No conditions. -/
import Derived.Test.YtmhcohcihajegaaGreatDoorHS6
namespace Go.Ab
open Go Go.Proofs
set_option maxRecDepth 100000
set_option maxHeartbeats 4000000
set_option linter.all false
theorem Yk2(t:Tm)(hs:t.shape=true):PC E 233 [.agg t.view] (.bool (vg t)):=by
 by_cases k3:t.kind=3
 ·obtain ⟨i,th,f,a,rfl,hf,ha⟩:=Zdq hs k3 rfl;refine M.F Tryz.func233 ?_;refine M.v0 ?_
  rfl
 ·by_cases k6:t.kind=6
  ·obtain ⟨i,th,x,y,z,rfl,_,_,_⟩:=Zhi hs k6 rfl;by_cases h4:z.kind=4
   ·have e:vg (.mk 6 i th [x,y,z])=true:=by simp[vg,Tm.arg,h4]
    rw[e];refine M.F Tryz.func233 ?_;(repeat' first|refine M.w0 ?_|refine M.gs ?_ ?_<;>intro h|refine M.bl ?_|fail);all_goals first
     |rfl
     |(exfalso;simp_all;done)
   ·have e:vg (.mk 6 i th [x,y,z])=(z.kind==5):=by simp[vg,Tm.arg,h4]
    rw[e];refine M.F Tryz.func233 ?_;(repeat' first|refine M.w0 ?_|refine M.gs ?_ ?_<;>intro h|refine M.bl ?_|fail);all_goals first
     |rfl
     |(exfalso;simp_all;done)
  ·by_cases k9:t.kind=9
   ·obtain ⟨i,th,x,y,z,rfl,_,_,_⟩:=Zhi hs k9 rfl;by_cases h4:z.kind=7
    ·have e:vg (.mk 9 i th [x,y,z])=true:=by simp[vg,Tm.arg,h4]
     rw[e];refine M.F Tryz.func233 ?_;(repeat' first|refine M.w0 ?_|refine M.gs ?_ ?_<;>intro h|refine M.bl ?_|fail);all_goals first
      |rfl
      |(exfalso;simp_all;done)
    ·have e:vg (.mk 9 i th [x,y,z])=(z.kind==8):=by simp[vg,Tm.arg,h4]
     rw[e];refine M.F Tryz.func233 ?_;(repeat' first|refine M.w0 ?_|refine M.gs ?_ ?_<;>intro h|refine M.bl ?_|fail);all_goals first
      |rfl
      |(exfalso;simp_all;done)
   ·by_cases k11:t.kind=11
    ·obtain ⟨i,th,x,rfl,_⟩:=u9 hs k11 rfl;refine M.F Tryz.func233 ?_;refine M.v0 ?_
     rfl
    ·by_cases k12:t.kind=12
     ·obtain ⟨i,th,x,rfl,_⟩:=u9 hs k12 rfl;refine M.F Tryz.func233 ?_;refine M.v0 ?_
      rfl
     ·have e:vg t=false:=by simp[vg,k3,k6,k9,k11,k12]
      rw[e];have b3:¬(t.kind==3)=true:=by simpa using k3
      have b6:¬(t.kind==6)=true:=by simpa using k6
      have b9:¬(t.kind==9)=true:=by simpa using k9
      have b11:¬(t.kind==11)=true:=by simpa using k11
      have b12:¬(t.kind==12)=true:=by simpa using k12
      refine M.F Tryz.func233 ?_;(repeat' first|refine M.w0 ?_|refine M.gs ?_ ?_<;>intro h|refine M.bl ?_|refine M.cs ?_ ?_<;>intro h|fail);all_goals first
       |rfl
       |contradiction
theorem Yh3{t x:Tm}(hv:RV t x)(hs:t.shape=true)(hz:t.size<=4096):PC E 234 [.agg t.view] (.i (Zf4 t)):=by
 have hfull:=yz t hs;have h0:=y7 _ t (Nat.le_refl _) (by omega);cases hv with
 |beta i th j s b a=>
  have hb:b.shape=true:=zd (zd hs (.mk 2 j s [b]) (by simp)) b (by simp);have ha:a.shape=true:=zd hs a (by simp);have hsz:(Tm.mk 3 i th [Tm.mk 2 j s [b],a]).size=2+b.size+a.size:=by simp[Tm.size,Tm.sizes];omega
  have fb:=yz b hb;have fa:=yz a ha;have h1:=y7 _ b (Nat.le_refl _) (by omega);have h2:=Zuc _ b 0 (Nat.le_refl _) (by omega) (by omega) (by omega) hb;have h3:=y7 _ a (Nat.le_refl _) (by omega);have htl:=Zdy b 0;have hap:=a.size_pos;have hm:=Ye1 (y9 0 b) (a.size-1) (by omega) (by omega);have hm': -9223372036854775808<=(y9 0 b:Int)*(a.size-1)/\(y9 0 b:Int)*(a.size-1)<=9223372036854775807:=by omega
  have e:Zf4 (Tm.mk 3 i th [Tm.mk 2 j s [b],a])=b.size+y9 0 b*(a.size-1)-(Tm.mk 3 i th [Tm.mk 2 j s [b],a]).size:=by
   have hc:=Zjb b 0 0 hb;rw[Int.add_zero] at hc;show((b.re (xy 0 a) 0).size:Int)-_=_;rw[Zid 0 a b ha 0 hb,hc];congr 1;rw[Int.natCast_add,Int.natCast_mul];congr 2;omega
  rw[e];clear e;refine M.F Tryz.func234 ?_;refine M.v4 @h0 @h1 @h2 @h3 ?_
  rfl
 |rz i th _ f j s=>
  have h1:=y7 _ x (Nat.le_refl _) (by have:=yz x (zd hs x (by simp));have:=zc Tm.size (l:=[x,f,Tm.mk 4 j s []]) (t:=x) (by simp);have:=Tm.size_eq (Tm.mk 6 i th [x,f,Tm.mk 4 j s []]);simp only[Tm.args_mk] at this;omega);have e:(x.size:Int)<=4096:=by have:=zc Tm.size (l:=[x,f,Tm.mk 4 j s []]) (t:=x) (by simp);have:=Tm.size_eq (Tm.mk 6 i th [x,f,Tm.mk 4 j s []]);simp only[Tm.args_mk] at this;omega
  have e2:Zf4 (Tm.mk 6 i th [x,f,Tm.mk 4 j s []])=x.size-(Tm.mk 6 i th [x,f,Tm.mk 4 j s []]).size:=rfl;rw[e2];refine M.F Tryz.func234 ?_;refine M.v2 @h0 @h1 ?_
  rfl
 |fz i th _ f j s=>
  have h1:=y7 _ x (Nat.le_refl _) (by have:=yz x (zd hs x (by simp));have:=zc Tm.size (l:=[x,f,Tm.mk 7 j s []]) (t:=x) (by simp);have:=Tm.size_eq (Tm.mk 9 i th [x,f,Tm.mk 7 j s []]);simp only[Tm.args_mk] at this;omega);have e:(x.size:Int)<=4096:=by have:=zc Tm.size (l:=[x,f,Tm.mk 7 j s []]) (t:=x) (by simp);have:=Tm.size_eq (Tm.mk 9 i th [x,f,Tm.mk 7 j s []]);simp only[Tm.args_mk] at this;omega
  have e2:Zf4 (Tm.mk 9 i th [x,f,Tm.mk 7 j s []])=x.size-(Tm.mk 9 i th [x,f,Tm.mk 7 j s []]).size:=rfl;rw[e2];refine M.F Tryz.func234 ?_;refine M.v2 @h0 @h1 ?_
  rfl
 |rs i th x f j s n=>
  have hn:n.shape=true:=zd (zd hs (.mk 5 j s [n]) (by simp)) n (by simp);have hsz:(Tm.mk 6 i th [x,f,Tm.mk 5 j s [n]]).size=2+x.size+f.size+n.size:=by simp[Tm.size,Tm.sizes];omega
  have h1:=y7 _ f (Nat.le_refl _) (by have:=yz f (zd hs f (by simp));omega);have h2:=y7 _ n (Nat.le_refl _) (by have:=yz n hn;omega);have e2:Zf4 (Tm.mk 6 i th [x,f,Tm.mk 5 j s [n]])=2+f.size+n.size+(Tm.mk 6 i th [x,f,Tm.mk 5 j s [n]]).size-1-(Tm.mk 6 i th [x,f,Tm.mk 5 j s [n]]).size:=by
   show((apT (apT f n) (.mk 6 0 th [x,f,n])).size:Int)-_=_;simp[apT,Tm.size,Tm.sizes];omega
  rw[e2];clear e2;refine M.F Tryz.func234 ?_;refine M.v3 @h0 @h1 @h2 ?_
  rfl
 |fs i th x f j s n l=>
  have hn:n.shape=true:=zd (zd hs (.mk 8 j s [n,l]) (by simp)) n (by simp);have hl:l.shape=true:=zd (zd hs (.mk 8 j s [n,l]) (by simp)) l (by simp);have hsz:(Tm.mk 9 i th [x,f,Tm.mk 8 j s [n,l]]).size=2+x.size+f.size+n.size+l.size:=by simp[Tm.size,Tm.sizes];omega
  have h1:=y7 _ f (Nat.le_refl _) (by have:=yz f (zd hs f (by simp));omega);have h2:=y7 _ n (Nat.le_refl _) (by have:=yz n hn;omega);have h3:=y7 _ l (Nat.le_refl _) (by have:=yz l hl;omega);have e2:Zf4 (Tm.mk 9 i th [x,f,Tm.mk 8 j s [n,l]])=3+f.size+n.size+l.size+(Tm.mk 9 i th [x,f,Tm.mk 8 j s [n,l]]).size-1-n.size-(Tm.mk 9 i th [x,f,Tm.mk 8 j s [n,l]]).size:=by
   show((apT (apT (apT f n) l) (.mk 9 0 th [x,f,l])).size:Int)-_=_;simp[apT,Tm.size,Tm.sizes];omega
  rw[e2];clear e2;refine M.F Tryz.func234 ?_;refine M.v4 @h0 @h1 @h2 @h3 ?_
  rfl
 |p1 i th j s _ y=>
  have hsz:(Tm.mk 11 i th [Tm.mk 10 j s [x,y]]).size=2+x.size+y.size:=by simp[Tm.size,Tm.sizes];omega
  have hx:x.shape=true:=zd (zd hs (.mk 10 j s [x,y]) (by simp)) x (by simp);have h1:=y7 _ x (Nat.le_refl _) (by have:=yz x hx;omega);have e2:Zf4 (Tm.mk 11 i th [Tm.mk 10 j s [x,y]])=x.size-(Tm.mk 11 i th [Tm.mk 10 j s [x,y]]).size:=rfl;rw[e2];clear e2;refine M.F Tryz.func234 ?_;refine M.v2 @h0 @h1 ?_
  rfl
 |p2 i th j s y _=>
  have hsz:(Tm.mk 12 i th [Tm.mk 10 j s [y,x]]).size=2+x.size+y.size:=by simp[Tm.size,Tm.sizes];omega
  have hx:x.shape=true:=zd (zd hs (.mk 10 j s [y,x]) (by simp)) x (by simp);have h1:=y7 _ x (Nat.le_refl _) (by have:=yz x hx;omega);have e2:Zf4 (Tm.mk 12 i th [Tm.mk 10 j s [y,x]])=x.size-(Tm.mk 12 i th [Tm.mk 10 j s [y,x]]).size:=rfl;rw[e2];clear e2;refine M.F Tryz.func234 ?_;refine M.v2 @h0 @h1 ?_
  rfl
theorem Zmo{t x:Tm}{B:Int}(hx:x∈t.args)(h:∀p∈t.vars 0,0<=p.1/\p.1<B):∀p∈x.vars 0,0<=p.1/\p.1<B:=by
 intro p hp;have e:=vw x 0 (up t.kind 0);have hm:(p.1,p.2+up t.kind 0)∈t.vars 0:=by
  rw[Tm.vars_eq];refine List.mem_append_right _ (List.mem_flatMap.2 ⟨x,hx,?_⟩);rw[Int.zero_add] at e;rw[e];exact List.mem_map.2 ⟨p,hp,rfl⟩
 have h3:=h (p.1,p.2+up t.kind 0) hm;exact h3
theorem Ykf{t x:Tm}(hv:RV t x)(hs:t.shape=true)(hz:t.size<=4096)(hix:∀p∈t.vars 0,0<=p.1/\p.1<1073741824):PC E 235 [.agg t.view] (.agg x.view):=by
 have hfull:=yz t hs;cases hv with
 |beta i th j s b a=>
  have hb:b.shape=true:=zd (zd hs (.mk 2 j s [b]) (by simp)) b (by simp);have ha:a.shape=true:=zd hs a (by simp);have hsz:(Tm.mk 3 i th [Tm.mk 2 j s [b],a]).size=2+b.size+a.size:=by simp[Tm.size,Tm.sizes];omega
  have fb:=yz b hb;have fa:=yz a ha;have hia:=Zmo (t:=Tm.mk 3 i th [Tm.mk 2 j s [b],a]) (x:=a) (by simp) hix;have hib:=Zmo (t:=Tm.mk 2 j s [b]) (x:=b) (by simp) (Zmo (t:=Tm.mk 3 i th [Tm.mk 2 j s [b],a]) (x:=Tm.mk 2 j s [b]) (by simp) hix);have h1:=Yju 0 a (by omega) ha (by omega) (fun p hp=>by have:=hia p hp;omega) _ b 0 (Nat.le_refl _) (by omega) (by omega) (by omega) hb (fun p hp=>by have:=hib p hp;omega);refine M.F Tryz.func235 ?_;refine M.v1 @h1 ?_
  rfl
 |rz i th _ f j s=>
  refine M.F Tryz.func235 ?_;refine M.v0 ?_
  rfl
 |fz i th _ f j s=>
  refine M.F Tryz.func235 ?_;refine M.v0 ?_
  rfl
 |rs i th x f j s n=>
  have hff:(Tm.mk 6 i th [x,f,Tm.mk 5 j s [n]]).full=2+th.size+s.size+x.full+f.full+n.full:=by simp[Tm.full,Tm.fulls];omega
  have h1:=n_c 3 [f,n] (by simp;omega);have h2:=t_c 6 th [x,f,n] (by simp;omega) (by omega);have h3:=n_c 3 [apT f n,.mk 6 0 th [x,f,n]] (by simp[apT,Tm.full,Tm.fulls,Ty.size,Ty.sizes];omega);refine M.F Tryz.func235 ?_;refine M.v3 @h1 @h2 @h3 ?_
  rfl
 |fs i th x f j s n l=>
  have hff:(Tm.mk 9 i th [x,f,Tm.mk 8 j s [n,l]]).full=2+th.size+s.size+x.full+f.full+n.full+l.full:=by simp[Tm.full,Tm.fulls];omega
  have h1:=n_c 3 [f,n] (by simp;omega);have h2:=n_c 3 [apT f n,l] (by simp[apT,Tm.full,Tm.fulls,Ty.size,Ty.sizes];omega);have h3:=t_c 9 th [x,f,l] (by simp;omega) (by omega);have h4:=n_c 3 [apT (apT f n) l,.mk 9 0 th [x,f,l]] (by simp[apT,Tm.full,Tm.fulls,Ty.size,Ty.sizes];omega);refine M.F Tryz.func235 ?_;refine M.v4 @h1 @h2 @h3 @h4 ?_
  rfl
 |p1 i th j s _ y=>
  refine M.F Tryz.func235 ?_;refine M.v0 ?_
  rfl
 |p2 i th j s y _=>
  refine M.F Tryz.func235 ?_;refine M.v0 ?_
  rfl
def nxV(t:Tm)(o:Option (Tm×Bool)):V:= .tup [.agg ((o.map (·.1)).getD t).view,.bool o.isSome,.bool ((o.map (·.2)).getD true)]
theorem Yhm(room:Int):∀(n:Nat) (t:Tm),t.size<=n->t.shape=true->t.size<=4096->(∀p∈t.vars 0,0<=p.1/\p.1<1073741824)->PC E 212 [.agg t.view,.i room] (nxV t (nxR room t)):=by
 intro n;induction n with
 |zero=>intro t h;have:=t.size_pos;omega
 |succ n ih=>
 intro t hsz hs hz hix;have hfull:=yz t hs;have hse:=t.size_eq;have hlen:=zg Tm.size Tm.size_pos t.args;have h1:=Yk2 t hs;have he:=Zcy room t;by_cases hr:vg t=true
 ·have h2:=Yh3 (Zhq hs hr) hs hz;rw[hr] at h1;rw[if_pos hr] at he;by_cases hg:Zf4 t>room
  ·rw[if_pos hg] at he;rw[he];refine AC.mk Tryz.func212 rfl rfl rfl rfl rfl (Nat.le_of_ble_eq_true rfl) ?_;repeat'(first|((with_reducible refine D.nil ?_);refine AX.nilL ?_)|((with_reducible refine D.load ?_);refine L.ldb U U U U U U ?_)|((with_reducible refine D.move ?_);refine L.mv U U U ?_)|((with_reducible refine D.assign ?_);refine L.asg U U U ?_)|((with_reducible refine D.bin ?_);refine L.bn U U U U U ?_)|((with_reducible refine D.call ?_);first|refine L.c2 (h1) U U U U ?_|refine L.c2 (h2) U U U U ?_)|((with_reducible refine D.box ?_);refine L.bx U U U U ?_)|((with_reducible refine D.alloc ?_);refine L.al U U U ?_)|((with_reducible refine D.store ?_);refine L.st U U U U U U U U U ?_)|((with_reducible refine D.ax ?_);refine L.bd U U U U U ?_)|((with_reducible refine D.aw ?_);first|refine K.sq (AW.regL ?_)|refine K.sq (K.sq ?_)|refine AW.regL ?_|refine AW.condT U ?_|refine AW.condS U (fun h=> ?_) (fun h=> ?_)|refine AW.skip ?_|refine AW.ret ?_)|with_reducible refine K.tN ?_|with_reducible refine K.tR ?_|with_reducible refine K.r1 (by with_unfolding_all rfl) (by with_unfolding_all rfl) ?_)
   all_goals first
    |rfl
    |(exfalso;simp at h;omega)
  ·rw[if_neg hg] at he;rw[he];have h3:=Ykf (Zhq hs hr) hs hz hix;refine AC.mk Tryz.func212 rfl rfl rfl rfl rfl (Nat.le_of_ble_eq_true rfl) ?_;repeat'(first|((with_reducible refine D.nil ?_);refine AX.nilL ?_)|((with_reducible refine D.load ?_);refine L.ldb U U U U U U ?_)|((with_reducible refine D.move ?_);refine L.mv U U U ?_)|((with_reducible refine D.assign ?_);refine L.asg U U U ?_)|((with_reducible refine D.bin ?_);refine L.bn U U U U U ?_)|((with_reducible refine D.call ?_);first|refine L.c2 (h1) U U U U ?_|refine L.c2 (h2) U U U U ?_|refine L.c2 (h3) U U U U ?_)|((with_reducible refine D.box ?_);refine L.bx U U U U ?_)|((with_reducible refine D.alloc ?_);refine L.al U U U ?_)|((with_reducible refine D.store ?_);refine L.st U U U U U U U U U ?_)|((with_reducible refine D.ax ?_);refine L.bd U U U U U ?_)|((with_reducible refine D.aw ?_);first|refine K.sq (AW.regL ?_)|refine K.sq (K.sq ?_)|refine AW.regL ?_|refine AW.condT U ?_|refine AW.condS U (fun h=> ?_) (fun h=> ?_)|refine AW.skip ?_|refine AW.ret ?_)|with_reducible refine K.tN ?_|with_reducible refine K.tR ?_|with_reducible refine K.r1 (by with_unfolding_all rfl) (by with_unfolding_all rfl) ?_)
   all_goals first
    |rfl
    |(exfalso;simp at h;omega)
 rw[if_neg hr] at he;rw[Bool.not_eq_true] at hr;rw[hr] at h1;have hih:∀m (hm:m<t.args.length),PC E 212 [.agg t.args[m].view,.i room] (nxV t.args[m] (nxR room t.args[m])):=fun m hm=>by
  have h5:=zc Tm.size (List.getElem_mem hm);exact ih t.args[m] (by omega) (zd hs _ (List.getElem_mem hm)) (by omega) (Zmo (List.getElem_mem hm) hix)
 clear ih;refine AC.mk Tryz.func212 rfl rfl rfl rfl rfl (Nat.le_of_ble_eq_true rfl) ?_;repeat'(first|((with_reducible refine D.nil ?_);refine AX.nilL ?_)|((with_reducible refine D.load ?_);refine L.ldb U U U U U U ?_)|((with_reducible refine D.move ?_);refine L.mv U U U ?_)|((with_reducible refine D.fieldAddr ?_);refine L.fab U U U U U ?_)|((with_reducible refine D.assign ?_);refine L.asg U U U ?_)|((with_reducible refine D.call ?_);first|refine L.lnt U U U U ?_|refine L.c2 (h1) U U U U ?_)|((with_reducible refine D.box ?_);refine L.bx U U U U ?_)|((with_reducible refine D.alloc ?_);refine L.al U U U ?_)|((with_reducible refine D.aw ?_);first|refine K.sq (AW.regL ?_)|refine K.sq (K.sq ?_)|refine AW.regL ?_|refine AW.condF U ?_|refine AW.skip ?_)|with_reducible refine K.tN ?_)
 refine M.rp t.args.length (fun m=>∀j (hj:j<t.args.length),j<m->nxR room t.args[j]=none)
  (fun m=>([(1,.i room),(2,.ptr 0 0),(4,.ptr 1 0),(23,.s .tm t.args),(24,.i t.args.length),(25,.i m)],⟨2,[(0,.var t.view),(1,.var [.i 0,.i 0,.i 0,.slice .nil (.t .ty []),.slice .nil (.t .tm [])])]⟩))
  (fun j hj h=>by omega) (Weak.mk rh2 _ _ _ U U U U (by(repeat'(first|exact trivial|refine And.intro ?_ ?_|refine⟨_,U,_,U,?_⟩|exact VLe.refl _));done) (by(repeat'(first|exact trivial|refine And.intro ?_ ?_|refine⟨_,U,_,U,_,U,?_⟩|exact VLe.refl _));done)) ?_ ?_
 ·intro m hm hP;have hc:=hih m hm;cases hn:nxR room t.args[m] with
  |none=>
   rw[hn] at hc;simp only[nxV,Option.map_none,Option.getD_none,Option.isSome_none] at hc;repeat'(first|((with_reducible refine D.nil ?_);refine AX.nilL ?_)|((with_reducible refine D.load ?_);first|refine L.ldb U U U U U U ?_|refine L.lda U U U U U ?_)|((with_reducible refine D.move ?_);refine L.mv U U U ?_)|((with_reducible refine D.assign ?_);refine L.asg U U U ?_)|((with_reducible refine D.call ?_);refine L.c2 (hc) U U U U ?_)|((with_reducible refine D.extract ?_);refine L.ex U U U U ?_)|((with_reducible refine D.alloc ?_);refine L.al U U U ?_)|((with_reducible refine D.store ?_);refine L.st U U U U U U U U U ?_)|((with_reducible refine D.indexAddr ?_);refine L.ixt _ U U U U U U U (by first|assumption|fail) ?_)|((with_reducible refine D.not ?_);refine L.nt U U U ?_)|((with_reducible refine D.aw ?_);first|refine K.sq (AW.regL ?_)|refine K.sq (K.sq ?_)|refine AW.regL ?_|refine AW.condT U ?_|refine AW.exit ?_)|with_reducible refine K.tN ?_|with_reducible refine K.tE ?_|with_reducible refine K.bX (by with_unfolding_all rfl) ?_)
   exact⟨rfl,yj (p:=fun x:Tm=>nxR room x=none) hm hP hn,(Weak.mk rh2 _ _ _ U U U U (by(repeat'(first|exact trivial|refine And.intro ?_ ?_|refine⟨_,U,_,U,?_⟩|exact VLe.refl _));done) (by(repeat'(first|exact trivial|refine And.intro ?_ ?_|refine⟨_,U,_,U,_,U,?_⟩|exact VLe.refl _));done))⟩
  |some u=>
   obtain⟨u,f⟩:=u;rw[hn] at hc;simp only[nxV,Option.map_some,Option.getD_some,Option.isSome_some] at hc;have e:nxR room t=some (.mk t.kind t.index t.ty (t.args.set m u),f):=by rw[he,Zx1 room t.args m hm (u,f) hn hP];rfl
   rw[e];simp only[nxV,Option.map_some,Option.getD_some,Option.isSome_some];repeat'(first|((with_reducible refine D.nil ?_);refine AX.nilL ?_)|((with_reducible refine D.load ?_);first|refine L.ldb U U U U U U ?_|refine L.lda U U U U U ?_)|((with_reducible refine D.move ?_);refine L.mv U U U ?_)|((with_reducible refine D.assign ?_);refine L.asg U U U ?_)|((with_reducible refine D.call ?_);refine L.c2 (hc) U U U U ?_)|((with_reducible refine D.extract ?_);refine L.ex U U U U ?_)|((with_reducible refine D.alloc ?_);refine L.al U U U ?_)|((with_reducible refine D.store ?_);refine L.st U U U U U U U U U ?_)|((with_reducible refine D.indexAddr ?_);refine L.ixt _ U U U U U U U (by first|assumption|fail) ?_)|((with_reducible refine D.not ?_);refine L.nt U U U ?_)|((with_reducible refine D.aw ?_);(fail_if_success with_reducible refine D.stopR (id:=11) ?_);(fail_if_success with_reducible refine D.stopS (id:=11) ?_);first|refine K.sq (AW.regL ?_)|refine K.sq (K.sq ?_)|refine AW.regL ?_|refine AW.condF U ?_|refine AW.skip ?_)|with_reducible refine K.tN ?_)
   refine K.sq (AW.regL ?_);refine L.fab rfl rfl rfl rfl rfl ?_;refine L.ldb rfl rfl rfl rfl rfl rfl ?_;refine L.apA (te:=67) rfl rfl rfl rfl (by kernel_rfl) rfl rfl rfl rfl (by omega) (by omega) ?_;repeat'(first|((with_reducible refine D.nil ?_);refine AX.nilL ?_)|((with_reducible refine D.load ?_);refine L.ldb U U U U U U ?_)|((with_reducible refine D.move ?_);refine L.mv U U U ?_)|((with_reducible refine D.fieldAddr ?_);refine L.fab U U U U U ?_)|((with_reducible refine D.store ?_);refine L.st U U U U U U U U U ?_)|((with_reducible refine D.aw ?_);refine K.sq (AW.regL ?_))|with_reducible refine K.tN ?_)
   refine L.ixr m rfl rfl rfl rfl rfl hm rfl ?_;refine L.sta (c:= .tm) (l:=t.args) (u:=u) m rfl rfl rfl rfl rfl rfl rfl rfl hm rfl ?_;repeat'(first|((with_reducible refine D.nil ?_);refine AX.nilL ?_)|with_reducible refine K.tN ?_)
   refine AW.frz (c:= .tm) 5 t.args.length (t.args.set m u) rfl (by simp) (by(repeat'(first|exact trivial|exact fun _=>rfl|exact fun h=>absurd rfl h|exact fun h=>absurd h (by decide)|refine And.intro ?_ ?_|intro _));done) (by(repeat'(first|exact trivial|exact fun _=>rfl|exact fun h=>absurd rfl h|exact fun h=>absurd h (by decide)|refine And.intro ?_ ?_|intro _));done) ?_;repeat'(first|((with_reducible refine D.nil ?_);refine AX.nilL ?_)|((with_reducible refine D.load ?_);refine L.ldb U U U U U U ?_)|((with_reducible refine D.move ?_);refine L.mv U U U ?_)|((with_reducible refine D.assign ?_);refine L.asg U U U ?_)|((with_reducible refine D.store ?_);refine L.st U U U U U U U U U ?_)|((with_reducible refine D.aw ?_);first|refine K.sq (AW.regL ?_)|refine AW.ret ?_)|with_reducible refine K.tN ?_|with_reducible refine K.tR ?_|with_reducible refine K.bR ?_|with_reducible refine K.gR ?_|with_reducible refine K.r1 (by with_unfolding_all rfl) (by with_unfolding_all rfl) ?_)
   rfl
 ·intro hP;have e:nxR room t=none:=by rw[he,Zpi room t.args hP];rfl
  rw[e];simp only[nxV,Option.map_none,Option.getD_none,Option.isSome_none];repeat'(first|((with_reducible refine D.nil ?_);refine AX.nilL ?_)|((with_reducible refine D.load ?_);refine L.ldb U U U U U U ?_)|((with_reducible refine D.assign ?_);refine L.asg U U U ?_)|((with_reducible refine D.store ?_);refine L.st U U U U U U U U U ?_)|((with_reducible refine D.aw ?_);first|refine K.sq (AW.regL ?_)|refine AW.ret ?_)|with_reducible refine K.tN ?_|with_reducible refine K.r1 (by with_unfolding_all rfl) (by with_unfolding_all rfl) ?_)
  simp[zn,V.wk,V.wks,za,Tm.view]
theorem Zuh(t:Tm):∀b:Int,∀p∈t.vars b,p.2<b+t.size:=by
 induction t using Tm.ind with
 |h t ih=>
  intro b p hp;have hz:=t.size_eq;rw[t.vars_eq,List.mem_append] at hp;rcases hp with hp|hp
  ·split at hp
   ·simp at hp;subst hp;simp only;omega
   ·cases hp
  ·obtain ⟨x,hx,hp⟩:=List.mem_flatMap.1 hp;have h1:=ih x hx _ p hp;have h2:=zc Tm.size hx;have:up t.kind b<=b+1:=by simp only[up];split<;>omega
   omega
theorem Yc6{t:Tm}(he:t.err=0)(hf:∀p∈t.vars 0,p.1-p.2<=536870912):∀p∈t.vars 0,0<=p.1/\p.1<1073741824:=fun p hp=>by
 obtain⟨hs,hz⟩:=ut he;have h1:=t.vars_nonneg hs 0 p hp;have h2:=hf p hp;have h3:=Zuh t 0 p hp;omega
theorem Ydm{t:Tm}(h:nxR (4096-t.size) t=none)(k n:Nat):nrm k t n=(t,(n:Int),0):=by
 cases k<;>simp only[nrm,h]
theorem Zit(t:Tm)(steps:Int)(ht:t.full<274877906944):PC E 173 [.agg t.view,.i steps] (.tup [.agg (xr t steps).1.view,.i (xr t steps).2.1,.i (xr t steps).2.2]):=by
 have h1:=Zah t (by omega);unfold xr;by_cases he:t.err=0;case neg=>
  rw[if_pos he];refine M.F Tryz.func173 ?_;(repeat' first|refine M.o1 @h1 ?_|refine M.z1 4 ?_|refine M.cs ?_ ?_<;>intro h|refine M.gk ?_|fail);all_goals first
   |rfl
   |(exfalso;simp at h;exact he h)
 rw[he] at h1;rw[if_neg (by simp[he])];obtain⟨hs,hz⟩:=ut he;have h2:=Zl1 536870912 (by omega) _ t (Nat.le_refl _) (by omega) hs;rw[<-Zkr] at h2;by_cases hst:0<=steps/\steps<=65536;case neg=>
  rw[if_pos (.inl hst)];refine M.F Tryz.func173 ?_;(repeat' first|refine M.w2 @h1 @h2 ?_|refine M.gs ?_ ?_<;>intro h|refine M.cs ?_ ?_<;>intro h|fail);all_goals first
   |rfl
   |(exfalso;simp at h;omega)
   |(exfalso;simp at*;omega)
 cases hn:t.near with
 |false=>
  rw[hn] at h2;rw[if_pos (.inr rfl)];refine M.F Tryz.func173 ?_;(repeat' first|refine M.w2 @h1 @h2 ?_|refine M.gs ?_ ?_<;>intro h|fail);all_goals first
   |rfl
   |(exfalso;simp at h;omega)
   |(exfalso;simp at*;omega)
 |true=>
 rw[hn] at h2;rw[if_neg (by simp[hst])];have hfr:∀p∈t.vars 0,p.1-p.2<=536870912:=fun p hp=>by have:=Zly hn p hp;have:=wv t 0 p hp;omega
 generalize hR:nrm steps.toNat t 0=r;refine M.F Tryz.func173 ?_;(repeat' first|refine M.w2 @h1 @h2 ?_|refine M.gs ?_ ?_<;>intro h|fail);all_goals first
  |(exfalso;simp at h;omega)
  |skip
 refine AW.block (AW.loop (ι:={p:Tm×Nat // p.1.err=0/\(∀q∈p.1.vars 0,q.1-q.2<=536870912)/\p.2<=steps.toNat/\nrm (steps.toNat-p.2) p.1 p.2=r})
  (fun p=>([(1,.i steps),(2,.ptr 0 0),(4,.ptr 1 0),(8,.i p.1.2)],⟨2,[(0,.var p.1.1.view),(1,.var [.i 0,.i 0,.i 0,.slice .nil (.t .ty []),.slice .nil (.t .tm [])])]⟩)) (fun p=>steps.toNat-p.1.2) ⟨(t,0),he,hfr,Nat.zero_le _,hR⟩ (M.W rh2) ?_)
 rintro⟨⟨x,n⟩,hx,hxf,hxn,hxe⟩;dsimp only at hx hxf hxn hxe ⊢;obtain⟨hxs,hxz⟩:=ut hx;have hfx:=yt hx;have c1:=y7 _ x (Nat.le_refl _) (by omega);have c2:=Yhm (4096-x.size) _ x (Nat.le_refl _) hxs hxz (Yc6 hx hxf);have c3:=Za8 _ x (Nat.le_refl _) (by omega);cases hr:nxR (4096-x.size) x with
 |none=>
  rw[hr] at c2;simp only[nxV,Option.map_none,Option.getD_none,Option.isSome_none] at c2;rw[Ydm hr] at hxe;subst hxe;(repeat' first|refine M.w3 @c1 @c2 @c3 ?_|refine M.zb ?_|fail)
  rfl
 |some y=>
  obtain⟨y,f⟩:=y;rw[hr] at c2;simp only[nxV,Option.map_some,Option.getD_some,Option.isSome_some] at c2;by_cases hns:n=steps.toNat
  ·have e:r=(noTm,0,5):=by rw[<-hxe,hns,Nat.sub_self];simp only[nrm,hr]
   subst e;(repeat' first|refine M.w2 @c1 @c2 ?_|refine M.zb ?_|refine M.cs ?_ ?_<;>intro h|fail);all_goals first
    |rfl
    |(exfalso;simp at h;omega)
    |(exfalso;simp at*;omega)
  ·obtain ⟨k,hk⟩:∃k,steps.toNat-n=k+1:=⟨steps.toNat-n-1,by omega⟩;rw[hk] at hxe;cases f with
   |false=>
    have e:r=(noTm,0,4):=by rw[<-hxe];simp only[nrm,hr]
    subst e;(repeat' first|refine M.w2 @c1 @c2 ?_|refine M.zb ?_|refine M.cs ?_ ?_<;>intro h|fail);all_goals first
     |rfl
     |(exfalso;simp at h;omega)
     |(exfalso;simp at*;omega)
   |true=>
    have e:nrm k y (n+1)=r:=by rw[<-hxe];simp only[nrm,hr]
    obtain⟨f1,f2,f3⟩:=Zty _ x y hxs hr;(repeat' first|refine M.w2 @c1 @c2 ?_|refine M.zb ?_|refine M.cs ?_ ?_<;>intro h|fail);all_goals first
     |(exfalso;simp at h;omega)
     |skip
    refine⟨⟨(y,n+1),Zzx hx hr,f3 _ (by omega) 0 (by omega) hxf,by show n+1<=_;omega,by rw[show steps.toNat-(n+1)=k by omega];exact e⟩,by show steps.toNat-(n+1)<steps.toNat-n;omega,?_⟩;exact(M.W rh2)
end Go.Ab
