/- A part of this seat's proofs. No conditions. -/
import Derived.Test.YtmhcohcihajegaaGreatDoorHS11
namespace Go.Ab
open Go Go.Proofs
set_option maxRecDepth 100000
set_option maxHeartbeats 40000000
set_option linter.all false
theorem Yga:∀(n:Nat) (t:Tm) (g:List Ty),t.full<=n->n<274877906944->t.shape=true->(∀x∈g,x.err=0)->g.length+n<274877906944->PC E 239 [.s .ty g,.agg t.view] (.tup [.agg (t.inf g).1.view,.i (t.inf g).2]):=by
 intro n;induction n with
 |zero=>intro t g h;have:=t.full_pos;omega
 |succ n ih=>
 intro t g hsz hb hsh hg hgn;have hsz':=Tm.full_eq t;have hlen:=zg Tm.full Tm.full_pos t.args;have hix:=Zc6 hsh;have hak:=Ze2 hsh;have hargs:=zd hsh;have hinf:=Tm.inf_eq g t;have e64:∀{x:Ty},x.err=0->x.size<=64:=fun h=>((Ty.err_iff _).1 h).2;by_cases k1:t.kind=1
 ·rw[if_pos k1] at hinf;have hk:(t.kind==1)=true:=by simp[k1]
  refine M.F Tryz.func239 ?_;by_cases hlt:t.index>=g.length
  ·rw[if_pos hlt] at hinf;(repeat' first|refine M.w0 ?_|refine M.cs ?_ ?_<;>intro h|fail);all_goals first|exfalso;simp_all;done|simp[zn,V.wk,V.wks,za,Ty.view,hinf,noTy];done|exfalso;simp at*;omega
  ·rw[if_neg hlt] at hinf;have h0:g.length-1-t.index.toNat<g.length:=by omega
   have hcp:=vq _ (g[g.length-1-t.index.toNat]) (Nat.le_refl _) (by have:=e64 (hg _ (List.getElem_mem h0));omega);rw[Zn4 h0] at hinf;(repeat' first|refine M.w0 ?_|refine M.cs ?_ ?_<;>intro h|fail);all_goals first
    |(exfalso;simp_all;done)
    |(exfalso;simp at*;omega)
    |skip
   refine L.ixt (g.length-1-t.index.toNat) rfl rfl rfl rfl (by omega) rfl rfl h0 ?_;refine M.w1 @hcp ?_;simp[zn,V.wk,V.wks,za,Ty.view,hinf]
 rw[if_neg k1] at hinf;by_cases k2:t.kind=2
 ·rw[if_pos k2] at hinf;have hl1:t.args.length=1:=by rw[k2] at hak;exact(Option.some.inj hak).symm
  have h0:0<t.args.length:=by omega
  have hte:t.ty.err=0:=Zlw hsh (by rw[k2];rfl);have hs2:=zc Tm.full (List.getElem_mem h0);have hg':∀x∈g++[t.ty],x.err=0:=fun x hx=>by
   rcases List.mem_append.1 hx with hx|hx
   ·exact hg x hx
   ·simp at hx;subst hx;exact hte
  have hc:=ih t.args[0] (g++[t.ty]) (by omega) (by omega) (hargs _ (List.getElem_mem h0)) hg' (by simp;omega);have hgood:=Tm.inf_good t.args[0] (g++[t.ty]) (hargs _ (List.getElem_mem h0)) hg';have hinfs:Tm.infs (g++[t.ty]) t.args=if(t.args[0].inf (g++[t.ty])).2≠0 then([],(t.args[0].inf (g++[t.ty])).2) else([(t.args[0].inf (g++[t.ty])).1],0):=
   (congrArg (Tm.infs (g++[t.ty])) (len1 hl1)).trans (by simp only[Tm.infs,ne_eq,not_true_eq_false,if_false])
  have hf:(t.args[0].inf (g++[t.ty])).2=0->_:=fun h=>Zrj t.ty (t.args[0].inf (g++[t.ty])).1 (by have:=e64 hte;omega) (by have:=e64 (hgood h);omega);have ho:(t.args[0].inf (g++[t.ty])).2=0->_:=fun h=>Ye0 (xj t.ty (t.args[0].inf (g++[t.ty])).1) (by have:=e64 (hgood h);have:=e64 hte;simp only[xj,Ty.size,Ty.sizes];omega);refine M.F Tryz.func239 ?_;(repeat' first|refine M.w1 @hc ?_|refine M.c2 (hf (by simp_all)) ?_|refine M.c2 (ho (by simp_all)) ?_|refine M.cs ?_ ?_<;>intro h|fail);all_goals first
   |(exfalso;simp_all;done)
   |skip
  ·have h':(t.args[0].inf (g++[t.ty])).2≠0:=by simpa using h
   rw[if_pos h'] at hinfs;rw[hinfs,if_pos h'] at hinf;simp[zn,V.wk,V.wks,za,Ty.view,hinf,noTy]
  ·have h':¬(t.args[0].inf (g++[t.ty])).2≠0:=by simpa using h
   rw[if_neg h'] at hinfs;rw[hinfs] at hinf;have hinf':t.inf g=okT (xj t.ty (t.args[0].inf (g++[t.ty])).1):=by rw[hinf];rfl
   rw[hinf'];by_cases he:(xj t.ty (t.args[0].inf (g++[t.ty])).1).err=0
   ·simp[zn,V.wk,V.wks,za,Ty.view,okT,he]
   ·simp[zn,V.wk,V.wks,za,Ty.view,okT,he]
 rw[if_neg k2] at hinf;refine M.F Tryz.func239 ?_;(repeat' first|refine M.w0 ?_|refine M.cs ?_ ?_<;>intro h|fail);all_goals first
  |(exfalso;simp_all;done)
  |skip
 refine M.rp t.args.length (fun m=>∀j (hj:j<t.args.length),j<m->(t.args[j].inf g).2=0)
  (fun m=>([(0,.s .ty g),(3,.ptr 0 0),(4,.ptr 1 0),(8,.slice (.own 2) (.t .ty ((t.args.take m).map fun x=>(x.inf g).1))),(67,.s .tm t.args),(68,.i t.args.length),(69,.i m)],⟨3,[(0,.var t.view),(1,.var [.i 0,.slice .nil (.t .ty [])]),(2,.row)]⟩))
  (by intro j hj h;omega) (M.W rn2) ?_ ?_
 ·intro m hm hP;have hs2:=zc Tm.full (List.getElem_mem hm);have hc:=ih t.args[m] g (by omega) (by omega) (hargs _ (List.getElem_mem hm)) hg (by omega);(repeat' first|refine M.w1 @hc ?_|refine M.cs ?_ ?_<;>intro h|fail)
  ·have h':(t.args[m].inf g).2≠0:=by simpa using h
   have h2:=Tm.infs_err g t.args m hm hP h';rw[h2,if_pos h'] at hinf;simp[zn,V.wk,V.wks,za,Ty.view,hinf,noTy]
  ·have h':(t.args[m].inf g).2=0:=by simpa using h
   refine⟨rfl,yj (p:=fun x:Tm=>(x.inf g).2=0) hm hP h',?_⟩;exact(M.W [some 0,some 1,some 5] (hf:=(by(repeat'(first|exact trivial|refine And.intro ?_ ?_|refine⟨_,U,_,U,?_⟩|exact VLe.refl _|exact VLe.of_eq (by simp[Sto.upd,ym _ _ _ hm])));done)))
 ·intro hP;have hall:∀x∈t.args,(x.inf g).2=0:=fun x hx=>by
   obtain⟨j,hj,rfl⟩:=List.mem_iff_getElem.1 hx;exact hP j hj hj
  have h5:=Tm.infs_ok g t.args hall;have hgood:∀x∈t.args.map (fun x=>(x.inf g).1),x.err=0:=fun x hx=>by
   obtain⟨y,hy,rfl⟩:=List.mem_map.1 hx;exact Tm.inf_good y g (hargs y hy) hg (hall y hy)
  rw[h5] at hinf;simp only[ne_eq,not_true_eq_false,if_false] at hinf;have hLl:(t.args.map fun x=>(x.inf g).1).length=t.args.length:=by simp
  rw[show t.args.take t.args.length=t.args from List.take_length];generalize hL:t.args.map (fun x=>(x.inf g).1)=L at*;have hty:=Zlw hsh;have hcpT:we t.kind=true->_:=fun h=>vq _ t.ty (Nat.le_refl _) (by have:=e64 (hty h);omega);clear hP hall h5 hargs hlen ih hsz' hix hsz;rw[<-hLl] at hak;rcases Znr hak with⟨hn,hk⟩|⟨hn,hk⟩|⟨hn,hk⟩|⟨hn,hk⟩
  ·have hLL:=List.eq_nil_of_length_eq_zero hn;subst hLL;obtain⟨k,i,th,xs⟩:=t;simp only[Tm.kind_mk,Tm.ty_mk] at hk hinf;rcases hk with rfl|rfl|rfl|rfl
   ·exact absurd rfl k1
   all_goals
    refine M.v3 @u6 @Za3 @Zxb ?_;simp[zn,V.wk,V.wks,za,Ty.view,hinf,Zaf,natT,listT,Zml]
  ·obtain ⟨x,hLL⟩:=Ygj hn;subst hLL;have hx:=hgood x (by simp);have hxn:=wh _ x natT (Nat.le_refl _) (by have:=e64 hx;omega);have hx2:x.kind=3->∃y z,x.args=[y,z]:=fun h=>Ty.args_two ((Ty.err_iff _).1 hx).1 (.inl h);obtain⟨k,i,th,xs⟩:=t;simp only[Tm.kind_mk,Tm.ty_mk] at hk hinf;rcases hk with rfl|rfl|rfl|rfl
   ·exact absurd rfl k2
   ·repeat' (first|refine M.v3 @u6 @Za3 @hxn ?_|refine M.cs ?_ ?_<;>intro h|fail)
    ·have h':¬x=natT:=by simpa using h
     simp[zn,V.wk,V.wks,za,Ty.view,hinf,Zaf,h',noTy]
    ·have h':x=natT:=by simpa using h
     simp[zn,V.wk,V.wks,za,Ty.view,hinf,Zaf,h',natT]
   all_goals
    by_cases hx3:x.kind=3
    ·obtain ⟨y,z,hyz⟩:=hx2 hx3;obtain⟨xk,xa⟩:=x;simp only[Ty.kind_mk,Ty.args_mk] at hx3 hyz;subst hx3;subst hyz;refine M.v2 @u6 @Za3 ?_;simp[zn,V.wk,V.wks,za,Ty.view,EC.view,hinf,Zaf]
    ·repeat' (first|refine M.v2 @u6 @Za3 ?_|refine M.cs ?_ ?_<;>intro h|fail)
     ·simp[zn,V.wk,V.wks,za,Ty.view,hinf,Zaf,hx3,noTy]
     all_goals exact absurd (by simpa using h) hx3
  ·obtain ⟨x,y,hLL⟩:=Ydi hn;subst hLL;have hx:=hgood x (by simp);have hy:=hgood y (by simp);have ex:=e64 hx;have ey:=e64 hy;have hxn:=wh _ x natT (Nat.le_refl _) (by omega);have hyl:=wh _ y listT (Nat.le_refl _) (by omega);have hx2:x.kind=4->∃y z,x.args=[y,z]:=fun h=>Ty.args_two ((Ty.err_iff _).1 hx).1 (.inr h);obtain⟨k,i,th,xs⟩:=t;simp only[Tm.kind_mk,Tm.ty_mk] at hk hinf;rcases hk with rfl|rfl|rfl
   ·by_cases hx3:x.kind=4
    ·obtain ⟨a,b,hab⟩:=hx2 hx3;obtain⟨xk,xa⟩:=x;simp only[Ty.kind_mk,Ty.args_mk] at hx3 hab;subst hx3;subst hab;simp only[Ty.size,Ty.sizes] at ex;have hay:=wh _ a y (Nat.le_refl _) (by omega);(repeat' first|refine M.v3 @u6 @Za3 @hay ?_|refine M.cs ?_ ?_<;>intro h|fail)
     ·have h':¬a=y:=by simpa using h
      simp[zn,V.wk,V.wks,za,Ty.view,hinf,Zaf,h',noTy]
     ·have h':a=y:=by simpa using h
      simp[zn,V.wk,V.wks,za,Ty.view,EC.view,hinf,Zaf,h']
    ·repeat' (first|refine M.w2 @u6 @Za3 ?_|refine M.gs ?_ ?_<;>intro h|refine M.bl ?_|fail)
     ·simp[zn,V.wk,V.wks,za,Ty.view,hinf,Zaf,hx3,noTy]
     ·exact absurd (by simpa using h) hx3
   ·clear hgood hLl hL hak hn hsh hcpT hty e64 hg hx2;(repeat' first|refine M.w4 @u6 @Za3 @hxn @hyl ?_|refine M.gs ?_ ?_<;>intro h|refine M.bl ?_|refine M.cs ?_ ?_<;>intro h|fail);all_goals
     clear hxn hyl;by_cases p1:x=natT<;>by_cases p2:y=listT<;>first|exfalso;simp[p1,p2] at*;done|simp[zn,V.wk,V.wks,za,Ty.view,EC.view,hinf,Zaf,p1,p2,noTy];done|(simp[zn,V.wk,V.wks,za,Ty.view,EC.view,hinf,Zaf,p1,p2];rfl)|simp[zn,V.wk,V.wks,za,Ty.view,EC.view,hinf,Zaf,p1,p2,listT];done
   ·have htw:=Ykl x y (by omega) (by omega);have hok:=Ye0 (Zdm x y) (by simp only[Zdm,Ty.size,Ty.sizes];omega);refine M.v4 @u6 @Za3 @htw @hok ?_;by_cases he:(Zdm x y).err=0
    ·simp[zn,V.wk,V.wks,za,Ty.view,hinf,Zaf,okT,he]
    ·simp[zn,V.wk,V.wks,za,Ty.view,hinf,Zaf,okT,he]
  ·obtain ⟨x,y,z,hLL⟩:=Yi1 hn;subst hLL;have hx:=e64 (hgood x (by simp));have hy:=e64 (hgood y (by simp));have hz:=e64 (hgood z (by simp));have ht:t.ty.size<=64:=e64 (hty (by rcases hk with hk|hk<;>rw[hk]<;>rfl));have hcp:=vq _ t.ty (Nat.le_refl _) (by omega);have hs1:=wh _ x t.ty (Nat.le_refl _) (by omega);have hf1:=Zrj t.ty t.ty (by omega) (by omega);obtain⟨k,i,th,xs⟩:=t;simp only[Tm.kind_mk,Tm.ty_mk] at hk hinf ht hs1 hf1 hcp;rcases hk with rfl|rfl
   ·have hf2:=Zrj natT (xj th th) (by decide) (by simp only[xj,Ty.size,Ty.sizes];omega);have hs2:=wh _ y (xj natT (xj th th)) (Nat.le_refl _) (by omega);have hs3:=wh _ z natT (Nat.le_refl _) (by omega);clear hgood hLl hL hak hn hsh hcpT hty e64 hg;(repeat' first|refine M.w6 @u6 @Za3 @hs1 @hf1 @hf2 @hs2 ?_|refine M.c2 (hs3) ?_|refine M.c2 (hcp) ?_|refine M.gs ?_ ?_<;>intro h|refine M.bl ?_|refine M.cs ?_ ?_<;>intro h|fail);all_goals
     clear hs1 hf1 hcp hf2 hs2 hs3;by_cases p1:x=th<;>by_cases p2:y=xj natT (xj th th)<;>by_cases p3:z=natT<;>first|exfalso;simp[p1,p2,p3] at*;done|simp[zn,V.wk,V.wks,za,Ty.view,EC.view,hinf,Zaf,p1,p2,p3,noTy];done
   ·have hf2:=Zrj listT (xj th th) (by decide) (by simp only[xj,Ty.size,Ty.sizes];omega);have hf3:=Zrj natT (xj listT (xj th th)) (by decide) (by simp only[xj,listT,Ty.size,Ty.sizes];omega);have hs2:=wh _ y (xj natT (xj listT (xj th th))) (Nat.le_refl _) (by omega);have hs3:=wh _ z listT (Nat.le_refl _) (by omega);clear hgood hLl hL hak hn hsh hcpT hty e64 hg;(repeat' first|refine M.w6 @u6 @Za3 @hs1 @hf1 @hf2 @hf3 ?_|refine M.c2 (hs2) ?_|refine M.c2 (hs3) ?_|refine M.c2 (hcp) ?_|refine M.gs ?_ ?_<;>intro h|refine M.bl ?_|refine M.cs ?_ ?_<;>intro h|fail);all_goals
     clear hs1 hf1 hcp hf2 hs2 hs3;by_cases p1:x=th<;>by_cases p2:y=xj natT (xj listT (xj th th))<;>by_cases p3:z=listT<;>first|exfalso;simp[p1,p2,p3] at*;done|simp[zn,V.wk,V.wks,za,Ty.view,EC.view,hinf,Zaf,p1,p2,p3,noTy];done
end Go.Ab
namespace Go.Ab
open Go Go.Proofs
set_option maxRecDepth 100000
set_option maxHeartbeats 4000000
set_option linter.all false
theorem Yc1(i:Int):PC E 127 [.i i] (.agg (va i).view):=by
 refine AC.mk Tryz.func127 rfl rfl rfl rfl rfl (Nat.le_of_ble_eq_true rfl) ?_;repeat'(first|((with_reducible refine D.nil ?_);refine AX.nilL ?_)|((with_reducible refine D.move ?_);refine L.mv U U U ?_)|((with_reducible refine D.alloc ?_);refine L.al U U U ?_)|((with_reducible refine D.store ?_);refine L.st U U U U U U U U U ?_)|((with_reducible refine D.ax ?_);refine L.bd U U U U U ?_)|((with_reducible refine D.aw ?_);first|refine K.sq (AW.regL ?_)|refine AW.ret ?_)|with_reducible refine K.tN ?_|with_reducible refine K.r1 (by with_unfolding_all rfl) (by with_unfolding_all rfl) ?_)
 rfl
end Go.Ab
