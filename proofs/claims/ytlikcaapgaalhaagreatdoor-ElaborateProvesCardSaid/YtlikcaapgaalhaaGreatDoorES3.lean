/- A part of this seat's proofs. No conditions. -/
import Derived.Test.YtlikcaapgaalhaaGreatDoorES2
namespace Go.Ab
open Go Go.Proofs
set_option maxRecDepth 100000
set_option maxHeartbeats 4000000
set_option linter.all false
theorem numOf_full(d:Dk):(numOf (d.next 3).1).full≤6:=by
 obtain⟨m,hm,e⟩:=numOf_lt d
 rw[e,numT_full];omega
theorem smalls_sum{g:List Ty}(h:smalls g):(g.map Ty.size).sum≤3*g.length:=by
 induction g with
 |nil=>simp
 |cons t l ih=>
  have h1:=(h t (by simp)).2
  have h2:=ih fun x hx=>h x (by simp[hx])
  simp only[List.map_cons,List.sum_cons,List.length_cons];omega
theorem findF_none'{g:List Ty}{t:Ty}(h:∀j,j<g.length→isFn g t j=false):findF g t=none:=by
 simp only[findF,List.find?_eq_none,List.mem_range]
 intro j hj;simp[h j hj]
theorem findF_at{g:List Ty}{t:Ty}{m:Nat}(hm:m<g.length)(h:∀j,j<m→isFn g t j=false)(h1:isFn g t m=true):findF g t=some m:=by
 simp only[findF,List.find?_range_eq_some,List.mem_range]
 exact⟨h1,hm,fun j hj=>by simp[h j hj]⟩
theorem mid_c(n:Nat)(H:HT n)(hn:n≤7)(depth:Int)(hdep:depth=(n:Int)-1)(d:Dk)(hd:d.ok)(g:List Ty)(t:Ty)(hg:smalls g)(ht:t.small)(h0:n=0→t.size=1)(hl:g.length+3*(n+1)≤10000):
 AW E Tryz.f10.ntmps 1 (partAt [1,1,1] (bodyOf Tryz.f10)) [(0,.ptr 0 0),(1,.s .ty g),(3,.i depth),(6,.ptr 1 0),(8,.ptr 2 0)]
  ⟨3,[(0,.var d.cells),(1,.var t.view),(2,.var [.i 0,.i 0,.i 0,.slice .nil (.t .ty []),.slice .nil (.t .tm [])])]⟩
  (retQ E 1 Tryz.f10.results.toList (.agg (d.mid (Dk.tm n) (decide (2≤n)) g t).1.view) ⟨1,[(0,.var (d.mid (Dk.tm n) (decide (2≤n)) g t).2.cells)]⟩):=by
 have hok:∀d g t,d.ok→(Dk.tm n d g t).2.ok:=fun d g t h=>Dk.tm_ok n d g t h
 by_cases hp:2≤n
 case neg=>
  have hp':¬depth>0:=by omega
  have e:d.mid (Dk.tm n) (decide (2≤n)) g t=d.fin (Dk.tm n) (decide (2≤n)) g t:=by simp[Dk.mid,hp]
  show AW _ _ _ (Code.seq _ _) _ _ _
  repeat'(first|refine M.o0 ?_|refine M.z1 29 ?_|refine M.cs ?_ ?_<;>intro h|refine M.gk ?_|fail)
  ·exact absurd (by simpa using h) hp'
  ·rw [e];exact AW.weak (M.W rh3) (fin_c n H hn depth hdep d hd g t hg ht h0 hl)
 have hp':depth>0:=by omega
 have hx8:=next_c d 8 hd (by omega)
 have e:=Dk.mid_pos (rec:=Dk.tm n) (d:=d) (g:=g) (t:=t) (pos:=decide (2≤n)) (by simpa using hp)
 have hD:=Dk.next_ok hd 8
 have tp:AC E 25 [.ptr 0 0,.i 0] ⟨1,[(0,.var (d.next 8).2.cells)]⟩ (.agg ((d.next 8).2.type 0).1.view) ⟨1,[(0,.var ((d.next 8).2.type 0).2.cells)]⟩:=type_c 0 0 (d.next 8).2 (by omega) (by omega) (by omega) hD
 have hS:=Dk.type0 (d.next 8).2
 have hD1:=Dk.type_ok 0 _ hD
 generalize (d.next 8).1=kk at*
 generalize (d.next 8).2=W at*
 generalize (W.type 0).1=S at*
 generalize (W.type 0).2=D1 at*
 have hSs:=small_one hS.1 hS.2
 have hF:∀d g t,smalls g→t.small→(Dk.tm n d g t).1.full≤50000:=fun d g t hg ht=>tm_full hn d hg ht (by omega) (by omega)
 have hH:∀d g t,d.ok→smalls g→t.small→g.length+3*n≤10000→AC E 10 [.ptr 0 0,.s .ty g,.agg t.view,.i (depth-1)] ⟨1,[(0,.var d.cells)]⟩ (.agg (Dk.tm n d g t).1.view) ⟨1,[(0,.var (Dk.tm n d g t).2.cells)]⟩:=
  fun d g t h1 h2 h3 h4=>H d g t (depth-1) (by omega) h1 h2 h3 (by omega) (by omega) h4
 have hts:=ht.2
 have ht1:t.size<1000000:=by omega
 have gS:=smalls_app hg (smalls_cons hSs smalls_nil)
 have g2:=smalls_app hg (smalls_cons small_nat (smalls_cons ht smalls_nil))
 have g3:=smalls_app hg (smalls_cons small_nat (smalls_cons small_list (smalls_cons ht smalls_nil)))
 show AW _ _ _ (Code.seq _ _) _ _ _
 by_cases k0:kk=0
 ·subst k0
  simp only[if_true] at e
  have a:=hH D1 (g++[S]) t hD1 gS ht (by simp;omega)
  have b:=hH _ g S (hok _ (g++[S]) t hD1) hg hSs (by omega)
  have fa:=hF D1 (g++[S]) t gS ht
  have fb:=hF (Dk.tm n D1 (g++[S]) t).2 g S hg hSs
  have lo:=longer_c g [S] (by simp;omega)
  have c1:=t_c 2 S [(Dk.tm n D1 (g++[S]) t).1] (by simp;omega) (by omega)
  have c2:=n_c 3 [lmT S (Dk.tm n D1 (g++[S]) t).1,(Dk.tm n (Dk.tm n D1 (g++[S]) t).2 g S).1] (by simp[lmT,Tm.full,Tm.fulls];omega)
  repeat'(first|refine M.o6 @hx8 @tp @a @b @lo @c1 ?_|refine M.c2 (c2) ?_|refine M.z1 29 ?_|refine M.bl ?_|refine M.cs ?_ ?_<;>intro h|refine M.gk ?_|fail)
  ·(exact M.n2 rh1 (h6:=(by(repeat'(first|exact trivial|refine And.intro ?_ ?_|refine⟨_,U,_,U,_,U,?_⟩|exact VLe.of_eq (by simp[Sto.upd,e,Dk.m0,apT])));done)) (h8:=(by simp[tupV,V.wk,V.wks,constV,Ty.view,Tm.view,e,Dk.m0,apT])))
  ·exact absurd hp' (by simpa using h)
 rw[if_neg k0] at e
 by_cases k1:kk=1
 ·subst k1
  rw[if_pos rfl] at e
  have a:=hH D1 g t hD1 hg ht (by omega)
  have b:=hH _ g S (hok _ g t hD1) hg hSs (by omega)
  have fa:=hF D1 g t hg ht
  have fb:=hF (Dk.tm n D1 g t).2 g S hg hSs
  have c1:=n_c 10 [(Dk.tm n D1 g t).1,(Dk.tm n (Dk.tm n D1 g t).2 g S).1] (by simp;omega)
  have c2:=n_c 11 [nT 10 [(Dk.tm n D1 g t).1,(Dk.tm n (Dk.tm n D1 g t).2 g S).1]] (by simp[nT,Tm.full,Tm.fulls,Ty.size,Ty.sizes];omega)
  repeat'(first|refine M.o6 @hx8 @tp @a @b @c1 @c2 ?_|refine M.z1 29 ?_|refine M.bl ?_|refine M.cs ?_ ?_<;>intro h|refine M.gk ?_|fail)
  ·(exact M.n2 rh1 (h6:=(by(repeat'(first|exact trivial|refine And.intro ?_ ?_|refine⟨_,U,_,U,_,U,?_⟩|exact VLe.of_eq (by simp[Sto.upd,e,Dk.m1,nT])));done)) (h8:=(by simp[tupV,V.wk,V.wks,constV,Ty.view,Tm.view,e,Dk.m1,nT])))
  ·exact absurd hp' (by simpa using h)
 rw[if_neg k1] at e
 by_cases k2:kk=2
 ·subst k2
  rw[if_pos rfl] at e
  have a:=hH W (g++[natT,t]) t hD g2 ht (by simp;omega)
  have b:=hH _ g t (hok _ (g++[natT,t]) t hD) hg ht (by omega)
  have hdb:=hok _ g t (hok _ (g++[natT,t]) t hD)
  have fa:=hF W (g++[natT,t]) t g2 ht
  have fb:=hF (Dk.tm n W (g++[natT,t]) t).2 g t hg ht
  have lo:=longer_c g [natT,t] (by simp;omega)
  have nx:=next_c _ 3 hdb (by omega)
  have nu:=num_c ((Dk.tm n (Dk.tm n W (g++[natT,t]) t).2 g t).2.next 3).1
  have fn:=numOf_full (Dk.tm n (Dk.tm n W (g++[natT,t]) t).2 g t).2
  have en:natT.size=1:=rfl
  have c1:=t_c 2 t [(Dk.tm n W (g++[natT,t]) t).1] (by simp;omega) (by omega)
  have c2:=t_c 2 natT [lmT t (Dk.tm n W (g++[natT,t]) t).1] (by simp[lmT,Tm.full,Tm.fulls];omega) (by omega)
  have c3:=t_c 6 t [(Dk.tm n (Dk.tm n W (g++[natT,t]) t).2 g t).1,lmT natT (lmT t (Dk.tm n W (g++[natT,t]) t).1),numOf ((Dk.tm n (Dk.tm n W (g++[natT,t]) t).2 g t).2.next 3).1] (by simp[lmT,Tm.full,Tm.fulls];omega) (by omega)
  repeat'(first|refine M.o6 @nat_c @hx8 @a @b @lo @nx ?_|refine M.c2 (nu) ?_|refine M.c2 (c1) ?_|refine M.c2 (c2) ?_|refine M.c2 (c3) ?_|refine M.z1 29 ?_|refine M.bl ?_|refine M.cs ?_ ?_<;>intro h|refine M.gk ?_|fail)
  ·(exact M.n2 rh1 (h6:=(by(repeat'(first|exact trivial|refine And.intro ?_ ?_|refine⟨_,U,_,U,_,U,?_⟩|exact VLe.of_eq (by simp[Sto.upd,e,Dk.m2,hT])));done)) (h8:=(by simp[tupV,V.wk,V.wks,constV,Ty.view,Tm.view,e,Dk.m2,hT])))
  ·exact absurd hp' (by simpa using h)
 rw[if_neg k2] at e
 by_cases k3:kk=3
 ·subst k3
  rw[if_pos rfl] at e
  have a:=hH W (g++[natT,listT,t]) t hD g3 ht (by simp;omega)
  have b:=hH _ g t (hok _ (g++[natT,listT,t]) t hD) hg ht (by omega)
  have c:=hH _ g listT (hok _ g t (hok _ (g++[natT,listT,t]) t hD)) hg small_list (by omega)
  have fa:=hF W (g++[natT,listT,t]) t g3 ht
  have fb:=hF (Dk.tm n W (g++[natT,listT,t]) t).2 g t hg ht
  have fc:=hF (Dk.tm n (Dk.tm n W (g++[natT,listT,t]) t).2 g t).2 g listT hg small_list
  have lo:=longer_c g [natT,listT,t] (by simp;omega)
  have en:natT.size=1:=rfl
  have el:listT.size=1:=rfl
  have c1:=t_c 2 t [(Dk.tm n W (g++[natT,listT,t]) t).1] (by simp;omega) (by omega)
  have c2:=t_c 2 listT [lmT t (Dk.tm n W (g++[natT,listT,t]) t).1] (by simp[lmT,Tm.full,Tm.fulls];omega) (by omega)
  have c3:=t_c 2 natT [lmT listT (lmT t (Dk.tm n W (g++[natT,listT,t]) t).1)] (by simp[lmT,Tm.full,Tm.fulls];omega) (by omega)
  have c4:=t_c 9 t [(Dk.tm n (Dk.tm n W (g++[natT,listT,t]) t).2 g t).1,lmT natT (lmT listT (lmT t (Dk.tm n W (g++[natT,listT,t]) t).1)),(Dk.tm n (Dk.tm n (Dk.tm n W (g++[natT,listT,t]) t).2 g t).2 g listT).1] (by simp[lmT,Tm.full,Tm.fulls];omega) (by omega)
  repeat'(first|refine M.o6 @nat_c @list_c @hx8 @a @b @c ?_|refine M.c2 (lo) ?_|refine M.c2 (c1) ?_|refine M.c2 (c2) ?_|refine M.c2 (c3) ?_|refine M.c2 (c4) ?_|refine M.z1 29 ?_|refine M.bl ?_|refine M.cs ?_ ?_<;>intro h|refine M.gk ?_|fail)
  ·(exact M.n2 rh1 (h6:=(by(repeat'(first|exact trivial|refine And.intro ?_ ?_|refine⟨_,U,_,U,_,U,?_⟩|exact VLe.of_eq (by simp[Sto.upd,e,Dk.m3,hT])));done)) (h8:=(by simp[tupV,V.wk,V.wks,constV,Ty.view,Tm.view,e,Dk.m3,hT])))
  ·exact absurd hp' (by simpa using h)
 rw[if_neg k3] at e
 by_cases k4:kk=4
 ·subst k4
  rw[if_pos rfl] at e
  have a:=hH D1 g S hD1 hg hSs (by omega)
  have b:=hH _ g t (hok _ g S hD1) hg ht (by omega)
  have fa:=hF D1 g S hg hSs
  have fb:=hF (Dk.tm n D1 g S).2 g t hg ht
  have c1:=n_c 10 [(Dk.tm n D1 g S).1,(Dk.tm n (Dk.tm n D1 g S).2 g t).1] (by simp;omega)
  have c2:=n_c 12 [nT 10 [(Dk.tm n D1 g S).1,(Dk.tm n (Dk.tm n D1 g S).2 g t).1]] (by simp[nT,Tm.full,Tm.fulls,Ty.size,Ty.sizes];omega)
  repeat'(first|refine M.o6 @hx8 @tp @a @b @c1 @c2 ?_|refine M.z1 29 ?_|refine M.bl ?_|refine M.cs ?_ ?_<;>intro h|refine M.gk ?_|fail)
  ·(exact M.n2 rh1 (h6:=(by(repeat'(first|exact trivial|refine And.intro ?_ ?_|refine⟨_,U,_,U,_,U,?_⟩|exact VLe.of_eq (by simp[Sto.upd,e,Dk.m4,nT])));done)) (h8:=(by simp[tupV,V.wk,V.wks,constV,Ty.view,Tm.view,e,Dk.m4,nT])))
  ·exact absurd hp' (by simpa using h)
 rw[if_neg k4] at e
 by_cases k5:kk=5
 ·subst k5
  rw[if_pos rfl] at e
  repeat'(first|refine M.o1 @hx8 ?_|refine M.z1 29 ?_|refine M.bl ?_|refine M.cs ?_ ?_<;>intro h|refine M.gk ?_|fail)
  all_goals first
   |exact absurd hp' (by simpa using h)
   |skip
  refine M.rp g.length (fun m=>∀j,j<m→isFn g t j=false)
   (fun m=>([(0,.ptr 0 0),(1,.s .ty g),(3,.i depth),(6,.ptr 1 0),(8,.ptr 2 0),(176,.i g.length),(177,.i m)],⟨3,[(0,.var W.cells),(1,.var t.view),(2,.var [.i 0,.i 0,.i 0,.slice .nil (.t .ty []),.slice .nil (.t .tm [])])]⟩))
   (by intro j hj;omega) (M.W rh3) ?_ ?_
  ·intro m hm hP
   have hm2:g.length-1-m<g.length:=by omega
   have hat:at0 g (g.length-1-m)=g[g.length-1-m]:=at0_lt hm2
   have hgs:(g[g.length-1-m]).small:=hg _ (List.getElem_mem hm2)
   have hstep:∀b,isFn g t m=b→b=false→∀j,j<m+1→isFn g t j=false:=fun b hb hf j hj=>by
    by_cases hjm:j=m
    ·rw [hjm,hb,hf]
    ·exact hP j (by omega)
   have hfn:isFn g t m=((g[g.length-1-m]).kind==4&&decide (at0 (g[g.length-1-m]).args 1=t)):=by simp only[isFn,hat]
   by_cases hk4:(g[g.length-1-m]).kind=4
   ·obtain ⟨p,q,hpq⟩:=Ty.args_two hgs.1 (.inr hk4)
    have l0:0<(g[g.length-1-m]).args.length:=by rw[hpq];simp
    have l1:1<(g[g.length-1-m]).args.length:=by rw[hpq];simp
    have sm:=sameTy_c _ ((g[g.length-1-m]).args[1]) t (Nat.le_refl _) (by
     have h1:=lsum_mem Ty.size (List.getElem_mem l1)
     have h2:=(g[g.length-1-m]).size_eq
     have h3:=hgs.2
     omega)
    have ha1:at0 (g[g.length-1-m]).args 1=(g[g.length-1-m]).args[1]:=at0_lt l1
    have ha0:at0 (g[g.length-1-m]).args 0=(g[g.length-1-m]).args[0]:=at0_lt l0
    rw[ha1,beq_iff_eq.2 hk4,Bool.true_and] at hfn
    have sm0:((g[g.length-1-m]).args[0]).small:=by
     have h1:=lsum_mem Ty.size (List.getElem_mem l0)
     have h2:=(g[g.length-1-m]).size_eq
     have h3:=hgs.2
     have h4:=hgs.1
     rw[Ty.shape_eq,Bool.and_eq_true] at h4
     exact⟨List.all_eq_true.1 h4.2 _ (List.getElem_mem l0),by omega⟩
    have a:=hH W g ((g[g.length-1-m]).args[0]) hD hg sm0 (by omega)
    have fa:=hF W g ((g[g.length-1-m]).args[0]) hg sm0
    have vc:=var_c m
    have c1:=n_c 3 [vT m,(Dk.tm n W g ((g[g.length-1-m]).args[0])).1] (by simp[vT,Tm.full,Tm.fulls,Ty.size,Ty.sizes];omega)
    repeat'(first|refine M.o0 ?_|refine M.z1 29 ?_|refine M.gk ?_|fail)
    refine L.ixt (g.length-1-m) rfl rfl rfl rfl (by omega) rfl rfl hm2 ?_
    repeat'(first|refine M.o4 @sm @vc @a @c1 ?_|refine M.gs ?_ ?_<;>intro h|refine M.z1 29 ?_|refine M.cs ?_ ?_<;>intro h|refine M.gk ?_|fail)
    ·have hf:isFn g t m=true:=hfn.trans h
     have e2:W.m5 (Dk.tm n) (decide (2≤n)) g t=(apT (vT m) (Dk.tm n W g ((g[g.length-1-m]).args[0])).1,(Dk.tm n W g ((g[g.length-1-m]).args[0])).2):=by unfold Dk.m5;rw[findF_at hm hP hf];simp only[hat,ha0]
     rw[e2] at e
     (exact M.n2 rh1 (h6:=(by(repeat'(first|exact trivial|refine And.intro ?_ ?_|refine⟨_,U,_,U,_,U,?_⟩|exact VLe.of_eq (by simp[Sto.upd,e,apT,vT])));done)) (h8:=(by simp[tupV,V.wk,V.wks,constV,Ty.view,Tm.view,e,apT,vT])))
    ·exact ⟨rfl,hstep _ hfn h,(M.W rh3)⟩
    ·exact absurd hk4 (by simpa using h)
   ·repeat' (first|refine M.o0 ?_|refine M.z1 29 ?_|refine M.gk ?_|fail)
    refine L.ixt (g.length-1-m) rfl rfl rfl rfl (by omega) rfl rfl hm2 ?_
    repeat'(first|refine M.o0 ?_|refine M.gs ?_ ?_<;>intro h|refine M.z1 29 ?_|refine M.gk ?_|fail)
    ·exact absurd (by simpa using h) hk4
    ·have hk4':((g[g.length-1-m]).kind==4)=false:=by simpa using hk4
     rw[hk4',Bool.false_and] at hfn
     exact⟨rfl,hstep _ hfn rfl,(M.W rh3)⟩
  ·intro hP
   repeat'(first|with_reducible refine K.tN ?_|with_reducible refine K.bN ?_)
   have e2:W.m5 (Dk.tm n) (decide (2≤n)) g t=W.fin (Dk.tm n) (decide (2≤n)) g t:=by unfold Dk.m5;rw[findF_none' hP]
   rw[e,e2];exact AW.weak (M.W rh3) (fin_c n H hn depth hdep W hD g t hg ht h0 hl)
 rw[if_neg k5] at e
 have n0:(kk==0)=false:=by simpa using k0
 repeat'(first|refine M.o1 @hx8 ?_|refine M.z1 29 ?_|refine M.bl ?_|refine M.cs ?_ ?_<;>intro h|refine M.gk ?_|fail)
 all_goals first
  |exact absurd hp' (by simpa using h)
  |exact absurd (by simpa using h) k0
  |exact absurd (by simpa using h) k1
  |exact absurd (by simpa using h) k2
  |exact absurd (by simpa using h) k3
  |exact absurd (by simpa using h) k4
  |exact absurd (by simpa using h) k5
  |(rw[e];exact AW.weak (M.W rh3) (fin_c n H hn depth hdep W hD g t hg ht h0 hl))
theorem gen_c(n:Nat)(H:HT n)(hn:n≤7)(depth:Int)(hdep:depth=(n:Int)-1)(d:Dk)(hd:d.ok)(g:List Ty)(t:Ty)(hg:smalls g)(ht:t.small)(h0:n=0→t.size=1)(hl:g.length+3*(n+1)≤10000):
 AC E 10 [.ptr 0 0,.s .ty g,.agg t.view,.i depth] ⟨1,[(0,.var d.cells)]⟩ (.agg (d.gen (Dk.tm n) (decide (2≤n)) g t).1.view) ⟨1,[(0,.var (d.gen (Dk.tm n) (decide (2≤n)) g t).2.cells)]⟩:=by
 have hsum:=smalls_sum hg
 have hvl:(varsT g t).length≤g.length:=by
  simp only[varsT,List.length_map]
  have:=List.length_filter_le (fun i=>decide (g[g.length-1-i]? =some t)) (List.range g.length)
  simpa using this
 have hv:=vars_c g t (by omega)
 have hx3:=next_c d 3 hd (by omega)
 have hd3:=Dk.next_ok hd 3
 have hxl:=next_c (d.next 3).2 (varsT g t).length hd3 (by omega)
 have m1:=mid_c n H hn depth hdep d hd g t hg ht h0 hl
 have m2:=mid_c n H hn depth hdep (d.next 3).2 hd3 g t hg ht h0 hl
 have hvar:=var_c
 by_cases he:varsT g t=[]
 ·have e:d.gen (Dk.tm n) (decide (2≤n)) g t=d.mid (Dk.tm n) (decide (2≤n)) g t:=by unfold Dk.gen;rw[if_pos he]
  have hl0:¬(((varsT g t).length:Int)>0):=by rw[he];simp
  refine M.F Tryz.func10 ?_
  repeat'(first|refine M.o2 @hv @hx3 ?_|refine M.gs ?_ ?_<;>intro h|refine M.z1 4 ?_|refine M.cs ?_ ?_<;>intro h|refine M.gk ?_|fail)
  ·rename_i h1;exact absurd (by simpa using h1) hl0
  ·rename_i h1;exact absurd (by simpa using h1) hl0
  ·rw [e];exact AW.weak (M.W rh3) m1
 ·have e:d.gen (Dk.tm n) (decide (2≤n)) g t=if 0<(d.next 3).1 then(vT ((varsT g t).getD ((d.next 3).2.next (varsT g t).length).1.toNat 0),((d.next 3).2.next (varsT g t).length).2) else(d.next 3).2.mid (Dk.tm n) (decide (2≤n)) g t:=by unfold Dk.gen;rw[if_neg he]
  have hlp:0<(varsT g t).length:=List.length_pos_iff.2 he
  have hl0:((varsT g t).length:Int)>0:=by omega
  have hbl:=Dk.next_bd (d.next 3).2 (varsT g t).length hl0
  have hlt:((d.next 3).2.next (varsT g t).length).1.toNat<(varsT g t).length:=by omega
  refine M.F Tryz.func10 ?_
  repeat'(first|refine M.o3 @hv @hx3 @hxl ?_|refine M.gs ?_ ?_<;>intro h|refine M.z1 4 ?_|refine M.cs ?_ ?_<;>intro h|refine M.gk ?_|fail)
  ·refine L.ixt ((d.next 3).2.next (varsT g t).length).1.toNat rfl rfl rfl rfl (by omega) rfl rfl hlt ?_
   have eg:(varsT g t).getD ((d.next 3).2.next (varsT g t).length).1.toNat 0=(varsT g t)[((d.next 3).2.next (varsT g t).length).1.toNat]:=by simp[List.getD_eq_getElem?_getD,hlt]
   rw[if_pos (by simpa using h),eg] at e
   repeat'(first|refine M.w0 ?_|refine M.c2 (hvar _) ?_|fail)
   (exact M.n2 rh1 (h6:=(by(repeat'(first|exact trivial|refine And.intro ?_ ?_|refine⟨_,U,_,U,_,U,?_⟩|exact VLe.of_eq (by simp[Sto.upd,e,vT])));done)) (h8:=(by simp[tupV,V.wk,V.wks,constV,Ty.view,Tm.view,e,vT])))
  ·rw [e,if_neg (by simpa using h)];exact AW.weak (M.W rh3) m2
  ·exact absurd hl0 (by simpa using h)
theorem term_c:∀n,n≤8→HT n
 |0,_=>fun d g t k _ _ _ _ h=>by omega
 |n+1,hn=>fun d g t k hk hd hg ht _ h1 hl=>gen_c n (term_c n (by omega)) (by omega) k (by omega) d hd g t hg ht (by omega) hl
theorem typed_c'(g:List Ty)(t:Tm)(ht:t.full<137438953472)(hg:∀x∈g,x.err=0)(hl:g.length<100000):PC E 184 [.s .ty g,.agg t.view] (.tup [.agg (typed g t).1.view,.i (typed g t).2]):=by
 have h1:=checkTmR_c t (by omega)
 have h2:t.err=0→_:=fun h=>infer_c _ t g (Nat.le_refl _) (by omega) ((Tm.err_iff t).1 h).1 hg (by omega)
 refine M.F Tryz.func184 ?_
 repeat'(first|refine M.w1 @h1 ?_|refine M.c2 (h2 (by simpa using h)) ?_|refine M.cs ?_ ?_<;>intro h|fail)
 ·have h':t.err≠0:=by simpa using h
  simp[tupV,V.wk,V.wks,constV,Ty.view,typed,h',noTy]
 ·have h':t.err=0:=by simpa using h
  simp[tupV,V.wk,V.wks,constV,Ty.view,typed,h']
theorem typeOf_c(g:List Ty)(t:Tm)(ht:t.full<137438953472)(hg:(g.map Ty.size).sum<1099511627776):PC E 193 [.s .ty g,.agg t.view] (.tup [.agg (typeOf g t).1.view,.i (typeOf g t).2]):=by
 have h1:=contextR_c g hg
 have h2:ctxErr g=0→_:=fun h=>typed_c' g t ht (ctxErr_all h).2 (by have:=(ctxErr_all h).1;omega)
 refine M.F Tryz.func193 ?_
 repeat'(first|refine M.w1 @h1 ?_|refine M.c2 (h2 (by simpa using h)) ?_|refine M.cs ?_ ?_<;>intro h|fail)
 ·have h':ctxErr g≠0:=by simpa using h
  simp[tupV,V.wk,V.wks,constV,Ty.view,typeOf,h',noTy]
 ·have h':ctxErr g=0:=by simpa using h
  simp[tupV,V.wk,V.wks,constV,Ty.view,typeOf,h']
theorem sameTy_r(x:Ty)(h:x.size<1099511627776):PC E 31 [.agg x.view,.agg x.view] (.bool true):=by
 have:=sameTy_c _ x x (Nat.le_refl _) h
 simpa using this
theorem few_t(l:List Int)(h:l.length≤500):PC E 5 [.s .int l] (.bool true):=by
 have:=few_c l
 rwa [decide_eq_true h] at this
theorem few_f(l:List Int)(h:¬l.length≤500):PC E 5 [.s .int l] (.bool false):=by
 have:=few_c l
 rwa [decide_eq_false h] at this
theorem deck_ok{l:List Int}(h:l.length≤500):(Dk.mk l 0).ok:=⟨Nat.zero_le _,by simp only;omega⟩
end Go.Ab
namespace Go.Ab
open Go Go.Proofs
set_option maxRecDepth 100000
set_option linter.all false
theorem check2Ty_c(t:Ty)(ht:t.size<1099511627776):PC E 138 [.agg t.view] (.i t.err):=by
 have h1:=checkTy_c t ht
 refine M.F Tryz.func138 ?_
 refine M.w1 @h1 ?_
 simp[tupV,V.wk,V.wks,constV,Ty.view,Tm.view]
theorem context2_c(l:List Ty)(hl:(l.map Ty.size).sum<1099511627776):PC E 105 [.s .ty l] (.i (ctxErr l)):=by
 have hlen:=lsum_len Ty.size Ty.size_pos l
 refine M.F Tryz.func105 ?_
 repeat'(first|refine M.w0 ?_|refine M.cs ?_ ?_<;>intro h|fail)
 ·have h':l.length>16:=by simp at h;omega
  simp[tupV,V.wk,V.wks,constV,ctxErr,h']
 have h':¬l.length>16:=by simp at h;omega
 refine M.rp l.length (fun m=>∀j (hj:j<l.length),j<m→l[j].err=0)
  (fun m=>([(9,.s .ty l),(10,.i l.length),(11,.i m)],⟨0,[]⟩))
  (by intro j hj h;omega) (M.W []) ?_ ?_
 ·intro m hm hP
  have hs2:=lsum_mem Ty.size (List.getElem_mem hm)
  repeat'(first|refine M.w0 ?_|refine M.c2 (check2Ty_c _ ?_) ?_|refine M.cs ?_ ?_<;>intro h|exact M.lt|fail)
  ·have h1:¬l[m].err=0:=by simpa using h
   simp[tupV,V.wk,V.wks,constV,ctxErr,h',firstErr_at l m hm hP h1]
  ·exact ⟨rfl,all_step (p:=fun t=>Ty.err t=0) hm hP (by simpa using h),(M.W [])⟩
 ·intro hP
  refine M.w0 ?_
  simp[tupV,V.wk,V.wks,constV,ctxErr,h',firstErr_none l hP]
theorem of_c(t:Ty)(ht:t.size<1099511627776):PC E 139 [.agg t.view] (.agg (ofT t).view):=by
 have h1:=checkTy_c t ht
 refine M.F Tryz.func139 ?_
 refine M.w1 @h1 ?_
 simp[tupV,V.wk,V.wks,constV,Ty.view,Sz.view,ofT]
theorem from_c(l:List Ty)(hl:(l.map Ty.size).sum<1099511627776):PC E 106 [.s .ty l] (.s .sz (l.map ofT)):=by
 have hlen:=lsum_len Ty.size Ty.size_pos l
 refine M.F Tryz.func106 ?_
 refine M.w0 ?_
 refine M.rt l.length
  (fun m=>([(3,.slice (.own 0) (.t .sz ((l.take m).map ofT))),(6,.s .ty l),(7,.i l.length),(8,.i m)],⟨1,[(0,.row)]⟩))
  (M.W [none]) ?_ ?_
 ·intro m hm hP
  have hs2:=lsum_mem Ty.size (List.getElem_mem hm)
  repeat'(first|refine M.w0 ?_|refine M.c2 (of_c _ ?_) ?_|exact M.lt|fail)
  exact⟨rfl,trivial,(M.W [some 2] (hf:=(by(repeat'(first|exact trivial|refine And.intro ?_ ?_|refine⟨_,U,_,U,?_⟩|exact VLe.refl _|exact VLe.of_eq (by simp[Sto.upd,map_take _ _ _ hm])));done)))⟩
 ·intro _
  refine M.w0 ?_
  simp[tupV,V.wk,V.wks]
theorem is_c(s:Sz)(k:Int):PC E 216 [.agg s.view,.i k] (.bool (s.ty.kind==k)):=by
 refine M.F Tryz.func216 ?_
 refine M.w0 ?_
 simp[tupV,V.wk,V.wks]
theorem part_c(s:Sz)(i:Nat)(hi:i<s.ty.args.length)(hs:s.ty.size<1099511627776):PC E 235 [.agg s.view,.i i] (.agg (ofT s.ty.args[i]).view):=by
 have hs2:=lsum_mem Ty.size (List.getElem_mem hi)
 have hsz:=s.ty.size_eq
 have h1:=of_c s.ty.args[i] (by omega)
 refine M.F Tryz.func235 ?_
 refine M.w1 @h1 ?_
 simp[tupV,V.wk,V.wks,Sz.view,ofT]
theorem sameSz_c(s u:Sz)(hs:s.ty.size<1099511627776):PC E 236 [.agg s.view,.agg u.view] (.bool (s.nodes==u.nodes&&decide (s.ty=u.ty))):=by
 have h1:=sameTy2_c _ s.ty u.ty (Nat.le_refl _) hs
 refine M.F Tryz.func236 ?_
 repeat'(first|refine M.w1 @h1 ?_|refine M.gs ?_ ?_<;>intro h|fail)
 all_goals(simp at h;simp[tupV,V.wk,V.wks,h])
theorem join_c(k:Int)(a b:Sz)(ha:0≤a.nodes∧a.nodes<1099511627776)(hb:0≤b.nodes∧b.nodes<1099511627776):PC E 229 [.i k,.agg a.view,.agg b.view] (.tup [.agg (joinS k a b).1.view,.i (joinS k a b).2]):=by
 refine M.F Tryz.func229 ?_
 repeat'(first|refine M.w0 ?_|refine M.cs ?_ ?_<;>intro h|fail)
 ·have h':1+a.nodes+b.nodes>64:=by simpa using h
  have e:joinS k a b=(zSz,4):=if_pos h'
  simp[tupV,V.wk,V.wks,constV,Sz.view,zSz,noTy,e]
 ·have h':¬1+a.nodes+b.nodes>64:=by simpa using h
  have e:joinS k a b=(⟨.mk k [a.ty,b.ty],1+a.nodes+b.nodes⟩,0):=if_neg h'
  simp[tupV,V.wk,V.wks,constV,Sz.view,e]
theorem plain_c(k:Int):PC E 234 [.i k] (.s .int (plainK k)):=by
 refine M.F Tryz.func234 ?_
 repeat'(first|refine M.v0 ?_|refine M.cs ?_ ?_<;>intro h|fail)
 all_goals
  simp only[beq_iff_eq,beq_eq_false_iff_ne,ne_eq] at*
  first
   |(simp[tupV,V.wk,V.wks,constV,plainK, *];done)
   |(simp[tupV,V.wk,V.wks,constV,plainK, *];rfl)
theorem tnat_c:PC E 239 [] (.agg natT.view):=by
 refine M.F Tryz.func239 ?_
 refine M.w0 ?_
 rfl
theorem tlist_c:PC E 240 [] (.agg listT.view):=by
 refine M.F Tryz.func240 ?_
 refine M.w0 ?_
 rfl
theorem tfun_c(r:Ty)(l:List Ty)(hl:l.length<1000000):PC E 238 [.agg r.view,.s .ty l] (.agg (funs r l).view):=by
 refine M.F Tryz.func238 ?_
 refine M.w0 ?_
 refine AW.downG l.length (fun m=>True)
  (fun m=>([(1,.s .ty l),(2,.ptr 0 0),(4,.ptr 1 0),(5,.i ((m:Int)-1))],⟨2,[(0,.var (funs r (l.drop m)).view),(1,.var [.i 0,.slice .nil (.t .ty [])])]⟩))
  (by omega) (fun m=>rfl) rfl trivial ?_ ?_ ?_
 ·simp only[List.drop_length]
  exact(M.W rh2)
 ·intro m hm _
  have e:funs r (l.drop m)=funT l[m] (funs r (l.drop (m+1))):=by rw[List.drop_eq_getElem_cons hm];rfl
  refine M.w0 ?_
  refine L.ixt m rfl rfl rfl rfl (by omega) rfl rfl hm ?_
  refine M.w0 ?_
  refine⟨rfl,trivial,?_⟩
  simp only[e]
  exact(M.W rh2)
 ·intro _
  refine M.w0 ?_
  simp[tupV,V.wk,V.wks,Ty.view]
theorem step_c(t:Tm):PC E 237 [.agg t.view] (.agg (stepT t).view):=by
 have h1:=tfun_c t.ty [natT,listT,t.ty] (by simp)
 have h2:=tfun_c t.ty [natT,t.ty] (by simp)
 refine M.F Tryz.func237 ?_
 repeat'(first|refine M.w4 @tnat_c @tlist_c @h1 @h2 ?_|refine M.cs ?_ ?_<;>intro h|fail)
 ·have h':t.kind=9:=by simpa using h
  have e:stepT t=funs t.ty [natT,listT,t.ty]:=if_pos h'
  simp[tupV,V.wk,V.wks,constV,Ty.view,e]
 ·have h':¬t.kind=9:=by simpa using h
  have e:stepT t=funs t.ty [natT,t.ty]:=if_neg h'
  simp[tupV,V.wk,V.wks,constV,Ty.view,e]
end Go.Ab
namespace Go.Ab
open Go Go.Proofs
set_option maxRecDepth 100000
set_option maxHeartbeats 2000000
set_option linter.all false
theorem nat_of{x:Ty}(h:x.err=0)(hk:x.kind=1):x=natT:=(Ty.eq_iff _ _).2 ⟨hk,shape_zero ((Ty.err_iff x).1 h).1 (by omega)⟩
theorem list_of{x:Ty}(h:x.err=0)(hk:x.kind=2):x=listT:=(Ty.eq_iff _ _).2 ⟨hk,shape_zero ((Ty.err_iff x).1 h).1 (by omega)⟩
theorem sz_big{x:Ty}(h:x.err=0):x.size≤64:=((Ty.err_iff x).1 h).2
theorem node4_c(i:Int)(th:Ty)(ts:List Tm):PC E 230 [.agg (Tm.mk 4 i th ts).view,.agg (pad3 [])] (.tup [.agg (ofT (rule 4 th []).1).view,.i (rule 4 th []).2]):=by
 have hp:=plain_c 4
 rw[show plainK 4=[1] from rfl] at hp
 have ho:=of_c (.mk 1 []) (by decide)
 refine M.F Tryz.func230 ?_
 refine M.w1 @hp ?_
 refine M.rt 0
  (fun m=>([(2,.ptr 0 0),(3,.ptr 1 0),(4,.ptr 2 0),(6,.s .int [1]),(18,.s .int []),(19,.i ((0:Nat):Int)),(20,.i m)],⟨3,[(0,.var (Tm.mk 4 i th ts).view),(1,.var (pad3 [])),(2,.var [.i 0,.slice .nil (.t .ty []),.i 0])]⟩))
  (M.W rh3) ?_ ?_
 ·intro m hm hP
  omega
 ·intro hP
  refine M.w1 @ho ?_
  have er:rule 4 th []=(natT,0):=by simp[rule]
  rw[er]
  rfl
theorem node7_c(i:Int)(th:Ty)(ts:List Tm):PC E 230 [.agg (Tm.mk 7 i th ts).view,.agg (pad3 [])] (.tup [.agg (ofT (rule 7 th []).1).view,.i (rule 7 th []).2]):=by
 have hp:=plain_c 7
 rw[show plainK 7=[2] from rfl] at hp
 have ho:=of_c (.mk 2 []) (by decide)
 refine M.F Tryz.func230 ?_
 refine M.w1 @hp ?_
 refine M.rt 0
  (fun m=>([(2,.ptr 0 0),(3,.ptr 1 0),(4,.ptr 2 0),(6,.s .int [2]),(18,.s .int []),(19,.i ((0:Nat):Int)),(20,.i m)],⟨3,[(0,.var (Tm.mk 7 i th ts).view),(1,.var (pad3 [])),(2,.var [.i 0,.slice .nil (.t .ty []),.i 0])]⟩))
  (M.W rh3) ?_ ?_
 ·intro m hm hP
  omega
 ·intro hP
  refine M.w1 @ho ?_
  have er:rule 7 th []=(listT,0):=by simp[rule]
  rw[er]
  rfl
theorem node13_c(i:Int)(th:Ty)(ts:List Tm):PC E 230 [.agg (Tm.mk 13 i th ts).view,.agg (pad3 [])] (.tup [.agg (ofT (rule 13 th []).1).view,.i (rule 13 th []).2]):=by
 have hp:=plain_c 13
 rw[show plainK 13=[5] from rfl] at hp
 have ho:=of_c (.mk 5 []) (by decide)
 refine M.F Tryz.func230 ?_
 refine M.w1 @hp ?_
 refine M.rt 0
  (fun m=>([(2,.ptr 0 0),(3,.ptr 1 0),(4,.ptr 2 0),(6,.s .int [5]),(18,.s .int []),(19,.i ((0:Nat):Int)),(20,.i m)],⟨3,[(0,.var (Tm.mk 13 i th ts).view),(1,.var (pad3 [])),(2,.var [.i 0,.slice .nil (.t .ty []),.i 0])]⟩))
  (M.W rh3) ?_ ?_
 ·intro m hm hP
  omega
 ·intro hP
  refine M.w1 @ho ?_
  have er:rule 13 th []=(unitT,0):=by simp[rule]
  rw[er]
  rfl
theorem node5_c(i:Int)(th:Ty)(ts:List Tm)(x:Ty)(ex:x.err=0):PC E 230 [.agg (Tm.mk 5 i th ts).view,.agg (pad3 [x])] (.tup [.agg (ofT (rule 5 th [x]).1).view,.i (rule 5 th [x]).2]):=by
 have hp:=plain_c 5
 rw[show plainK 5=[1,1] from rfl] at hp
 have ho:=of_c (.mk 1 []) (by decide)
 have i0:=is_c (ofT x) 1
 refine M.F Tryz.func230 ?_
 refine M.w1 @hp ?_
 refine M.rp 1 (fun m=>(0<m→x.kind=1))
  (fun m=>([(2,.ptr 0 0),(3,.ptr 1 0),(4,.ptr 2 0),(6,.s .int [1,1]),(18,.s .int [1]),(19,.i ((1:Nat):Int)),(20,.i m)],⟨3,[(0,.var (Tm.mk 5 i th ts).view),(1,.var (pad3 [x])),(2,.var [.i 0,.slice .nil (.t .ty []),.i 0])]⟩))
  (by simp) (M.W rh3) ?_ ?_
 ·intro m hm hP
  obtain rfl:m=0:=by omega
  repeat'(first|refine M.w1 @i0 ?_|refine M.cs ?_ ?_<;>intro h|fail)
  ·have h':¬x.kind=1:=by simpa [ofT] using h
   have e:¬x=natT:=fun hc=>h' (by rw[hc];rfl)
   have er:rule 5 th [x]=(noTy,7):=by simp[rule,e]
   rw[er]
   simp[tupV,V.wk,V.wks,constV,Sz.view,ofT,noTy,Ty.num,Ty.err,Ty.shape_eq,arT]
  ·have h':x.kind=1:=by simpa [ofT] using h
   exact⟨rfl,fun _=>h',(M.W rh3)⟩
 ·intro hP
  refine M.w1 @ho ?_
  have q0:x=natT:=nat_of ex (by have:=hP;simp_all)
  have er:rule 5 th [x]=(natT,0):=by simp[rule,q0]
  rw[er]
  rfl
theorem node8_c(i:Int)(th:Ty)(ts:List Tm)(x:Ty)(ex:x.err=0)(y:Ty)(ey:y.err=0):PC E 230 [.agg (Tm.mk 8 i th ts).view,.agg (pad3 [x,y])] (.tup [.agg (ofT (rule 8 th [x,y]).1).view,.i (rule 8 th [x,y]).2]):=by
 have hp:=plain_c 8
 rw[show plainK 8=[2,1,2] from rfl] at hp
 have ho:=of_c (.mk 2 []) (by decide)
 have i0:=is_c (ofT x) 1
 have i1:=is_c (ofT y) 2
 refine M.F Tryz.func230 ?_
 refine M.w1 @hp ?_
 refine M.rp 2 (fun m=>(0<m→x.kind=1)∧(1<m→y.kind=2))
  (fun m=>([(2,.ptr 0 0),(3,.ptr 1 0),(4,.ptr 2 0),(6,.s .int [2,1,2]),(18,.s .int [1,2]),(19,.i ((2:Nat):Int)),(20,.i m)],⟨3,[(0,.var (Tm.mk 8 i th ts).view),(1,.var (pad3 [x,y])),(2,.var [.i 0,.slice .nil (.t .ty []),.i 0])]⟩))
  (by simp) (M.W rh3) ?_ ?_
 ·intro m hm hP
  by_cases hm0:m=0
  ·subst hm0
   repeat'(first|refine M.w1 @i0 ?_|refine M.cs ?_ ?_<;>intro h|fail)
   ·have h':¬x.kind=1:=by simpa [ofT] using h
    have e:¬x=natT:=fun hc=>h' (by rw[hc];rfl)
    have er:rule 8 th [x,y]=(noTy,7):=by simp[rule,e]
    rw[er]
    simp[tupV,V.wk,V.wks,constV,Sz.view,ofT,noTy,Ty.num,Ty.err,Ty.shape_eq,arT]
   ·have h':x.kind=1:=by simpa [ofT] using h
    exact⟨rfl,⟨by intro _;first|exact h'|(have:=hP;simp_all),by omega⟩,(M.W rh3)⟩
  obtain rfl:m=1:=by omega
  repeat'(first|refine M.w1 @i1 ?_|refine M.cs ?_ ?_<;>intro h|fail)
  ·have h':¬y.kind=2:=by simpa [ofT] using h
   have e:¬y=listT:=fun hc=>h' (by rw[hc];rfl)
   have er:rule 8 th [x,y]=(noTy,7):=by simp[rule,e]
   rw[er]
   simp[tupV,V.wk,V.wks,constV,Sz.view,ofT,noTy,Ty.num,Ty.err,Ty.shape_eq,arT]
  ·have h':y.kind=2:=by simpa [ofT] using h
   exact⟨rfl,⟨by intro _;first|exact h'|(have:=hP;simp_all),by intro _;first|exact h'|(have:=hP;simp_all)⟩,(M.W rh3)⟩
 ·intro hP
  refine M.w1 @ho ?_
  have q0:x=natT:=nat_of ex (by have:=hP;simp_all)
  have q1:y=listT:=list_of ey (by have:=hP;simp_all)
  have er:rule 8 th [x,y]=(listT,0):=by simp[rule,q0,q1]
  rw[er]
  rfl
theorem plainN_c(k:Int)(h:plainK k=[]):PC E 234 [.i k] (.s .int []):=by
 have:=plain_c k
 rwa [h] at this
theorem sameSz_ok(a b:Ty)(ha:a.err=0)(hb:b.err=0):PC E 236 [.agg (ofT a).view,.agg (ofT b).view] (.bool (decide (a=b))):=by
 have:=sameSz_c (ofT a) (ofT b) (by have:=sz_big ha;show a.size<_;omega)
 rw[show(ofT a).ty=a from rfl,show(ofT b).ty=b from rfl,same_ok ha hb] at this
 exact this
theorem nodes_bd{a:Ty}(h:a.err=0):0≤(ofT a).nodes∧(ofT a).nodes<1099511627776:=by
 have:=sz_big h
 simp only[ofT,num_ok h];omega
theorem node3_c(i:Int)(th:Ty)(ts:List Tm)(x:Ty)(ex:x.err=0)(y:Ty)(ey:y.err=0):PC E 230 [.agg (Tm.mk 3 i th ts).view,.agg (pad3 [x,y])] (.tup [.agg (ofT (rule 3 th [x,y]).1).view,.i (rule 3 th [x,y]).2]):=by
 have hp:=plainN_c 3 rfl
 have hi:PC E 216 [.agg (ofT x).view,.i 4] (.bool (x.kind==4)):=is_c (ofT x) 4
 by_cases hk:x.kind=4
 ·obtain ⟨a,b,hab⟩:=Ty.args_two ((Ty.err_iff x).1 ex).1 (.inr hk)
  have hx:x=funT a b:=(Ty.eq_iff _ _).2 ⟨hk,hab⟩
  subst hx
  have ea:a.err=0:=Ty.err_args ex (by simp)
  have eb:b.err=0:=Ty.err_args ex (by simp)
  have p0:PC E 235 [.agg (ofT (funT a b)).view,.i 0] (.agg (ofT a).view):=part_c (ofT (funT a b)) 0 (by simp[ofT]) (by have:=sz_big ex;show(funT a b).size<_;omega)
  have p1:PC E 235 [.agg (ofT (funT a b)).view,.i 1] (.agg (ofT b).view):=part_c (ofT (funT a b)) 1 (by simp[ofT]) (by have:=sz_big ex;show(funT a b).size<_;omega)
  have sm:=sameSz_ok a y ea ey
  rw[show(Ty.kind (funT a b)==4)=true from rfl] at hi
  refine M.F Tryz.func230 ?_
  repeat'(first|refine M.v5 @hp @hi @p0 @p1 @sm ?_|refine M.cs ?_ ?_<;>intro h|fail)
  ·have h':¬a=y:=by simpa using h
   have er:rule 3 th [funT a b,y]=(noTy,7):=by simp[rule,h']
   rw[er];rfl
  ·have h':a=y:=by simpa using h
   have er:rule 3 th [funT a b,y]=(b,0):=by simp[rule,h']
   rw[er]
   simp[tupV,V.wk,V.wks,constV,Sz.view]
 ·have hi:PC E 216 [.agg (ofT x).view,.i 4] (.bool false):=by rw[show(x.kind==4)=false by simpa using hk] at hi;exact hi
  have er:rule 3 th [x,y]=(noTy,7):=by simp[rule,hk]
  rw[er]
  refine M.F Tryz.func230 ?_
  refine M.v2 @hp @hi ?_
  rfl
theorem node10_c(i:Int)(th:Ty)(ts:List Tm)(x:Ty)(ex:x.err=0)(y:Ty)(ey:y.err=0):PC E 230 [.agg (Tm.mk 10 i th ts).view,.agg (pad3 [x,y])] (.tup [.agg (ofT (rule 10 th [x,y]).1).view,.i (rule 10 th [x,y]).2]):=by
 have hp:=plainN_c 10 rfl
 have hj:=join_c 3 (ofT x) (ofT y) (nodes_bd ex) (nodes_bd ey)
 rw[join_ok (.inl rfl) ex ey] at hj
 have er:rule 10 th [x,y]=okT (.mk 3 [x,y]):=by simp[rule,twoT]
 rw[er]
 refine M.F Tryz.func230 ?_
 refine M.v2 @hp @hj ?_
 simp[tupV,V.wk,V.wks,constV,Sz.view]
theorem node11_c(i:Int)(th:Ty)(ts:List Tm)(x:Ty)(ex:x.err=0):PC E 230 [.agg (Tm.mk 11 i th ts).view,.agg (pad3 [x])] (.tup [.agg (ofT (rule 11 th [x]).1).view,.i (rule 11 th [x]).2]):=by
 have hp:=plainN_c 11 rfl
 have hi:PC E 216 [.agg (ofT x).view,.i 3] (.bool (x.kind==3)):=is_c (ofT x) 3
 by_cases hk:x.kind=3
 ·obtain ⟨a,b,hab⟩:=Ty.args_two ((Ty.err_iff x).1 ex).1 (.inl hk)
  have hx:x=twoT a b:=(Ty.eq_iff _ _).2 ⟨hk,hab⟩
  subst hx
  have p0:PC E 235 [.agg (ofT (twoT a b)).view,.i 0] (.agg (ofT a).view):=part_c (ofT (twoT a b)) 0 (by simp[ofT]) (by have:=sz_big ex;show(twoT a b).size<_;omega)
  rw[show(Ty.kind (twoT a b)==3)=true from rfl] at hi
  have er:rule 11 th [twoT a b]=(a,0):=by simp[rule]
  rw[er]
  refine M.F Tryz.func230 ?_
  refine M.v3 @hp @hi @p0 ?_
  simp[tupV,V.wk,V.wks,constV,Sz.view]
 ·have hi:PC E 216 [.agg (ofT x).view,.i 3] (.bool false):=by rw[show(x.kind==3)=false by simpa using hk] at hi;exact hi
  have er:rule 11 th [x]=(noTy,7):=by simp[rule,hk]
  rw[er]
  refine M.F Tryz.func230 ?_
  refine M.v2 @hp @hi ?_
  rfl
theorem node12_c(i:Int)(th:Ty)(ts:List Tm)(x:Ty)(ex:x.err=0):PC E 230 [.agg (Tm.mk 12 i th ts).view,.agg (pad3 [x])] (.tup [.agg (ofT (rule 12 th [x]).1).view,.i (rule 12 th [x]).2]):=by
 have hp:=plainN_c 12 rfl
 have hi:PC E 216 [.agg (ofT x).view,.i 3] (.bool (x.kind==3)):=is_c (ofT x) 3
 by_cases hk:x.kind=3
 ·obtain ⟨a,b,hab⟩:=Ty.args_two ((Ty.err_iff x).1 ex).1 (.inl hk)
  have hx:x=twoT a b:=(Ty.eq_iff _ _).2 ⟨hk,hab⟩
  subst hx
  have p0:PC E 235 [.agg (ofT (twoT a b)).view,.i 1] (.agg (ofT b).view):=part_c (ofT (twoT a b)) 1 (by simp[ofT]) (by have:=sz_big ex;show(twoT a b).size<_;omega)
  rw[show(Ty.kind (twoT a b)==3)=true from rfl] at hi
  have er:rule 12 th [twoT a b]=(b,0):=by simp[rule]
  rw[er]
  refine M.F Tryz.func230 ?_
  refine M.v3 @hp @hi @p0 ?_
  simp[tupV,V.wk,V.wks,constV,Sz.view]
 ·have hi:PC E 216 [.agg (ofT x).view,.i 3] (.bool false):=by rw[show(x.kind==3)=false by simpa using hk] at hi;exact hi
  have er:rule 12 th [x]=(noTy,7):=by simp[rule,hk]
  rw[er]
  refine M.F Tryz.func230 ?_
  refine M.v2 @hp @hi ?_
  rfl
theorem node6_c(i:Int)(th:Ty)(ts:List Tm)(eh:th.err=0)(x:Ty)(ex:x.err=0)(y:Ty)(ey:y.err=0)(z:Ty)(ez:z.err=0):PC E 230 [.agg (Tm.mk 6 i th ts).view,.agg (pad3 [x,y,z])] (.tup [.agg (ofT (rule 6 th [x,y,z]).1).view,.i (rule 6 th [x,y,z]).2]):=by
 have hp:=plainN_c 6 rfl
 have ho:=of_c th (by have:=sz_big eh;omega)
 have sm:=sameSz_ok x th ex eh
 have hst:=step_c (Tm.mk 6 i th ts)
 rw[show stepT (Tm.mk 6 i th ts)=funT natT (funT th th) from rfl] at hst
 have s2:=sameTy2_c _ y (funT natT (funT th th)) (Nat.le_refl _) (by have:=sz_big ey;omega)
 have hi:PC E 216 [.agg (ofT z).view,.i 1] (.bool (z.kind==1)):=is_c (ofT z) 1
 have hz:(z.kind==1)=decide (z=natT):=by
  by_cases h:z=natT
  ·subst h;rfl
  ·have:¬z.kind=1:=fun hk=>h (nat_of ez hk)
   rw[decide_eq_false h];simpa using this
 rw[hz] at hi
 refine M.F Tryz.func230 ?_
 repeat'(first|refine M.w6 @hp @ho @sm @hst @s2 @hi ?_|refine M.gs ?_ ?_<;>intro h|refine M.bl ?_|refine M.cs ?_ ?_<;>intro h|fail)
 all_goals
  clear hp ho sm hst s2 hi hz
  by_cases p1:x=th<;>by_cases p2:y=funT natT (funT th th)<;>by_cases p3:z=natT<;>first
   |(exfalso;simp[p1,p2,p3] at*;done)
   |(have er:rule 6 th [x,y,z]=(noTy,7):=by simp[rule,p1,p2,p3]
     rw[er];rfl)
   |(have er:rule 6 th [x,y,z]=(th,0):=by simp[rule,p1,p2,p3]
     rw[er];simp[tupV,V.wk,V.wks,constV,Sz.view];done)
theorem node9_c(i:Int)(th:Ty)(ts:List Tm)(eh:th.err=0)(x:Ty)(ex:x.err=0)(y:Ty)(ey:y.err=0)(z:Ty)(ez:z.err=0):PC E 230 [.agg (Tm.mk 9 i th ts).view,.agg (pad3 [x,y,z])] (.tup [.agg (ofT (rule 9 th [x,y,z]).1).view,.i (rule 9 th [x,y,z]).2]):=by
 have hp:=plainN_c 9 rfl
 have ho:=of_c th (by have:=sz_big eh;omega)
 have sm:=sameSz_ok x th ex eh
 have hst:=step_c (Tm.mk 9 i th ts)
 rw[show stepT (Tm.mk 9 i th ts)=funT natT (funT listT (funT th th)) from rfl] at hst
 have s2:=sameTy2_c _ y (funT natT (funT listT (funT th th))) (Nat.le_refl _) (by have:=sz_big ey;omega)
 have hi:PC E 216 [.agg (ofT z).view,.i 2] (.bool (z.kind==2)):=is_c (ofT z) 2
 have hz:(z.kind==2)=decide (z=listT):=by
  by_cases h:z=listT
  ·subst h;rfl
  ·have:¬z.kind=2:=fun hk=>h (list_of ez hk)
   rw[decide_eq_false h];simpa using this
 rw[hz] at hi
 refine M.F Tryz.func230 ?_
 repeat'(first|refine M.w6 @hp @ho @sm @hst @s2 @hi ?_|refine M.gs ?_ ?_<;>intro h|refine M.bl ?_|refine M.cs ?_ ?_<;>intro h|fail)
 all_goals
  clear hp ho sm hst s2 hi hz
  by_cases p1:x=th<;>by_cases p2:y=funT natT (funT listT (funT th th))<;>by_cases p3:z=listT<;>first
   |(exfalso;simp[p1,p2,p3] at*;done)
   |(have er:rule 9 th [x,y,z]=(noTy,7):=by simp[rule,p1,p2,p3]
     rw[er];rfl)
   |(have er:rule 9 th [x,y,z]=(th,0):=by simp[rule,p1,p2,p3]
     rw[er];simp[tupV,V.wk,V.wks,constV,Sz.view];done)
theorem node_c(t:Tm)(L:List Ty)(hsh:t.shape=true)(k1:t.kind≠1)(k2:t.kind≠2)(hl:L.length=t.args.length)(hg:∀x∈L,x.err=0):PC E 230 [.agg t.view,.agg (pad3 L)] (.tup [.agg (ofT (rule t.kind t.ty L).1).view,.i (rule t.kind t.ty L).2]):=by
 have hak:=arK_len hsh
 have hty:=shape_ty hsh
 rw[←hl] at hak
 obtain⟨k,i,th,xs⟩:=t
 simp only[Tm.kind_mk,Tm.ty_mk] at*
 rcases arK_cases hak with⟨hn,hk⟩|⟨hn,hk⟩|⟨hn,hk⟩|⟨hn,hk⟩
 ·have hL:=List.eq_nil_of_length_eq_zero hn
  subst hL
  rcases hk with rfl|rfl|rfl|rfl
  ·exact absurd rfl k1
  ·exact node4_c i th xs
  ·exact node7_c i th xs
  ·exact node13_c i th xs
 ·obtain ⟨x,hL⟩:=len_1 hn
  subst hL
  have ex:=hg x (by simp)
  rcases hk with rfl|rfl|rfl|rfl
  ·exact absurd rfl k2
  ·exact node5_c i th xs x ex
  ·exact node11_c i th xs x ex
  ·exact node12_c i th xs x ex
 ·obtain ⟨x,y,hL⟩:=len_2 hn
  subst hL
  have ex:=hg x (by simp)
  have ey:=hg y (by simp)
  rcases hk with rfl|rfl|rfl
  ·exact node3_c i th xs x ex y ey
  ·exact node8_c i th xs x ex y ey
  ·exact node10_c i th xs x ex y ey
 ·obtain ⟨x,y,z,hL⟩:=len_3 hn
  subst hL
  have ex:=hg x (by simp)
  have ey:=hg y (by simp)
  have ez:=hg z (by simp)
  rcases hk with rfl|rfl
  ·exact node6_c i th xs (hty rfl) x ex y ey z ez
  ·exact node9_c i th xs (hty rfl) x ex y ey z ez
end Go.Ab
namespace Go.Ab
open Go Go.Proofs
set_option maxRecDepth 100000
set_option maxHeartbeats 4000000
set_option linter.all false
abbrev CT(t:Tm)(g:List Ty):Prop:=PC E 215 [.s .sz (g.map ofT),.agg t.view] (.tup [.agg (ofT (t.inf g).1).view,.i (t.inf g).2])
theorem ct1(t:Tm)(g:List Ty)(hsh:t.shape=true)(hgn:g.length<274877906944)(k1:t.kind=1):CT t g:=by
 have hix:=shape_index hsh
 have hinf:=Tm.inf_eq g t
 rw[if_pos k1] at hinf
 refine M.F Tryz.func215 ?_
 by_cases hlt:t.index≥g.length
 ·rw [if_pos hlt] at hinf
  repeat'(first|refine M.w0 ?_|refine M.cs ?_ ?_<;>intro h|fail)
  all_goals first
   |(exfalso;simp_all;done)
   |(rw[hinf];rfl)
   |(exfalso;simp at h;omega)
 ·rw [if_neg hlt] at hinf
  have h0:g.length-1-t.index.toNat<g.length:=by omega
  have h1:g.length-1-t.index.toNat<(g.map ofT).length:=by simpa using h0
  have eg:(g.map ofT)[g.length-1-t.index.toNat]=ofT g[g.length-1-t.index.toNat]:=by simp
  rw[at0_lt h0] at hinf
  have hl:(g.map ofT).length=g.length:=by simp
  repeat'(first|refine M.w0 ?_|refine M.cs ?_ ?_<;>intro h|fail)
  all_goals first
   |(exfalso;simp_all;done)
   |(exfalso;simp at h;omega)
   |skip
  refine L.ixt (g.length-1-t.index.toNat) rfl rfl rfl rfl (by simp only[hl];omega) rfl rfl h1 ?_
  rw[eg]
  refine M.w0 ?_
  rw[hinf]
  simp[tupV,V.wk,V.wks,constV,Sz.view,EC.view]
theorem ct2(i:Int)(th:Ty)(a:Tm)(g:List Ty)(hsh:(Tm.mk 2 i th [a]).shape=true)(hg:∀x∈g,x.err=0)(hgn:g.length<274877906944)(ih:CT a (g++[th])):CT (Tm.mk 2 i th [a]) g:=by
 have hth:th.err=0:=shape_ty hsh rfl
 have hg':∀x∈g++[th],x.err=0:=fun x hx=>by
  rcases List.mem_append.1 hx with hx|hx
  ·exact hg x hx
  ·simp at hx;subst hx;exact hth
 have hgood:=Tm.inf_good a (g++[th]) (shape_args hsh a (by simp)) hg'
 have hinf:(Tm.mk 2 i th [a]).inf g=if(a.inf (g++[th])).2≠0 then(noTy,(a.inf (g++[th])).2) else okT (funT th (a.inf (g++[th])).1):=by
  rw[Tm.inf_eq]
  simp only[Tm.kind_mk,Tm.args_mk,Tm.ty_mk,Tm.infs,ne_eq]
  by_cases h:(a.inf (g++[th])).2=0<;>simp[h]
 have hc:PC E 215 [.s .sz (g.map ofT++[ofT th]),.agg a.view] (.tup [.agg (ofT (a.inf (g++[th])).1).view,.i (a.inf (g++[th])).2]):=by
  have:=ih
  unfold CT at this
  rwa [List.map_append] at this
 have ho:=of_c th (by have:=sz_big hth;omega)
 have hj:(a.inf (g++[th])).2=0→PC E 229 _ _:=fun h=>join_c 4 (ofT th) (ofT (a.inf (g++[th])).1) (nodes_bd hth) (nodes_bd (hgood h))
 refine M.F Tryz.func215 ?_
 repeat'(first|refine M.w2 @ho @hc ?_|refine M.c2 (hj (by simpa using h)) ?_|refine M.cs ?_ ?_<;>intro h|fail)
 ·have h':(a.inf (g++[th])).2≠0:=by simpa using h
  rw[hinf,if_pos h'];rfl
 ·have h':(a.inf (g++[th])).2=0:=by simpa using h
  rw[hinf,if_neg (by simp[h']),show okT (funT th (a.inf (g++[th])).1)=okT (.mk 4 [th,(a.inf (g++[th])).1]) from rfl,join_ok (.inr rfl) hth (hgood h')]
  simp[tupV,V.wk,V.wks,constV,Sz.view]
theorem cn0(k i:Int)(th:Ty)(g:List Ty)(hsh:(Tm.mk k i th []).shape=true)(k1:k≠1)(k2:k≠2)(hg:∀x∈g,x.err=0):CT (Tm.mk k i th []) g:=by
 have hinf:=Tm.inf_eq g (Tm.mk k i th [])
 simp only[Tm.kind_mk,Tm.ty_mk,Tm.args_mk,k1,k2,if_false] at hinf
 have hnode:PC E 230 [.agg (Tm.mk k i th []).view,.agg (pad3 [])] (.tup [.agg (ofT (rule k th []).1).view,.i (rule k th []).2]):=node_c (Tm.mk k i th []) [] hsh k1 k2 rfl (by intro x hx;simp at hx)
 refine M.F Tryz.func215 ?_
 repeat'(first|refine M.w0 ?_|refine M.cs ?_ ?_<;>intro h|fail)
 all_goals first
  |(exfalso;simp_all;done)
  |skip
 refine M.rt 0
  (fun m=>([(0,.s .sz (g.map ofT)),(3,.ptr 0 0),(4,.ptr 1 0),(9,.ptr 2 0),(65,.s .tm []),(66,.i ((0:Nat):Int)),(67,.i m)],⟨3,[(0,.var (Tm.mk k i th []).view),(1,.var [.i 0,.slice .nil (.t .ty []),.i 0]),(2,.var (pad3 []))]⟩))
  (M.W rh3) ?_ ?_
 ·intro m hm hP
  omega
 ·intro hP
  have er:(Tm.mk k i th []).inf g=rule k th []:=by rw[hinf];simp[Tm.infs]
  have hnode:=hnode
  refine M.w1 @hnode ?_
  rw[er]
  simp[tupV,V.wk,V.wks,constV,Sz.view]
theorem cn1(k i:Int)(th:Ty)(a:Tm)(g:List Ty)(hsh:(Tm.mk k i th [a]).shape=true)(k1:k≠1)(k2:k≠2)(hg:∀x∈g,x.err=0)(ia:CT a g):CT (Tm.mk k i th [a]) g:=by
 have hinf:=Tm.inf_eq g (Tm.mk k i th [a])
 simp only[Tm.kind_mk,Tm.ty_mk,Tm.args_mk,k1,k2,if_false] at hinf
 have ga:=Tm.inf_good a g (shape_args hsh a (by simp)) hg
 have hnode:(a.inf g).2=0→PC E 230 [.agg (Tm.mk k i th [a]).view,.agg (pad3 [(a.inf g).1])] (.tup [.agg (ofT (rule k th [(a.inf g).1]).1).view,.i (rule k th [(a.inf g).1]).2]):=fun ha=>node_c (Tm.mk k i th [a]) [(a.inf g).1] hsh k1 k2 rfl (by intro x hx;simp at hx;subst hx;exact ga ha)
 refine M.F Tryz.func215 ?_
 repeat'(first|refine M.w0 ?_|refine M.cs ?_ ?_<;>intro h|fail)
 all_goals first
  |(exfalso;simp_all;done)
  |skip
 refine M.rp 1 (fun m=>(0<m→(a.inf g).2=0))
  (fun m=>([(0,.s .sz (g.map ofT)),(3,.ptr 0 0),(4,.ptr 1 0),(9,.ptr 2 0),(65,.s .tm [a]),(66,.i ((1:Nat):Int)),(67,.i m)],⟨3,[(0,.var (Tm.mk k i th [a]).view),(1,.var [.i 0,.slice .nil (.t .ty []),.i 0]),(2,.var (if m=0 then pad3 [] else pad3 [(a.inf g).1]))]⟩))
  (by simp) (M.W rh3) ?_ ?_
 ·intro m hm hP
  obtain rfl:m=0:=by omega
  repeat'(first|refine M.w1 @ia ?_|refine M.cs ?_ ?_<;>intro h|fail)
  ·have h':(a.inf g).2≠0:=by simpa using h
   have er:(Tm.mk k i th [a]).inf g=(noTy,(a.inf g).2):=by rw[hinf];simp[Tm.infs,h']
   rw[er];rfl
  ·have h':(a.inf g).2=0:=by simpa using h
   exact⟨rfl,fun _=>h',(M.W rh3)⟩
 ·intro hP
  have za:(a.inf g).2=0:=by have:=hP;simp_all
  have er:(Tm.mk k i th [a]).inf g=rule k th [(a.inf g).1]:=by rw[hinf];simp[Tm.infs,za]
  have hnode:=hnode za
  refine M.w1 @hnode ?_
  rw[er]
  simp[tupV,V.wk,V.wks,constV,Sz.view]
theorem cn2(k i:Int)(th:Ty)(a:Tm)(b:Tm)(g:List Ty)(hsh:(Tm.mk k i th [a,b]).shape=true)(k1:k≠1)(k2:k≠2)(hg:∀x∈g,x.err=0)(ia:CT a g)(ib:CT b g):CT (Tm.mk k i th [a,b]) g:=by
 have hinf:=Tm.inf_eq g (Tm.mk k i th [a,b])
 simp only[Tm.kind_mk,Tm.ty_mk,Tm.args_mk,k1,k2,if_false] at hinf
 have ga:=Tm.inf_good a g (shape_args hsh a (by simp)) hg
 have gb:=Tm.inf_good b g (shape_args hsh b (by simp)) hg
 have hnode:(a.inf g).2=0→(b.inf g).2=0→PC E 230 [.agg (Tm.mk k i th [a,b]).view,.agg (pad3 [(a.inf g).1,(b.inf g).1])] (.tup [.agg (ofT (rule k th [(a.inf g).1,(b.inf g).1]).1).view,.i (rule k th [(a.inf g).1,(b.inf g).1]).2]):=fun ha hb=>node_c (Tm.mk k i th [a,b]) [(a.inf g).1,(b.inf g).1] hsh k1 k2 rfl (by intro x hx;simp at hx;rcases hx with rfl|rfl<;>first|exact ga ha|exact gb hb)
 refine M.F Tryz.func215 ?_
 repeat'(first|refine M.w0 ?_|refine M.cs ?_ ?_<;>intro h|fail)
 all_goals first
  |(exfalso;simp_all;done)
  |skip
 refine M.rp 2 (fun m=>(0<m→(a.inf g).2=0)∧(1<m→(b.inf g).2=0))
  (fun m=>([(0,.s .sz (g.map ofT)),(3,.ptr 0 0),(4,.ptr 1 0),(9,.ptr 2 0),(65,.s .tm [a,b]),(66,.i ((2:Nat):Int)),(67,.i m)],⟨3,[(0,.var (Tm.mk k i th [a,b]).view),(1,.var [.i 0,.slice .nil (.t .ty []),.i 0]),(2,.var (if m=0 then pad3 [] else if m=1 then pad3 [(a.inf g).1] else pad3 [(a.inf g).1,(b.inf g).1]))]⟩))
  (by simp) (M.W rh3) ?_ ?_
 ·intro m hm hP
  by_cases hm0:m=0
  ·subst hm0
   repeat'(first|refine M.w1 @ia ?_|refine M.cs ?_ ?_<;>intro h|fail)
   ·have h':(a.inf g).2≠0:=by simpa using h
    have er:(Tm.mk k i th [a,b]).inf g=(noTy,(a.inf g).2):=by rw[hinf];simp[Tm.infs,h']
    rw[er];rfl
   ·have h':(a.inf g).2=0:=by simpa using h
    exact⟨rfl,⟨by intro _;first|exact h'|(have:=hP;simp_all),by omega⟩,(M.W rh3)⟩
  obtain rfl:m=1:=by omega
  repeat'(first|refine M.w1 @ib ?_|refine M.cs ?_ ?_<;>intro h|fail)
  ·have h':(b.inf g).2≠0:=by simpa using h
   have za:(a.inf g).2=0:=by have:=hP;simp_all
   have er:(Tm.mk k i th [a,b]).inf g=(noTy,(b.inf g).2):=by rw[hinf];simp[Tm.infs,h',za]
   rw[er];rfl
  ·have h':(b.inf g).2=0:=by simpa using h
   exact⟨rfl,⟨by intro _;first|exact h'|(have:=hP;simp_all),by intro _;first|exact h'|(have:=hP;simp_all)⟩,(M.W rh3)⟩
 ·intro hP
  have za:(a.inf g).2=0:=by have:=hP;simp_all
  have zb:(b.inf g).2=0:=by have:=hP;simp_all
  have er:(Tm.mk k i th [a,b]).inf g=rule k th [(a.inf g).1,(b.inf g).1]:=by rw[hinf];simp[Tm.infs,za,zb]
  have hnode:=hnode za zb
  refine M.w1 @hnode ?_
  rw[er]
  simp[tupV,V.wk,V.wks,constV,Sz.view]
theorem cn3(k i:Int)(th:Ty)(a:Tm)(b:Tm)(c:Tm)(g:List Ty)(hsh:(Tm.mk k i th [a,b,c]).shape=true)(k1:k≠1)(k2:k≠2)(hg:∀x∈g,x.err=0)(ia:CT a g)(ib:CT b g)(ic:CT c g):CT (Tm.mk k i th [a,b,c]) g:=by
 have hinf:=Tm.inf_eq g (Tm.mk k i th [a,b,c])
 simp only[Tm.kind_mk,Tm.ty_mk,Tm.args_mk,k1,k2,if_false] at hinf
 have ga:=Tm.inf_good a g (shape_args hsh a (by simp)) hg
 have gb:=Tm.inf_good b g (shape_args hsh b (by simp)) hg
 have gc:=Tm.inf_good c g (shape_args hsh c (by simp)) hg
 have hnode:(a.inf g).2=0→(b.inf g).2=0→(c.inf g).2=0→PC E 230 [.agg (Tm.mk k i th [a,b,c]).view,.agg (pad3 [(a.inf g).1,(b.inf g).1,(c.inf g).1])] (.tup [.agg (ofT (rule k th [(a.inf g).1,(b.inf g).1,(c.inf g).1]).1).view,.i (rule k th [(a.inf g).1,(b.inf g).1,(c.inf g).1]).2]):=fun ha hb hc=>node_c (Tm.mk k i th [a,b,c]) [(a.inf g).1,(b.inf g).1,(c.inf g).1] hsh k1 k2 rfl (by intro x hx;simp at hx;rcases hx with rfl|rfl|rfl<;>first|exact ga ha|exact gb hb|exact gc hc)
 refine M.F Tryz.func215 ?_
 repeat'(first|refine M.w0 ?_|refine M.cs ?_ ?_<;>intro h|fail)
 all_goals first
  |(exfalso;simp_all;done)
  |skip
 refine M.rp 3 (fun m=>(0<m→(a.inf g).2=0)∧(1<m→(b.inf g).2=0)∧(2<m→(c.inf g).2=0))
  (fun m=>([(0,.s .sz (g.map ofT)),(3,.ptr 0 0),(4,.ptr 1 0),(9,.ptr 2 0),(65,.s .tm [a,b,c]),(66,.i ((3:Nat):Int)),(67,.i m)],⟨3,[(0,.var (Tm.mk k i th [a,b,c]).view),(1,.var [.i 0,.slice .nil (.t .ty []),.i 0]),(2,.var (if m=0 then pad3 [] else if m=1 then pad3 [(a.inf g).1] else if m=2 then pad3 [(a.inf g).1,(b.inf g).1] else pad3 [(a.inf g).1,(b.inf g).1,(c.inf g).1]))]⟩))
  (by simp) (M.W rh3) ?_ ?_
 ·intro m hm hP
  by_cases hm0:m=0
  ·subst hm0
   repeat'(first|refine M.w1 @ia ?_|refine M.cs ?_ ?_<;>intro h|fail)
   ·have h':(a.inf g).2≠0:=by simpa using h
    have er:(Tm.mk k i th [a,b,c]).inf g=(noTy,(a.inf g).2):=by rw[hinf];simp[Tm.infs,h']
    rw[er];rfl
   ·have h':(a.inf g).2=0:=by simpa using h
    exact⟨rfl,⟨by intro _;first|exact h'|(have:=hP;simp_all),by omega,by omega⟩,(M.W rh3)⟩
  by_cases hm1:m=1
  ·subst hm1
   repeat'(first|refine M.w1 @ib ?_|refine M.cs ?_ ?_<;>intro h|fail)
   ·have h':(b.inf g).2≠0:=by simpa using h
    have za:(a.inf g).2=0:=by have:=hP;simp_all
    have er:(Tm.mk k i th [a,b,c]).inf g=(noTy,(b.inf g).2):=by rw[hinf];simp[Tm.infs,h',za]
    rw[er];rfl
   ·have h':(b.inf g).2=0:=by simpa using h
    exact⟨rfl,⟨by intro _;first|exact h'|(have:=hP;simp_all),by intro _;first|exact h'|(have:=hP;simp_all),by omega⟩,(M.W rh3)⟩
  obtain rfl:m=2:=by omega
  repeat'(first|refine M.w1 @ic ?_|refine M.cs ?_ ?_<;>intro h|fail)
  ·have h':(c.inf g).2≠0:=by simpa using h
   have za:(a.inf g).2=0:=by have:=hP;simp_all
   have zb:(b.inf g).2=0:=by have:=hP;simp_all
   have er:(Tm.mk k i th [a,b,c]).inf g=(noTy,(c.inf g).2):=by rw[hinf];simp[Tm.infs,h',za,zb]
   rw[er];rfl
  ·have h':(c.inf g).2=0:=by simpa using h
   exact⟨rfl,⟨by intro _;first|exact h'|(have:=hP;simp_all),by intro _;first|exact h'|(have:=hP;simp_all),by intro _;first|exact h'|(have:=hP;simp_all)⟩,(M.W rh3)⟩
 ·intro hP
  have za:(a.inf g).2=0:=by have:=hP;simp_all
  have zb:(b.inf g).2=0:=by have:=hP;simp_all
  have zc:(c.inf g).2=0:=by have:=hP;simp_all
  have er:(Tm.mk k i th [a,b,c]).inf g=rule k th [(a.inf g).1,(b.inf g).1,(c.inf g).1]:=by rw[hinf];simp[Tm.infs,za,zb,zc]
  have hnode:=hnode za zb zc
  refine M.w1 @hnode ?_
  rw[er]
  simp[tupV,V.wk,V.wks,constV,Sz.view]
theorem ctypeOf_c:∀(n:Nat) (t:Tm) (g:List Ty),t.full≤n→t.shape=true→(∀x∈g,x.err=0)→g.length+n<274877906944→CT t g:=by
 intro n
 induction n with
 |zero=>intro t g h;have:=t.full_pos;omega
 |succ n ih=>
 intro t g hsz hsh hg hgn
 have hsz':=Tm.full_eq t
 have hak:=arK_len hsh
 have hargs:=shape_args hsh
 by_cases k1:t.kind=1
 ·exact ct1 t g hsh (by omega) k1
 have hih:∀x∈t.args,∀g':List Ty,(∀y∈g',y.err=0)→g'.length+n<274877906944→CT x g':=fun x hx g' hg' hl=>ih x g' (by have:=lsum_mem Tm.full hx;omega) (hargs x hx) hg' hl
 have hth:typedK t.kind=true→t.ty.err=0:=shape_ty hsh
 clear hsz hsz' ih
 obtain⟨k,i,th,xs⟩:=t
 simp only[Tm.kind_mk,Tm.args_mk,Tm.ty_mk] at*
 by_cases k2:k=2
 ·subst k2
  obtain⟨a,rfl⟩:=len_1 (Option.some.inj hak).symm
  refine ct2 i th a g hsh hg (by omega) (hih a (by simp) (g++[th]) ?_ (by simp;omega))
  intro x hx
  rcases List.mem_append.1 hx with hx|hx
  ·exact hg x hx
  ·simp at hx;subst hx;exact hth rfl
 ·have hx:∀x∈xs,CT x g:=fun x hx=>hih x hx g hg (by omega)
  rcases arK_cases hak with⟨hn,hk⟩|⟨hn,hk⟩|⟨hn,hk⟩|⟨hn,hk⟩
  ·have hL:=List.eq_nil_of_length_eq_zero hn
   subst hL
   exact cn0 k i th g hsh k1 k2 hg
  ·obtain ⟨a,rfl⟩:=len_1 hn
   exact cn1 k i th a g hsh k1 k2 hg (hx a (by simp))
  ·obtain ⟨a,b,rfl⟩:=len_2 hn
   exact cn2 k i th a b g hsh k1 k2 hg (hx a (by simp)) (hx b (by simp))
  ·obtain ⟨a,b,c,rfl⟩:=len_3 hn
   exact cn3 k i th a b c g hsh k1 k2 hg (hx a (by simp)) (hx b (by simp)) (hx c (by simp))
end Go.Ab
