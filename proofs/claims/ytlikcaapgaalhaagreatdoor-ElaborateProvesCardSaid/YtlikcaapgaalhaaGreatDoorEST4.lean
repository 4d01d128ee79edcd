/- A part of this seat's proofs. No conditions. -/
import Derived.Test.YtlikcaapgaalhaaGreatDoorEST1
namespace Go.Ab
open Go Go.Proofs
set_option maxRecDepth 100000
set_option maxHeartbeats 4000000
set_option linter.all false
def HT5(n:Nat):Prop:=∀(d:Dk) (g:List Ty) (t:Ty) (k:Int),k=(n:Int)-3→d.ok→smalls5 g→t.small5→1≤n→t.size+1≤2*n→g.length+3*n≤10000→
 AC E 10 [.ptr 0 0,.s .ty g,.agg t.view,.i k] ⟨1,[(0,.var d.cells)]⟩ (.agg (Dk.tn n d g t).1.view) ⟨1,[(0,.var (Dk.tn n d g t).2.cells)]⟩
theorem tn_full{n:Nat}(hn:n≤5)(d:Dk){g:List Ty}{t:Ty}(hg:smalls5 g)(ht:t.small5)(h2:t.size+1≤2*n):(Dk.tn n d g t).1.full≤50000:=by
 have:=(Dk.tn_g5 n d g t hg ht h2).full
 have:3^n≤3^5:=Nat.pow_le_pow_right (by omega) hn
 omega
theorem smalls5_sum{g:List Ty}(h:smalls5 g):(g.map Ty.size).sum≤5*g.length:=by
 induction g with
 |nil=>simp
 |cons t l ih=>
  have h1:=(h t (by simp)).2
  have h2:=ih fun x hx=>h x (by simp[hx])
  simp only[List.map_cons,List.sum_cons,List.length_cons];omega
theorem fin5_c(n:Nat)(H:HT5 n)(hn:n≤5)(depth:Int)(hdep:depth=(n:Int)-2)(d:Dk)(hd:d.ok)(g:List Ty)(t:Ty)(hg:smalls5 g)(ht:t.small5)(h0:t.size≤2*n+1)(hl:g.length+3*(n+1)≤10000):
 AW E Tryz.f10.ntmps 1 (partAt [1,1,1,1] (bodyOf Tryz.f10)) [(0,.ptr 0 0),(1,.s .ty g),(3,.i depth),(6,.ptr 1 0),(8,.ptr 2 0)]
  ⟨3,[(0,.var d.cells),(1,.var t.view),(2,.var [.i 0,.i 0,.i 0,.slice .nil (.t .ty []),.slice .nil (.t .tm [])])]⟩
  (retQ E 1 Tryz.f10.results.toList (.agg (d.fin (Dk.tn n) (decide (3≤n)) g t).1.view) ⟨1,[(0,.var (d.fin (Dk.tn n) (decide (3≤n)) g t).2.cells)]⟩):=by
 have en:natT.size=1:=rfl
 have el:listT.size=1:=rfl
 have hF:1≤n→∀d,∀t,t.small5→t.size+1≤2*n→(Dk.tn n d g t).1.full≤50000:=fun _ d t ht h2=>tn_full hn d hg ht h2
 have hok:∀d g t,d.ok→(Dk.tn n d g t).2.ok:=fun d g t h=>Dk.tn_ok n d g t h
 rcases small5_cases ht with rfl|rfl|rfl|⟨a,b,ha,hb,h1,rfl|rfl⟩
 ·show AW _ _ _ (Code.seq _ _) _ _ _
  by_cases hp:3≤n
  ·have hp':depth>0:=by omega
   have e:d.fin (Dk.tn n) (decide (3≤n)) g natT=if(d.next 5).1=0 then(sT (Dk.tn n (d.next 5).2 g natT).1,(Dk.tn n (d.next 5).2 g natT).2)
    else if(d.next 5).1=1 then(apT (apT plusT (Dk.tn n (d.next 5).2 g natT).1) (Dk.tn n (Dk.tn n (d.next 5).2 g natT).2 g natT).1,(Dk.tn n (Dk.tn n (d.next 5).2 g natT).2 g natT).2)
    else if(d.next 5).1=2 then(apT (apT subT (Dk.tn n (d.next 5).2 g natT).1) (Dk.tn n (Dk.tn n (d.next 5).2 g natT).2 g natT).1,(Dk.tn n (Dk.tn n (d.next 5).2 g natT).2 g natT).2)
    else(numOf ((d.next 5).2.next 3).1,((d.next 5).2.next 3).2):=by simp[Dk.fin,natT,hp]
   have hd5:=Dk.next_ok hd 5
   have hx5:=next_c d 5 hd (by omega)
   have hx3:=next_c (d.next 5).2 3 hd5 (by omega)
   have a1:=H (d.next 5).2 g natT (depth-1) (by omega) hd5 hg small5_nat (by omega) (by omega) (by omega)
   have a2:=H (Dk.tn n (d.next 5).2 g natT).2 g natT (depth-1) (by omega) (hok _ _ _ hd5) hg small5_nat (by omega) (by omega) (by omega)
   have f1:=hF (by omega) (d.next 5).2 natT small5_nat (by omega)
   have f2:=hF (by omega) (Dk.tn n (d.next 5).2 g natT).2 natT small5_nat (by omega)
   have hs:=n_c 5 [(Dk.tn n (d.next 5).2 g natT).1] (by simp;omega)
   have p1:plusT.full≤18:=by decide
   have p2:subT.full≤36:=by decide
   have ap:=appMake_c plusT [(Dk.tn n (d.next 5).2 g natT).1,(Dk.tn n (Dk.tn n (d.next 5).2 g natT).2 g natT).1] (by simp;omega)
   have asb:=appMake_c subT [(Dk.tn n (d.next 5).2 g natT).1,(Dk.tn n (Dk.tn n (d.next 5).2 g natT).2 g natT).1] (by simp;omega)
   have hnum:=num_c ((d.next 5).2.next 3).1
   repeat'(first|refine M.w6 @hx5 @hx3 @a1 @a2 @plus_c @sub_c ?_|refine M.c2 (ap) ?_|refine M.c2 (asb) ?_|refine M.c2 (hnum) ?_|refine M.c2 (hs) ?_|refine M.bl ?_|refine M.cs ?_ ?_<;>intro h|fail)
   all_goals first
    |exact absurd hp' (by simpa using h)
    |skip
   ·have e:=e.trans (if_pos (by simpa using h))
    (exact M.n2 rh1 (h6:=(by(repeat'(first|exact trivial|refine And.intro ?_ ?_|refine⟨_,U,_,U,_,U,?_⟩|exact VLe.of_eq (by simp[Sto.upd,e,sT])));done)) (h8:=(by simp[tupV,V.wk,V.wks,constV,Ty.view,Tm.view,e,sT])))
   ·rename_i h0
    have e:=e.trans ((if_neg (by simpa using h0)).trans (if_pos (by simpa using h)))
    (exact M.n2 rh1 (h6:=(by(repeat'(first|exact trivial|refine And.intro ?_ ?_|refine⟨_,U,_,U,_,U,?_⟩|exact VLe.of_eq (by simp[Sto.upd,e,apT])));done)) (h8:=(by simp[tupV,V.wk,V.wks,constV,Ty.view,Tm.view,e,apT])))
   ·rename_i h0 h1
    have e:=e.trans ((if_neg (by simpa using h0)).trans ((if_neg (by simpa using h1)).trans (if_pos (by simpa using h))))
    (exact M.n2 rh1 (h6:=(by(repeat'(first|exact trivial|refine And.intro ?_ ?_|refine⟨_,U,_,U,_,U,?_⟩|exact VLe.of_eq (by simp[Sto.upd,e,apT])));done)) (h8:=(by simp[tupV,V.wk,V.wks,constV,Ty.view,Tm.view,e,apT])))
   ·rename_i h0 h1
    have e:=e.trans ((if_neg (by simpa using h0)).trans ((if_neg (by simpa using h1)).trans (if_neg (by simpa using h))))
    (exact M.n2 rh1 (h6:=(by(repeat'(first|exact trivial|refine And.intro ?_ ?_|refine⟨_,U,_,U,_,U,?_⟩|exact VLe.of_eq (by simp[Sto.upd,e])));done)) (h8:=(by simp[tupV,V.wk,V.wks,constV,Ty.view,Tm.view,e])))
  ·have hp':¬depth>0:=by omega
   have e:d.fin (Dk.tn n) (decide (3≤n)) g natT=(numOf (d.next 3).1,(d.next 3).2):=by simp[Dk.fin,natT,hp]
   have hx3:=next_c d 3 hd (by omega)
   have hnum:=num_c (d.next 3).1
   repeat'(first|refine M.v2 @hx3 @hnum ?_|refine M.cs ?_ ?_<;>intro h|fail)
   all_goals first
    |exact absurd hp' (by simpa using h)
    |skip
   (exact M.n2 rh1 (h6:=(by(repeat'(first|exact trivial|refine And.intro ?_ ?_|refine⟨_,U,_,U,_,U,?_⟩|exact VLe.of_eq (by simp[Sto.upd,e])));done)) (h8:=(by simp[tupV,V.wk,V.wks,constV,Ty.view,Tm.view,e])))
 ·show AW _ _ _ (Code.seq _ _) _ _ _
  have hN:=n_c 7 [] (by simp)
  by_cases hp:3≤n
  ·have hp':depth>0:=by omega
   have e:d.fin (Dk.tn n) (decide (3≤n)) g listT=if(d.next 2).1=0 then(nT 8 [(Dk.tn n (d.next 2).2 g natT).1,(Dk.tn n (Dk.tn n (d.next 2).2 g natT).2 g listT).1],(Dk.tn n (Dk.tn n (d.next 2).2 g natT).2 g listT).2) else(nT 7 [],(d.next 2).2):=by simp[Dk.fin,listT,hp]
   have hd2:=Dk.next_ok hd 2
   have hx2:=next_c d 2 hd (by omega)
   have a1:=H (d.next 2).2 g natT (depth-1) (by omega) hd2 hg small5_nat (by omega) (by omega) (by omega)
   have a2:=H (Dk.tn n (d.next 2).2 g natT).2 g listT (depth-1) (by omega) (hok _ _ _ hd2) hg small5_list (by omega) (by omega) (by omega)
   have f1:=hF (by omega) (d.next 2).2 natT small5_nat (by omega)
   have f2:=hF (by omega) (Dk.tn n (d.next 2).2 g natT).2 listT small5_list (by omega)
   have hs:=n_c 8 [(Dk.tn n (d.next 2).2 g natT).1,(Dk.tn n (Dk.tn n (d.next 2).2 g natT).2 g listT).1] (by simp;omega)
   repeat'(first|refine M.w6 @hx2 @a1 @a2 @nat_c @hs @hN ?_|refine M.gs ?_ ?_<;>intro h|refine M.bl ?_|refine M.cs ?_ ?_<;>intro h|fail)
   all_goals first
    |exact absurd hp' (by simpa using h)
    |skip
   ·have e:=e.trans (if_pos (by simpa using h))
    (exact M.n2 rh1 (h6:=(by(repeat'(first|exact trivial|refine And.intro ?_ ?_|refine⟨_,U,_,U,_,U,?_⟩|exact VLe.of_eq (by simp[Sto.upd,e,nT])));done)) (h8:=(by simp[tupV,V.wk,V.wks,constV,Ty.view,Tm.view,e,nT])))
   ·have e:=e.trans (if_neg (by simpa using h))
    (exact M.n2 rh1 (h6:=(by(repeat'(first|exact trivial|refine And.intro ?_ ?_|refine⟨_,U,_,U,_,U,?_⟩|exact VLe.of_eq (by simp[Sto.upd,e,nT])));done)) (h8:=(by simp[tupV,V.wk,V.wks,constV,Ty.view,Tm.view,e,nT])))
  ·have hp':¬depth>0:=by omega
   have e:d.fin (Dk.tn n) (decide (3≤n)) g listT=(nT 7 [],d):=by simp[Dk.fin,listT,hp]
   repeat'(first|refine M.w1 @hN ?_|refine M.gs ?_ ?_<;>intro h|refine M.bl ?_|fail)
   all_goals first
    |exact absurd hp' (by simpa using h)
    |skip
   (exact M.n2 rh1 (h6:=(by(repeat'(first|exact trivial|refine And.intro ?_ ?_|refine⟨_,U,_,U,_,U,?_⟩|exact VLe.of_eq (by simp[Sto.upd,e,nT])));done)) (h8:=(by simp[tupV,V.wk,V.wks,constV,Ty.view,Tm.view,e,nT])))
 ·show AW _ _ _ (Code.seq _ _) _ _ _
  have hN:=n_c 13 [] (by simp)
  have e:d.fin (Dk.tn n) (decide (3≤n)) g unitT=(nT 13 [],d):=by simp[Dk.fin,unitT]
  refine M.v1 @hN ?_
  (exact M.n2 rh1 (h8:=(by simp[tupV,V.wk,V.wks,constV,Ty.view,Tm.view,e,nT])))
 ·have pa:=tyPos a
  have pb:=tyPos b
  have za:=ha.2
  have zb:=hb.2
  have sa:=ha
  have sb:=hb
  have e:d.fin (Dk.tn n) (decide (3≤n)) g (twoT a b)=(nT 10 [(Dk.tn n d g a).1,(Dk.tn n (Dk.tn n d g a).2 g b).1],(Dk.tn n (Dk.tn n d g a).2 g b).2):=by simp[Dk.fin,twoT]
  have a1:=H d g a (depth-1) (by omega) hd hg sa (by omega) (by omega) (by omega)
  have a2:=H (Dk.tn n d g a).2 g b (depth-1) (by omega) (hok _ _ _ hd) hg sb (by omega) (by omega) (by omega)
  have f1:=hF (by omega) d a sa (by omega)
  have f2:=hF (by omega) (Dk.tn n d g a).2 b sb (by omega)
  have hs:=n_c 10 [(Dk.tn n d g a).1,(Dk.tn n (Dk.tn n d g a).2 g b).1] (by simp;omega)
  have l0:0<(twoT a b).args.length:=by simp[twoT]
  have l1:1<(twoT a b).args.length:=by simp[twoT]
  show AW _ _ _ (Code.seq _ _) _ _ _
  refine M.v3 @a1 @a2 @hs ?_
  (exact M.n2 rh1 (h8:=(by simp[tupV,V.wk,V.wks,constV,Ty.view,Tm.view,e,nT])))
 ·have pa:=tyPos a
  have pb:=tyPos b
  have za:=ha.2
  have zb:=hb.2
  have sa:=ha
  have sb:=hb
  have hga:=smalls5_app hg (smalls5_cons sa smalls5_nil)
  have e:d.fin (Dk.tn n) (decide (3≤n)) g (funT a b)=(lmT a (Dk.tn n d (g++[a]) b).1,(Dk.tn n d (g++[a]) b).2):=by simp[Dk.fin,funT]
  have a1:=H d (g++[a]) b (depth-1) (by omega) hd hga sb (by omega) (by omega) (by simp;omega)
  have f1:=tn_full hn d hga sb (by omega)
  have hlo:=longer_c g [a] (by simp;omega)
  have hs:=t_c 2 a [(Dk.tn n d (g++[a]) b).1] (by simp;omega) (by omega)
  have l0:0<(funT a b).args.length:=by simp[funT]
  have l1:1<(funT a b).args.length:=by simp[funT]
  show AW _ _ _ (Code.seq _ _) _ _ _
  refine M.v3 @a1 @hlo @hs ?_
  (exact M.n2 rh1 (h8:=(by simp[tupV,V.wk,V.wks,constV,Ty.view,Tm.view,e,lmT])))
theorem mid5_c(n:Nat)(H:HT5 n)(hn:n≤5)(depth:Int)(hdep:depth=(n:Int)-2)(d:Dk)(hd:d.ok)(g:List Ty)(t:Ty)(hg:smalls5 g)(ht:t.small5)(h0:t.size≤2*n+1)(hl:g.length+3*(n+1)≤10000):
 AW E Tryz.f10.ntmps 1 (partAt [1,1,1] (bodyOf Tryz.f10)) [(0,.ptr 0 0),(1,.s .ty g),(3,.i depth),(6,.ptr 1 0),(8,.ptr 2 0)]
  ⟨3,[(0,.var d.cells),(1,.var t.view),(2,.var [.i 0,.i 0,.i 0,.slice .nil (.t .ty []),.slice .nil (.t .tm [])])]⟩
  (retQ E 1 Tryz.f10.results.toList (.agg (d.mid (Dk.tn n) (decide (3≤n)) g t).1.view) ⟨1,[(0,.var (d.mid (Dk.tn n) (decide (3≤n)) g t).2.cells)]⟩):=by
 have hok:∀d g t,d.ok→(Dk.tn n d g t).2.ok:=fun d g t h=>Dk.tn_ok n d g t h
 by_cases hp:3≤n
 case neg=>
  have hp':¬depth>0:=by omega
  have e:d.mid (Dk.tn n) (decide (3≤n)) g t=d.fin (Dk.tn n) (decide (3≤n)) g t:=by simp[Dk.mid,hp]
  show AW _ _ _ (Code.seq _ _) _ _ _
  repeat'(first|refine M.o0 ?_|refine M.z1 29 ?_|refine M.cs ?_ ?_<;>intro h|refine M.gk ?_|fail)
  ·exact absurd (by simpa using h) hp'
  ·rw [e];exact AW.weak (M.W rh3) (fin5_c n H hn depth hdep d hd g t hg ht h0 hl)
 have hp':depth>0:=by omega
 have hx8:=next_c d 8 hd (by omega)
 have e:=Dk.mid_pos (rec:=Dk.tn n) (d:=d) (g:=g) (t:=t) (pos:=decide (3≤n)) (by simpa using hp)
 have hD:=Dk.next_ok hd 8
 have tp:AC E 25 [.ptr 0 0,.i 0] ⟨1,[(0,.var (d.next 8).2.cells)]⟩ (.agg ((d.next 8).2.type 0).1.view) ⟨1,[(0,.var ((d.next 8).2.type 0).2.cells)]⟩:=type_c 0 0 (d.next 8).2 (by omega) (by omega) (by omega) hD
 have hS:=Dk.type0 (d.next 8).2
 have hD1:=Dk.type_ok 0 _ hD
 generalize (d.next 8).1=kk at*
 generalize (d.next 8).2=W at*
 generalize (W.type 0).1=S at*
 generalize (W.type 0).2=D1 at*
 have hSs:=small5_one hS.1 hS.2
 have hF:∀d g t,smalls5 g→t.small5→(Dk.tn n d g t).1.full≤50000:=fun d g t hg ht=>tn_full hn d hg ht (by have:=ht.2;omega)
 have hH:∀d g t,d.ok→smalls5 g→t.small5→g.length+3*n≤10000→AC E 10 [.ptr 0 0,.s .ty g,.agg t.view,.i (depth-1)] ⟨1,[(0,.var d.cells)]⟩ (.agg (Dk.tn n d g t).1.view) ⟨1,[(0,.var (Dk.tn n d g t).2.cells)]⟩:=
  fun d g t h1 h2 h3 h4=>H d g t (depth-1) (by omega) h1 h2 h3 (by omega) (by have:=h3.2;omega) h4
 have hts:=ht.2
 have ht1:t.size<1000000:=by omega
 have gS:=smalls5_app hg (smalls5_cons hSs smalls5_nil)
 have g2:=smalls5_app hg (smalls5_cons small5_nat (smalls5_cons ht smalls5_nil))
 have g3:=smalls5_app hg (smalls5_cons small5_nat (smalls5_cons small5_list (smalls5_cons ht smalls5_nil)))
 show AW _ _ _ (Code.seq _ _) _ _ _
 by_cases k0:kk=0
 ·subst k0
  simp only[if_true] at e
  have a:=hH D1 (g++[S]) t hD1 gS ht (by simp;omega)
  have b:=hH _ g S (hok _ (g++[S]) t hD1) hg hSs (by omega)
  have fa:=hF D1 (g++[S]) t gS ht
  have fb:=hF (Dk.tn n D1 (g++[S]) t).2 g S hg hSs
  have lo:=longer_c g [S] (by simp;omega)
  have c1:=t_c 2 S [(Dk.tn n D1 (g++[S]) t).1] (by simp;omega) (by omega)
  have c2:=n_c 3 [lmT S (Dk.tn n D1 (g++[S]) t).1,(Dk.tn n (Dk.tn n D1 (g++[S]) t).2 g S).1] (by simp[lmT,Tm.full,Tm.fulls];omega)
  repeat'(first|refine M.o6 @hx8 @tp @a @b @lo @c1 ?_|refine M.c2 (c2) ?_|refine M.z1 29 ?_|refine M.bl ?_|refine M.cs ?_ ?_<;>intro h|refine M.gk ?_|fail)
  ·(exact M.n2 rh1 (h6:=(by(repeat'(first|exact trivial|refine And.intro ?_ ?_|refine⟨_,U,_,U,_,U,?_⟩|exact VLe.of_eq (by simp[Sto.upd,e,Dk.m0,apT])));done)) (h8:=(by simp[tupV,V.wk,V.wks,constV,Ty.view,Tm.view,e,Dk.m0,apT])))
  ·exact absurd hp' (by simpa using h)
 rw[if_neg k0] at e
 by_cases k1:kk=1
 ·subst k1
  rw[if_pos rfl] at e
  have a:=hH D1 g t hD1 hg ht (by omega)
  have b:=hH _ g S (hok _ g t hD1) hg hSs (by omega)
  have fa:=hF D1 g t hg ht
  have fb:=hF (Dk.tn n D1 g t).2 g S hg hSs
  have c1:=n_c 10 [(Dk.tn n D1 g t).1,(Dk.tn n (Dk.tn n D1 g t).2 g S).1] (by simp;omega)
  have c2:=n_c 11 [nT 10 [(Dk.tn n D1 g t).1,(Dk.tn n (Dk.tn n D1 g t).2 g S).1]] (by simp[nT,Tm.full,Tm.fulls,Ty.size,Ty.sizes];omega)
  repeat'(first|refine M.o6 @hx8 @tp @a @b @c1 @c2 ?_|refine M.z1 29 ?_|refine M.bl ?_|refine M.cs ?_ ?_<;>intro h|refine M.gk ?_|fail)
  ·(exact M.n2 rh1 (h6:=(by(repeat'(first|exact trivial|refine And.intro ?_ ?_|refine⟨_,U,_,U,_,U,?_⟩|exact VLe.of_eq (by simp[Sto.upd,e,Dk.m1,nT])));done)) (h8:=(by simp[tupV,V.wk,V.wks,constV,Ty.view,Tm.view,e,Dk.m1,nT])))
  ·exact absurd hp' (by simpa using h)
 rw[if_neg k1] at e
 by_cases k2:kk=2
 ·subst k2
  rw[if_pos rfl] at e
  have a:=hH W (g++[natT,t]) t hD g2 ht (by simp;omega)
  have b:=hH _ g t (hok _ (g++[natT,t]) t hD) hg ht (by omega)
  have hdb:=hok _ g t (hok _ (g++[natT,t]) t hD)
  have fa:=hF W (g++[natT,t]) t g2 ht
  have fb:=hF (Dk.tn n W (g++[natT,t]) t).2 g t hg ht
  have lo:=longer_c g [natT,t] (by simp;omega)
  have nx:=next_c _ 3 hdb (by omega)
  have nu:=num_c ((Dk.tn n (Dk.tn n W (g++[natT,t]) t).2 g t).2.next 3).1
  have fn:=numOf_full (Dk.tn n (Dk.tn n W (g++[natT,t]) t).2 g t).2
  have en:natT.size=1:=rfl
  have c1:=t_c 2 t [(Dk.tn n W (g++[natT,t]) t).1] (by simp;omega) (by omega)
  have c2:=t_c 2 natT [lmT t (Dk.tn n W (g++[natT,t]) t).1] (by simp[lmT,Tm.full,Tm.fulls];omega) (by omega)
  have c3:=t_c 6 t [(Dk.tn n (Dk.tn n W (g++[natT,t]) t).2 g t).1,lmT natT (lmT t (Dk.tn n W (g++[natT,t]) t).1),numOf ((Dk.tn n (Dk.tn n W (g++[natT,t]) t).2 g t).2.next 3).1] (by simp[lmT,Tm.full,Tm.fulls];omega) (by omega)
  repeat'(first|refine M.o6 @nat_c @hx8 @a @b @lo @nx ?_|refine M.c2 (nu) ?_|refine M.c2 (c1) ?_|refine M.c2 (c2) ?_|refine M.c2 (c3) ?_|refine M.z1 29 ?_|refine M.bl ?_|refine M.cs ?_ ?_<;>intro h|refine M.gk ?_|fail)
  ·(exact M.n2 rh1 (h6:=(by(repeat'(first|exact trivial|refine And.intro ?_ ?_|refine⟨_,U,_,U,_,U,?_⟩|exact VLe.of_eq (by simp[Sto.upd,e,Dk.m2,hT])));done)) (h8:=(by simp[tupV,V.wk,V.wks,constV,Ty.view,Tm.view,e,Dk.m2,hT])))
  ·exact absurd hp' (by simpa using h)
 rw[if_neg k2] at e
 by_cases k3:kk=3
 ·subst k3
  rw[if_pos rfl] at e
  have a:=hH W (g++[natT,listT,t]) t hD g3 ht (by simp;omega)
  have b:=hH _ g t (hok _ (g++[natT,listT,t]) t hD) hg ht (by omega)
  have c:=hH _ g listT (hok _ g t (hok _ (g++[natT,listT,t]) t hD)) hg small5_list (by omega)
  have fa:=hF W (g++[natT,listT,t]) t g3 ht
  have fb:=hF (Dk.tn n W (g++[natT,listT,t]) t).2 g t hg ht
  have fc:=hF (Dk.tn n (Dk.tn n W (g++[natT,listT,t]) t).2 g t).2 g listT hg small5_list
  have lo:=longer_c g [natT,listT,t] (by simp;omega)
  have en:natT.size=1:=rfl
  have el:listT.size=1:=rfl
  have c1:=t_c 2 t [(Dk.tn n W (g++[natT,listT,t]) t).1] (by simp;omega) (by omega)
  have c2:=t_c 2 listT [lmT t (Dk.tn n W (g++[natT,listT,t]) t).1] (by simp[lmT,Tm.full,Tm.fulls];omega) (by omega)
  have c3:=t_c 2 natT [lmT listT (lmT t (Dk.tn n W (g++[natT,listT,t]) t).1)] (by simp[lmT,Tm.full,Tm.fulls];omega) (by omega)
  have c4:=t_c 9 t [(Dk.tn n (Dk.tn n W (g++[natT,listT,t]) t).2 g t).1,lmT natT (lmT listT (lmT t (Dk.tn n W (g++[natT,listT,t]) t).1)),(Dk.tn n (Dk.tn n (Dk.tn n W (g++[natT,listT,t]) t).2 g t).2 g listT).1] (by simp[lmT,Tm.full,Tm.fulls];omega) (by omega)
  repeat'(first|refine M.o6 @nat_c @list_c @hx8 @a @b @c ?_|refine M.c2 (lo) ?_|refine M.c2 (c1) ?_|refine M.c2 (c2) ?_|refine M.c2 (c3) ?_|refine M.c2 (c4) ?_|refine M.z1 29 ?_|refine M.bl ?_|refine M.cs ?_ ?_<;>intro h|refine M.gk ?_|fail)
  ·(exact M.n2 rh1 (h6:=(by(repeat'(first|exact trivial|refine And.intro ?_ ?_|refine⟨_,U,_,U,_,U,?_⟩|exact VLe.of_eq (by simp[Sto.upd,e,Dk.m3,hT])));done)) (h8:=(by simp[tupV,V.wk,V.wks,constV,Ty.view,Tm.view,e,Dk.m3,hT])))
  ·exact absurd hp' (by simpa using h)
 rw[if_neg k3] at e
 by_cases k4:kk=4
 ·subst k4
  rw[if_pos rfl] at e
  have a:=hH D1 g S hD1 hg hSs (by omega)
  have b:=hH _ g t (hok _ g S hD1) hg ht (by omega)
  have fa:=hF D1 g S hg hSs
  have fb:=hF (Dk.tn n D1 g S).2 g t hg ht
  have c1:=n_c 10 [(Dk.tn n D1 g S).1,(Dk.tn n (Dk.tn n D1 g S).2 g t).1] (by simp;omega)
  have c2:=n_c 12 [nT 10 [(Dk.tn n D1 g S).1,(Dk.tn n (Dk.tn n D1 g S).2 g t).1]] (by simp[nT,Tm.full,Tm.fulls,Ty.size,Ty.sizes];omega)
  repeat'(first|refine M.o6 @hx8 @tp @a @b @c1 @c2 ?_|refine M.z1 29 ?_|refine M.bl ?_|refine M.cs ?_ ?_<;>intro h|refine M.gk ?_|fail)
  ·(exact M.n2 rh1 (h6:=(by(repeat'(first|exact trivial|refine And.intro ?_ ?_|refine⟨_,U,_,U,_,U,?_⟩|exact VLe.of_eq (by simp[Sto.upd,e,Dk.m4,nT])));done)) (h8:=(by simp[tupV,V.wk,V.wks,constV,Ty.view,Tm.view,e,Dk.m4,nT])))
  ·exact absurd hp' (by simpa using h)
 rw[if_neg k4] at e
 by_cases k5:kk=5
 ·subst k5
  rw[if_pos rfl] at e
  repeat'(first|refine M.o1 @hx8 ?_|refine M.z1 29 ?_|refine M.bl ?_|refine M.cs ?_ ?_<;>intro h|refine M.gk ?_|fail)
  all_goals first
   |exact absurd hp' (by simpa using h)
   |skip
  refine M.rp g.length (fun m=>∀j,j<m→isFn g t j=false)
   (fun m=>([(0,.ptr 0 0),(1,.s .ty g),(3,.i depth),(6,.ptr 1 0),(8,.ptr 2 0),(176,.i g.length),(177,.i m)],⟨3,[(0,.var W.cells),(1,.var t.view),(2,.var [.i 0,.i 0,.i 0,.slice .nil (.t .ty []),.slice .nil (.t .tm [])])]⟩))
   (by intro j hj;omega) (M.W rh3) ?_ ?_
  ·intro m hm hP
   have hm2:g.length-1-m<g.length:=by omega
   have hat:at0 g (g.length-1-m)=g[g.length-1-m]:=at0_lt hm2
   have hgs:(g[g.length-1-m]).small5:=hg _ (List.getElem_mem hm2)
   have hstep:∀b,isFn g t m=b→b=false→∀j,j<m+1→isFn g t j=false:=fun b hb hf j hj=>by
    by_cases hjm:j=m
    ·rw [hjm,hb,hf]
    ·exact hP j (by omega)
   have hfn:isFn g t m=((g[g.length-1-m]).kind==4&&decide (at0 (g[g.length-1-m]).args 1=t)):=by simp only[isFn,hat]
   by_cases hk4:(g[g.length-1-m]).kind=4
   ·obtain ⟨p,q,hpq⟩:=Ty.args_two hgs.1 (.inr hk4)
    have l0:0<(g[g.length-1-m]).args.length:=by rw[hpq];simp
    have l1:1<(g[g.length-1-m]).args.length:=by rw[hpq];simp
    have sm:=sameTy_c _ ((g[g.length-1-m]).args[1]) t (Nat.le_refl _) (by
     have h1:=lsum_mem Ty.size (List.getElem_mem l1)
     have h2:=(g[g.length-1-m]).size_eq
     have h3:=hgs.2
     omega)
    have ha1:at0 (g[g.length-1-m]).args 1=(g[g.length-1-m]).args[1]:=at0_lt l1
    have ha0:at0 (g[g.length-1-m]).args 0=(g[g.length-1-m]).args[0]:=at0_lt l0
    rw[ha1,beq_iff_eq.2 hk4,Bool.true_and] at hfn
    have sm0:((g[g.length-1-m]).args[0]).small5:=by
     have h1:=lsum_mem Ty.size (List.getElem_mem l0)
     have h2:=(g[g.length-1-m]).size_eq
     have h3:=hgs.2
     have h4:=hgs.1
     rw[Ty.shape_eq,Bool.and_eq_true] at h4
     exact⟨List.all_eq_true.1 h4.2 _ (List.getElem_mem l0),by omega⟩
    have a:=hH W g ((g[g.length-1-m]).args[0]) hD hg sm0 (by omega)
    have fa:=hF W g ((g[g.length-1-m]).args[0]) hg sm0
    have vc:=var_c m
    have c1:=n_c 3 [vT m,(Dk.tn n W g ((g[g.length-1-m]).args[0])).1] (by simp[vT,Tm.full,Tm.fulls,Ty.size,Ty.sizes];omega)
    repeat'(first|refine M.o0 ?_|refine M.z1 29 ?_|refine M.gk ?_|fail)
    refine L.ixt (g.length-1-m) rfl rfl rfl rfl (by omega) rfl rfl hm2 ?_
    repeat'(first|refine M.o4 @sm @vc @a @c1 ?_|refine M.gs ?_ ?_<;>intro h|refine M.z1 29 ?_|refine M.cs ?_ ?_<;>intro h|refine M.gk ?_|fail)
    ·have hf:isFn g t m=true:=hfn.trans h
     have e2:W.m5 (Dk.tn n) (decide (3≤n)) g t=(apT (vT m) (Dk.tn n W g ((g[g.length-1-m]).args[0])).1,(Dk.tn n W g ((g[g.length-1-m]).args[0])).2):=by unfold Dk.m5;rw[findF_at hm hP hf];simp only[hat,ha0]
     rw[e2] at e
     (exact M.n2 rh1 (h6:=(by(repeat'(first|exact trivial|refine And.intro ?_ ?_|refine⟨_,U,_,U,_,U,?_⟩|exact VLe.of_eq (by simp[Sto.upd,e,apT,vT])));done)) (h8:=(by simp[tupV,V.wk,V.wks,constV,Ty.view,Tm.view,e,apT,vT])))
    ·exact ⟨rfl,hstep _ hfn h,(M.W rh3)⟩
    ·exact absurd hk4 (by simpa using h)
   ·repeat' (first|refine M.o0 ?_|refine M.z1 29 ?_|refine M.gk ?_|fail)
    refine L.ixt (g.length-1-m) rfl rfl rfl rfl (by omega) rfl rfl hm2 ?_
    repeat'(first|refine M.o0 ?_|refine M.gs ?_ ?_<;>intro h|refine M.z1 29 ?_|refine M.gk ?_|fail)
    ·exact absurd (by simpa using h) hk4
    ·have hk4':((g[g.length-1-m]).kind==4)=false:=by simpa using hk4
     rw[hk4',Bool.false_and] at hfn
     exact⟨rfl,hstep _ hfn rfl,(M.W rh3)⟩
  ·intro hP
   repeat'(first|with_reducible refine K.tN ?_|with_reducible refine K.bN ?_)
   have e2:W.m5 (Dk.tn n) (decide (3≤n)) g t=W.fin (Dk.tn n) (decide (3≤n)) g t:=by unfold Dk.m5;rw[findF_none' hP]
   rw[e,e2];exact AW.weak (M.W rh3) (fin5_c n H hn depth hdep W hD g t hg ht h0 hl)
 rw[if_neg k5] at e
 have n0:(kk==0)=false:=by simpa using k0
 repeat'(first|refine M.o1 @hx8 ?_|refine M.z1 29 ?_|refine M.bl ?_|refine M.cs ?_ ?_<;>intro h|refine M.gk ?_|fail)
 all_goals first
  |exact absurd hp' (by simpa using h)
  |exact absurd (by simpa using h) k0
  |exact absurd (by simpa using h) k1
  |exact absurd (by simpa using h) k2
  |exact absurd (by simpa using h) k3
  |exact absurd (by simpa using h) k4
  |exact absurd (by simpa using h) k5
  |(rw[e];exact AW.weak (M.W rh3) (fin5_c n H hn depth hdep W hD g t hg ht h0 hl))
theorem gen5_c(n:Nat)(H:HT5 n)(hn:n≤5)(depth:Int)(hdep:depth=(n:Int)-2)(d:Dk)(hd:d.ok)(g:List Ty)(t:Ty)(hg:smalls5 g)(ht:t.small5)(h0:t.size≤2*n+1)(hl:g.length+3*(n+1)≤10000):
 AC E 10 [.ptr 0 0,.s .ty g,.agg t.view,.i depth] ⟨1,[(0,.var d.cells)]⟩ (.agg (d.gen (Dk.tn n) (decide (3≤n)) g t).1.view) ⟨1,[(0,.var (d.gen (Dk.tn n) (decide (3≤n)) g t).2.cells)]⟩:=by
 have hsum:=smalls5_sum hg
 have hvl:(varsT g t).length≤g.length:=by
  simp only[varsT,List.length_map]
  have:=List.length_filter_le (fun i=>decide (g[g.length-1-i]? =some t)) (List.range g.length)
  simpa using this
 have hv:=vars_c g t (by omega)
 have hx3:=next_c d 3 hd (by omega)
 have hd3:=Dk.next_ok hd 3
 have hxl:=next_c (d.next 3).2 (varsT g t).length hd3 (by omega)
 have m1:=mid5_c n H hn depth hdep d hd g t hg ht h0 hl
 have m2:=mid5_c n H hn depth hdep (d.next 3).2 hd3 g t hg ht h0 hl
 have hvar:=var_c
 by_cases he:varsT g t=[]
 ·have e:d.gen (Dk.tn n) (decide (3≤n)) g t=d.mid (Dk.tn n) (decide (3≤n)) g t:=by unfold Dk.gen;rw[if_pos he]
  have hl0:¬(((varsT g t).length:Int)>0):=by rw[he];simp
  refine M.F Tryz.func10 ?_
  repeat'(first|refine M.o2 @hv @hx3 ?_|refine M.gs ?_ ?_<;>intro h|refine M.z1 4 ?_|refine M.cs ?_ ?_<;>intro h|refine M.gk ?_|fail)
  ·rename_i h1;exact absurd (by simpa using h1) hl0
  ·rename_i h1;exact absurd (by simpa using h1) hl0
  ·rw [e];exact AW.weak (M.W rh3) m1
 ·have e:d.gen (Dk.tn n) (decide (3≤n)) g t=if 0<(d.next 3).1 then(vT ((varsT g t).getD ((d.next 3).2.next (varsT g t).length).1.toNat 0),((d.next 3).2.next (varsT g t).length).2) else(d.next 3).2.mid (Dk.tn n) (decide (3≤n)) g t:=by unfold Dk.gen;rw[if_neg he]
  have hlp:0<(varsT g t).length:=List.length_pos_iff.2 he
  have hl0:((varsT g t).length:Int)>0:=by omega
  have hbl:=Dk.next_bd (d.next 3).2 (varsT g t).length hl0
  have hlt:((d.next 3).2.next (varsT g t).length).1.toNat<(varsT g t).length:=by omega
  refine M.F Tryz.func10 ?_
  repeat'(first|refine M.o3 @hv @hx3 @hxl ?_|refine M.gs ?_ ?_<;>intro h|refine M.z1 4 ?_|refine M.cs ?_ ?_<;>intro h|refine M.gk ?_|fail)
  ·refine L.ixt ((d.next 3).2.next (varsT g t).length).1.toNat rfl rfl rfl rfl (by omega) rfl rfl hlt ?_
   have eg:(varsT g t).getD ((d.next 3).2.next (varsT g t).length).1.toNat 0=(varsT g t)[((d.next 3).2.next (varsT g t).length).1.toNat]:=by simp[List.getD_eq_getElem?_getD,hlt]
   rw[if_pos (by simpa using h),eg] at e
   repeat'(first|refine M.w0 ?_|refine M.c2 (hvar _) ?_|fail)
   (exact M.n2 rh1 (h6:=(by(repeat'(first|exact trivial|refine And.intro ?_ ?_|refine⟨_,U,_,U,_,U,?_⟩|exact VLe.of_eq (by simp[Sto.upd,e,vT])));done)) (h8:=(by simp[tupV,V.wk,V.wks,constV,Ty.view,Tm.view,e,vT])))
  ·rw [e,if_neg (by simpa using h)];exact AW.weak (M.W rh3) m2
  ·exact absurd hl0 (by simpa using h)
theorem term5_c:∀n,n≤6→HT5 n
 |0,_=>fun d g t k _ _ _ _ h=>by omega
 |n+1,hn=>fun d g t k hk hd hg ht _ h1 hl=>gen5_c n (term5_c n (by omega)) (by omega) k (by omega) d hd g t hg ht (by omega) hl
end Go.Ab
