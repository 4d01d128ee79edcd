/- A part of this seat's proofs. No conditions. -/
import Derived.Test.YtlikcaapgaalhaaGreatDoorES3
namespace Go.Ab
open Go Go.Proofs
set_option maxRecDepth 100000
set_option maxHeartbeats 4000000
set_option linter.all false
theorem tof_c(k:Int)(l:List Tm):PC E 53 [.i k,.s .tm l] (.agg (Tm.mk k 0 (.mk 0 []) l).view):=by
 refine M.F Tryz.func53 ?_
 refine M.w0 ?_
 simp[tupV,V.wk,V.wks,constV,Ty.view,Tm.view]
theorem ownTm_c:∀(b:Nat) (t:Tm),t.full≤b→b<1099511627776→PC E 43 [.agg t.view] (.agg t.view):=by
 intro b
 induction b with
 |zero=>intro t h;have:=t.full_pos;omega
 |succ b ih=>
 intro t hsz hb
 have hsz':=Tm.full_eq t
 have hlen:=lsum_len Tm.full Tm.full_pos t.args
 have hty:=ownTy_c _ t.ty (Nat.le_refl _) (by omega)
 refine M.F Tryz.func43 ?_
 refine M.w1 @hty ?_
 refine M.rt t.args.length
  (fun m=>([(1,.ptr 0 0),(2,.ptr 1 0),(3,.ptr 2 0),(15,.s .tm t.args),(16,.i t.args.length),(17,.i m)],⟨4,[(0,.var t.view),(1,.var [.i 0,.i 0,.i 0,.slice .nil (.t .ty []),.slice .nil (.t .tm [])]),(2,.var [.i t.kind,.i t.index,.i t.ty.kind,.s .ty t.ty.args,.slice (.own 3) (.t .tm (t.args.take m))]),(3,.row)]⟩))
  (M.W rn3) ?_ ?_
 ·intro m hm hP
  have hs2:=lsum_mem Tm.full (List.getElem_mem hm)
  repeat'(first|refine M.w0 ?_|refine M.c2 (ih _ ?_ ?_) ?_|exact M.le|exact M.lt|fail)
  exact⟨rfl,trivial,(M.W [some 0,some 1,some 2,some 5] (he:=(by(repeat'(first|exact trivial|exact Or.inr ⟨_,U,rfl⟩|refine And.intro ?_ ?_|refine⟨_,U,_,U,_,U,?_⟩|exact VLe.refl _|exact VLe.of_eq (by simp[Sto.upd,List.take_append_getElem])));done)))⟩
 ·intro hP
  refine M.w0 ?_
  simp[tupV,V.wk,V.wks,constV,Ty.view,Tm.view]
theorem quantifier_c(k:Int):PC E 94 [.i k] (.bool (quantK k)):=by
 refine M.F Tryz.func94 ?_
 repeat'(first|refine M.w0 ?_|refine M.gs ?_ ?_<;>intro h|fail)
 all_goals(simp_all[tupV,V.wk,V.wks,constV,quantK];try omega)
theorem formed_c(f:Fm)(ht:f.ty.size<1099511627776):PC E 186 [.agg f.view] (.bool f.head):=by
 have h1:=noType_c f.ty
 have h2:=checkTy_c f.ty ht
 have hok:=Ty.ok_err f.ty
 obtain⟨k,h,ts,fs⟩:=f
 simp only[Fm.ty_mk] at*
 have hk:k=1∨k=2∨k=3∨k=4∨k=5∨k=6∨k=7∨(k≠1∧k≠2∧k≠3∧k≠4∧k≠5∧k≠6∧k≠7):=by omega
 rcases hk with rfl|rfl|rfl|rfl|rfl|rfl|rfl|hk
 ·cases hn:h.isNo with
  |false=>
   rw[hn] at h1
   refine M.F Tryz.func186 ?_
   refine M.v1 @h1 ?_
   simp[tupV,V.wk,V.wks,constV,Fm.head,hn]
  |true=>
   rw[hn] at h1
   refine M.F Tryz.func186 ?_
   repeat'(first|refine M.w1 @h1 ?_|refine M.gs ?_ ?_<;>intro h|refine M.bl ?_|fail)
   ·have h':ts.length=2:=by simp at h;omega
    have e:((fs.length:Int)==0)=(fs.length==0):=by rw[Bool.eq_iff_iff];simp
    simp[tupV,V.wk,V.wks,constV,Fm.head,hn,h',e]
   ·have h':¬ts.length=2:=by simp at h;omega
    simp[tupV,V.wk,V.wks,constV,Fm.head,hn,h']
 all_goals first
  |(cases hn:h.isNo with
    |false=>
     rw[hn] at h1
     refine M.F Tryz.func186 ?_
     repeat'(first|refine M.v1 @h1 ?_|refine M.cs ?_ ?_<;>intro h|fail)
     simp[tupV,V.wk,V.wks,constV,Fm.head,hn]
     done
    |true=>
     rw[hn] at h1
     refine M.F Tryz.func186 ?_
     repeat'(first|refine M.w1 @h1 ?_|refine M.gs ?_ ?_<;>intro h|refine M.bl ?_|fail)
     ·have h':ts.length=0:=by simp at h;simp[h]
      have e:((fs.length:Int)==2)=(fs.length==2):=by rw[Bool.eq_iff_iff];simp;omega
      simp[tupV,V.wk,V.wks,constV,Fm.head,hn,h',e]
     ·have h':¬ts.length=0:=by simp at h;simpa using h
      simp[tupV,V.wk,V.wks,constV,Fm.head,hn,h']
      done)
  |(by_cases hn:h.err=0
    ·rw [hn] at h2
     refine M.F Tryz.func186 ?_
     repeat'(first|refine M.w1 @h2 ?_|refine M.gs ?_ ?_<;>intro h|refine M.bl ?_|refine M.cs ?_ ?_<;>intro h|fail)
     ·have h':ts.length=0:=by simp at h;simp[h]
      have e:((fs.length:Int)==1)=(fs.length==1):=by rw[Bool.eq_iff_iff];simp;omega
      simp[tupV,V.wk,V.wks,constV,Fm.head,hok,hn,h',e]
     ·have h':¬ts.length=0:=by simp at h;simpa using h
      simp[tupV,V.wk,V.wks,constV,Fm.head,hok,hn,h']
      done
    ·have hb:(h.err !=0)=true:=by simpa using hn
     refine M.F Tryz.func186 ?_
     repeat'(first|refine M.w1 @h2 ?_|refine M.gs ?_ ?_<;>intro h|refine M.bl ?_|refine M.cs ?_ ?_<;>intro h|fail)
     ·simp [tupV,V.wk,V.wks,constV,Fm.head,hok,hn]
     all_goals(exfalso;simp_all;done))
  |(refine M.F Tryz.func186 ?_
    repeat'(first|refine M.v0 ?_|refine M.cs ?_ ?_<;>intro h|fail)
    all_goals first
     |(exfalso;simp_all;done)
     |(simp[tupV,V.wk,V.wks,constV,Fm.head,hk];done))
theorem formulaNodes_c:∀(b:Nat) (f:Fm),f.full≤b→b<1099511627776→PC E 131 [.agg f.view] (.tup [.i f.nodes,.bool f.shape]):=by
 intro b
 induction b with
 |zero=>intro f h;have:=f.full_pos;omega
 |succ b ih=>
 intro f hsz hb
 have hsz':=f.full_eq
 have hse:=f.size_eq
 have hle:=f.size_le_full
 have hlen:=lsum_len Fm.full Fm.full_pos f.args
 have hlen2:=lsum_len Tm.full Tm.full_pos f.terms
 have hsh:=f.shape_eq
 have h1:=formed_c f (by omega)
 cases hh:f.head with
 |false=>
  rw[hh] at h1 hsh
  have e:f.shape=false:=by rw[hsh];rfl
  rw[show f.nodes=0 by simp[Fm.nodes,e],e]
  refine M.F Tryz.func131 ?_
  refine M.w1 @h1 ?_
  rfl
 |true=>
 rw[hh] at h1 hsh
 refine M.F Tryz.func131 ?_
 refine M.w1 @h1 ?_
 refine M.rp f.terms.length (fun m=>∀j (hj:j<f.terms.length),j<m→(f.terms[j]).shape=true)
  (fun m=>([(1,.ptr 0 0),(4,.i (1+((f.terms.take m).map Tm.size).sum:Nat)),(17,.s .tm f.terms),(18,.i f.terms.length),(19,.i m)],⟨1,[(0,.var f.view)]⟩))
  (fun j hj h=>by omega) (M.W rh1) ?_ ?_
 ·intro m hm hP
  have hs1:=lsum_take Tm.size f.terms m hm
  have hs2:=lsum_mem Tm.full (List.getElem_mem hm)
  have hs3:=lsum_take_le Tm.size f.terms m
  have hs4:=lsum_le (f:=Tm.size) (g:=Tm.full) f.terms fun x _=>x.size_le_full
  have hs5:=f.terms[m].size_le_full
  have hc:=termNodes_c _ f.terms[m] (Nat.le_refl _) (by omega)
  cases hx:(f.terms[m]).shape with
  |false=>
   rw[show nodesM f.terms[m]= .tup [.i 0,.bool false] by simp[nodesM,Tm.nodes,hx]] at hc
   have e:f.shape=false:=by rw[hsh,all_not Tm.shape hm hx];rfl
   rw[show f.nodes=0 by simp[Fm.nodes,e],e]
   refine M.w1 @hc ?_
   rfl
  |true=>
   rw[show nodesM f.terms[m]= .tup [.i f.terms[m].size,.bool true] by simp[nodesM,Tm.nodes,hx]] at hc
   refine M.w1 @hc ?_
   refine⟨rfl,all_step (p:=fun t=>Tm.shape t=true) hm hP hx,?_⟩
   simp only[hs1]
   exact(M.W rh1 (hf:=(by(repeat'(first|exact trivial|refine And.intro ?_ ?_|refine⟨_,U,_,U,?_⟩|exact VLe.refl _|exact VLe.of_eq (by simp[Sto.upd,Int.natCast_add,Int.add_assoc])));done)))
 ·intro hP
  have hpt:=all_of Tm.shape f.terms fun j hj=>hP j hj hj
  rw[hpt] at hsh
  simp only[List.take_length]
  refine M.w0 ?_
  refine M.rp f.args.length (fun m=>∀j (hj:j<f.args.length),j<m→(f.args[j]).shape=true)
   (fun m=>([(1,.ptr 0 0),(4,.i (1+(f.terms.map Tm.size).sum+((f.args.take m).map Fm.size).sum:Nat)),(35,.s .fm f.args),(36,.i f.args.length),(37,.i m)],⟨1,[(0,.var f.view)]⟩))
   (fun j hj h=>by omega) (M.W rh1) ?_ ?_
  ·intro m hm hP
   have hs0:=lsum_le (f:=Tm.size) (g:=Tm.full) f.terms fun x _=>x.size_le_full
   have hs1:=lsum_take Fm.size f.args m hm
   have hs2:=lsum_mem Fm.full (List.getElem_mem hm)
   have hs3:=lsum_take_le Fm.size f.args m
   have hs4:=lsum_le (f:=Fm.size) (g:=Fm.full) f.args fun x _=>x.size_le_full
   have hs5:=f.args[m].size_le_full
   have hc:=ih f.args[m] (by omega) (by omega)
   cases hx:(f.args[m]).shape with
   |false=>
    rw[hx,show(f.args[m]).nodes=0 by simp[Fm.nodes,hx]] at hc
    have e:f.shape=false:=by rw[hsh,all_not Fm.shape hm hx];rfl
    rw[show f.nodes=0 by simp[Fm.nodes,e],e]
    refine M.w1 @hc ?_
    rfl
   |true=>
    rw[hx,show(f.args[m]).nodes=(f.args[m]).size by simp[Fm.nodes,hx]] at hc
    refine M.w1 @hc ?_
    refine⟨rfl,all_step (p:=fun t=>Fm.shape t=true) hm hP hx,?_⟩
    simp only[hs1]
    exact(M.W rh1 (hf:=(by(repeat'(first|exact trivial|refine And.intro ?_ ?_|refine⟨_,U,_,U,?_⟩|exact VLe.refl _|exact VLe.of_eq (by simp[Sto.upd,Int.natCast_add,Int.add_assoc])));done)))
  ·intro hP
   have hpa:=all_of Fm.shape f.args fun j hj=>hP j hj hj
   rw[hpa] at hsh
   have e:f.shape=true:=hsh
   rw[show f.nodes=f.size by simp[Fm.nodes,e],e,hse]
   simp only[List.take_length]
   refine M.w0 ?_
   rfl
theorem checkFm_c(f:Fm)(hf:f.full<1099511627776):PC E 87 [.agg f.view] (.tup [.i f.num,.i f.err]):=by
 have h1:=formulaNodes_c _ f (Nat.le_refl _) hf
 have hle:=f.size_le_full
 cases hs:f.shape with
 |false=>
  have e:f.err=2:=by simp[Fm.err,hs]
  rw[hs,show f.nodes=0 by simp[Fm.nodes,hs]] at h1
  rw[show f.num=0 by simp[Fm.num,e],e]
  refine M.F Tryz.func87 ?_
  repeat'(first|refine M.w1 @h1 ?_|refine M.zb ?_|fail)
  rfl
 |true=>
  rw[hs,show f.nodes=f.size by simp[Fm.nodes,hs]] at h1
  by_cases hz:f.size>4096
  ·have e:f.err=4:=by simp[Fm.err,hs,hz]
   rw[show f.num=0 by simp[Fm.num,e],e]
   refine M.F Tryz.func87 ?_
   repeat'(first|refine M.w1 @h1 ?_|refine M.zb ?_|refine M.cs ?_ ?_<;>intro h|fail)
   ·rfl
   ·exfalso;simp at h;omega
  ·have e:f.err=0:=by simp[Fm.err,hs,hz]
   rw[show f.num=f.size by simp[Fm.num,e],e]
   refine M.F Tryz.func87 ?_
   repeat'(first|refine M.w1 @h1 ?_|refine M.zb ?_|refine M.cs ?_ ?_<;>intro h|fail)
   ·exfalso;simp at h;omega
   ·rfl
theorem fcheck_c(f:Fm)(hf:f.full<1099511627776):PC E 50 [.agg f.view] (.i f.err):=by
 have h1:=checkFm_c f hf
 refine M.F Tryz.func50 ?_
 refine M.w1 @h1 ?_
 rfl
theorem copyFm_c:∀(b:Nat) (f:Fm),f.full≤b→b<1099511627776→PC E 37 [.agg f.view] (.agg f.view):=by
 intro b
 induction b with
 |zero=>intro f h;have:=f.full_pos;omega
 |succ b ih=>
 intro f hsz hb
 have hsz':=f.full_eq
 have hlen:=lsum_len Fm.full Fm.full_pos f.args
 have hlen2:=lsum_len Tm.full Tm.full_pos f.terms
 have hty:=copyTy_c _ f.ty (Nat.le_refl _) (by omega)
 refine M.F Tryz.func37 ?_
 refine M.w1 @hty ?_
 refine M.rt f.terms.length
  (fun m=>([(1,.ptr 0 0),(2,.ptr 1 0),(3,.ptr 2 0),(15,.s .tm f.terms),(16,.i f.terms.length),(17,.i m)],⟨4,[(0,.var f.view),(1,.var [.i 0,.i 0,.slice .nil (.t .ty []),.slice .nil (.t .tm []),.slice .nil (.t .fm [])]),(2,.var [.i f.kind,.i f.ty.kind,.s .ty f.ty.args,.slice (.own 3) (.t .tm (f.terms.take m)),.slice .nil (.t .fm [])]),(3,.row)]⟩))
  (M.W rn3) ?_ ?_
 ·intro m hm _
  have hs2:=lsum_mem Tm.full (List.getElem_mem hm)
  repeat'(first|refine M.w0 ?_|refine M.c2 (copyTm_c _ _ (Nat.le_refl _) ?_) ?_|exact M.lt|fail)
  exact⟨rfl,trivial,(M.W [some 0,some 1,some 2,some 5] (he:=(by(repeat'(first|exact trivial|exact Or.inr ⟨_,U,rfl⟩|refine And.intro ?_ ?_|refine⟨_,U,_,U,_,U,?_⟩|exact VLe.refl _|exact VLe.of_eq (by simp[Sto.upd,List.take_append_getElem])));done)))⟩
 ·intro _
  simp only[List.take_length]
  refine M.w0 ?_
  refine M.rt f.args.length
   (fun m=>([(1,.ptr 0 0),(2,.ptr 1 0),(3,.ptr 2 0),(30,.s .fm f.args),(31,.i f.args.length),(32,.i m)],⟨5,[(0,.var f.view),(1,.var [.i 0,.i 0,.slice .nil (.t .ty []),.slice .nil (.t .tm []),.slice .nil (.t .fm [])]),(2,.var [.i f.kind,.i f.ty.kind,.s .ty f.ty.args,.slice (.own 3) (.t .tm f.terms),.slice (.own 4) (.t .fm (f.args.take m))]),(3,.row),(4,.row)]⟩))
   (M.W rn4) ?_ ?_
  ·intro m hm _
   have hs2:=lsum_mem Fm.full (List.getElem_mem hm)
   repeat'(first|refine M.w0 ?_|refine M.c2 (ih _ ?_ ?_) ?_|exact M.le|exact M.lt|fail)
   exact⟨rfl,trivial,(M.W [some 0,some 1,some 2,some 3,some 6] (he:=(by(repeat'(first|exact trivial|exact Or.inr ⟨_,U,rfl⟩|refine And.intro ?_ ?_|refine⟨_,U,_,U,_,U,?_⟩|exact VLe.refl _|exact VLe.of_eq (by simp[Sto.upd,List.take_append_getElem])));done)))⟩
  ·intro _
   simp only[List.take_length]
   refine M.w0 ?_
   rfl
theorem eqFm_c(a b:Tm)(ha:a.full<1099511627776)(hb:b.full<1099511627776):PC E 14 [.agg a.view,.agg b.view] (.agg (eqF a b).view):=by
 have h1:=copyTm_c _ a (Nat.le_refl _) ha
 have h2:=copyTm_c _ b (Nat.le_refl _) hb
 refine M.F Tryz.func14 ?_
 refine M.w2 @h1 @h2 ?_
 rfl
theorem twoFm_c(k:Int)(a b:Fm)(ha:a.full<1099511627776)(hb:b.full<1099511627776):PC E 170 [.i k,.agg a.view,.agg b.view] (.agg (Fm.mk k (.mk 0 []) [] [a,b]).view):=by
 have h1:=copyFm_c _ a (Nat.le_refl _) ha
 have h2:=copyFm_c _ b (Nat.le_refl _) hb
 refine M.F Tryz.func170 ?_
 refine M.w2 @h1 @h2 ?_
 rfl
theorem qFm_c(k:Int)(s:Ty)(f:Fm)(hs:s.size<1099511627776)(hf:f.full<1099511627776):PC E 16 [.i k,.agg s.view,.agg f.view] (.agg (Fm.mk k s [] [f]).view):=by
 have h1:=copyTy_c _ s (Nat.le_refl _) hs
 have h2:=copyFm_c _ f (Nat.le_refl _) hf
 refine M.F Tryz.func16 ?_
 refine M.w2 @h1 @h2 ?_
 rfl
theorem ownFmCb(t:Tm)(b:Int)(ht:t.full<1099511627776):PC E 109 [.agg t.view,.i b] (.agg t.view):=by
 have h1:=ownTm_c _ t (Nat.le_refl _) ht
 refine M.F Tryz.func109 ?_
 refine M.w1 @h1 ?_
 simp[tupV,V.wk,V.wks,constV,Ty.view,Tm.view]
theorem ownFmRe:∀(n:Nat) (f:Fm) (bl:Int),f.full≤n→n<549755813888→0≤bl→bl+n<549755813888→PC E 108 [.agg f.view,.i bl,.fn (.func 109) [] []] (.agg f.view):=by
 intro n
 induction n with
 |zero=>intro f bl h;have:=f.full_pos;omega
 |succ n ih=>
 intro f bl hsz hb hbl hbn
 have hsz':=f.full_eq
 have hlen:=lsum_len Fm.full Fm.full_pos f.args
 have hlen2:=lsum_len Tm.full Tm.full_pos f.terms
 have hty:=ownTy_c _ f.ty (Nat.le_refl _) (by omega)
 have hq:=quantifier_c f.kind
 refine M.F Tryz.func108 ?_
 refine M.w1 @hty ?_
 refine M.rt f.terms.length
  (fun m=>([(1,.i bl),(2,.fn (.func 109) [] []),(3,.ptr 0 0),(6,.ptr 1 0),(7,.ptr 2 0),(19,.s .tm f.terms),(20,.i f.terms.length),(21,.i m)],⟨4,[(0,.var f.view),(1,.var [.i 0,.i 0,.slice .nil (.t .ty []),.slice .nil (.t .tm []),.slice .nil (.t .fm [])]),(2,.var [.i f.kind,.i f.ty.kind,.s .ty f.ty.args,.slice (.own 3) (.t .tm (f.terms.take m)),.slice .nil (.t .fm [])]),(3,.row)]⟩))
  (M.W rn3) ?_ ?_
 ·intro m hm _
  have hs2:=lsum_mem Tm.full (List.getElem_mem hm)
  have hc:=ownFmCb f.terms[m] bl (by omega)
  repeat'(first|refine M.w0 ?_|refine M.cv (hc) [] 0 ?_|fail)
  exact⟨rfl,trivial,(M.W [some 0,some 1,some 2,some 5] (he:=(by(repeat'(first|exact trivial|exact Or.inr ⟨_,U,rfl⟩|refine And.intro ?_ ?_|refine⟨_,U,_,U,_,U,?_⟩|exact VLe.refl _|exact VLe.of_eq (by simp[Sto.upd,List.take_append_getElem])));done)))⟩
 ·intro _
  simp only[List.take_length]
  cases hqk:quantK f.kind with
  |true=>
   rw[hqk] at hq
   refine M.w1 @hq ?_
   refine M.rt f.args.length
    (fun m=>([(1,.i (bl+1)),(2,.fn (.func 109) [] []),(3,.ptr 0 0),(6,.ptr 1 0),(7,.ptr 2 0),(41,.s .fm f.args),(42,.i f.args.length),(43,.i m)],⟨5,[(0,.var f.view),(1,.var [.i 0,.i 0,.slice .nil (.t .ty []),.slice .nil (.t .tm []),.slice .nil (.t .fm [])]),(2,.var [.i f.kind,.i f.ty.kind,.s .ty f.ty.args,.slice (.own 3) (.t .tm f.terms),.slice (.own 4) (.t .fm (f.args.take m))]),(3,.row),(4,.row)]⟩))
    (M.W rn4) ?_ ?_
   ·intro m hm _
    have hs2:=lsum_mem Fm.full (List.getElem_mem hm)
    have hc:=ih f.args[m] (bl+1) (by omega) (by omega) (by omega) (by omega)
    refine M.w1 @hc ?_
    exact⟨rfl,trivial,(M.W [some 0,some 1,some 2,some 3,some 6] (he:=(by(repeat'(first|exact trivial|exact Or.inr ⟨_,U,rfl⟩|refine And.intro ?_ ?_|refine⟨_,U,_,U,_,U,?_⟩|exact VLe.refl _|exact VLe.of_eq (by simp[Sto.upd,List.take_append_getElem])));done)))⟩
   ·intro _
    simp only[List.take_length]
    refine M.w0 ?_
    rfl
  |false=>
   rw[hqk] at hq
   refine M.w1 @hq ?_
   refine M.rt f.args.length
    (fun m=>([(1,.i bl),(2,.fn (.func 109) [] []),(3,.ptr 0 0),(6,.ptr 1 0),(7,.ptr 2 0),(41,.s .fm f.args),(42,.i f.args.length),(43,.i m)],⟨5,[(0,.var f.view),(1,.var [.i 0,.i 0,.slice .nil (.t .ty []),.slice .nil (.t .tm []),.slice .nil (.t .fm [])]),(2,.var [.i f.kind,.i f.ty.kind,.s .ty f.ty.args,.slice (.own 3) (.t .tm f.terms),.slice (.own 4) (.t .fm (f.args.take m))]),(3,.row),(4,.row)]⟩))
    (M.W rn4) ?_ ?_
   ·intro m hm _
    have hs2:=lsum_mem Fm.full (List.getElem_mem hm)
    have hc:=ih f.args[m] bl (by omega) (by omega) (by omega) (by omega)
    refine M.w1 @hc ?_
    exact⟨rfl,trivial,(M.W [some 0,some 1,some 2,some 3,some 6] (he:=(by(repeat'(first|exact trivial|exact Or.inr ⟨_,U,rfl⟩|refine And.intro ?_ ?_|refine⟨_,U,_,U,_,U,?_⟩|exact VLe.refl _|exact VLe.of_eq (by simp[Sto.upd,List.take_append_getElem])));done)))⟩
   ·intro _
    simp only[List.take_length]
    refine M.w0 ?_
    rfl
theorem ownFm_c(f:Fm)(hf:f.full<274877906944):PC E 73 [.agg f.view] (.agg f.view):=by
 have h1:=ownFmRe _ f 0 (Nat.le_refl _) (by omega) (by omega) (by omega)
 refine M.F Tryz.func73 ?_
 refine M.w1 @h1 ?_
 rfl
theorem partsFm_c(qs:List (Int×Ty))(ps:List Fm)(c:Fm)(hq:∀q∈qs,q.1=4∨q.1=6)(hb:(imFs ps c).kind≠4∧(imFs ps c).kind≠6)(h3:c.kind≠3)(hf:(quFs qs (imFs ps c)).full<137438953472):
 PC E 42 [.agg (quFs qs (imFs ps c)).view] (.tup [.s .ty (qs.map (·.2)),.s .fm ps,.agg c.view]):=by
 have hl:=quFs_len qs (imFs ps c)
 have hl2:=imFs_len ps c
 have hcf:=imFs_full ps c
 have hco:=ownFm_c c (by omega)
 refine M.F Tryz.func42 ?_
 refine M.w0 ?_
 refine K.sq (AW.block (AW.loop (ι:={m:Nat // m≤qs.length})
  (fun m=>([(1,.ptr 0 0),(4,.ptr 1 0),(5,.slice (.own 2) (.t .ty ((qs.take m.1).map (·.2))))],⟨3,[(0,.var (quFs (qs.drop m.1) (imFs ps c)).view),(1,.var [.i 0,.i 0,.slice .nil (.t .ty []),.slice .nil (.t .tm []),.slice .nil (.t .fm [])]),(2,.row)]⟩))
  (fun m=>qs.length-m.1) ⟨0,Nat.zero_le _⟩ (M.W rn2) fun⟨m,hm⟩=> ?_))
 by_cases hlt:m<qs.length
 ·have e:=quFs_drop (b:=imFs ps c) hlt
  have hx:=quFs_mem (b:=imFs ps c) hlt
  have hcx:=ownTy_c _ qs[m].2 (Nat.le_refl _) (by omega)
  have et:(qs.take (m+1)).map (·.2)=(qs.take m).map (·.2)++[qs[m].2]:=map_take (fun q:Int×Ty=>q.2) qs m hlt
  have hln:((qs.take m).map (·.2)).length≤qs.length:=by simp;omega
  rcases hq _ (List.getElem_mem hlt) with h4|h4
  ·rw [h4] at e
   simp only[e]
   refine M.w0 ?_
   refine AW.block ?_
   refine M.w1 @hcx ?_
   refine⟨⟨m+1,by omega⟩,by show qs.length-(m+1)<qs.length-m;omega,?_⟩
   simp only[et]
   exact(M.W [some 0,some 1,some 3])
  ·rw [h4] at e
   simp only[e]
   refine M.w0 ?_
   refine AW.block ?_
   refine M.w1 @hcx ?_
   refine⟨⟨m+1,by omega⟩,by show qs.length-(m+1)<qs.length-m;omega,?_⟩
   simp only[et]
   exact(M.W [some 0,some 1,some 3])
 ·obtain rfl:m=qs.length:=by omega
  simp only[List.drop_length,List.take_length,show quFs [] (imFs ps c)=imFs ps c from rfl]
  repeat'(first|refine M.w0 ?_|refine M.gs ?_ ?_<;>intro h|refine M.cs ?_ ?_<;>intro h|fail)
  all_goals first
   |(exfalso;simp at h;first|exact hb.1 h|exact hb.2 h)
   |skip
  refine K.sq (AW.block (AW.loop (ι:={m:Nat // m≤ps.length})
   (fun m=>([(1,.ptr 0 0),(4,.ptr 1 0),(5,.slice (.own 2) (.t .ty (qs.map (·.2)))),(6,.slice (.own 3) (.t .fm (ps.take m.1)))],⟨4,[(0,.var (imFs (ps.drop m.1) c).view),(1,.var [.i 0,.i 0,.slice .nil (.t .ty []),.slice .nil (.t .tm []),.slice .nil (.t .fm [])]),(2,.row),(3,.row)]⟩))
   (fun m=>ps.length-m.1) ⟨0,Nat.zero_le _⟩ (M.W rn3) fun⟨m,hm⟩=> ?_))
  by_cases hlt:m<ps.length
  ·have e:=imFs_drop (c:=c) hlt
   have hx:=imFs_mem (c:=c) hlt
   have hcx:=ownFm_c ps[m] (by omega)
   simp only[e]
   refine M.w0 ?_
   refine AW.block ?_
   refine M.w1 @hcx ?_
   refine⟨⟨m+1,by omega⟩,by show ps.length-(m+1)<ps.length-m;omega,?_⟩
   exact(M.W [some 0,some 1,some 2,some 4] (hf:=(by(repeat'(first|exact trivial|refine And.intro ?_ ?_|refine⟨_,U,_,U,?_⟩|exact VLe.refl _|exact VLe.of_eq (by simp[Sto.upd,List.take_append_getElem])));done)))
  ·obtain rfl:m=ps.length:=by omega
   simp only[List.drop_length,List.take_length,show imFs [] c=c from rfl]
   repeat'(first|refine M.w1 @hco ?_|refine M.cs ?_ ?_<;>intro h|fail)
   ·exfalso;simp at h;exact h3 h
   ·rfl
def nearG(b:Bool)(l:List (Int×Int)):Bool:=b&&l.all fun p=>decide (p.1≤268435456)
theorem nearG_append(b:Bool)(l l':List (Int×Int)):nearG (nearG b l) l'=nearG b (l++l'):=by simp[nearG,Bool.and_assoc]
theorem nearG_nil(b:Bool):nearG b []=b:=by simp[nearG]
theorem nearECb(b:Bool)(i bl:Int):AC E 91 [.i i,.i bl,.ptr 0 0] ⟨1,[(0,.var [.bool b])]⟩ (.tup []) ⟨1,[(0,.var [.bool (nearG b [(i,bl)])])]⟩:=by
 refine M.F Tryz.func91 ?_
 repeat'(first|refine M.w0 ?_|refine M.gs ?_ ?_<;>intro h|fail)
 ·(exact M.n2 rh1 (h6:=(by(repeat'(first|exact trivial|refine And.intro ?_ ?_|refine⟨_,U,_,U,_,U,?_⟩|exact VLe.of_eq (by simp[Sto.upd,nearG,h])));done)) (h8:=(by simp[tupV,V.wk,V.wks,constV,Ty.view,Tm.view,nearG,h])))
 ·(exact M.n2 rh1 (h6:=(by(repeat'(first|exact trivial|refine And.intro ?_ ?_|refine⟨_,U,_,U,_,U,?_⟩|exact VLe.of_eq (by simp[Sto.upd,nearG,h])));done)) (h8:=(by simp[tupV,V.wk,V.wks,constV,Ty.view,Tm.view,nearG,h])))
theorem nearEEach1:∀(n:Nat) (t:Tm) (b:Bool) (bl:Int),t.full≤n→n<1099511627776→0≤bl→bl+n<1099511627776→AC E 132 [.agg t.view,.i bl,.ptr 0 0,.ptr 1 0] ⟨3,[(0,.var [.fn (.func 91) [] [.ptr 2 0]]),(1,.var [.fn (.func 132) [] [.ptr 0 0,.ptr 1 0]]),(2,.var [.bool b])]⟩ (.tup [])
 ⟨3,[(0,.var [.fn (.func 91) [] [.ptr 2 0]]),(1,.var [.fn (.func 132) [] [.ptr 0 0,.ptr 1 0]]),(2,.var [.bool (nearG b (t.vars bl))])]⟩:=by
 intro n
 induction n with
 |zero=>intro t b bl h;have:=t.full_pos;omega
 |succ n ih=>
 intro t b bl hsz hb hbl hbn
 have hsz':=Tm.full_eq t
 have hlen:=lsum_len Tm.full Tm.full_pos t.args
 have hv:=Tm.vars_eq bl t
 refine M.F Tryz.func132 ?_
 repeat'(first|refine M.w0 ?_|refine M.cv (nearECb _ _ _) [2] 0 ?_|refine M.cs ?_ ?_<;>intro h|fail)
 all_goals
  have hup:up t.kind bl≤bl+1:=by simp only[up];split<;>omega
  have hup0:0≤up t.kind bl:=by simp only[up];split<;>omega
  refine M.rt t.args.length
   (fun m=>([(1,.i (up t.kind bl)),(3,.ptr 1 0),(22,.s .tm t.args),(23,.i t.args.length),(24,.i m)],⟨4,[(0,.var [.fn (.func 91) [] [.ptr 2 0]]),(1,.var [.fn (.func 132) [] [.ptr 0 0,.ptr 1 0]]),(2,.var [.bool (nearG b ((if t.kind=1 then [(t.index,bl)] else [])++(t.args.take m).flatMap (Tm.vars (up t.kind bl))))]),(3,.var t.view)]⟩))
   ?_ ?_ ?_
  ·simp_all only[beq_iff_eq,beq_eq_false_iff_ne,ne_eq]
   exact(M.W rh4 (hf:=(by(repeat'(first|exact trivial|refine And.intro ?_ ?_|refine⟨_,U,_,U,?_⟩|exact VLe.refl _|exact VLe.of_eq (by simp[Sto.upd,up, *,nearG_nil])));done)) (he:=(by(repeat'(first|exact trivial|refine And.intro ?_ ?_|refine⟨_,U,_,U,_,U,?_⟩|exact VLe.refl _|exact VLe.of_eq (by simp[Sto.upd,up, *,nearG_nil])));done)))
  ·intro m hm hP
   have hs2:=lsum_mem Tm.full (List.getElem_mem hm)
   have hc:=ih t.args[m] (nearG b ((if t.kind=1 then [(t.index,bl)] else [])++(t.args.take m).flatMap (Tm.vars (up t.kind bl)))) (up t.kind bl) (by omega) (by omega) hup0 (by omega)
   repeat'(first|refine M.w0 ?_|refine M.cv (hc) [0,1,2] 0 ?_|fail)
   refine⟨rfl,trivial,?_⟩
   exact(M.W rh4 (he:=(by(repeat'(first|exact trivial|refine And.intro ?_ ?_|refine⟨_,U,_,U,_,U,?_⟩|exact VLe.refl _|exact VLe.of_eq (by simp[Sto.upd,nearG_append,flat_take _ _ _ hm])));done)))
  ·intro hP
   skip
   (exact M.n2 rh3 (h6:=(by(repeat'(first|exact trivial|refine And.intro ?_ ?_|refine⟨_,U,_,U,_,U,?_⟩|exact VLe.refl _|exact VLe.of_eq (by simp[Sto.upd,hv])));done)) (h8:=(by simp[tupV,V.wk,V.wks,constV,Ty.view,Tm.view,hv])))
theorem nearEEach(t:Tm)(b:Bool)(ht:t.full<1099511627776):AC E 90 [.agg t.view,.fn (.func 91) [] [.ptr 0 0]] ⟨1,[(0,.var [.bool b])]⟩ (.tup []) ⟨1,[(0,.var [.bool (nearG b (t.vars 0))])]⟩:=by
 have hc:=nearEEach1 _ t b 0 (Nat.le_refl _) (by omega) (by omega) (by omega)
 refine M.F Tryz.func90 ?_
 repeat'(first|refine M.w0 ?_|refine M.cv (hc) [2,3,0] 0 ?_|fail)
 (exact M.n2 rh1 (h8:=(by simp[tupV,V.wk,V.wks,constV,Ty.view,Tm.view,nearG])))
theorem nearEFm(b:Bool)(t:Tm)(bl:Int)(ht:t.full<1099511627776):AC E 89 [.agg t.view,.i bl,.ptr 0 0] ⟨1,[(0,.var [.bool b])]⟩ (.tup []) ⟨1,[(0,.var [.bool (allP Tm.nearE b [(t,bl)])])]⟩:=by
 have hc:=nearEEach t b ht
 refine M.F Tryz.func89 ?_
 repeat'(first|refine M.w0 ?_|refine M.cv (hc) [0] 0 ?_|fail)
 (exact M.n2 rh1 (h6:=(by(repeat'(first|exact trivial|refine And.intro ?_ ?_|refine⟨_,U,_,U,_,U,?_⟩|exact VLe.of_eq (by simp[Sto.upd,allP_one,nearG,Tm.nearE])));done)) (h8:=(by simp[tupV,V.wk,V.wks,constV,Ty.view,Tm.view,allP_one,nearG,Tm.nearE])))
theorem nearFFm(b:Bool)(t:Tm)(bl:Int)(ht:t.full<1099511627776):AC E 147 [.agg t.view,.i bl,.ptr 0 0] ⟨1,[(0,.var [.bool b])]⟩ (.tup []) ⟨1,[(0,.var [.bool (allP Tm.near b [(t,bl)])])]⟩:=by
 have hc:=near_c t ht
 refine M.F Tryz.func147 ?_
 repeat'(first|refine M.w1 @hc ?_|refine M.gs ?_ ?_<;>intro h|fail)
 ·(exact M.n2 rh1 (h6:=(by(repeat'(first|exact trivial|refine And.intro ?_ ?_|refine⟨_,U,_,U,_,U,?_⟩|exact VLe.of_eq (by simp[Sto.upd,allP_one,h])));done)) (h8:=(by simp[tupV,V.wk,V.wks,constV,Ty.view,Tm.view,allP_one,h])))
 ·(exact M.n2 rh1 (h6:=(by(repeat'(first|exact trivial|refine And.intro ?_ ?_|refine⟨_,U,_,U,_,U,?_⟩|exact VLe.of_eq (by simp[Sto.upd,allP_one,h])));done)) (h8:=(by simp[tupV,V.wk,V.wks,constV,Ty.view,Tm.view,allP_one,h])))
theorem countFFm(at_ c:Int)(t:Tm)(bl:Int)(ht:t.full<549755813888)(hc0:0≤c∧c<549755813888)(ha:0≤at_∧at_<549755813888)(hb:0≤bl∧bl<549755813888)(hix:∀p∈t.vars 0,0≤p.1∧p.1<1099511627776):
 AC E 148 [.agg t.view,.i bl,.ptr 0 0,.ptr 1 0] ⟨2,[(0,.var [.i c]),(1,.var [.i at_])]⟩ (.tup []) ⟨2,[(0,.var [.i (c+cntF at_ [(t,bl)])]),(1,.var [.i at_])]⟩:=by
 have hc:=count_c t (at_+bl) ht hix
 have h1:=cnt_le (at_+bl) (t.vars 0)
 have h2:=t.vars_len 0
 have h3:=t.size_le_full
 refine M.F Tryz.func148 ?_
 refine M.w1 @hc ?_
 (exact M.n2 rh2 (h8:=(by simp[tupV,V.wk,V.wks,constV,Ty.view,Tm.view,cntF])))
theorem nearEEachF:∀(n:Nat) (f:Fm) (b:Bool) (bl:Int),f.full≤n→n<549755813888→0≤bl→bl+n<549755813888→AC E 88 [.agg f.view,.i bl,.fn (.func 89) [] [.ptr 0 0]] ⟨1,[(0,.var [.bool b])]⟩ (.tup []) ⟨1,[(0,.var [.bool (allP Tm.nearE b (f.tms bl))])]⟩:=by
 intro n
 induction n with
 |zero=>intro f;intros;have:=f.full_pos;omega
 |succ n ih=>
 intro f b bl hsz hn hbl hbn
 have hsz':=f.full_eq
 have hlen:=lsum_len Fm.full Fm.full_pos f.args
 have hlen2:=lsum_len Tm.full Tm.full_pos f.terms
 have htm:=f.tms_eq bl
 have hq:=quantifier_c f.kind
 refine M.F Tryz.func88 ?_
 refine M.w0 ?_
 refine M.rt f.terms.length
  (fun m=>([(1,.i bl),(2,.fn (.func 89) [] [.ptr 0 0]),(3,.ptr 1 0),(11,.s .tm f.terms),(12,.i f.terms.length),(13,.i m)],⟨2,[(0,.var [.bool (allP Tm.nearE b ((f.terms.take m).map (fun t=>(t,bl))))]),(1,.var f.view)]⟩))
  ?_ ?_ ?_
 ·exact (M.W rh2 (he:=(by(repeat'(first|exact trivial|refine And.intro ?_ ?_|refine⟨_,U,_,U,_,U,?_⟩|exact VLe.refl _|exact VLe.of_eq (by simp[Sto.upd,allP_nil])));done)))
 ·intro m hm _
  have hs2:=lsum_mem Tm.full (List.getElem_mem hm)
  have hc:=nearEFm (allP Tm.nearE b ((f.terms.take m).map (fun t=>(t,bl)))) f.terms[m] bl (by omega)
  repeat'(first|refine M.w0 ?_|refine M.cv (hc) [0] 0 ?_|fail)
  refine⟨rfl,trivial,?_⟩
  exact(M.W rh2 (he:=(by(repeat'(first|exact trivial|refine And.intro ?_ ?_|refine⟨_,U,_,U,_,U,?_⟩|exact VLe.refl _|exact VLe.of_eq (by simp[Sto.upd,allP_append,map_take _ _ _ hm])));done)))
 ·intro _
  simp only[List.take_length]
  repeat'(first|refine M.w1 @hq ?_|refine M.cs ?_ ?_<;>intro h|fail)
  all_goals
   have hup:upF f.kind bl≤bl+1:=by simp only[upF];split<;>omega
   have hup0:0≤upF f.kind bl:=by simp only[upF];split<;>omega
   refine M.rt f.args.length
    (fun m=>([(1,.i (upF f.kind bl)),(2,.fn (.func 89) [] [.ptr 0 0]),(3,.ptr 1 0),(28,.s .fm f.args),(29,.i f.args.length),(30,.i m)],⟨2,[(0,.var [.bool (allP Tm.nearE b (f.terms.map (fun t=>(t,bl))++(f.args.take m).flatMap (Fm.tms (upF f.kind bl))))]),(1,.var f.view)]⟩))
    ?_ ?_ ?_
   ·exact (M.W rh2 (hf:=(by(repeat'(first|exact trivial|refine And.intro ?_ ?_|refine⟨_,U,_,U,?_⟩|exact VLe.refl _|exact VLe.of_eq (by simp[Sto.upd,upF,h,allP_nil])));done)) (he:=(by(repeat'(first|exact trivial|refine And.intro ?_ ?_|refine⟨_,U,_,U,_,U,?_⟩|exact VLe.refl _|exact VLe.of_eq (by simp[Sto.upd,upF,h,allP_nil])));done)))
   ·intro m hm _
    have hs2:=lsum_mem Fm.full (List.getElem_mem hm)
    have hc:=ih f.args[m] (allP Tm.nearE b (f.terms.map (fun t=>(t,bl))++(f.args.take m).flatMap (Fm.tms (upF f.kind bl)))) (upF f.kind bl) (by omega) (by omega) hup0 (by omega)
    repeat'(first|refine M.w0 ?_|refine M.cv (hc) [0] 0 ?_|fail)
    refine⟨rfl,trivial,?_⟩
    exact(M.W rh2 (he:=(by(repeat'(first|exact trivial|refine And.intro ?_ ?_|refine⟨_,U,_,U,_,U,?_⟩|exact VLe.refl _|exact VLe.of_eq (by simp[Sto.upd,allP_append,flat_take _ _ _ hm])));done)))
   ·intro _
    skip
    (exact M.n2 rh1 (h6:=(by(repeat'(first|exact trivial|refine And.intro ?_ ?_|refine⟨_,U,_,U,_,U,?_⟩|exact VLe.of_eq (by simp[Sto.upd,htm])));done)) (h8:=(by simp[tupV,V.wk,V.wks,constV,Ty.view,Tm.view,htm])))
theorem nearFEachF:∀(n:Nat) (f:Fm) (b:Bool) (bl:Int),f.full≤n→n<549755813888→0≤bl→bl+n<549755813888→AC E 88 [.agg f.view,.i bl,.fn (.func 147) [] [.ptr 0 0]] ⟨1,[(0,.var [.bool b])]⟩ (.tup []) ⟨1,[(0,.var [.bool (allP Tm.near b (f.tms bl))])]⟩:=by
 intro n
 induction n with
 |zero=>intro f;intros;have:=f.full_pos;omega
 |succ n ih=>
 intro f b bl hsz hn hbl hbn
 have hsz':=f.full_eq
 have hlen:=lsum_len Fm.full Fm.full_pos f.args
 have hlen2:=lsum_len Tm.full Tm.full_pos f.terms
 have htm:=f.tms_eq bl
 have hq:=quantifier_c f.kind
 refine M.F Tryz.func88 ?_
 refine M.w0 ?_
 refine M.rt f.terms.length
  (fun m=>([(1,.i bl),(2,.fn (.func 147) [] [.ptr 0 0]),(3,.ptr 1 0),(11,.s .tm f.terms),(12,.i f.terms.length),(13,.i m)],⟨2,[(0,.var [.bool (allP Tm.near b ((f.terms.take m).map (fun t=>(t,bl))))]),(1,.var f.view)]⟩))
  ?_ ?_ ?_
 ·exact (M.W rh2 (he:=(by(repeat'(first|exact trivial|refine And.intro ?_ ?_|refine⟨_,U,_,U,_,U,?_⟩|exact VLe.refl _|exact VLe.of_eq (by simp[Sto.upd,allP_nil])));done)))
 ·intro m hm _
  have hs2:=lsum_mem Tm.full (List.getElem_mem hm)
  have hc:=nearFFm (allP Tm.near b ((f.terms.take m).map (fun t=>(t,bl)))) f.terms[m] bl (by omega)
  repeat'(first|refine M.w0 ?_|refine M.cv (hc) [0] 0 ?_|fail)
  refine⟨rfl,trivial,?_⟩
  exact(M.W rh2 (he:=(by(repeat'(first|exact trivial|refine And.intro ?_ ?_|refine⟨_,U,_,U,_,U,?_⟩|exact VLe.refl _|exact VLe.of_eq (by simp[Sto.upd,allP_append,map_take _ _ _ hm])));done)))
 ·intro _
  simp only[List.take_length]
  repeat'(first|refine M.w1 @hq ?_|refine M.cs ?_ ?_<;>intro h|fail)
  all_goals
   have hup:upF f.kind bl≤bl+1:=by simp only[upF];split<;>omega
   have hup0:0≤upF f.kind bl:=by simp only[upF];split<;>omega
   refine M.rt f.args.length
    (fun m=>([(1,.i (upF f.kind bl)),(2,.fn (.func 147) [] [.ptr 0 0]),(3,.ptr 1 0),(28,.s .fm f.args),(29,.i f.args.length),(30,.i m)],⟨2,[(0,.var [.bool (allP Tm.near b (f.terms.map (fun t=>(t,bl))++(f.args.take m).flatMap (Fm.tms (upF f.kind bl))))]),(1,.var f.view)]⟩))
    ?_ ?_ ?_
   ·exact (M.W rh2 (hf:=(by(repeat'(first|exact trivial|refine And.intro ?_ ?_|refine⟨_,U,_,U,?_⟩|exact VLe.refl _|exact VLe.of_eq (by simp[Sto.upd,upF,h,allP_nil])));done)) (he:=(by(repeat'(first|exact trivial|refine And.intro ?_ ?_|refine⟨_,U,_,U,_,U,?_⟩|exact VLe.refl _|exact VLe.of_eq (by simp[Sto.upd,upF,h,allP_nil])));done)))
   ·intro m hm _
    have hs2:=lsum_mem Fm.full (List.getElem_mem hm)
    have hc:=ih f.args[m] (allP Tm.near b (f.terms.map (fun t=>(t,bl))++(f.args.take m).flatMap (Fm.tms (upF f.kind bl)))) (upF f.kind bl) (by omega) (by omega) hup0 (by omega)
    repeat'(first|refine M.w0 ?_|refine M.cv (hc) [0] 0 ?_|fail)
    refine⟨rfl,trivial,?_⟩
    exact(M.W rh2 (he:=(by(repeat'(first|exact trivial|refine And.intro ?_ ?_|refine⟨_,U,_,U,_,U,?_⟩|exact VLe.refl _|exact VLe.of_eq (by simp[Sto.upd,allP_append,flat_take _ _ _ hm])));done)))
   ·intro _
    skip
    (exact M.n2 rh1 (h6:=(by(repeat'(first|exact trivial|refine And.intro ?_ ?_|refine⟨_,U,_,U,_,U,?_⟩|exact VLe.of_eq (by simp[Sto.upd,htm])));done)) (h8:=(by simp[tupV,V.wk,V.wks,constV,Ty.view,Tm.view,htm])))
theorem countFEachF(at_ C:Int)(ha:0≤at_∧at_<549755813888)(hC:C<549755813888):∀(n:Nat) (f:Fm) (c:Int) (bl:Int),f.full≤n→n<549755813888→0≤bl→bl+n<549755813888→0≤c→c+f.size≤C→(∀p∈f.tms bl,∀q∈p.1.vars 0,0≤q.1∧q.1<1099511627776)→AC E 88 [.agg f.view,.i bl,.fn (.func 148) [] [.ptr 0 0,.ptr 1 0]] ⟨2,[(0,.var [.i c]),(1,.var [.i at_])]⟩ (.tup []) ⟨2,[(0,.var [.i (c+cntF at_ (f.tms bl))]),(1,.var [.i at_])]⟩:=by
 intro n
 induction n with
 |zero=>intro f;intros;have:=f.full_pos;omega
 |succ n ih=>
 intro f c bl hsz hn hbl hbn hc0 hcC hix
 have hsz':=f.full_eq
 have hlen:=lsum_len Fm.full Fm.full_pos f.args
 have hlen2:=lsum_len Tm.full Tm.full_pos f.terms
 have htm:=f.tms_eq bl
 have hq:=quantifier_c f.kind
 refine M.F Tryz.func88 ?_
 refine M.w0 ?_
 refine M.rt f.terms.length
  (fun m=>([(1,.i bl),(2,.fn (.func 148) [] [.ptr 0 0,.ptr 1 0]),(3,.ptr 2 0),(11,.s .tm f.terms),(12,.i f.terms.length),(13,.i m)],⟨3,[(0,.var [.i (c+cntF at_ ((f.terms.take m).map (fun t=>(t,bl))))]),(1,.var [.i at_]),(2,.var f.view)]⟩))
  ?_ ?_ ?_
 ·exact (M.W rh3 (he:=(by(repeat'(first|exact trivial|refine And.intro ?_ ?_|refine⟨_,U,_,U,_,U,?_⟩|exact VLe.refl _|exact VLe.of_eq (by simp[Sto.upd,cntF])));done)))
 ·intro m hm _
  have hs2:=lsum_mem Tm.full (List.getElem_mem hm)
  have hle1:=cntF_le at_ ((f.terms.take m).map (fun t=>(t,bl)))
  have hle2:(((f.terms.take m).map (fun t=>(t,bl))).map fun p:Tm×Int=>p.1.size).sum≤f.size:=tms_le1 f bl m
  have hc:=countFFm at_ (c+cntF at_ ((f.terms.take m).map (fun t=>(t,bl)))) f.terms[m] bl (by omega) (by omega) ha (by omega) (fun p hp=>hix _ (by rw[htm];exact List.mem_append_left _ (List.mem_map.2 ⟨_,List.getElem_mem hm,rfl⟩)) p hp)
  refine M.w1 @hc ?_
  refine⟨rfl,trivial,?_⟩
  exact(M.W rh3 (he:=(by(repeat'(first|exact trivial|refine And.intro ?_ ?_|refine⟨_,U,_,U,_,U,?_⟩|exact VLe.refl _|exact VLe.of_eq (by simp[Sto.upd,cntF_append,Int.natCast_add,Int.add_assoc,map_take _ _ _ hm])));done)))
 ·intro _
  simp only[List.take_length]
  repeat'(first|refine M.w1 @hq ?_|refine M.cs ?_ ?_<;>intro h|fail)
  all_goals
   have hup:upF f.kind bl≤bl+1:=by simp only[upF];split<;>omega
   have hup0:0≤upF f.kind bl:=by simp only[upF];split<;>omega
   refine M.rt f.args.length
    (fun m=>([(1,.i (upF f.kind bl)),(2,.fn (.func 148) [] [.ptr 0 0,.ptr 1 0]),(3,.ptr 2 0),(28,.s .fm f.args),(29,.i f.args.length),(30,.i m)],⟨3,[(0,.var [.i (c+cntF at_ (f.terms.map (fun t=>(t,bl))++(f.args.take m).flatMap (Fm.tms (upF f.kind bl))))]),(1,.var [.i at_]),(2,.var f.view)]⟩))
    ?_ ?_ ?_
   ·exact (M.W rh3 (hf:=(by(repeat'(first|exact trivial|refine And.intro ?_ ?_|refine⟨_,U,_,U,?_⟩|exact VLe.refl _|exact VLe.of_eq (by simp[Sto.upd,upF,h,cntF])));done)) (he:=(by(repeat'(first|exact trivial|refine And.intro ?_ ?_|refine⟨_,U,_,U,_,U,?_⟩|exact VLe.refl _|exact VLe.of_eq (by simp[Sto.upd,upF,h,cntF])));done)))
   ·intro m hm _
    have hs2:=lsum_mem Fm.full (List.getElem_mem hm)
    have hle1:=cntF_le at_ (f.terms.map (fun t=>(t,bl))++(f.args.take m).flatMap (Fm.tms (upF f.kind bl)))
    have hle2:((f.terms.map (fun t=>(t,bl))++(f.args.take m).flatMap (Fm.tms (upF f.kind bl))).map fun p:Tm×Int=>p.1.size).sum+(f.args[m]).size≤f.size:=tms_le2 f bl m hm
    have hc:=ih f.args[m] (c+cntF at_ (f.terms.map (fun t=>(t,bl))++(f.args.take m).flatMap (Fm.tms (upF f.kind bl)))) (upF f.kind bl) (by omega) (by omega) hup0 (by omega) (by omega) (by omega) (fun p hp=>hix p (by rw[htm];exact List.mem_append_right _ (List.mem_flatMap.2 ⟨_,List.getElem_mem hm,hp⟩)))
    refine M.w1 @hc ?_
    refine⟨rfl,trivial,?_⟩
    exact(M.W rh3 (he:=(by(repeat'(first|exact trivial|refine And.intro ?_ ?_|refine⟨_,U,_,U,_,U,?_⟩|exact VLe.refl _|exact VLe.of_eq (by simp[Sto.upd,cntF_append,Int.natCast_add,Int.add_assoc,flat_take _ _ _ hm])));done)))
   ·intro _
    skip
    (exact M.n2 rh2 (h6:=(by(repeat'(first|exact trivial|refine And.intro ?_ ?_|refine⟨_,U,_,U,_,U,?_⟩|exact VLe.refl _|exact VLe.of_eq (by simp[Sto.upd,htm])));done)) (h8:=(by simp[tupV,V.wk,V.wks,constV,Ty.view,Tm.view,htm])))
theorem enear_c(f:Fm)(hf:f.full<274877906944):PC E 51 [.agg f.view] (.bool f.nearE):=by
 have hc:=nearEEachF _ f true 0 (Nat.le_refl _) (by omega) (by omega) (by omega)
 refine M.F Tryz.func51 ?_
 repeat'(first|refine M.w0 ?_|refine M.cv (hc) [1] 0 ?_|fail)
 simp[tupV,V.wk,V.wks,allP,Fm.nearE]
theorem nearFm_c(f:Fm)(hf:f.full<274877906944):PC E 117 [.agg f.view] (.bool f.near):=by
 have hc:=nearFEachF _ f true 0 (Nat.le_refl _) (by omega) (by omega) (by omega)
 refine M.F Tryz.func117 ?_
 repeat'(first|refine M.w0 ?_|refine M.cv (hc) [1] 0 ?_|fail)
 simp[tupV,V.wk,V.wks,allP,Fm.near]
theorem countFm_c(f:Fm)(at_:Int)(ha:0≤at_∧at_<549755813888)(hf:f.full<274877906944)(hix:∀p∈f.tms 0,∀q∈p.1.vars 0,0≤q.1∧q.1<1099511627776):PC E 118 [.agg f.view,.i at_] (.i (cntF at_ (f.tms 0))):=by
 have hle:=f.size_le_full
 have hc:=countFEachF at_ (f.size) ha (by omega) _ f 0 0 (Nat.le_refl _) (by omega) (by omega) (by omega) (by omega) (by omega) hix
 refine M.F Tryz.func118 ?_
 repeat'(first|refine M.w0 ?_|refine M.cv (hc) [2,1] 0 ?_|fail)
 simp[tupV,V.wk,V.wks]
theorem putFmCb(at_:Int)(s:Tm)(hat:0≤at_∧at_<274877906944)(hs:s.full<274877906944)(hsi:∀p∈s.vars 0,0≤p.1∧p.1<549755813888)(t:Tm)(bl:Int)(ht:t.full<274877906944)(hb:0≤bl∧bl<274877906944)(hix:∀p∈t.vars 0,0≤p.1∧p.1<549755813888):
 AC E 150 [.agg t.view,.i bl,.ptr 0 0,.ptr 1 0] ⟨2,[(0,.var [.i at_]),(1,.var s.view)]⟩ (.agg (t.re (putG (at_+bl) s) 0).view) ⟨2,[(0,.var [.i at_]),(1,.var s.view)]⟩:=by
 have hc:=put_c t (at_+bl) s (by omega) hs hsi ht hix
 refine M.F Tryz.func150 ?_
 refine M.w1 @hc ?_
 (exact M.n2 rh2 (h8:=(by simp[tupV,V.wk,V.wks,constV,Ty.view,Tm.view,hc])))
theorem putFmRe(at_:Int)(s:Tm)(hat:0≤at_∧at_<274877906944)(hs:s.full<274877906944)(hsi:∀p∈s.vars 0,0≤p.1∧p.1<549755813888):∀(n:Nat) (f:Fm) (bl:Int),f.full≤n→n<274877906944→0≤bl→bl+n<274877906944→(∀p∈f.tms bl,∀q∈p.1.vars 0,0≤q.1∧q.1<549755813888)→
 AC E 108 [.agg f.view,.i bl,.fn (.func 150) [] [.ptr 0 0,.ptr 1 0]] ⟨2,[(0,.var [.i at_]),(1,.var s.view)]⟩ (.agg (f.re (fun b t=>t.re (putG (at_+b) s) 0) bl).view) ⟨2,[(0,.var [.i at_]),(1,.var s.view)]⟩:=by
 intro n
 induction n with
 |zero=>intro f bl h;intros;have:=f.full_pos;omega
 |succ n ih=>
 intro f bl hsz hb hbl hbn hix
 have hsz':=f.full_eq
 have hlen:=lsum_len Fm.full Fm.full_pos f.args
 have hlen2:=lsum_len Tm.full Tm.full_pos f.terms
 have hty:=ownTy_c _ f.ty (Nat.le_refl _) (by omega)
 have hq:=quantifier_c f.kind
 have hre:=Fm.re_eq (fun b t=>t.re (putG (at_+b) s) 0) bl f
 have htm:=f.tms_eq bl
 refine M.F Tryz.func108 ?_
 refine M.w1 @hty ?_
 refine M.rt f.terms.length
  (fun m=>([(1,.i bl),(2,.fn (.func 150) [] [.ptr 0 0,.ptr 1 0]),(3,.ptr 2 0),(6,.ptr 3 0),(7,.ptr 4 0),(19,.s .tm f.terms),(20,.i f.terms.length),(21,.i m)],⟨6,[(0,.var [.i at_]),(1,.var s.view),(2,.var f.view),(3,.var [.i 0,.i 0,.slice .nil (.t .ty []),.slice .nil (.t .tm []),.slice .nil (.t .fm [])]),(4,.var [.i f.kind,.i f.ty.kind,.s .ty f.ty.args,.slice (.own 5) (.t .tm ((f.terms.take m).map ((fun b t=>t.re (putG (at_+b) s) 0) bl))),.slice .nil (.t .fm [])]),(5,.row)]⟩))
  (M.W rn5) ?_ ?_
 ·intro m hm _
  have hs2:=lsum_mem Tm.full (List.getElem_mem hm)
  have hc:=putFmCb at_ s hat hs hsi f.terms[m] bl (by omega) (by omega) (fun p hp=>hix _ (by rw[htm];exact List.mem_append_left _ (List.mem_map.2 ⟨_,List.getElem_mem hm,rfl⟩)) p hp)
  refine M.w1 @hc ?_
  exact⟨rfl,trivial,(M.W [some 0,some 1,some 2,some 3,some 4,some 7] (he:=(by(repeat'(first|exact trivial|exact Or.inr ⟨_,U,rfl⟩|refine And.intro ?_ ?_|refine⟨_,U,_,U,_,U,?_⟩|exact VLe.refl _|exact VLe.of_eq (by simp[Sto.upd,map_take _ _ _ hm])));done)))⟩
 ·intro _
  simp only[List.take_length]
  cases hqk:quantK f.kind with
  |true=>
   rw[hqk] at hq
   have hu:upF f.kind bl=bl+1:=by simp[upF,hqk]
   rw[hu] at hre htm
   refine M.w1 @hq ?_
   refine M.rt f.args.length
    (fun m=>([(1,.i (bl+1)),(2,.fn (.func 150) [] [.ptr 0 0,.ptr 1 0]),(3,.ptr 2 0),(6,.ptr 3 0),(7,.ptr 4 0),(41,.s .fm f.args),(42,.i f.args.length),(43,.i m)],⟨7,[(0,.var [.i at_]),(1,.var s.view),(2,.var f.view),(3,.var [.i 0,.i 0,.slice .nil (.t .ty []),.slice .nil (.t .tm []),.slice .nil (.t .fm [])]),(4,.var [.i f.kind,.i f.ty.kind,.s .ty f.ty.args,.slice (.own 5) (.t .tm (f.terms.map ((fun b t=>t.re (putG (at_+b) s) 0) bl))),.slice (.own 6) (.t .fm ((f.args.take m).map (Fm.re (fun b t=>t.re (putG (at_+b) s) 0) (bl+1))))]),(5,.row),(6,.row)]⟩))
    (M.W rn6) ?_ ?_
   ·intro m hm _
    have hs2:=lsum_mem Fm.full (List.getElem_mem hm)
    have hc:=ih f.args[m] (bl+1) (by omega) (by omega) (by omega) (by omega) (fun p hp=>hix p (by rw[htm];exact List.mem_append_right _ (List.mem_flatMap.2 ⟨_,List.getElem_mem hm,hp⟩)))
    refine M.w1 @hc ?_
    exact⟨rfl,trivial,(M.W [some 0,some 1,some 2,some 3,some 4,some 5,some 8] (he:=(by(repeat'(first|exact trivial|exact Or.inr ⟨_,U,rfl⟩|refine And.intro ?_ ?_|refine⟨_,U,_,U,_,U,?_⟩|exact VLe.refl _|exact VLe.of_eq (by simp[Sto.upd,map_take _ _ _ hm])));done)))⟩
   ·intro _
    simp only[List.take_length]
    refine M.w0 ?_
    (exact M.n2 rh2 (h8:=(by simp[tupV,V.wk,V.wks,constV,Ty.view,Tm.view,hre])))
  |false=>
   rw[hqk] at hq
   have hu:upF f.kind bl=bl:=by simp[upF,hqk]
   rw[hu] at hre htm
   refine M.w1 @hq ?_
   refine M.rt f.args.length
    (fun m=>([(1,.i bl),(2,.fn (.func 150) [] [.ptr 0 0,.ptr 1 0]),(3,.ptr 2 0),(6,.ptr 3 0),(7,.ptr 4 0),(41,.s .fm f.args),(42,.i f.args.length),(43,.i m)],⟨7,[(0,.var [.i at_]),(1,.var s.view),(2,.var f.view),(3,.var [.i 0,.i 0,.slice .nil (.t .ty []),.slice .nil (.t .tm []),.slice .nil (.t .fm [])]),(4,.var [.i f.kind,.i f.ty.kind,.s .ty f.ty.args,.slice (.own 5) (.t .tm (f.terms.map ((fun b t=>t.re (putG (at_+b) s) 0) bl))),.slice (.own 6) (.t .fm ((f.args.take m).map (Fm.re (fun b t=>t.re (putG (at_+b) s) 0) bl)))]),(5,.row),(6,.row)]⟩))
    (M.W rn6) ?_ ?_
   ·intro m hm _
    have hs2:=lsum_mem Fm.full (List.getElem_mem hm)
    have hc:=ih f.args[m] bl (by omega) (by omega) (by omega) (by omega) (fun p hp=>hix p (by rw[htm];exact List.mem_append_right _ (List.mem_flatMap.2 ⟨_,List.getElem_mem hm,hp⟩)))
    refine M.w1 @hc ?_
    exact⟨rfl,trivial,(M.W [some 0,some 1,some 2,some 3,some 4,some 5,some 8] (he:=(by(repeat'(first|exact trivial|exact Or.inr ⟨_,U,rfl⟩|refine And.intro ?_ ?_|refine⟨_,U,_,U,_,U,?_⟩|exact VLe.refl _|exact VLe.of_eq (by simp[Sto.upd,map_take _ _ _ hm])));done)))⟩
   ·intro _
    simp only[List.take_length]
    refine M.w0 ?_
    (exact M.n2 rh2 (h8:=(by simp[tupV,V.wk,V.wks,constV,Ty.view,Tm.view,hre])))
theorem putFm_c(f:Fm)(at_:Int)(s:Tm)(hat:0≤at_∧at_<274877906944)(hs:s.full<274877906944)(hsi:∀p∈s.vars 0,0≤p.1∧p.1<549755813888)(hf:f.full<137438953472)(hix:∀p∈f.tms 0,∀q∈p.1.vars 0,0≤q.1∧q.1<549755813888):PC E 119 [.agg f.view,.i at_,.agg s.view] (.agg (f.put at_ s).view):=by
 have hc:=putFmRe at_ s hat hs hsi _ f 0 (Nat.le_refl _) (by omega) (by omega) (by omega) hix
 refine M.F Tryz.func119 ?_
 repeat'(first|refine M.w0 ?_|refine M.cv (hc) [1,2] 0 ?_|fail)
 rfl
theorem fsize_c(f:Fm)(hf:f.full<1099511627776):PC E 114 [.agg f.view] (.tup [.i f.num,.i f.err]):=by
 have h1:=checkFm_c f hf
 refine M.F Tryz.func114 ?_
 refine M.w1 @h1 ?_
 rfl
theorem fwithin_c(n:Int):PC E 115 [.i n] (.bool (decide (0≤n∧n≤4096))):=by
 refine M.F Tryz.func115 ?_
 repeat'(first|refine M.w0 ?_|refine M.gs ?_ ?_<;>intro h|fail)
 all_goals(simp_all[tupV,V.wk,V.wks,constV];try omega)
theorem fput_c(f:Fm)(at_:Int)(s:Tm)(hf:f.full<137438953472)(hs:s.full<274877906944):PC E 75 [.agg f.view,.i at_,.agg s.view] (.tup [.agg (if putFErr f at_ s=0 then f.put at_ s else noFm).view,.i (putFErr f at_ s)]):=by
 have h1:=fsize_c f (by omega)
 have h2:=size_c s (by omega)
 have h3:=fwithin_c at_
 have h4:=nearFm_c f (by omega)
 have h5:=near_c s (by omega)
 have h6:f.err=0→f.near=true→0≤at_∧at_≤4096→_:=fun h hn ha=>countFm_c f at_ (by omega) (by omega) fun p hp q hq=>by have:=nearF_lt h hn p hp q hq;omega
 have h7:f.err=0→f.near=true→s.err=0→s.near=true→0≤at_∧at_≤4096→_:=fun h hn h' hn' ha=>putFm_c f at_ s (by omega) hs (near_lt h' hn') hf (nearF_lt h hn)
 have hn1:=fnum_le f
 have hn2:=num_le s
 have hle:=f.size_le_full
 have hcl:=cntF_le at_ (f.tms 0)
 have hvl:=tms_size f 0
 have hm:=mul_bd (cntF at_ (f.tms 0)) (s.num-1) (by omega) (by omega)
 have hm': -9223372036854775808≤(cntF at_ (f.tms 0):Int)*(s.num-1)∧(cntF at_ (f.tms 0):Int)*(s.num-1)≤9223372036854775807:=by omega
 refine M.F Tryz.func75 ?_
 repeat'(first|refine M.w5 @h1 @h2 @h3 @h4 @h5 ?_|refine M.c2 (h6 (by simp_all) (by simp_all) (by simp_all)) ?_|refine M.c2 (h7 (by simp_all) (by simp_all) (by simp_all) (by simp_all) (by simp_all)) ?_|refine M.gs ?_ ?_<;>intro h|refine M.cs ?_ ?_<;>intro h|fail)
 all_goals first
  |(simp_all[tupV,V.wk,V.wks,constV,Ty.view,Fm.view,putFErr,noFm,Fm.num,Tm.num];done)
  |skip
 rename_i h0
 have h':¬(0≤at_∧at_≤4096):=by intro hc;simp[hc] at h
 have h0':f.err=0:=by simpa using h0
 have e:putFErr f at_ s=1:=by simp only[putFErr,h0',ne_eq,not_true_eq_false,if_false,h',not_false_eq_true,if_true]
 simp[tupV,V.wk,V.wks,constV,Ty.view,Fm.view,e,noFm]
theorem sameForm_c:∀(n:Nat) (x y:Fm),x.full≤n→n<1099511627776→PC E 95 [.agg x.view,.agg y.view] (.bool (decide (x=y))):=by
 intro n
 induction n with
 |zero=>intro x y h;have:=x.full_pos;omega
 |succ n ih=>
 intro x y hsz hb
 have hsz':=x.full_eq
 have hlen:=lsum_len Fm.full Fm.full_pos x.args
 have hlen2:=lsum_len Tm.full Tm.full_pos x.terms
 have heq:=Fm.eq_iff x y
 have hty:=sameTy2_c _ x.ty y.ty (Nat.le_refl _) (by omega)
 refine M.F Tryz.func95 ?_
 repeat'(first|refine M.w1 @hty ?_|refine M.gs ?_ ?_<;>intro h|refine M.cs ?_ ?_<;>intro h|fail)
 ·have:¬x=y:=by rw[heq];simp_all
  simp[this,tupV,constV,V.wk,V.wks]
 ·have:¬x=y:=by rw[heq];simp_all
  simp[this,tupV,constV,V.wk,V.wks]
 ·have:¬x=y:=by rintro rfl;simp at h
  simp[this,tupV,constV,V.wk,V.wks]
 ·have:¬x=y:=by rintro rfl;simp at h
  simp[this,tupV,constV,V.wk,V.wks]
 ·rename_i h1 h2 h3
  simp at h h1 h2 h3
  have hl:x.args.length=y.args.length:=by omega
  have hl2:x.terms.length=y.terms.length:=by omega
  refine M.rp x.terms.length (fun m=>∀j (hj:j<x.terms.length),j<m→x.terms[j]=y.terms[j]'(by omega))
   (fun m=>([(2,.ptr 0 0),(3,.ptr 1 0),(41,.s .tm x.terms),(42,.i x.terms.length),(43,.i m)],⟨2,[(0,.var x.view),(1,.var y.view)]⟩))
   (by intro j hj h;omega) (M.W rh2) ?_ ?_
  ·intro m hm hP
   have hm':m<y.terms.length:=by omega
   have hs2:=lsum_mem Tm.full (List.getElem_mem hm)
   have hc:=sameTm2_c _ x.terms[m] y.terms[m] (Nat.le_refl _) (by omega)
   repeat'(first|refine M.w1 @hc ?_|refine M.cs ?_ ?_<;>intro h|fail)
   ·have:¬x=y:=by rw[heq];exact fun hc=>list_ne hm hm' (by simpa using h) hc.2.2.1
    simp[this,tupV,constV,V.wk,V.wks]
   ·exact ⟨rfl,step2 hl2 hm hP (by simpa using h),(M.W rh2)⟩
  ·intro hP2
   have hterms:=list_eq hl2 hP2
   refine M.w0 ?_
   refine M.rp x.args.length (fun m=>∀j (hj:j<x.args.length),j<m→x.args[j]=y.args[j]'(by omega))
    (fun m=>([(2,.ptr 0 0),(3,.ptr 1 0),(58,.s .fm x.args),(59,.i x.args.length),(60,.i m)],⟨2,[(0,.var x.view),(1,.var y.view)]⟩))
    (by intro j hj h;omega) (M.W rh2) ?_ ?_
   ·intro m hm hP
    have hm':m<y.args.length:=by omega
    have hs2:=lsum_mem Fm.full (List.getElem_mem hm)
    repeat'(first|refine M.w0 ?_|refine M.c2 (ih _ _ ?_ ?_) ?_|refine M.cs ?_ ?_<;>intro h|exact M.le|exact M.lt|fail)
    ·have:¬x=y:=by rw[heq];exact fun hc=>list_ne hm hm' (by simpa using h) hc.2.2.2
     simp[this,tupV,constV,V.wk,V.wks]
    ·exact ⟨rfl,step2 hl hm hP (by simpa using h),(M.W rh2)⟩
   ·intro hP
    have:x=y:=heq.2 ⟨h1,h2,hterms,list_eq hl hP⟩
    refine M.w0 ?_
    simp[this,tupV,constV,V.wk,V.wks]
theorem fsame_c(x y:Fm)(h:x.full<1099511627776):PC E 54 [.agg x.view,.agg y.view] (.bool (decide (x=y))):=by
 have h1:=sameForm_c _ x y (Nat.le_refl _) h
 refine M.F Tryz.func54 ?_
 refine M.w1 @h1 ?_
 simp[tupV,V.wk,V.wks,constV,Ty.view,Tm.view]
end Go.Ab
