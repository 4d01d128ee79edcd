/- A part of the proofs of this seat's statements: S12, S13, S14, S15, S16, S17, S18, S19, S20, S21, S22, S23. It has no conditions of its own. -/
import Derived.Test.YtkmmlocnghhpiaaGreatDoorA2
import Derived.Test.YtkmmlocnghhpiaaGreatDoorS1
import Derived.Test.YtkmmlocnghhpiaaGreatDoorD1
namespace Go.Ab
open Go Go.Proofs
set_option maxRecDepth 100000
set_option linter.all false
theorem plus_c:PC E 57 [] (.agg plusT.view):=by
 have h0:=var_c 0
 have h1:=var_c 1
 have h2:=n_c 5 [vT 0] (by simp[Tm.full,Tm.fulls,Ty.size,Ty.sizes,vT])
 have h3:=lam_c (sT (vT 0)) (by simp[Tm.full,Tm.fulls,Ty.size,Ty.sizes,vT,sT])
 have h4:=lam_c (lamT (sT (vT 0))) (by simp[Tm.full,Tm.fulls,Ty.size,Ty.sizes,vT,sT,lamT])
 have h5:=rec_c (vT 1) addF (vT 0) (by simp[Tm.full,Tm.fulls,Ty.size,Ty.sizes,vT,sT,lamT,addF])
 have h6:=lam_c (recT (vT 1) addF (vT 0)) (by simp[Tm.full,Tm.fulls,Ty.size,Ty.sizes,vT,sT,lamT,addF,recT])
 have h7:=lam_c (lamT (recT (vT 1) addF (vT 0))) (by simp[Tm.full,Tm.fulls,Ty.size,Ty.sizes,vT,sT,lamT,addF,recT])
 refine M.F Tryz.func57 ?_
 repeat'(first|refine M.gw ?_|refine M.c2 (h0) ?_|refine M.c2 (h1) ?_|refine M.c2 (h2) ?_|refine M.c2 (h3) ?_|refine M.c2 (h4) ?_|refine M.c2 (h5) ?_|refine M.c2 (h6) ?_|refine M.c2 (h7) ?_|fail)
 rfl
theorem pred_c:PC E 111 [] (.agg predT.view):=by
 have h0:=var_c 0
 have h1:=var_c 1
 have h2:=n_c 4 [] (by simp)
 have h3:=lam_c (vT 1) (by simp[Tm.full,Tm.fulls,Ty.size,Ty.sizes,vT,sT])
 have h4:=lam_c (lamT (vT 1)) (by simp[Tm.full,Tm.fulls,Ty.size,Ty.sizes,vT,sT,lamT])
 have h5:=rec_c zT (lamT (lamT (vT 1))) (vT 0) (by simp[Tm.full,Tm.fulls,Ty.size,Ty.sizes,vT,zT,lamT,addF])
 have h6:=lam_c (recT zT (lamT (lamT (vT 1))) (vT 0)) (by simp[Tm.full,Tm.fulls,Ty.size,Ty.sizes,vT,zT,lamT,addF,recT])
 refine M.F Tryz.func111 ?_
 repeat'(first|refine M.gw ?_|refine M.c2 (h0) ?_|refine M.c2 (h1) ?_|refine M.c2 (h2) ?_|refine M.c2 (h3) ?_|refine M.c2 (h4) ?_|refine M.c2 (h5) ?_|refine M.c2 (h6) ?_|fail)
 rfl
theorem sub_c:PC E 58 [] (.agg subT.view):=by
 have h0:=var_c 0
 have h1:=var_c 1
 have hp:=pred_c
 have h2:=n_c 3 [predT,vT 0] (by simp[Tm.full,Tm.fulls,Ty.size,Ty.sizes,vT,zT,lamT,predT,recT])
 have h3:=lam_c (apT predT (vT 0)) (by simp[Tm.full,Tm.fulls,Ty.size,Ty.sizes,vT,zT,lamT,predT,recT,apT])
 have h4:=lam_c (lamT (apT predT (vT 0))) (by simp[Tm.full,Tm.fulls,Ty.size,Ty.sizes,vT,zT,lamT,predT,recT,apT])
 have h5:=rec_c (vT 1) subF (vT 0) (by simp[Tm.full,Tm.fulls,Ty.size,Ty.sizes,vT,zT,lamT,predT,recT,apT,subF])
 have h6:=lam_c (recT (vT 1) subF (vT 0)) (by simp[Tm.full,Tm.fulls,Ty.size,Ty.sizes,vT,zT,lamT,predT,recT,apT,subF])
 have h7:=lam_c (lamT (recT (vT 1) subF (vT 0))) (by simp[Tm.full,Tm.fulls,Ty.size,Ty.sizes,vT,zT,lamT,predT,recT,apT,subF])
 refine M.F Tryz.func58 ?_
 repeat'(first|refine M.gw ?_|refine M.c2 (h0) ?_|refine M.c2 (h1) ?_|refine M.c2 (hp) ?_|refine M.c2 (h2) ?_|refine M.c2 (h3) ?_|refine M.c2 (h4) ?_|refine M.c2 (h5) ?_|refine M.c2 (h6) ?_|refine M.c2 (h7) ?_|fail)
 rfl
theorem appMake_c:∀(f:Tm) (l:List Tm),f.full+2*l.length+(l.map Tm.full).sum<274877906944→PC E 56 [.agg f.view,.s .tm l] (.agg (l.foldl apT f).view):=by
 intro f l hl
 have hlen:=lsum_len Tm.full Tm.full_pos l
 have hfull:∀m,m≤l.length→((l.take m).foldl apT f).full≤f.full+2*m+((l.take m).map Tm.full).sum:=by
  intro m
  induction m with
  |zero=>intro _;simp
  |succ m ih=>
   intro hm
   have h1:=ih (by omega)
   have h2:=lsum_take Tm.full l m (by omega)
   rw[←List.take_append_getElem (by omega:m<l.length),List.foldl_append,List.take_append_getElem (by omega:m<l.length),h2]
   simp only[List.foldl_cons,List.foldl_nil,apT,Tm.full,Tm.fulls,Ty.size,Ty.sizes]
   omega
 refine M.F Tryz.func56 ?_
 repeat'(first|refine M.gw ?_|fail)
 refine AW.range l.length (fun m=>True)
  (fun m=>([(2,.ptr 0 0),(4,.ptr 1 0),(7,.s .tm l),(8,.i l.length),(9,.i m)],⟨2,[(0,.var ((l.take m).foldl apT f).view),(1,.var [.i 0,.i 0,.i 0,.slice .nil (.t .ty []),.slice .nil (.t .tm [])])]⟩))
  (by omega) (fun m=>rfl) (fun m=>rfl) rfl trivial (M.W [some 0,some 1]) ?_ ?_
 ·intro m hm hP
  have e:(l.take (m+1)).foldl apT f=apT ((l.take m).foldl apT f) l[m]:=by rw[←List.take_append_getElem hm,List.foldl_append];rfl
  have h2:=lsum_take_le Tm.full l (m+1)
  have h3:=lsum_take Tm.full l m hm
  have h4:=hfull m (by omega)
  have h1:=n_c 3 [(l.take m).foldl apT f,l[m]] (by simp only[List.map_cons,List.map_nil,List.sum_cons,List.sum_nil];omega)
  repeat'(first|refine M.gw ?_|refine M.c2 (h1) ?_|fail)
  refine⟨rfl,trivial,?_⟩
  exact(M.W [some 0,some 1] (he:=(by(repeat'(first|exact trivial|refine And.intro ?_ ?_|refine⟨_,U,_,U,_,U,?_⟩|exact VLe.refl _|exact VLe.of_eq (by simp[Sto.upd,e,apT])));done)))
 ·intro _
  repeat'(first|refine M.gw ?_|fail)
  simp[tupV,V.wk,V.wks,constV,Ty.view,Tm.view]
theorem vars_c(g:List Ty)(t:Ty)(hg:(g.map Ty.size).sum<1099511627776):PC E 50 [.s .ty g,.agg t.view] (.s .int (varsT g t)):=by
 have hlen:=lsum_len Ty.size Ty.size_pos g
 refine M.F Tryz.func50 ?_
 repeat'(first|refine M.gw ?_|fail)
 refine AW.range g.length (fun m=>True)
  (fun m=>([(0,.s .ty g),(3,.ptr 0 0),(5,.slice (.own 1) (.t .int (((List.range m).filter fun i=>decide (g[g.length-1-i]? =some t)).map Int.ofNat))),(8,.i g.length),(9,.i m)],⟨2,[(0,.var t.view),(1,.row)]⟩))
  (by omega) (fun m=>rfl) (fun m=>rfl) rfl trivial (M.W [some 0,none]) ?_ ?_
 ·intro m hm hP
  have hm2:g.length-1-m<g.length:=by omega
  have hs2:=lsum_mem Ty.size (List.getElem_mem hm2)
  have hsame:=sameTy_c _ g[g.length-1-m] t (Nat.le_refl _) (by omega)
  have hg:g[g.length-1-m]? =some g[g.length-1-m]:=List.getElem?_eq_getElem hm2
  have hfl:(List.filter (fun i=>decide (g[g.length-1-i]? =some t)) (List.range m)).length≤m:=by have:=List.length_filter_le (fun i=>decide (g[g.length-1-i]? =some t)) (List.range m);simpa using this
  repeat'(first|refine M.gw ?_|fail)
  refine L.ixt (g.length-1-m) rfl rfl rfl rfl (by omega) rfl rfl (by omega) ?_
  repeat'(first|refine M.gw ?_|refine M.c2 (hsame) ?_|refine M.cs ?_ ?_<;>intro h|fail)
  ·exact ⟨rfl,trivial,(M.W [some 0,some 2] (hf:=(by(repeat'(first|exact trivial|refine And.intro ?_ ?_|refine⟨_,U,_,U,?_⟩|exact VLe.refl _|exact VLe.of_eq (by simp[Sto.upd,List.range_succ,hg,of_decide_eq_true h])));done)))⟩
  ·exact ⟨rfl,trivial,(M.W [some 0,some 1] (hf:=(by(repeat'(first|exact trivial|refine And.intro ?_ ?_|refine⟨_,U,_,U,?_⟩|exact VLe.refl _|exact VLe.of_eq (by simp[Sto.upd,List.range_succ,hg,of_decide_eq_false h])));done)))⟩
 ·intro _
  repeat'(first|refine M.gw ?_|fail)
  simp[tupV,V.wk,V.wks]
  rfl
theorem shapeTy_c:∀(b:Nat) (t:Ty),t.size≤b→b<1099511627776→PC E 157 [.agg t.view] (.bool t.shape):=by
 intro b
 induction b with
 |zero=>intro t h;have:=t.size_pos;omega
 |succ b ih=>
 intro t hsz hb
 have hsz':=Ty.size_eq t
 have hlen:=lsum_len Ty.size Ty.size_pos t.args
 have hsh:=Ty.shape_eq t
 refine M.F Tryz.func157 ?_
 repeat'(first|refine M.gw ?_|fail)
 refine AW.cutT (ι:={n:Nat // arT t.kind=some n}) (fun n=>([(1,.ptr 0 0),(3,.i n.1)],⟨1,[(0,.var t.view)]⟩)) ?_ ?_
 ·refine AW.block ?_
  repeat'(first|refine M.gw ?_|refine M.cs ?_ ?_<;>intro h|fail)
  ·exact ⟨⟨0,by simp at h;simp[arT,h]⟩,(M.W [some 0])⟩
  ·exact ⟨⟨0,by simp at h;simp[arT,h]⟩,(M.W [some 0])⟩
  ·exact ⟨⟨0,by simp at h;simp[arT,h]⟩,(M.W [some 0])⟩
  ·exact ⟨⟨2,by simp at h;simp[arT,h]⟩,(M.W [some 0])⟩
  ·exact ⟨⟨2,by simp at h;simp[arT,h]⟩,(M.W [some 0])⟩
  ·have:t.shape=false:=by simp at*;simp[hsh,arT, *]
   simp[this,tupV,constV,V.wk,V.wks]
 rintro⟨n,hn⟩
 repeat'(first|refine M.gw ?_|refine M.cs ?_ ?_<;>intro h|fail)
 ·have h1:¬t.args.length=n:=by simp at h;omega
  have:t.shape=false:=by simp[hsh,hn,h1]
  simp[this,tupV,constV,V.wk,V.wks]
 have hn':t.args.length=n:=by simp at h;omega
 refine AW.range t.args.length (fun m=>∀j (hj:j<t.args.length),j<m→(t.args[j]).shape=true)
  (fun m=>([(1,.ptr 0 0),(21,.s .ty t.args),(22,.i t.args.length),(23,.i m)],⟨1,[(0,.var t.view)]⟩))
  (by omega) (fun m=>rfl) (fun m=>rfl) rfl (by intro j hj h;omega) (M.W [some 0]) ?_ ?_
 ·intro m hm hP
  have hs2:=lsum_mem Ty.size (List.getElem_mem hm)
  repeat'(first|refine M.gw ?_|refine M.c2 (ih _ ?_ ?_) ?_|refine M.cs ?_ ?_<;>intro h|exact M.le|exact M.lt|fail)
  ·have h1:(t.args[m]).shape=false:=by simpa using h
   have:t.shape=false:=by rw[hsh,all_not Ty.shape hm h1,Bool.and_false]
   simp[this,tupV,constV,V.wk,V.wks]
  ·have hh:(t.args[m]).shape=true:=by simpa using h
   exact⟨rfl,all_step (p:=fun t=>Ty.shape t=true) hm hP hh,(M.W [some 0])⟩
 ·intro hP
  have:t.shape=true:=by simp only[hsh,hn,hn',all_of Ty.shape t.args fun j hj=>hP j hj hj];simp
  repeat'(first|refine M.gw ?_|fail)
  simp[this,tupV,constV,V.wk,V.wks]
theorem sizeTy_c:∀(b:Nat) (t:Ty),t.size≤b→b<1099511627776→PC E 158 [.agg t.view] (.i t.size):=by
 intro b
 induction b with
 |zero=>intro t h;have:=t.size_pos;omega
 |succ b ih=>
 intro t hsz hb
 have hsz':=Ty.size_eq t
 have hlen:=lsum_len Ty.size Ty.size_pos t.args
 refine M.F Tryz.func158 ?_
 repeat'(first|refine M.gw ?_|fail)
 refine AW.range t.args.length (fun m=>True)
  (fun m=>([(3,.i (1+((t.args.take m).map Ty.size).sum)),(7,.s .ty t.args),(8,.i t.args.length),(9,.i m)],⟨1,[(0,.var t.view)]⟩))
  (by omega) (fun m=>rfl) (fun m=>rfl) rfl trivial (M.W [some 0]) ?_ ?_
 ·intro m hm hP
  have hs1:=lsum_take Ty.size t.args m hm
  have hs2:=lsum_mem Ty.size (List.getElem_mem hm)
  have hs3:=lsum_take_le Ty.size t.args (m+1)
  have e:(1+((((t.args.take (m+1)).map Ty.size).sum:Nat):Int))=1+(((t.args.take m).map Ty.size).sum:Nat)+t.args[m].size:=by rw[hs1];omega
  repeat'(first|refine M.gw ?_|refine M.c2 (ih _ ?_ ?_) ?_|exact M.le|exact M.lt|fail)
  refine⟨rfl,trivial,?_⟩
  simp only[e]
  exact(M.W [some 0])
 ·intro hP
  repeat'(first|refine M.gw ?_|fail)
  simp[tupV,constV,hsz',V.wk,V.wks]
theorem checkTyR_c(t:Ty)(ht:t.size<1099511627776):PC E 126 [.agg t.view] (.i t.err):=by
 have h1:=shapeTy_c _ t (Nat.le_refl _) ht
 have h2:=sizeTy_c _ t (Nat.le_refl _) ht
 refine M.F Tryz.func126 ?_
 repeat'(first|refine M.gw ?_|refine M.c2 (h1) ?_|refine M.c2 (h2) ?_|refine M.cs ?_ ?_<;>intro h|fail)
 all_goals simp_all[tupV,V.wk,V.wks,constV,Ty.err]
 all_goals(first|omega|(split<;>first|omega|simp_all))
theorem zeroTy_c(t:Ty):PC E 123 [.agg t.view] (.bool t.isNo):=by
 refine M.F Tryz.func123 ?_
 repeat'(first|refine M.gw ?_|refine M.gs ?_ ?_<;>intro h|fail)
 all_goals simp_all[tupV,V.wk,V.wks,constV,Ty.isNo]
 rw[Bool.eq_iff_iff];simp
theorem okTy_c(t:Ty)(ht:t.size<1099511627776):PC E 193 [.agg t.view] (.tup [.agg (if t.err=0 then t else noTy).view,.i (if t.err=0 then 0 else 4)]):=by
 have h1:=checkTyR_c t ht
 refine M.F Tryz.func193 ?_
 repeat'(first|refine M.gw ?_|refine M.c2 (h1) ?_|refine M.cs ?_ ?_<;>intro h|fail)
 all_goals simp_all[tupV,V.wk,V.wks,constV,noTy,Ty.view]
theorem contextR_c(l:List Ty)(hl:(l.map Ty.size).sum<1099511627776):PC E 88 [.s .ty l] (.i (ctxErr l)):=by
 have hlen:=lsum_len Ty.size Ty.size_pos l
 refine M.F Tryz.func88 ?_
 repeat'(first|refine M.gw ?_|refine M.cs ?_ ?_<;>intro h|fail)
 ·have h':l.length>16:=by simp at h;omega
  simp[tupV,V.wk,V.wks,constV,ctxErr,h']
 have h':¬l.length>16:=by simp at h;omega
 refine AW.range l.length (fun m=>∀j (hj:j<l.length),j<m→l[j].err=0)
  (fun m=>([(9,.s .ty l),(10,.i l.length),(11,.i m)],⟨0,[]⟩))
  (by omega) (fun m=>rfl) (fun m=>rfl) rfl (by intro j hj h;omega) (M.W []) ?_ ?_
 ·intro m hm hP
  have hs2:=lsum_mem Ty.size (List.getElem_mem hm)
  repeat'(first|refine M.gw ?_|refine M.c2 (checkTyR_c _ ?_) ?_|refine M.cs ?_ ?_<;>intro h|exact M.lt|fail)
  ·have h1:¬l[m].err=0:=by simpa using h
   simp[tupV,V.wk,V.wks,constV,ctxErr,h',firstErr_at l m hm hP h1]
  ·exact ⟨rfl,all_step (p:=fun t=>Ty.err t=0) hm hP (by simpa using h),(M.W [])⟩
 ·intro hP
  repeat'(first|refine M.gw ?_|fail)
  simp[tupV,V.wk,V.wks,constV,ctxErr,h',firstErr_none l hP]
theorem args_c(k:Int):PC E 156 [.i k] (.i (argsI k)):=by
 refine M.F Tryz.func156 ?_
 repeat'(first|refine M.gw ?_|refine M.bl ?_|refine M.cs ?_ ?_<;>intro h|fail)
 all_goals
  simp only[beq_iff_eq,beq_eq_false_iff_ne,ne_eq] at*
  simp[tupV,V.wk,V.wks,constV,argsI, *]
theorem countTm_c:∀(b:Nat) (t:Tm),t.full≤b→b<1099511627776→PC E 103 [.agg t.view] (.i t.size):=by
 intro b
 induction b with
 |zero=>intro t h;have:=t.full_pos;omega
 |succ b ih=>
 intro t hsz hb
 have hsz':=Tm.full_eq t
 have hszz:=Tm.size_eq t
 have hle:=Tm.size_le_full t
 have hlen:=lsum_len Tm.full Tm.full_pos t.args
 refine M.F Tryz.func103 ?_
 repeat'(first|refine M.gw ?_|fail)
 refine AW.range t.args.length (fun m=>True)
  (fun m=>([(3,.i (1+((t.args.take m).map Tm.size).sum)),(7,.s .tm t.args),(8,.i t.args.length),(9,.i m)],⟨1,[(0,.var t.view)]⟩))
  (by omega) (fun m=>rfl) (fun m=>rfl) rfl trivial (M.W [some 0]) ?_ ?_
 ·intro m hm hP
  have hs1:=lsum_take Tm.size t.args m hm
  have hs2:=lsum_mem Tm.full (List.getElem_mem hm)
  have hs3:=lsum_take_le Tm.size t.args (m+1)
  have e:(1+((((t.args.take (m+1)).map Tm.size).sum:Nat):Int))=1+(((t.args.take m).map Tm.size).sum:Nat)+t.args[m].size:=by rw[hs1];omega
  repeat'(first|refine M.gw ?_|refine M.c2 (ih _ ?_ ?_) ?_|exact M.le|exact M.lt|fail)
  refine⟨rfl,trivial,?_⟩
  simp only[e]
  exact(M.W [some 0])
 ·intro hP
  repeat'(first|refine M.gw ?_|fail)
  simp[tupV,constV,hszz,V.wk,V.wks]
end Go.Ab
namespace Go.Ab
open Go Go.Proofs
set_option maxRecDepth 100000
set_option maxHeartbeats 4000000
set_option linter.all false
theorem argsI_eq(k:Int):argsI k=match arK k with|some n=>(n:Int)|none=> -1:=by
 simp only[argsI,arK];(repeat' split)<;>simp_all<;>omega
theorem Tm.head_eqR(t:Tm):t.head=(!((t.args.length:Int) !=argsI t.kind)&& !decide (t.index<0)&&(!(t.kind !=1)|| !(t.index !=0))&&(bif typedK t.kind then !(t.ty.err !=0) else !(!t.ty.isNo))):=by
 simp only[Tm.head,Ty.ok_err,argsI_eq]
 cases hk:arK t.kind with
 |none=>
  have:((t.args.length:Int) != -1)=true:=by simp
  simp[this]
 |some n=>
  have h1:(t.args.length==n)= !((t.args.length:Int) !=((n:Nat):Int)):=by rw[Bool.eq_iff_iff];simp;omega
  have h2:decide (0≤t.index)= !decide (t.index<0):=by rw[Bool.eq_iff_iff];simp
  simp only[h1,h2,bne]
  cases(t.index==0)<;>cases(t.kind==1)<;>simp
theorem shapeTm_c:∀(b:Nat) (t:Tm),t.full≤b→b<1099511627776→PC E 124 [.agg t.view] (.bool t.shape):=by
 intro b
 induction b with
 |zero=>intro t h;have:=t.full_pos;omega
 |succ b ih=>
 intro t hsz hb
 have hsz':=Tm.full_eq t
 have hlen:=lsum_len Tm.full Tm.full_pos t.args
 have hsh:=Tm.shape_eq t
 have h1:=args_c t.kind
 have h3:=zeroTy_c t.ty
 have h4:=checkTyR_c t.ty (by omega)
 refine M.F Tryz.func124 ?_
 repeat'(first|refine M.gw ?_|refine M.c2 (h1) ?_|refine M.c2 (h3) ?_|refine M.c2 (h4) ?_|refine M.gs ?_ ?_<;>intro h|refine M.bl ?_|refine M.cs ?_ ?_<;>intro h|fail)
 all_goals first
  |(have hd:t.head=false:=by rw[t.head_eqR];simp_all[typedK]
    have:t.shape=false:=by rw[hsh,hd,Bool.false_and]
    simp[this,tupV,constV,V.wk,V.wks];done)
  |(have hd:t.head=true:=by rw[t.head_eqR];simp_all[typedK]
    refine AW.range t.args.length (fun m=>∀j (hj:j<t.args.length),j<m→(t.args[j]).shape=true)
     (fun m=>([(1,.ptr 0 0),(42,.s .tm t.args),(43,.i t.args.length),(44,.i m)],⟨1,[(0,.var t.view)]⟩))
     (by omega) (fun m=>rfl) (fun m=>rfl) rfl (by intro j hj h;omega) (M.W [some 0]) ?_ ?_
    ·intro m hm hP
     have hs2:=lsum_mem Tm.full (List.getElem_mem hm)
     repeat'(first|refine M.gw ?_|refine M.c2 (ih _ ?_ ?_) ?_|refine M.cs ?_ ?_<;>intro h|exact M.le|exact M.lt|fail)
     ·have h1:(t.args[m]).shape=false:=by simpa using h
      have:t.shape=false:=by rw[hsh,all_not Tm.shape hm h1,Bool.and_false]
      simp[this,tupV,constV,V.wk,V.wks]
     ·have hh:(t.args[m]).shape=true:=by simpa using h
      exact⟨rfl,all_step (p:=fun t=>Tm.shape t=true) hm hP hh,(M.W [some 0])⟩
    ·intro hP
     have:t.shape=true:=by simp only[hsh,hd,all_of Tm.shape t.args fun j hj=>hP j hj hj];simp
     repeat'(first|refine M.gw ?_|fail)
     simp[this,tupV,constV,V.wk,V.wks])
theorem checkTmR_c(t:Tm)(ht:t.full<1099511627776):PC E 100 [.agg t.view] (.i t.err):=by
 have h1:=shapeTm_c _ t (Nat.le_refl _) ht
 have h2:=countTm_c _ t (Nat.le_refl _) ht
 refine M.F Tryz.func100 ?_
 repeat'(first|refine M.gw ?_|refine M.c2 (h1) ?_|refine M.c2 (h2) ?_|refine M.cs ?_ ?_<;>intro h|fail)
 all_goals simp_all[tupV,V.wk,V.wks,constV,Tm.err]
 all_goals(first|omega|(split<;>first|omega|simp_all))
end Go.Ab
namespace Go.Ab
open Go Go.Proofs
set_option maxRecDepth 100000
set_option maxHeartbeats 40000000
set_option linter.all false
theorem infer_c:∀(n:Nat) (t:Tm) (g:List Ty),t.full≤n→n<274877906944→t.shape=true→(∀x∈g,x.err=0)→g.length+n<274877906944→PC E 183 [.s .ty g,.agg t.view] (.tup [.agg (t.inf g).1.view,.i (t.inf g).2]):=by
 intro n
 induction n with
 |zero=>intro t g h;have:=t.full_pos;omega
 |succ n ih=>
 intro t g hsz hb hsh hg hgn
 have hsz':=Tm.full_eq t
 have hlen:=lsum_len Tm.full Tm.full_pos t.args
 have hix:=shape_index hsh
 have hak:=arK_len hsh
 have hargs:=shape_args hsh
 have hinf:=Tm.inf_eq g t
 have e64:∀{x:Ty},x.err=0→x.size≤64:=fun h=>((Ty.err_iff _).1 h).2
 by_cases k1:t.kind=1
 ·rw [if_pos k1] at hinf
  have hk:(t.kind==1)=true:=by simp[k1]
  refine M.F Tryz.func183 ?_
  by_cases hlt:t.index≥g.length
  ·rw [if_pos hlt] at hinf
   repeat'(first|refine M.gw ?_|refine M.cs ?_ ?_<;>intro h|fail)
   all_goals first
    |(exfalso;simp_all;done)
    |(simp[tupV,V.wk,V.wks,constV,Ty.view,hinf,noTy];done)
    |(exfalso;simp at*;omega)
  ·rw [if_neg hlt] at hinf
   have h0:g.length-1-t.index.toNat<g.length:=by omega
   have hcp:=copyTy_c _ (g[g.length-1-t.index.toNat]) (Nat.le_refl _) (by have:=e64 (hg _ (List.getElem_mem h0));omega)
   rw[at0_lt h0] at hinf
   repeat'(first|refine M.gw ?_|refine M.cs ?_ ?_<;>intro h|fail)
   all_goals first
    |(exfalso;simp_all;done)
    |(exfalso;simp at*;omega)
    |skip
   refine L.ixt (g.length-1-t.index.toNat) rfl rfl rfl rfl (by omega) rfl rfl h0 ?_
   repeat'(first|refine M.gw ?_|refine M.c2 (hcp) ?_|fail)
   simp[tupV,V.wk,V.wks,constV,Ty.view,hinf]
 rw[if_neg k1] at hinf
 by_cases k2:t.kind=2
 ·rw [if_pos k2] at hinf
  have hl1:t.args.length=1:=by rw[k2] at hak;exact(Option.some.inj hak).symm
  have h0:0<t.args.length:=by omega
  have hte:t.ty.err=0:=shape_ty hsh (by rw[k2];rfl)
  have hs2:=lsum_mem Tm.full (List.getElem_mem h0)
  have hg':∀x∈g++[t.ty],x.err=0:=fun x hx=>by
   rcases List.mem_append.1 hx with hx|hx
   ·exact hg x hx
   ·simp at hx;subst hx;exact hte
  have hc:=ih t.args[0] (g++[t.ty]) (by omega) (by omega) (hargs _ (List.getElem_mem h0)) hg' (by simp;omega)
  have hgood:=Tm.inf_good t.args[0] (g++[t.ty]) (hargs _ (List.getElem_mem h0)) hg'
  have hinfs:Tm.infs (g++[t.ty]) t.args=if(t.args[0].inf (g++[t.ty])).2≠0 then([],(t.args[0].inf (g++[t.ty])).2) else([(t.args[0].inf (g++[t.ty])).1],0):=
   (congrArg (Tm.infs (g++[t.ty])) (len1 hl1)).trans (by simp only[Tm.infs,ne_eq,not_true_eq_false,if_false])
  have hf:(t.args[0].inf (g++[t.ty])).2=0→_:=fun h=>fun_c t.ty (t.args[0].inf (g++[t.ty])).1 (by have:=e64 hte;omega) (by have:=e64 (hgood h);omega)
  have ho:(t.args[0].inf (g++[t.ty])).2=0→_:=fun h=>okTy_c (funT t.ty (t.args[0].inf (g++[t.ty])).1) (by have:=e64 (hgood h);have:=e64 hte;simp only[funT,Ty.size,Ty.sizes];omega)
  refine M.F Tryz.func183 ?_
  repeat'(first|refine M.gw ?_|refine M.c2 (hc) ?_|refine M.c2 (hf (by simp_all)) ?_|refine M.c2 (ho (by simp_all)) ?_|refine M.cs ?_ ?_<;>intro h|fail)
  all_goals first
   |(exfalso;simp_all;done)
   |skip
  ·have h':(t.args[0].inf (g++[t.ty])).2≠0:=by simpa using h
   rw[if_pos h'] at hinfs
   rw[hinfs,if_pos h'] at hinf
   simp[tupV,V.wk,V.wks,constV,Ty.view,hinf,noTy]
  ·have h':¬(t.args[0].inf (g++[t.ty])).2≠0:=by simpa using h
   rw[if_neg h'] at hinfs
   rw[hinfs] at hinf
   have hinf':t.inf g=okT (funT t.ty (t.args[0].inf (g++[t.ty])).1):=by rw[hinf];rfl
   rw[hinf']
   by_cases he:(funT t.ty (t.args[0].inf (g++[t.ty])).1).err=0
   ·simp [tupV,V.wk,V.wks,constV,Ty.view,okT,he]
   ·simp [tupV,V.wk,V.wks,constV,Ty.view,okT,he]
 rw[if_neg k2] at hinf
 refine M.F Tryz.func183 ?_
 repeat'(first|refine M.gw ?_|refine M.cs ?_ ?_<;>intro h|fail)
 all_goals first
  |(exfalso;simp_all;done)
  |skip
 refine AW.range t.args.length (fun m=>∀j (hj:j<t.args.length),j<m→(t.args[j].inf g).2=0)
  (fun m=>([(0,.s .ty g),(3,.ptr 0 0),(4,.ptr 1 0),(8,.slice (.own 2) (.t .ty ((t.args.take m).map fun x=>(x.inf g).1))),(67,.s .tm t.args),(68,.i t.args.length),(69,.i m)],⟨3,[(0,.var t.view),(1,.var [.i 0,.slice .nil (.t .ty [])]),(2,.row)]⟩))
  (by omega) (fun m=>rfl) (fun m=>rfl) rfl (by intro j hj h;omega) (M.W [some 0,some 1,none]) ?_ ?_
 ·intro m hm hP
  have hs2:=lsum_mem Tm.full (List.getElem_mem hm)
  have hc:=ih t.args[m] g (by omega) (by omega) (hargs _ (List.getElem_mem hm)) hg (by omega)
  repeat'(first|refine M.gw ?_|refine M.c2 (hc) ?_|refine M.cs ?_ ?_<;>intro h|fail)
  ·have h':(t.args[m].inf g).2≠0:=by simpa using h
   have h2:=Tm.infs_err g t.args m hm hP h'
   rw[h2,if_pos h'] at hinf
   simp[tupV,V.wk,V.wks,constV,Ty.view,hinf,noTy]
  ·have h':(t.args[m].inf g).2=0:=by simpa using h
   refine⟨rfl,all_step (p:=fun x:Tm=>(x.inf g).2=0) hm hP h',?_⟩
   exact(M.W [some 0,some 1,some 5] (hf:=(by(repeat'(first|exact trivial|refine And.intro ?_ ?_|refine⟨_,U,_,U,?_⟩|exact VLe.refl _|exact VLe.of_eq (by simp[Sto.upd,map_take _ _ _ hm])));done)))
 ·intro hP
  have hall:∀x∈t.args,(x.inf g).2=0:=fun x hx=>by
   obtain⟨j,hj,rfl⟩:=List.mem_iff_getElem.1 hx
   exact hP j hj hj
  have h5:=Tm.infs_ok g t.args hall
  have hgood:∀x∈t.args.map (fun x=>(x.inf g).1),x.err=0:=fun x hx=>by
   obtain⟨y,hy,rfl⟩:=List.mem_map.1 hx
   exact Tm.inf_good y g (hargs y hy) hg (hall y hy)
  rw[h5] at hinf
  simp only[ne_eq,not_true_eq_false,if_false] at hinf
  have hLl:(t.args.map fun x=>(x.inf g).1).length=t.args.length:=by simp
  rw[show t.args.take t.args.length=t.args from List.take_length]
  generalize hL:t.args.map (fun x=>(x.inf g).1)=L at*
  have hty:=shape_ty hsh
  have hcpT:typedK t.kind=true→_:=fun h=>copyTy_c _ t.ty (Nat.le_refl _) (by have:=e64 (hty h);omega)
  clear hP hall h5 hargs hlen ih hsz' hix hsz
  rw[←hLl] at hak
  rcases arK_cases hak with⟨hn,hk⟩|⟨hn,hk⟩|⟨hn,hk⟩|⟨hn,hk⟩
  ·have hLL:=List.eq_nil_of_length_eq_zero hn
   subst hLL
   obtain⟨k,i,th,xs⟩:=t
   simp only[Tm.kind_mk,Tm.ty_mk] at hk hinf
   rcases hk with rfl|rfl|rfl|rfl
   ·exact absurd rfl k1
   all_goals
    repeat'(first|refine M.gw ?_|refine M.c2 (nat_c) ?_|refine M.c2 (list_c) ?_|refine M.c2 (unit_c) ?_|refine M.bl ?_|fail)
    simp[tupV,V.wk,V.wks,constV,Ty.view,hinf,rule,natT,listT,unitT]
  ·obtain ⟨x,hLL⟩:=len_1 hn
   subst hLL
   have hx:=hgood x (by simp)
   have hxn:=sameTy_c _ x natT (Nat.le_refl _) (by have:=e64 hx;omega)
   have hx2:x.kind=3→∃y z,x.args=[y,z]:=fun h=>Ty.args_two ((Ty.err_iff _).1 hx).1 (.inl h)
   obtain⟨k,i,th,xs⟩:=t
   simp only[Tm.kind_mk,Tm.ty_mk] at hk hinf
   rcases hk with rfl|rfl|rfl|rfl
   ·exact absurd rfl k2
   ·repeat' (first|refine M.gw ?_|refine M.c2 (nat_c) ?_|refine M.c2 (list_c) ?_|refine M.c2 (hxn) ?_|refine M.bl ?_|refine M.cs ?_ ?_<;>intro h|fail)
    ·have h':¬x=natT:=by simpa using h
     simp[tupV,V.wk,V.wks,constV,Ty.view,hinf,rule,h',noTy]
    ·have h':x=natT:=by simpa using h
     simp[tupV,V.wk,V.wks,constV,Ty.view,hinf,rule,h',natT]
   all_goals
    by_cases hx3:x.kind=3
    ·obtain ⟨y,z,hyz⟩:=hx2 hx3
     obtain⟨xk,xa⟩:=x
     simp only[Ty.kind_mk,Ty.args_mk] at hx3 hyz
     subst hx3
     subst hyz
     repeat'(first|refine M.gw ?_|refine M.c2 (nat_c) ?_|refine M.c2 (list_c) ?_|refine M.bl ?_|fail)
     simp[tupV,V.wk,V.wks,constV,Ty.view,EC.view,hinf,rule]
    ·repeat' (first|refine M.gw ?_|refine M.c2 (nat_c) ?_|refine M.c2 (list_c) ?_|refine M.bl ?_|refine M.cs ?_ ?_<;>intro h|fail)
     ·simp [tupV,V.wk,V.wks,constV,Ty.view,hinf,rule,hx3,noTy]
     all_goals exact absurd (by simpa using h) hx3
  ·obtain ⟨x,y,hLL⟩:=len_2 hn
   subst hLL
   have hx:=hgood x (by simp)
   have hy:=hgood y (by simp)
   have ex:=e64 hx
   have ey:=e64 hy
   have hxn:=sameTy_c _ x natT (Nat.le_refl _) (by omega)
   have hyl:=sameTy_c _ y listT (Nat.le_refl _) (by omega)
   have hx2:x.kind=4→∃y z,x.args=[y,z]:=fun h=>Ty.args_two ((Ty.err_iff _).1 hx).1 (.inr h)
   obtain⟨k,i,th,xs⟩:=t
   simp only[Tm.kind_mk,Tm.ty_mk] at hk hinf
   rcases hk with rfl|rfl|rfl
   ·by_cases hx3:x.kind=4
    ·obtain ⟨a,b,hab⟩:=hx2 hx3
     obtain⟨xk,xa⟩:=x
     simp only[Ty.kind_mk,Ty.args_mk] at hx3 hab
     subst hx3
     subst hab
     simp only[Ty.size,Ty.sizes] at ex
     have hay:=sameTy_c _ a y (Nat.le_refl _) (by omega)
     repeat'(first|refine M.gw ?_|refine M.c2 (nat_c) ?_|refine M.c2 (list_c) ?_|refine M.c2 (hay) ?_|refine M.bl ?_|refine M.cs ?_ ?_<;>intro h|fail)
     ·have h':¬a=y:=by simpa using h
      simp[tupV,V.wk,V.wks,constV,Ty.view,hinf,rule,h',noTy]
     ·have h':a=y:=by simpa using h
      simp[tupV,V.wk,V.wks,constV,Ty.view,EC.view,hinf,rule,h']
    ·repeat' (first|refine M.gw ?_|refine M.c2 (nat_c) ?_|refine M.c2 (list_c) ?_|refine M.gs ?_ ?_<;>intro h|refine M.bl ?_|fail)
     ·simp [tupV,V.wk,V.wks,constV,Ty.view,hinf,rule,hx3,noTy]
     ·exact absurd (by simpa using h) hx3
   ·clear hgood hLl hL hak hn hsh hcpT hty e64 hg hx2
    repeat'(first|refine M.gw ?_|refine M.c2 (nat_c) ?_|refine M.c2 (list_c) ?_|refine M.c2 (hxn) ?_|refine M.c2 (hyl) ?_|refine M.gs ?_ ?_<;>intro h|refine M.bl ?_|refine M.cs ?_ ?_<;>intro h|fail)
    all_goals
     clear hxn hyl
     by_cases p1:x=natT<;>by_cases p2:y=listT<;>first
      |(exfalso;simp[p1,p2] at*;done)
      |(simp[tupV,V.wk,V.wks,constV,Ty.view,EC.view,hinf,rule,p1,p2,noTy];done)
      |(simp[tupV,V.wk,V.wks,constV,Ty.view,EC.view,hinf,rule,p1,p2];rfl)
      |(simp[tupV,V.wk,V.wks,constV,Ty.view,EC.view,hinf,rule,p1,p2,listT];done)
   ·have htw:=two_c x y (by omega) (by omega)
    have hok:=okTy_c (twoT x y) (by simp only[twoT,Ty.size,Ty.sizes];omega)
    repeat'(first|refine M.gw ?_|refine M.c2 (nat_c) ?_|refine M.c2 (list_c) ?_|refine M.c2 (htw) ?_|refine M.c2 (hok) ?_|refine M.bl ?_|fail)
    by_cases he:(twoT x y).err=0
    ·simp [tupV,V.wk,V.wks,constV,Ty.view,hinf,rule,okT,he]
    ·simp [tupV,V.wk,V.wks,constV,Ty.view,hinf,rule,okT,he]
  ·obtain ⟨x,y,z,hLL⟩:=len_3 hn
   subst hLL
   have hx:=e64 (hgood x (by simp))
   have hy:=e64 (hgood y (by simp))
   have hz:=e64 (hgood z (by simp))
   have ht:t.ty.size≤64:=e64 (hty (by rcases hk with hk|hk<;>rw[hk]<;>rfl))
   have hcp:=copyTy_c _ t.ty (Nat.le_refl _) (by omega)
   have hs1:=sameTy_c _ x t.ty (Nat.le_refl _) (by omega)
   have hf1:=fun_c t.ty t.ty (by omega) (by omega)
   obtain⟨k,i,th,xs⟩:=t
   simp only[Tm.kind_mk,Tm.ty_mk] at hk hinf ht hs1 hf1 hcp
   rcases hk with rfl|rfl
   ·have hf2:=fun_c natT (funT th th) (by decide) (by simp only[funT,Ty.size,Ty.sizes];omega)
    have hs2:=sameTy_c _ y (funT natT (funT th th)) (Nat.le_refl _) (by omega)
    have hs3:=sameTy_c _ z natT (Nat.le_refl _) (by omega)
    clear hgood hLl hL hak hn hsh hcpT hty e64 hg
    repeat'(first|refine M.gw ?_|refine M.c2 (nat_c) ?_|refine M.c2 (list_c) ?_|refine M.c2 (hs1) ?_|refine M.c2 (hf1) ?_|refine M.c2 (hf2) ?_|refine M.c2 (hs2) ?_|refine M.c2 (hs3) ?_|refine M.c2 (hcp) ?_|refine M.gs ?_ ?_<;>intro h|refine M.bl ?_|refine M.cs ?_ ?_<;>intro h|fail)
    all_goals
     clear hs1 hf1 hcp hf2 hs2 hs3
     by_cases p1:x=th<;>by_cases p2:y=funT natT (funT th th)<;>by_cases p3:z=natT<;>first
      |(exfalso;simp[p1,p2,p3] at*;done)
      |(simp[tupV,V.wk,V.wks,constV,Ty.view,EC.view,hinf,rule,p1,p2,p3,noTy];done)
   ·have hf2:=fun_c listT (funT th th) (by decide) (by simp only[funT,Ty.size,Ty.sizes];omega)
    have hf3:=fun_c natT (funT listT (funT th th)) (by decide) (by simp only[funT,listT,Ty.size,Ty.sizes];omega)
    have hs2:=sameTy_c _ y (funT natT (funT listT (funT th th))) (Nat.le_refl _) (by omega)
    have hs3:=sameTy_c _ z listT (Nat.le_refl _) (by omega)
    clear hgood hLl hL hak hn hsh hcpT hty e64 hg
    repeat'(first|refine M.gw ?_|refine M.c2 (nat_c) ?_|refine M.c2 (list_c) ?_|refine M.c2 (hs1) ?_|refine M.c2 (hf1) ?_|refine M.c2 (hf2) ?_|refine M.c2 (hf3) ?_|refine M.c2 (hs2) ?_|refine M.c2 (hs3) ?_|refine M.c2 (hcp) ?_|refine M.gs ?_ ?_<;>intro h|refine M.bl ?_|refine M.cs ?_ ?_<;>intro h|fail)
    all_goals
     clear hs1 hf1 hcp hf2 hs2 hs3
     by_cases p1:x=th<;>by_cases p2:y=funT natT (funT listT (funT th th))<;>by_cases p3:z=listT<;>first
      |(exfalso;simp[p1,p2,p3] at*;done)
      |(simp[tupV,V.wk,V.wks,constV,Ty.view,EC.view,hinf,rule,p1,p2,p3,noTy];done)
end Go.Ab
namespace Go.Ab
open Go Go.Proofs
set_option maxRecDepth 100000
set_option maxHeartbeats 4000000
set_option linter.all false
def HT(n:Nat):Prop:=∀(d:Dk) (g:List Ty) (t:Ty) (k:Int),k=(n:Int)-2→d.ok→smalls g→t.small→1≤n→(n=1→t.size=1)→g.length+3*n≤10000→
 AC E 13 [.ptr 0 0,.s .ty g,.agg t.view,.i k] ⟨1,[(0,.var d.cells)]⟩ (.agg (Dk.tm n d g t).1.view) ⟨1,[(0,.var (Dk.tm n d g t).2.cells)]⟩
theorem tm_full{n:Nat}(hn:n≤7)(d:Dk){g:List Ty}{t:Ty}(hg:smalls g)(ht:t.small)(h1:1≤n)(h2:n=1→t.size=1):(Dk.tm n d g t).1.full≤50000:=by
 have:=(Dk.tm_mk n d g t hg ht h1 h2).full hg ht
 have:3^n≤3^7:=Nat.pow_le_pow_right (by omega) hn
 omega
abbrev F14:AF→AF:=id
theorem fin_c(n:Nat)(H:HT n)(hn:n≤7)(depth:Int)(hdep:depth=(n:Int)-1)(d:Dk)(hd:d.ok)(g:List Ty)(t:Ty)(hg:smalls g)(ht:t.small)(h0:n=0→t.size=1)(hl:g.length+3*(n+1)≤10000):
 AW E Tryz.f13.ntmps 1 (partAt [1,1,1,1] (bodyOf Tryz.f13)) [(0,.ptr 0 0),(1,.s .ty g),(3,.i depth),(6,.ptr 1 0),(8,.ptr 2 0)]
  ⟨3,[(0,.var d.cells),(1,.var t.view),(2,.var [.i 0,.i 0,.i 0,.slice .nil (.t .ty []),.slice .nil (.t .tm [])])]⟩
  (retQ E 1 Tryz.f13.results.toList (.agg (d.fin (Dk.tm n) (decide (2≤n)) g t).1.view) ⟨1,[(0,.var (d.fin (Dk.tm n) (decide (2≤n)) g t).2.cells)]⟩):=by
 have hF:1≤n→∀d,∀t,t.small→(n=1→t.size=1)→(Dk.tm n d g t).1.full≤50000:=fun h1 d t ht h2=>tm_full hn d hg ht h1 h2
 have hok:∀d g t,d.ok→(Dk.tm n d g t).2.ok:=fun d g t h=>Dk.tm_ok n d g t h
 rcases small_cases ht with rfl|rfl|rfl|⟨a,b,ha,hb,h1,h2,rfl|rfl⟩
 ·show AW _ _ _ (Code.seq _ _) _ _ _
  by_cases hp:2≤n
  ·have hp':depth>0:=by omega
   have e:d.fin (Dk.tm n) (decide (2≤n)) g natT=if(d.next 5).1=0 then(sT (Dk.tm n (d.next 5).2 g natT).1,(Dk.tm n (d.next 5).2 g natT).2)
    else if(d.next 5).1=1 then(apT (apT plusT (Dk.tm n (d.next 5).2 g natT).1) (Dk.tm n (Dk.tm n (d.next 5).2 g natT).2 g natT).1,(Dk.tm n (Dk.tm n (d.next 5).2 g natT).2 g natT).2)
    else if(d.next 5).1=2 then(apT (apT subT (Dk.tm n (d.next 5).2 g natT).1) (Dk.tm n (Dk.tm n (d.next 5).2 g natT).2 g natT).1,(Dk.tm n (Dk.tm n (d.next 5).2 g natT).2 g natT).2)
    else(numOf ((d.next 5).2.next 3).1,((d.next 5).2.next 3).2):=by simp[Dk.fin,natT,hp]
   have hd5:=Dk.next_ok hd 5
   have hx5:=next_c d 5 hd (by omega)
   have hx3:=next_c (d.next 5).2 3 hd5 (by omega)
   have a1:=H (d.next 5).2 g natT (depth-1) (by omega) hd5 hg small_nat (by omega) (by omega) (by omega)
   have a2:=H (Dk.tm n (d.next 5).2 g natT).2 g natT (depth-1) (by omega) (hok _ _ _ hd5) hg small_nat (by omega) (by omega) (by omega)
   have f1:=hF (by omega) (d.next 5).2 natT small_nat (by omega)
   have f2:=hF (by omega) (Dk.tm n (d.next 5).2 g natT).2 natT small_nat (by omega)
   have hs:=n_c 5 [(Dk.tm n (d.next 5).2 g natT).1] (by simp;omega)
   have p1:plusT.full≤18:=by decide
   have p2:subT.full≤36:=by decide
   have ap:=appMake_c plusT [(Dk.tm n (d.next 5).2 g natT).1,(Dk.tm n (Dk.tm n (d.next 5).2 g natT).2 g natT).1] (by simp;omega)
   have asb:=appMake_c subT [(Dk.tm n (d.next 5).2 g natT).1,(Dk.tm n (Dk.tm n (d.next 5).2 g natT).2 g natT).1] (by simp;omega)
   have hnum:=num_c ((d.next 5).2.next 3).1
   repeat'(first|refine M.gw ?_|refine M.cb (hx5) [0] 0 ?_|refine M.cb (hx3) [0] 0 ?_|refine M.cb (a1) [0] 0 ?_|refine M.cb (a2) [0] 0 ?_|refine M.c2 (plus_c) ?_|refine M.c2 (sub_c) ?_|refine M.c2 (ap) ?_|refine M.c2 (asb) ?_|refine M.c2 (hnum) ?_|refine M.c2 (hs) ?_|refine M.bl ?_|refine M.cs ?_ ?_<;>intro h|fail)
   all_goals first
    |exact absurd hp' (by simpa using h)
    |skip
   ·have e:=e.trans (if_pos (by simpa using h))
    (exact M.n2 [some 0] (h6:=(by(repeat'(first|exact trivial|refine And.intro ?_ ?_|refine⟨_,U,_,U,_,U,?_⟩|exact VLe.of_eq (by simp[Sto.upd,e,sT])));done)) (h8:=(by simp[tupV,V.wk,V.wks,constV,Ty.view,Tm.view,e,sT])))
   ·rename_i h0
    have e:=e.trans ((if_neg (by simpa using h0)).trans (if_pos (by simpa using h)))
    (exact M.n2 [some 0] (h6:=(by(repeat'(first|exact trivial|refine And.intro ?_ ?_|refine⟨_,U,_,U,_,U,?_⟩|exact VLe.of_eq (by simp[Sto.upd,e,apT])));done)) (h8:=(by simp[tupV,V.wk,V.wks,constV,Ty.view,Tm.view,e,apT])))
   ·rename_i h0 h1
    have e:=e.trans ((if_neg (by simpa using h0)).trans ((if_neg (by simpa using h1)).trans (if_pos (by simpa using h))))
    (exact M.n2 [some 0] (h6:=(by(repeat'(first|exact trivial|refine And.intro ?_ ?_|refine⟨_,U,_,U,_,U,?_⟩|exact VLe.of_eq (by simp[Sto.upd,e,apT])));done)) (h8:=(by simp[tupV,V.wk,V.wks,constV,Ty.view,Tm.view,e,apT])))
   ·rename_i h0 h1
    have e:=e.trans ((if_neg (by simpa using h0)).trans ((if_neg (by simpa using h1)).trans (if_neg (by simpa using h))))
    (exact M.n2 [some 0] (h6:=(by(repeat'(first|exact trivial|refine And.intro ?_ ?_|refine⟨_,U,_,U,_,U,?_⟩|exact VLe.of_eq (by simp[Sto.upd,e])));done)) (h8:=(by simp[tupV,V.wk,V.wks,constV,Ty.view,Tm.view,e])))
  ·have hp':¬depth>0:=by omega
   have e:d.fin (Dk.tm n) (decide (2≤n)) g natT=(numOf (d.next 3).1,(d.next 3).2):=by simp[Dk.fin,natT,hp]
   have hx3:=next_c d 3 hd (by omega)
   have hnum:=num_c (d.next 3).1
   repeat'(first|refine M.gw ?_|refine M.cb (hx3) [0] 0 ?_|refine M.c2 (hnum) ?_|refine M.bl ?_|refine M.cs ?_ ?_<;>intro h|fail)
   all_goals first
    |exact absurd hp' (by simpa using h)
    |skip
   (exact M.n2 [some 0] (h6:=(by(repeat'(first|exact trivial|refine And.intro ?_ ?_|refine⟨_,U,_,U,_,U,?_⟩|exact VLe.of_eq (by simp[Sto.upd,e])));done)) (h8:=(by simp[tupV,V.wk,V.wks,constV,Ty.view,Tm.view,e])))
 ·show AW _ _ _ (Code.seq _ _) _ _ _
  have hN:=n_c 7 [] (by simp)
  by_cases hp:2≤n
  ·have hp':depth>0:=by omega
   have e:d.fin (Dk.tm n) (decide (2≤n)) g listT=if(d.next 2).1=0 then(nT 8 [(Dk.tm n (d.next 2).2 g natT).1,(Dk.tm n (Dk.tm n (d.next 2).2 g natT).2 g listT).1],(Dk.tm n (Dk.tm n (d.next 2).2 g natT).2 g listT).2) else(nT 7 [],(d.next 2).2):=by simp[Dk.fin,listT,hp]
   have hd2:=Dk.next_ok hd 2
   have hx2:=next_c d 2 hd (by omega)
   have a1:=H (d.next 2).2 g natT (depth-1) (by omega) hd2 hg small_nat (by omega) (by omega) (by omega)
   have a2:=H (Dk.tm n (d.next 2).2 g natT).2 g listT (depth-1) (by omega) (hok _ _ _ hd2) hg small_list (by omega) (by omega) (by omega)
   have f1:=hF (by omega) (d.next 2).2 natT small_nat (by omega)
   have f2:=hF (by omega) (Dk.tm n (d.next 2).2 g natT).2 listT small_list (by omega)
   have hs:=n_c 8 [(Dk.tm n (d.next 2).2 g natT).1,(Dk.tm n (Dk.tm n (d.next 2).2 g natT).2 g listT).1] (by simp;omega)
   repeat'(first|refine M.gw ?_|refine M.cb (hx2) [0] 0 ?_|refine M.cb (a1) [0] 0 ?_|refine M.cb (a2) [0] 0 ?_|refine M.c2 (nat_c) ?_|refine M.c2 (hs) ?_|refine M.c2 (hN) ?_|refine M.gs ?_ ?_<;>intro h|refine M.bl ?_|refine M.cs ?_ ?_<;>intro h|fail)
   all_goals first
    |exact absurd hp' (by simpa using h)
    |skip
   ·have e:=e.trans (if_pos (by simpa using h))
    (exact M.n2 [some 0] (h6:=(by(repeat'(first|exact trivial|refine And.intro ?_ ?_|refine⟨_,U,_,U,_,U,?_⟩|exact VLe.of_eq (by simp[Sto.upd,e,nT])));done)) (h8:=(by simp[tupV,V.wk,V.wks,constV,Ty.view,Tm.view,e,nT])))
   ·have e:=e.trans (if_neg (by simpa using h))
    (exact M.n2 [some 0] (h6:=(by(repeat'(first|exact trivial|refine And.intro ?_ ?_|refine⟨_,U,_,U,_,U,?_⟩|exact VLe.of_eq (by simp[Sto.upd,e,nT])));done)) (h8:=(by simp[tupV,V.wk,V.wks,constV,Ty.view,Tm.view,e,nT])))
  ·have hp':¬depth>0:=by omega
   have e:d.fin (Dk.tm n) (decide (2≤n)) g listT=(nT 7 [],d):=by simp[Dk.fin,listT,hp]
   repeat'(first|refine M.gw ?_|refine M.c2 (hN) ?_|refine M.gs ?_ ?_<;>intro h|refine M.bl ?_|fail)
   all_goals first
    |exact absurd hp' (by simpa using h)
    |skip
   (exact M.n2 [some 0] (h6:=(by(repeat'(first|exact trivial|refine And.intro ?_ ?_|refine⟨_,U,_,U,_,U,?_⟩|exact VLe.of_eq (by simp[Sto.upd,e,nT])));done)) (h8:=(by simp[tupV,V.wk,V.wks,constV,Ty.view,Tm.view,e,nT])))
 ·show AW _ _ _ (Code.seq _ _) _ _ _
  have hN:=n_c 13 [] (by simp)
  have e:d.fin (Dk.tm n) (decide (2≤n)) g unitT=(nT 13 [],d):=by simp[Dk.fin,unitT]
  repeat'(first|refine M.gw ?_|refine M.c2 (hN) ?_|refine M.bl ?_|fail)
  (exact M.n2 [some 0] (h8:=(by simp[tupV,V.wk,V.wks,constV,Ty.view,Tm.view,e,nT])))
 ·have hn0:n≠0:=fun h=>by have:=h0 h;rw[two_size] at this;omega
  have sa:=small_one ha h1
  have sb:=small_one hb h2
  have e:d.fin (Dk.tm n) (decide (2≤n)) g (twoT a b)=(nT 10 [(Dk.tm n d g a).1,(Dk.tm n (Dk.tm n d g a).2 g b).1],(Dk.tm n (Dk.tm n d g a).2 g b).2):=by simp[Dk.fin,twoT]
  have a1:=H d g a (depth-1) (by omega) hd hg sa (by omega) (fun _=>h1) (by omega)
  have a2:=H (Dk.tm n d g a).2 g b (depth-1) (by omega) (hok _ _ _ hd) hg sb (by omega) (fun _=>h2) (by omega)
  have f1:=hF (by omega) d a sa (fun _=>h1)
  have f2:=hF (by omega) (Dk.tm n d g a).2 b sb (fun _=>h2)
  have hs:=n_c 10 [(Dk.tm n d g a).1,(Dk.tm n (Dk.tm n d g a).2 g b).1] (by simp;omega)
  have l0:0<(twoT a b).args.length:=by simp[twoT]
  have l1:1<(twoT a b).args.length:=by simp[twoT]
  show AW _ _ _ (Code.seq _ _) _ _ _
  repeat'(first|refine M.gw ?_|refine M.cb (a1) [0] 0 ?_|refine M.cb (a2) [0] 0 ?_|refine M.c2 (hs) ?_|refine M.bl ?_|fail)
  (exact M.n2 [some 0] (h8:=(by simp[tupV,V.wk,V.wks,constV,Ty.view,Tm.view,e,nT])))
 ·have hn0:n≠0:=fun h=>by have:=h0 h;rw[fun_size] at this;omega
  have sa:=small_one ha h1
  have sb:=small_one hb h2
  have hga:=smalls_app hg (smalls_cons sa smalls_nil)
  have e:d.fin (Dk.tm n) (decide (2≤n)) g (funT a b)=(lmT a (Dk.tm n d (g++[a]) b).1,(Dk.tm n d (g++[a]) b).2):=by simp[Dk.fin,funT]
  have a1:=H d (g++[a]) b (depth-1) (by omega) hd hga sb (by omega) (fun _=>h2) (by simp;omega)
  have f1:=tm_full hn d hga sb (by omega) (fun _=>h2)
  have hlo:=longer_c g [a] (by simp;omega)
  have hs:=t_c 2 a [(Dk.tm n d (g++[a]) b).1] (by simp;omega) (by omega)
  have l0:0<(funT a b).args.length:=by simp[funT]
  have l1:1<(funT a b).args.length:=by simp[funT]
  show AW _ _ _ (Code.seq _ _) _ _ _
  repeat'(first|refine M.gw ?_|refine M.cb (a1) [0] 0 ?_|refine M.c2 (hlo) ?_|refine M.c2 (hs) ?_|refine M.bl ?_|fail)
  (exact M.n2 [some 0] (h8:=(by simp[tupV,V.wk,V.wks,constV,Ty.view,Tm.view,e,lmT])))
theorem numOf_full(d:Dk):(numOf (d.next 3).1).full≤6:=by
 obtain⟨m,hm,e⟩:=numOf_lt d
 rw[e,numT_full];omega
theorem smalls_sum{g:List Ty}(h:smalls g):(g.map Ty.size).sum≤3*g.length:=by
 induction g with
 |nil=>simp
 |cons t l ih=>
  have h1:=(h t (by simp)).2
  have h2:=ih fun x hx=>h x (by simp[hx])
  simp only[List.map_cons,List.sum_cons,List.length_cons];omega
theorem findF_none'{g:List Ty}{t:Ty}(h:∀j,j<g.length→isFn g t j=false):findF g t=none:=by
 simp only[findF,List.find?_eq_none,List.mem_range]
 intro j hj;simp[h j hj]
theorem findF_at{g:List Ty}{t:Ty}{m:Nat}(hm:m<g.length)(h:∀j,j<m→isFn g t j=false)(h1:isFn g t m=true):findF g t=some m:=by
 simp only[findF,List.find?_range_eq_some,List.mem_range]
 exact⟨h1,hm,fun j hj=>by simp[h j hj]⟩
theorem mid_c(n:Nat)(H:HT n)(hn:n≤7)(depth:Int)(hdep:depth=(n:Int)-1)(d:Dk)(hd:d.ok)(g:List Ty)(t:Ty)(hg:smalls g)(ht:t.small)(h0:n=0→t.size=1)(hl:g.length+3*(n+1)≤10000):
 AW E Tryz.f13.ntmps 1 (partAt [1,1,1] (bodyOf Tryz.f13)) [(0,.ptr 0 0),(1,.s .ty g),(3,.i depth),(6,.ptr 1 0),(8,.ptr 2 0)]
  ⟨3,[(0,.var d.cells),(1,.var t.view),(2,.var [.i 0,.i 0,.i 0,.slice .nil (.t .ty []),.slice .nil (.t .tm [])])]⟩
  (retQ E 1 Tryz.f13.results.toList (.agg (d.mid (Dk.tm n) (decide (2≤n)) g t).1.view) ⟨1,[(0,.var (d.mid (Dk.tm n) (decide (2≤n)) g t).2.cells)]⟩):=by
 have hok:∀d g t,d.ok→(Dk.tm n d g t).2.ok:=fun d g t h=>Dk.tm_ok n d g t h
 by_cases hp:2≤n
 case neg=>
  have hp':¬depth>0:=by omega
  have e:d.mid (Dk.tm n) (decide (2≤n)) g t=d.fin (Dk.tm n) (decide (2≤n)) g t:=by simp[Dk.mid,hp]
  show AW _ _ _ (Code.seq _ _) _ _ _
  repeat'(first|refine M.go ?_|refine M.z1 29 ?_|refine M.cs ?_ ?_<;>intro h|refine M.gk ?_|fail)
  ·exact absurd (by simpa using h) hp'
  ·rw [e];exact AW.weak (M.W [some 0,some 1,some 2]) (fin_c n H hn depth hdep d hd g t hg ht h0 hl)
 have hp':depth>0:=by omega
 have hx8:=next_c d 8 hd (by omega)
 have e:=Dk.mid_pos (rec:=Dk.tm n) (d:=d) (g:=g) (t:=t) (pos:=decide (2≤n)) (by simpa using hp)
 have hD:=Dk.next_ok hd 8
 have tp:AC E 14 [.ptr 0 0,.i 0] ⟨1,[(0,.var (d.next 8).2.cells)]⟩ (.agg ((d.next 8).2.type 0).1.view) ⟨1,[(0,.var ((d.next 8).2.type 0).2.cells)]⟩:=type_c 0 0 (d.next 8).2 (by omega) (by omega) (by omega) hD
 have hS:=Dk.type0 (d.next 8).2
 have hD1:=Dk.type_ok 0 _ hD
 generalize (d.next 8).1=kk at*
 generalize (d.next 8).2=W at*
 generalize (W.type 0).1=S at*
 generalize (W.type 0).2=D1 at*
 have hSs:=small_one hS.1 hS.2
 have hF:∀d g t,smalls g→t.small→(Dk.tm n d g t).1.full≤50000:=fun d g t hg ht=>tm_full hn d hg ht (by omega) (by omega)
 have hH:∀d g t,d.ok→smalls g→t.small→g.length+3*n≤10000→AC E 13 [.ptr 0 0,.s .ty g,.agg t.view,.i (depth-1)] ⟨1,[(0,.var d.cells)]⟩ (.agg (Dk.tm n d g t).1.view) ⟨1,[(0,.var (Dk.tm n d g t).2.cells)]⟩:=
  fun d g t h1 h2 h3 h4=>H d g t (depth-1) (by omega) h1 h2 h3 (by omega) (by omega) h4
 have hts:=ht.2
 have ht1:t.size<1000000:=by omega
 have gS:=smalls_app hg (smalls_cons hSs smalls_nil)
 have g2:=smalls_app hg (smalls_cons small_nat (smalls_cons ht smalls_nil))
 have g3:=smalls_app hg (smalls_cons small_nat (smalls_cons small_list (smalls_cons ht smalls_nil)))
 show AW _ _ _ (Code.seq _ _) _ _ _
 by_cases k0:kk=0
 ·subst k0
  simp only[if_true] at e
  have a:=hH D1 (g++[S]) t hD1 gS ht (by simp;omega)
  have b:=hH _ g S (hok _ (g++[S]) t hD1) hg hSs (by omega)
  have fa:=hF D1 (g++[S]) t gS ht
  have fb:=hF (Dk.tm n D1 (g++[S]) t).2 g S hg hSs
  have lo:=longer_c g [S] (by simp;omega)
  have c1:=t_c 2 S [(Dk.tm n D1 (g++[S]) t).1] (by simp;omega) (by omega)
  have c2:=n_c 3 [lmT S (Dk.tm n D1 (g++[S]) t).1,(Dk.tm n (Dk.tm n D1 (g++[S]) t).2 g S).1] (by simp[lmT,Tm.full,Tm.fulls];omega)
  repeat'(first|refine M.go ?_|refine M.cb (hx8) [0] 0 ?_|refine M.cb (tp) [0] 0 ?_|refine M.cb (a) [0] 0 ?_|refine M.cb (b) [0] 0 ?_|refine M.c2 (lo) ?_|refine M.c2 (c1) ?_|refine M.c2 (c2) ?_|refine M.z1 29 ?_|refine M.bl ?_|refine M.cs ?_ ?_<;>intro h|refine M.gk ?_|fail)
  ·(exact M.n2 [some 0] (h6:=(by(repeat'(first|exact trivial|refine And.intro ?_ ?_|refine⟨_,U,_,U,_,U,?_⟩|exact VLe.of_eq (by simp[Sto.upd,e,Dk.m0,apT])));done)) (h8:=(by simp[tupV,V.wk,V.wks,constV,Ty.view,Tm.view,e,Dk.m0,apT])))
  ·exact absurd hp' (by simpa using h)
 rw[if_neg k0] at e
 by_cases k1:kk=1
 ·subst k1
  rw[if_pos rfl] at e
  have a:=hH D1 g t hD1 hg ht (by omega)
  have b:=hH _ g S (hok _ g t hD1) hg hSs (by omega)
  have fa:=hF D1 g t hg ht
  have fb:=hF (Dk.tm n D1 g t).2 g S hg hSs
  have c1:=n_c 10 [(Dk.tm n D1 g t).1,(Dk.tm n (Dk.tm n D1 g t).2 g S).1] (by simp;omega)
  have c2:=n_c 11 [nT 10 [(Dk.tm n D1 g t).1,(Dk.tm n (Dk.tm n D1 g t).2 g S).1]] (by simp[nT,Tm.full,Tm.fulls,Ty.size,Ty.sizes];omega)
  repeat'(first|refine M.go ?_|refine M.cb (hx8) [0] 0 ?_|refine M.cb (tp) [0] 0 ?_|refine M.cb (a) [0] 0 ?_|refine M.cb (b) [0] 0 ?_|refine M.c2 (c1) ?_|refine M.c2 (c2) ?_|refine M.z1 29 ?_|refine M.bl ?_|refine M.cs ?_ ?_<;>intro h|refine M.gk ?_|fail)
  ·(exact M.n2 [some 0] (h6:=(by(repeat'(first|exact trivial|refine And.intro ?_ ?_|refine⟨_,U,_,U,_,U,?_⟩|exact VLe.of_eq (by simp[Sto.upd,e,Dk.m1,nT])));done)) (h8:=(by simp[tupV,V.wk,V.wks,constV,Ty.view,Tm.view,e,Dk.m1,nT])))
  ·exact absurd hp' (by simpa using h)
 rw[if_neg k1] at e
 by_cases k2:kk=2
 ·subst k2
  rw[if_pos rfl] at e
  have a:=hH W (g++[natT,t]) t hD g2 ht (by simp;omega)
  have b:=hH _ g t (hok _ (g++[natT,t]) t hD) hg ht (by omega)
  have hdb:=hok _ g t (hok _ (g++[natT,t]) t hD)
  have fa:=hF W (g++[natT,t]) t g2 ht
  have fb:=hF (Dk.tm n W (g++[natT,t]) t).2 g t hg ht
  have lo:=longer_c g [natT,t] (by simp;omega)
  have nx:=next_c _ 3 hdb (by omega)
  have nu:=num_c ((Dk.tm n (Dk.tm n W (g++[natT,t]) t).2 g t).2.next 3).1
  have fn:=numOf_full (Dk.tm n (Dk.tm n W (g++[natT,t]) t).2 g t).2
  have en:natT.size=1:=rfl
  have c1:=t_c 2 t [(Dk.tm n W (g++[natT,t]) t).1] (by simp;omega) (by omega)
  have c2:=t_c 2 natT [lmT t (Dk.tm n W (g++[natT,t]) t).1] (by simp[lmT,Tm.full,Tm.fulls];omega) (by omega)
  have c3:=t_c 6 t [(Dk.tm n (Dk.tm n W (g++[natT,t]) t).2 g t).1,lmT natT (lmT t (Dk.tm n W (g++[natT,t]) t).1),numOf ((Dk.tm n (Dk.tm n W (g++[natT,t]) t).2 g t).2.next 3).1] (by simp[lmT,Tm.full,Tm.fulls];omega) (by omega)
  repeat'(first|refine M.go ?_|refine M.c2 (nat_c) ?_|refine M.cb (hx8) [0] 0 ?_|refine M.cb (a) [0] 0 ?_|refine M.cb (b) [0] 0 ?_|refine M.c2 (lo) ?_|refine M.cb (nx) [0] 0 ?_|refine M.c2 (nu) ?_|refine M.c2 (c1) ?_|refine M.c2 (c2) ?_|refine M.c2 (c3) ?_|refine M.z1 29 ?_|refine M.bl ?_|refine M.cs ?_ ?_<;>intro h|refine M.gk ?_|fail)
  ·(exact M.n2 [some 0] (h6:=(by(repeat'(first|exact trivial|refine And.intro ?_ ?_|refine⟨_,U,_,U,_,U,?_⟩|exact VLe.of_eq (by simp[Sto.upd,e,Dk.m2,hT])));done)) (h8:=(by simp[tupV,V.wk,V.wks,constV,Ty.view,Tm.view,e,Dk.m2,hT])))
  ·exact absurd hp' (by simpa using h)
 rw[if_neg k2] at e
 by_cases k3:kk=3
 ·subst k3
  rw[if_pos rfl] at e
  have a:=hH W (g++[natT,listT,t]) t hD g3 ht (by simp;omega)
  have b:=hH _ g t (hok _ (g++[natT,listT,t]) t hD) hg ht (by omega)
  have c:=hH _ g listT (hok _ g t (hok _ (g++[natT,listT,t]) t hD)) hg small_list (by omega)
  have fa:=hF W (g++[natT,listT,t]) t g3 ht
  have fb:=hF (Dk.tm n W (g++[natT,listT,t]) t).2 g t hg ht
  have fc:=hF (Dk.tm n (Dk.tm n W (g++[natT,listT,t]) t).2 g t).2 g listT hg small_list
  have lo:=longer_c g [natT,listT,t] (by simp;omega)
  have en:natT.size=1:=rfl
  have el:listT.size=1:=rfl
  have c1:=t_c 2 t [(Dk.tm n W (g++[natT,listT,t]) t).1] (by simp;omega) (by omega)
  have c2:=t_c 2 listT [lmT t (Dk.tm n W (g++[natT,listT,t]) t).1] (by simp[lmT,Tm.full,Tm.fulls];omega) (by omega)
  have c3:=t_c 2 natT [lmT listT (lmT t (Dk.tm n W (g++[natT,listT,t]) t).1)] (by simp[lmT,Tm.full,Tm.fulls];omega) (by omega)
  have c4:=t_c 9 t [(Dk.tm n (Dk.tm n W (g++[natT,listT,t]) t).2 g t).1,lmT natT (lmT listT (lmT t (Dk.tm n W (g++[natT,listT,t]) t).1)),(Dk.tm n (Dk.tm n (Dk.tm n W (g++[natT,listT,t]) t).2 g t).2 g listT).1] (by simp[lmT,Tm.full,Tm.fulls];omega) (by omega)
  repeat'(first|refine M.go ?_|refine M.c2 (nat_c) ?_|refine M.c2 (list_c) ?_|refine M.cb (hx8) [0] 0 ?_|refine M.cb (a) [0] 0 ?_|refine M.cb (b) [0] 0 ?_|refine M.cb (c) [0] 0 ?_|refine M.c2 (lo) ?_|refine M.c2 (c1) ?_|refine M.c2 (c2) ?_|refine M.c2 (c3) ?_|refine M.c2 (c4) ?_|refine M.z1 29 ?_|refine M.bl ?_|refine M.cs ?_ ?_<;>intro h|refine M.gk ?_|fail)
  ·(exact M.n2 [some 0] (h6:=(by(repeat'(first|exact trivial|refine And.intro ?_ ?_|refine⟨_,U,_,U,_,U,?_⟩|exact VLe.of_eq (by simp[Sto.upd,e,Dk.m3,hT])));done)) (h8:=(by simp[tupV,V.wk,V.wks,constV,Ty.view,Tm.view,e,Dk.m3,hT])))
  ·exact absurd hp' (by simpa using h)
 rw[if_neg k3] at e
 by_cases k4:kk=4
 ·subst k4
  rw[if_pos rfl] at e
  have a:=hH D1 g S hD1 hg hSs (by omega)
  have b:=hH _ g t (hok _ g S hD1) hg ht (by omega)
  have fa:=hF D1 g S hg hSs
  have fb:=hF (Dk.tm n D1 g S).2 g t hg ht
  have c1:=n_c 10 [(Dk.tm n D1 g S).1,(Dk.tm n (Dk.tm n D1 g S).2 g t).1] (by simp;omega)
  have c2:=n_c 12 [nT 10 [(Dk.tm n D1 g S).1,(Dk.tm n (Dk.tm n D1 g S).2 g t).1]] (by simp[nT,Tm.full,Tm.fulls,Ty.size,Ty.sizes];omega)
  repeat'(first|refine M.go ?_|refine M.cb (hx8) [0] 0 ?_|refine M.cb (tp) [0] 0 ?_|refine M.cb (a) [0] 0 ?_|refine M.cb (b) [0] 0 ?_|refine M.c2 (c1) ?_|refine M.c2 (c2) ?_|refine M.z1 29 ?_|refine M.bl ?_|refine M.cs ?_ ?_<;>intro h|refine M.gk ?_|fail)
  ·(exact M.n2 [some 0] (h6:=(by(repeat'(first|exact trivial|refine And.intro ?_ ?_|refine⟨_,U,_,U,_,U,?_⟩|exact VLe.of_eq (by simp[Sto.upd,e,Dk.m4,nT])));done)) (h8:=(by simp[tupV,V.wk,V.wks,constV,Ty.view,Tm.view,e,Dk.m4,nT])))
  ·exact absurd hp' (by simpa using h)
 rw[if_neg k4] at e
 by_cases k5:kk=5
 ·subst k5
  rw[if_pos rfl] at e
  repeat'(first|refine M.go ?_|refine M.cb (hx8) [0] 0 ?_|refine M.z1 29 ?_|refine M.bl ?_|refine M.cs ?_ ?_<;>intro h|refine M.gk ?_|fail)
  all_goals first
   |exact absurd hp' (by simpa using h)
   |skip
  refine AW.range g.length (fun m=>∀j,j<m→isFn g t j=false)
   (fun m=>([(0,.ptr 0 0),(1,.s .ty g),(3,.i depth),(6,.ptr 1 0),(8,.ptr 2 0),(176,.i g.length),(177,.i m)],⟨3,[(0,.var W.cells),(1,.var t.view),(2,.var [.i 0,.i 0,.i 0,.slice .nil (.t .ty []),.slice .nil (.t .tm [])])]⟩))
   (by omega) (fun m=>rfl) (fun m=>rfl) rfl (by intro j hj;omega) (M.W [some 0,some 1,some 2]) ?_ ?_
  ·intro m hm hP
   have hm2:g.length-1-m<g.length:=by omega
   have hat:at0 g (g.length-1-m)=g[g.length-1-m]:=at0_lt hm2
   have hgs:(g[g.length-1-m]).small:=hg _ (List.getElem_mem hm2)
   have hstep:∀b,isFn g t m=b→b=false→∀j,j<m+1→isFn g t j=false:=fun b hb hf j hj=>by
    by_cases hjm:j=m
    ·rw [hjm,hb,hf]
    ·exact hP j (by omega)
   have hfn:isFn g t m=((g[g.length-1-m]).kind==4&&decide (at0 (g[g.length-1-m]).args 1=t)):=by simp only[isFn,hat]
   by_cases hk4:(g[g.length-1-m]).kind=4
   ·obtain ⟨p,q,hpq⟩:=Ty.args_two hgs.1 (.inr hk4)
    have l0:0<(g[g.length-1-m]).args.length:=by rw[hpq];simp
    have l1:1<(g[g.length-1-m]).args.length:=by rw[hpq];simp
    have sm:=sameTy_c _ ((g[g.length-1-m]).args[1]) t (Nat.le_refl _) (by
     have h1:=lsum_mem Ty.size (List.getElem_mem l1)
     have h2:=(g[g.length-1-m]).size_eq
     have h3:=hgs.2
     omega)
    have ha1:at0 (g[g.length-1-m]).args 1=(g[g.length-1-m]).args[1]:=at0_lt l1
    have ha0:at0 (g[g.length-1-m]).args 0=(g[g.length-1-m]).args[0]:=at0_lt l0
    rw[ha1,beq_iff_eq.2 hk4,Bool.true_and] at hfn
    have sm0:((g[g.length-1-m]).args[0]).small:=by
     have h1:=lsum_mem Ty.size (List.getElem_mem l0)
     have h2:=(g[g.length-1-m]).size_eq
     have h3:=hgs.2
     have h4:=hgs.1
     rw[Ty.shape_eq,Bool.and_eq_true] at h4
     exact⟨List.all_eq_true.1 h4.2 _ (List.getElem_mem l0),by omega⟩
    have a:=hH W g ((g[g.length-1-m]).args[0]) hD hg sm0 (by omega)
    have fa:=hF W g ((g[g.length-1-m]).args[0]) hg sm0
    have vc:=var_c m
    have c1:=n_c 3 [vT m,(Dk.tm n W g ((g[g.length-1-m]).args[0])).1] (by simp[vT,Tm.full,Tm.fulls,Ty.size,Ty.sizes];omega)
    repeat'(first|refine M.go ?_|refine M.z1 29 ?_|refine M.gk ?_|fail)
    refine L.ixt (g.length-1-m) rfl rfl rfl rfl (by omega) rfl rfl hm2 ?_
    repeat'(first|refine M.go ?_|refine M.c2 (sm) ?_|refine M.c2 (vc) ?_|refine M.cb (a) [0] 0 ?_|refine M.c2 (c1) ?_|refine M.gs ?_ ?_<;>intro h|refine M.z1 29 ?_|refine M.cs ?_ ?_<;>intro h|refine M.gk ?_|fail)
    ·have hf:isFn g t m=true:=hfn.trans h
     have e2:W.m5 (Dk.tm n) (decide (2≤n)) g t=(apT (vT m) (Dk.tm n W g ((g[g.length-1-m]).args[0])).1,(Dk.tm n W g ((g[g.length-1-m]).args[0])).2):=by unfold Dk.m5;rw[findF_at hm hP hf];simp only[hat,ha0]
     rw[e2] at e
     (exact M.n2 [some 0] (h6:=(by(repeat'(first|exact trivial|refine And.intro ?_ ?_|refine⟨_,U,_,U,_,U,?_⟩|exact VLe.of_eq (by simp[Sto.upd,e,apT,vT])));done)) (h8:=(by simp[tupV,V.wk,V.wks,constV,Ty.view,Tm.view,e,apT,vT])))
    ·exact ⟨rfl,hstep _ hfn h,(M.W [some 0,some 1,some 2])⟩
    ·exact absurd hk4 (by simpa using h)
   ·repeat' (first|refine M.go ?_|refine M.z1 29 ?_|refine M.gk ?_|fail)
    refine L.ixt (g.length-1-m) rfl rfl rfl rfl (by omega) rfl rfl hm2 ?_
    repeat'(first|refine M.go ?_|refine M.gs ?_ ?_<;>intro h|refine M.z1 29 ?_|refine M.gk ?_|fail)
    ·exact absurd (by simpa using h) hk4
    ·have hk4':((g[g.length-1-m]).kind==4)=false:=by simpa using hk4
     rw[hk4',Bool.false_and] at hfn
     exact⟨rfl,hstep _ hfn rfl,(M.W [some 0,some 1,some 2])⟩
  ·intro hP
   repeat'(first|with_reducible refine K.tN ?_|with_reducible refine K.bN ?_)
   have e2:W.m5 (Dk.tm n) (decide (2≤n)) g t=W.fin (Dk.tm n) (decide (2≤n)) g t:=by unfold Dk.m5;rw[findF_none' hP]
   rw[e,e2];exact AW.weak (M.W [some 0,some 1,some 2]) (fin_c n H hn depth hdep W hD g t hg ht h0 hl)
 rw[if_neg k5] at e
 have n0:(kk==0)=false:=by simpa using k0
 repeat'(first|refine M.go ?_|refine M.cb (hx8) [0] 0 ?_|refine M.z1 29 ?_|refine M.bl ?_|refine M.cs ?_ ?_<;>intro h|refine M.gk ?_|fail)
 all_goals first
  |exact absurd hp' (by simpa using h)
  |exact absurd (by simpa using h) k0
  |exact absurd (by simpa using h) k1
  |exact absurd (by simpa using h) k2
  |exact absurd (by simpa using h) k3
  |exact absurd (by simpa using h) k4
  |exact absurd (by simpa using h) k5
  |(rw[e];exact AW.weak (M.W [some 0,some 1,some 2]) (fin_c n H hn depth hdep W hD g t hg ht h0 hl))
theorem gen_c(n:Nat)(H:HT n)(hn:n≤7)(depth:Int)(hdep:depth=(n:Int)-1)(d:Dk)(hd:d.ok)(g:List Ty)(t:Ty)(hg:smalls g)(ht:t.small)(h0:n=0→t.size=1)(hl:g.length+3*(n+1)≤10000):
 AC E 13 [.ptr 0 0,.s .ty g,.agg t.view,.i depth] ⟨1,[(0,.var d.cells)]⟩ (.agg (d.gen (Dk.tm n) (decide (2≤n)) g t).1.view) ⟨1,[(0,.var (d.gen (Dk.tm n) (decide (2≤n)) g t).2.cells)]⟩:=by
 have hsum:=smalls_sum hg
 have hvl:(varsT g t).length≤g.length:=by
  simp only[varsT,List.length_map]
  have:=List.length_filter_le (fun i=>decide (g[g.length-1-i]? =some t)) (List.range g.length)
  simpa using this
 have hv:=vars_c g t (by omega)
 have hx3:=next_c d 3 hd (by omega)
 have hd3:=Dk.next_ok hd 3
 have hxl:=next_c (d.next 3).2 (varsT g t).length hd3 (by omega)
 have m1:=mid_c n H hn depth hdep d hd g t hg ht h0 hl
 have m2:=mid_c n H hn depth hdep (d.next 3).2 hd3 g t hg ht h0 hl
 have hvar:=var_c
 by_cases he:varsT g t=[]
 ·have e:d.gen (Dk.tm n) (decide (2≤n)) g t=d.mid (Dk.tm n) (decide (2≤n)) g t:=by unfold Dk.gen;rw[if_pos he]
  have hl0:¬(((varsT g t).length:Int)>0):=by rw[he];simp
  refine M.F Tryz.func13 ?_
  repeat'(first|refine M.go ?_|refine M.c2 (hv) ?_|refine M.cb (hx3) [0] 0 ?_|refine M.gs ?_ ?_<;>intro h|refine M.z1 4 ?_|refine M.cs ?_ ?_<;>intro h|refine M.gk ?_|fail)
  ·rename_i h1;exact absurd (by simpa using h1) hl0
  ·rename_i h1;exact absurd (by simpa using h1) hl0
  ·rw [e];exact AW.weak (M.W [some 0,some 1,some 2]) m1
 ·have e:d.gen (Dk.tm n) (decide (2≤n)) g t=if 0<(d.next 3).1 then(vT ((varsT g t).getD ((d.next 3).2.next (varsT g t).length).1.toNat 0),((d.next 3).2.next (varsT g t).length).2) else(d.next 3).2.mid (Dk.tm n) (decide (2≤n)) g t:=by unfold Dk.gen;rw[if_neg he]
  have hlp:0<(varsT g t).length:=List.length_pos_iff.2 he
  have hl0:((varsT g t).length:Int)>0:=by omega
  have hbl:=Dk.next_bd (d.next 3).2 (varsT g t).length hl0
  have hlt:((d.next 3).2.next (varsT g t).length).1.toNat<(varsT g t).length:=by omega
  refine M.F Tryz.func13 ?_
  repeat'(first|refine M.go ?_|refine M.c2 (hv) ?_|refine M.cb (hx3) [0] 0 ?_|refine M.cb (hxl) [0] 0 ?_|refine M.gs ?_ ?_<;>intro h|refine M.z1 4 ?_|refine M.cs ?_ ?_<;>intro h|refine M.gk ?_|fail)
  ·refine L.ixt ((d.next 3).2.next (varsT g t).length).1.toNat rfl rfl rfl rfl (by omega) rfl rfl hlt ?_
   have eg:(varsT g t).getD ((d.next 3).2.next (varsT g t).length).1.toNat 0=(varsT g t)[((d.next 3).2.next (varsT g t).length).1.toNat]:=by simp[List.getD_eq_getElem?_getD,hlt]
   rw[if_pos (by simpa using h),eg] at e
   repeat'(first|refine M.gw ?_|refine M.c2 (hvar _) ?_|fail)
   (exact M.n2 [some 0] (h6:=(by(repeat'(first|exact trivial|refine And.intro ?_ ?_|refine⟨_,U,_,U,_,U,?_⟩|exact VLe.of_eq (by simp[Sto.upd,e,vT])));done)) (h8:=(by simp[tupV,V.wk,V.wks,constV,Ty.view,Tm.view,e,vT])))
  ·rw [e,if_neg (by simpa using h)];exact AW.weak (M.W [some 0,some 1,some 2]) m2
  ·exact absurd hl0 (by simpa using h)
theorem term_c:∀n,n≤8→HT n
 |0,_=>fun d g t k _ _ _ _ h=>by omega
 |n+1,hn=>fun d g t k hk hd hg ht _ h1 hl=>gen_c n (term_c n (by omega)) (by omega) k (by omega) d hd g t hg ht (by omega) hl
theorem typed_c'(g:List Ty)(t:Tm)(ht:t.full<137438953472)(hg:∀x∈g,x.err=0)(hl:g.length<100000):PC E 161 [.s .ty g,.agg t.view] (.tup [.agg (typed g t).1.view,.i (typed g t).2]):=by
 have h1:=checkTmR_c t (by omega)
 have h2:t.err=0→_:=fun h=>infer_c _ t g (Nat.le_refl _) (by omega) ((Tm.err_iff t).1 h).1 hg (by omega)
 refine M.F Tryz.func161 ?_
 repeat'(first|refine M.gw ?_|refine M.c2 (h1) ?_|refine M.c2 (h2 (by simpa using h)) ?_|refine M.cs ?_ ?_<;>intro h|fail)
 ·have h':t.err≠0:=by simpa using h
  simp[tupV,V.wk,V.wks,constV,Ty.view,typed,h',noTy]
 ·have h':t.err=0:=by simpa using h
  simp[tupV,V.wk,V.wks,constV,Ty.view,typed,h']
theorem sameTy_r(x:Ty)(h:x.size<1099511627776):PC E 55 [.agg x.view,.agg x.view] (.bool true):=by
 have:=sameTy_c _ x x (Nat.le_refl _) h
 simpa using this
theorem sameTm_r(x:Tm)(h:x.full<1099511627776):PC E 127 [.agg x.view,.agg x.view] (.bool true):=by
 have:=sameTm_c _ x x (Nat.le_refl _) h
 simpa using this
theorem few_t(l:List Int)(h:l.length≤500):PC E 6 [.s .int l] (.bool true):=by
 have:=few_c l
 rwa [decide_eq_true h] at this
theorem few_f(l:List Int)(h:¬l.length≤500):PC E 6 [.s .int l] (.bool false):=by
 have:=few_c l
 rwa [decide_eq_false h] at this
theorem type1_c(d:Dk)(h:d.ok):AC E 14 [.ptr 0 0,.i 1] ⟨1,[(0,.var d.cells)]⟩ (.agg (d.type 1).1.view) ⟨1,[(0,.var (d.type 1).2.cells)]⟩:=type_c 1 1 d (by omega) (by omega) (by omega) h
theorem deck_ok{l:List Int}(h:l.length≤500):(Dk.mk l 0).ok:=⟨Nat.zero_le _,by simp only;omega⟩
end Go.Ab
namespace Go.Ab
open Go Go.Proofs
set_option maxRecDepth 100000
set_option linter.all false
theorem check2Ty_c(t:Ty)(ht:t.size<1099511627776):PC E 130 [.agg t.view] (.i t.err):=by
 have h1:=checkTy_c t ht
 refine M.F Tryz.func130 ?_
 repeat'(first|refine M.gw ?_|refine M.c2 (h1) ?_|fail)
 simp[tupV,V.wk,V.wks,constV,Ty.view,Tm.view]
theorem context2_c(l:List Ty)(hl:(l.map Ty.size).sum<1099511627776):PC E 85 [.s .ty l] (.i (ctxErr l)):=by
 have hlen:=lsum_len Ty.size Ty.size_pos l
 refine M.F Tryz.func85 ?_
 repeat'(first|refine M.gw ?_|refine M.cs ?_ ?_<;>intro h|fail)
 ·have h':l.length>16:=by simp at h;omega
  simp[tupV,V.wk,V.wks,constV,ctxErr,h']
 have h':¬l.length>16:=by simp at h;omega
 refine AW.range l.length (fun m=>∀j (hj:j<l.length),j<m→l[j].err=0)
  (fun m=>([(9,.s .ty l),(10,.i l.length),(11,.i m)],⟨0,[]⟩))
  (by omega) (fun m=>rfl) (fun m=>rfl) rfl (by intro j hj h;omega) (M.W []) ?_ ?_
 ·intro m hm hP
  have hs2:=lsum_mem Ty.size (List.getElem_mem hm)
  repeat'(first|refine M.gw ?_|refine M.c2 (check2Ty_c _ ?_) ?_|refine M.cs ?_ ?_<;>intro h|exact M.lt|fail)
  ·have h1:¬l[m].err=0:=by simpa using h
   simp[tupV,V.wk,V.wks,constV,ctxErr,h',firstErr_at l m hm hP h1]
  ·exact ⟨rfl,all_step (p:=fun t=>Ty.err t=0) hm hP (by simpa using h),(M.W [])⟩
 ·intro hP
  repeat'(first|refine M.gw ?_|fail)
  simp[tupV,V.wk,V.wks,constV,ctxErr,h',firstErr_none l hP]
theorem of_c(t:Ty)(ht:t.size<1099511627776):PC E 131 [.agg t.view] (.agg (ofT t).view):=by
 have h1:=checkTy_c t ht
 refine M.F Tryz.func131 ?_
 repeat'(first|refine M.gw ?_|refine M.c2 (h1) ?_|fail)
 simp[tupV,V.wk,V.wks,constV,Ty.view,Sz.view,ofT]
theorem from_c(l:List Ty)(hl:(l.map Ty.size).sum<1099511627776):PC E 86 [.s .ty l] (.s .sz (l.map ofT)):=by
 have hlen:=lsum_len Ty.size Ty.size_pos l
 refine M.F Tryz.func86 ?_
 repeat'(first|refine M.gw ?_|fail)
 refine AW.range l.length (fun m=>True)
  (fun m=>([(3,.slice (.own 0) (.t .sz ((l.take m).map ofT))),(6,.s .ty l),(7,.i l.length),(8,.i m)],⟨1,[(0,.row)]⟩))
  (by omega) (fun m=>rfl) (fun m=>rfl) rfl trivial (M.W [none]) ?_ ?_
 ·intro m hm hP
  have hs2:=lsum_mem Ty.size (List.getElem_mem hm)
  repeat'(first|refine M.gw ?_|refine M.c2 (of_c _ ?_) ?_|exact M.lt|fail)
  exact⟨rfl,trivial,(M.W [some 2] (hf:=(by(repeat'(first|exact trivial|refine And.intro ?_ ?_|refine⟨_,U,_,U,?_⟩|exact VLe.refl _|exact VLe.of_eq (by simp[Sto.upd,map_take _ _ _ hm])));done)))⟩
 ·intro _
  repeat'(first|refine M.gw ?_|fail)
  simp[tupV,V.wk,V.wks]
theorem is_c(s:Sz)(k:Int):PC E 182 [.agg s.view,.i k] (.bool (s.ty.kind==k)):=by
 refine M.F Tryz.func182 ?_
 repeat'(first|refine M.gw ?_|fail)
 simp[tupV,V.wk,V.wks]
theorem part_c(s:Sz)(i:Nat)(hi:i<s.ty.args.length)(hs:s.ty.size<1099511627776):PC E 196 [.agg s.view,.i i] (.agg (ofT s.ty.args[i]).view):=by
 have hs2:=lsum_mem Ty.size (List.getElem_mem hi)
 have hsz:=s.ty.size_eq
 have h1:=of_c s.ty.args[i] (by omega)
 refine M.F Tryz.func196 ?_
 repeat'(first|refine M.gw ?_|refine M.c2 (h1) ?_|fail)
 simp[tupV,V.wk,V.wks,Sz.view,ofT]
theorem sameSz_c(s u:Sz)(hs:s.ty.size<1099511627776):PC E 197 [.agg s.view,.agg u.view] (.bool (s.nodes==u.nodes&&decide (s.ty=u.ty))):=by
 have h1:=sameTy2_c _ s.ty u.ty (Nat.le_refl _) hs
 refine M.F Tryz.func197 ?_
 repeat'(first|refine M.gw ?_|refine M.c2 (h1) ?_|refine M.gs ?_ ?_<;>intro h|fail)
 all_goals(simp at h;simp[tupV,V.wk,V.wks,h])
theorem join_c(k:Int)(a b:Sz)(ha:0≤a.nodes∧a.nodes<1099511627776)(hb:0≤b.nodes∧b.nodes<1099511627776):PC E 191 [.i k,.agg a.view,.agg b.view] (.tup [.agg (joinS k a b).1.view,.i (joinS k a b).2]):=by
 refine M.F Tryz.func191 ?_
 repeat'(first|refine M.gw ?_|refine M.cs ?_ ?_<;>intro h|fail)
 ·have h':1+a.nodes+b.nodes>64:=by simpa using h
  have e:joinS k a b=(zSz,4):=if_pos h'
  simp[tupV,V.wk,V.wks,constV,Sz.view,zSz,noTy,e]
 ·have h':¬1+a.nodes+b.nodes>64:=by simpa using h
  have e:joinS k a b=(⟨.mk k [a.ty,b.ty],1+a.nodes+b.nodes⟩,0):=if_neg h'
  simp[tupV,V.wk,V.wks,constV,Sz.view,e]
theorem plain_c(k:Int):PC E 195 [.i k] (.s .int (plainK k)):=by
 refine M.F Tryz.func195 ?_
 repeat'(first|refine M.gw ?_|refine M.bl ?_|refine M.cs ?_ ?_<;>intro h|fail)
 all_goals
  simp only[beq_iff_eq,beq_eq_false_iff_ne,ne_eq] at*
  first
   |(simp[tupV,V.wk,V.wks,constV,plainK, *];done)
   |(simp[tupV,V.wk,V.wks,constV,plainK, *];rfl)
theorem tnat_c:PC E 84 [] (.agg natT.view):=by
 refine M.F Tryz.func84 ?_
 repeat'(first|refine M.gw ?_|fail)
 rfl
theorem tlist_c:PC E 200 [] (.agg listT.view):=by
 refine M.F Tryz.func200 ?_
 repeat'(first|refine M.gw ?_|fail)
 rfl
theorem tfun_c(r:Ty)(l:List Ty)(hl:l.length<1000000):PC E 199 [.agg r.view,.s .ty l] (.agg (funs r l).view):=by
 refine M.F Tryz.func199 ?_
 repeat'(first|refine M.gw ?_|fail)
 refine AW.downG l.length (fun m=>True)
  (fun m=>([(1,.s .ty l),(2,.ptr 0 0),(4,.ptr 1 0),(5,.i ((m:Int)-1))],⟨2,[(0,.var (funs r (l.drop m)).view),(1,.var [.i 0,.slice .nil (.t .ty [])])]⟩))
  (by omega) (fun m=>rfl) rfl trivial ?_ ?_ ?_
 ·simp only[List.drop_length]
  exact(M.W [some 0,some 1])
 ·intro m hm _
  have e:funs r (l.drop m)=funT l[m] (funs r (l.drop (m+1))):=by rw[List.drop_eq_getElem_cons hm];rfl
  repeat'(first|refine M.gw ?_|fail)
  refine L.ixt m rfl rfl rfl rfl (by omega) rfl rfl hm ?_
  repeat'(first|refine M.gw ?_|fail)
  refine⟨rfl,trivial,?_⟩
  simp only[e]
  exact(M.W [some 0,some 1])
 ·intro _
  repeat'(first|refine M.gw ?_|fail)
  simp[tupV,V.wk,V.wks,Ty.view]
theorem step_c(t:Tm):PC E 198 [.agg t.view] (.agg (stepT t).view):=by
 have h1:=tfun_c t.ty [natT,listT,t.ty] (by simp)
 have h2:=tfun_c t.ty [natT,t.ty] (by simp)
 refine M.F Tryz.func198 ?_
 repeat'(first|refine M.gw ?_|refine M.c2 (tnat_c) ?_|refine M.c2 (tlist_c) ?_|refine M.c2 (h1) ?_|refine M.c2 (h2) ?_|refine M.cs ?_ ?_<;>intro h|fail)
 ·have h':t.kind=9:=by simpa using h
  have e:stepT t=funs t.ty [natT,listT,t.ty]:=if_pos h'
  simp[tupV,V.wk,V.wks,constV,Ty.view,e]
 ·have h':¬t.kind=9:=by simpa using h
  have e:stepT t=funs t.ty [natT,t.ty]:=if_neg h'
  simp[tupV,V.wk,V.wks,constV,Ty.view,e]
end Go.Ab
