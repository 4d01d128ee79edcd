/- A part of the proofs of this seat's statements: S21, S22, S23, S24, S30, S31, S41, S42, S43, S44, S46, S47. It has no conditions of its own. -/
import Derived.Test.YteenjilpjblgeaaGreatDoorA2
import Derived.Test.YteenjilpjblgeaaGreatDoorS2
import Derived.Test.YteenjilpjblgeaaGreatDoorD1
namespace Go.Ab
open Go Go.Proofs
set_option maxRecDepth 100000
set_option maxHeartbeats 4000000
set_option linter.all false
theorem typed_c'(g:List Ty)(t:Tm)(ht:t.full<137438953472)(hg:∀x∈g,x.err=0)(hl:g.length<100000):PC E 212 [.s .ty g,.agg t.view] (.tup [.agg (typed g t).1.view,.i (typed g t).2]):=by
 have h1:=checkTmR_c t (by omega)
 have h2:t.err=0→_:=fun h=>infer_c _ t g (Nat.le_refl _) (by omega) ((Tm.err_iff t).1 h).1 hg (by omega)
 refine M.F Tryz.func212 ?_
 repeat'(first|refine M.gw ?_|refine M.c2 (h1) ?_|refine M.c2 (h2 (by simpa using h)) ?_|refine AW.condS U (fun h=> ?_) (fun h=> ?_)|fail)
 ·have h':t.err≠0:=by simpa using h
  simp[tupV,V.wk,V.wks,constV,Ty.view,typed,h',noTy]
 ·have h':t.err=0:=by simpa using h
  simp[tupV,V.wk,V.wks,constV,Ty.view,typed,h']
theorem typeOf_c(g:List Ty)(t:Tm)(ht:t.full<137438953472)(hg:(g.map Ty.size).sum<1099511627776):PC E 234 [.s .ty g,.agg t.view] (.tup [.agg (typeOf g t).1.view,.i (typeOf g t).2]):=by
 have h1:=contextR_c g hg
 have h2:ctxErr g=0→_:=fun h=>typed_c' g t ht (ctxErr_all h).2 (by have:=(ctxErr_all h).1;omega)
 refine M.F Tryz.func234 ?_
 repeat'(first|refine M.gw ?_|refine M.c2 (h1) ?_|refine M.c2 (h2 (by simpa using h)) ?_|refine AW.condS U (fun h=> ?_) (fun h=> ?_)|fail)
 ·have h':ctxErr g≠0:=by simpa using h
  simp[tupV,V.wk,V.wks,constV,Ty.view,typeOf,h',noTy]
 ·have h':ctxErr g=0:=by simpa using h
  simp[tupV,V.wk,V.wks,constV,Ty.view,typeOf,h']
theorem type1_c(d:Dk)(h:d.ok):AC E 89 [.ptr 0 0,.i 1] ⟨1,[(0,.var d.cells)]⟩ (.agg (d.type 1).1.view) ⟨1,[(0,.var (d.type 1).2.cells)]⟩:=type_c 1 1 d (by omega) (by omega) (by omega) h
end Go.Ab
namespace Go.Ab
open Go Go.Proofs
set_option maxRecDepth 100000
set_option linter.all false
theorem check2Ty_c(t:Ty)(ht:t.size<1099511627776):PC E 223 [.agg t.view] (.i t.err):=by
 have h1:=checkTy_c t ht
 refine M.F Tryz.func223 ?_
 repeat'(first|refine M.gw ?_|refine M.c2 (h1) ?_|fail)
 simp[tupV,V.wk,V.wks,constV,Ty.view,Tm.view]
theorem tnat_c:PC E 61 [] (.agg natT.view):=by
 refine M.F Tryz.func61 ?_
 repeat'(first|refine M.gw ?_|fail)
 rfl
theorem tlist_c:PC E 105 [] (.agg listT.view):=by
 refine M.F Tryz.func105 ?_
 repeat'(first|refine M.gw ?_|fail)
 rfl
end Go.Ab
namespace Go.Ab
open Go Go.Proofs
set_option maxRecDepth 100000
set_option maxHeartbeats 2000000
set_option linter.all false
theorem nat_of{x:Ty}(h:x.err=0)(hk:x.kind=1):x=natT:=(Ty.eq_iff _ _).2 ⟨hk,shape_zero ((Ty.err_iff x).1 h).1 (by omega)⟩
theorem list_of{x:Ty}(h:x.err=0)(hk:x.kind=2):x=listT:=(Ty.eq_iff _ _).2 ⟨hk,shape_zero ((Ty.err_iff x).1 h).1 (by omega)⟩
end Go.Ab
namespace Go.Ab
open Go Go.Proofs
set_option maxRecDepth 100000
set_option maxHeartbeats 4000000
set_option linter.all false
theorem tof_c(k:Int)(l:List Tm):PC E 116 [.i k,.s .tm l] (.agg (Tm.mk k 0 (.mk 0 []) l).view):=by
 refine M.F Tryz.func116 ?_
 repeat'(first|refine M.gw ?_|fail)
 simp[tupV,V.wk,V.wks,constV,Ty.view,Tm.view]
theorem ownTm_c:∀(b:Nat) (t:Tm),t.full≤b→b<1099511627776→PC E 219 [.agg t.view] (.agg t.view):=by
 intro b
 induction b with
 |zero=>intro t h;have:=t.full_pos;omega
 |succ b ih=>
 intro t hsz hb
 have hsz':=Tm.full_eq t
 have hlen:=lsum_len Tm.full Tm.full_pos t.args
 have hty:=ownTy_c _ t.ty (Nat.le_refl _) (by omega)
 refine M.F Tryz.func219 ?_
 repeat'(first|refine M.gw ?_|refine M.c2 (hty) ?_|fail)
 refine AW.range t.args.length (fun m=>True)
  (fun m=>([(1,.ptr 0 0),(2,.ptr 1 0),(3,.ptr 2 0),(15,.s .tm t.args),(16,.i t.args.length),(17,.i m)],⟨4,[(0,.var t.view),(1,.var [.i 0,.i 0,.i 0,.slice .nil (.t .ty []),.slice .nil (.t .tm [])]),(2,.var [.i t.kind,.i t.index,.i t.ty.kind,.s .ty t.ty.args,.slice (.own 3) (.t .tm (t.args.take m))]),(3,.row)]⟩))
  (by omega) (fun m=>rfl) (fun m=>rfl) rfl trivial (M.W [some 0,some 1,some 2,none]) ?_ ?_
 ·intro m hm hP
  have hs2:=lsum_mem Tm.full (List.getElem_mem hm)
  repeat'(first|refine M.gw ?_|refine M.c2 (ih _ ?_ ?_) ?_|((with_reducible show @LE.le Nat _ _ _);omega)|((with_reducible show @LT.lt Nat _ _ _);omega)|fail)
  exact⟨rfl,trivial,(M.W [some 0,some 1,some 2,some 5] (he:=(by(repeat'(first|exact trivial|exact Or.inr ⟨_,U,rfl⟩|refine And.intro ?_ ?_|refine⟨_,U,_,U,_,U,?_⟩|exact VLe.refl _|exact VLe.of_eq (by simp[Sto.upd,List.take_append_getElem])));done)))⟩
 ·intro hP
  repeat'(first|refine M.gw ?_|fail)
  simp[tupV,V.wk,V.wks,constV,Ty.view,Tm.view]
theorem tapp_c(f:Tm)(l:List Tm)(hl:l.length<1000000000):PC E 121 [.agg f.view,.s .tm l] (.agg (appT f l).view):=by
 refine M.F Tryz.func121 ?_
 repeat'(first|refine M.gw ?_|fail)
 refine AW.range l.length (fun m=>True)
  (fun m=>([(1,.s .tm l),(2,.ptr 0 0),(4,.ptr 1 0),(7,.s .tm l),(8,.i l.length),(9,.i m)],⟨2,[(0,.var (appT f (l.take m)).view),(1,.var [.i 0,.i 0,.i 0,.slice .nil (.t .ty []),.slice .nil (.t .tm [])])]⟩))
  (by omega) (fun m=>rfl) (fun m=>rfl) rfl trivial ?_ ?_ ?_
 ·simp only[List.take_zero]
  exact(M.W [some 0,some 1])
 ·intro m hm hP
  have e:appT f (l.take (m+1))=apT (appT f (l.take m)) l[m]:=by rw[←List.take_append_getElem hm,appT_snoc]
  have ho:=tof_c 3 [appT f (l.take m),l[m]]
  repeat'(first|refine M.gw ?_|refine M.c2 (ho) ?_|fail)
  refine⟨rfl,trivial,?_⟩
  simp only[e]
  exact(M.W [some 0,some 1])
 ·intro hP
  repeat'(first|refine M.gw ?_|fail)
  simp[tupV,V.wk,V.wks,Tm.view]
def lamsT(b:Tm)(l:List Ty):Tm:=l.foldr lmT b
theorem tlam_c(b:Tm)(l:List Ty)(hl:l.length<1000000):PC E 66 [.agg b.view,.s .ty l] (.agg (lamsT b l).view):=by
 refine M.F Tryz.func66 ?_
 repeat'(first|refine M.gw ?_|fail)
 refine AW.downG l.length (fun m=>True)
  (fun m=>([(1,.s .ty l),(2,.ptr 0 0),(4,.ptr 1 0),(5,.i ((m:Int)-1))],⟨2,[(0,.var (lamsT b (l.drop m)).view),(1,.var [.i 0,.i 0,.i 0,.slice .nil (.t .ty []),.slice .nil (.t .tm [])])]⟩))
  (by omega) (fun m=>rfl) rfl trivial ?_ ?_ ?_
 ·simp only[List.drop_length]
  exact(M.W [some 0,some 1])
 ·intro m hm _
  have e:lamsT b (l.drop m)=lmT l[m] (lamsT b (l.drop (m+1))):=by rw[List.drop_eq_getElem_cons hm];rfl
  repeat'(first|refine M.gw ?_|fail)
  refine L.ixt m rfl rfl rfl rfl (by omega) rfl rfl hm ?_
  repeat'(first|refine M.gw ?_|fail)
  refine⟨rfl,trivial,?_⟩
  simp only[e]
  exact(M.W [some 0,some 1])
 ·intro _
  repeat'(first|refine M.gw ?_|fail)
  simp[tupV,V.wk,V.wks,Tm.view]
theorem inhab_c:∀(n:Nat) (t:Ty),t.size≤n→n≤64→t.shape=true→PC E 224 [.agg t.view] (.agg (dfl t).view):=by
 intro n
 induction n with
 |zero=>intro t h;have:=t.size_pos;omega
 |succ n ih=>
 intro t hsz hn hs
 rcases shape_cases hs with rfl|rfl|rfl|⟨a,b,ha,hb,rfl|rfl⟩
 ·have ho:=tof_c 4 []
  refine M.F Tryz.func224 ?_
  repeat'(first|refine M.gw ?_|refine M.c2 (ho) ?_|((with_reducible refine D.blk ?_);refine AW.block ?_)|fail)
  rfl
 ·have ho:=tof_c 7 []
  refine M.F Tryz.func224 ?_
  repeat'(first|refine M.gw ?_|refine M.c2 (ho) ?_|((with_reducible refine D.blk ?_);refine AW.block ?_)|fail)
  rfl
 ·have ho:=tof_c 13 []
  refine M.F Tryz.func224 ?_
  repeat'(first|refine M.gw ?_|refine M.c2 (ho) ?_|((with_reducible refine D.blk ?_);refine AW.block ?_)|fail)
  rfl
 ·rw [two_size] at hsz
  have h1:=ih a (by omega) (by omega) ha
  have h2:=ih b (by omega) (by omega) hb
  have ho:=tof_c 10 [dfl a,dfl b]
  rw[dfl_two]
  unfold twoT
  refine M.F Tryz.func224 ?_
  repeat'(first|refine M.gw ?_|refine M.c2 (h1) ?_|refine M.c2 (h2) ?_|refine M.c2 (ho) ?_|((with_reducible refine D.blk ?_);refine AW.block ?_)|fail)
  rfl
 ·rw [fun_size] at hsz
  have h2:=ih b (by omega) (by omega) hb
  have h1:=ownTy_c _ a (Nat.le_refl _) (by omega)
  have ho:=tlam_c (dfl b) [a] (by simp)
  rw[dfl_fun]
  unfold funT
  refine M.F Tryz.func224 ?_
  repeat'(first|refine M.gw ?_|refine M.c2 (h1) ?_|refine M.c2 (h2) ?_|refine M.c2 (ho) ?_|((with_reducible refine D.blk ?_);refine AW.block ?_)|fail)
  rfl
def dflS(t:Ty):Tm:=if t.err=0 then dfl t else noTm
theorem termsDefault_c(t:Ty)(ht:t.size<1099511627776):PC E 189 [.agg t.view] (.tup [.agg (dflS t).view,.i t.err]):=by
 have h1:=check2Ty_c t ht
 by_cases h0:t.err=0
 ·have hs:=(Ty.err_iff t).1 h0
  have h2:=inhab_c _ t (Nat.le_refl _) hs.2 hs.1
  rw[show dflS t=dfl t from if_pos h0]
  rw[h0] at h1 ⊢
  refine M.F Tryz.func189 ?_
  repeat'(first|refine M.gw ?_|refine M.c2 (h1) ?_|refine M.c2 (h2) ?_|fail)
  rfl
 ·rw [show dflS t=noTm from if_neg h0]
  refine M.F Tryz.func189 ?_
  repeat'(first|refine M.gw ?_|refine M.c2 (h1) ?_|refine AW.condS U (fun h=> ?_) (fun h=> ?_)|fail)
  ·rfl
  ·exfalso;simp_all;done
theorem quantifier_c(k:Int):PC E 195 [.i k] (.bool (quantK k)):=by
 refine M.F Tryz.func195 ?_
 repeat'(first|refine M.gw ?_|((fail_if_success refine AX.wt U ?_);refine AX.gs U U (fun _=>trivial) (fun h=> ?_) (fun h=> ?_))|fail)
 all_goals(simp_all[tupV,V.wk,V.wks,constV,quantK];try omega)
theorem formed_c(f:Fm)(ht:f.ty.size<1099511627776):PC E 246 [.agg f.view] (.bool f.head):=by
 have h1:=noType_c f.ty
 have h2:=checkTy_c f.ty ht
 have hok:=Ty.ok_err f.ty
 obtain⟨k,h,ts,fs⟩:=f
 simp only[Fm.ty_mk] at*
 have hk:k=1∨k=2∨k=3∨k=4∨k=5∨k=6∨k=7∨(k≠1∧k≠2∧k≠3∧k≠4∧k≠5∧k≠6∧k≠7):=by omega
 rcases hk with rfl|rfl|rfl|rfl|rfl|rfl|rfl|hk
 ·cases hn:h.isNo with
  |false=>
   rw[hn] at h1
   refine M.F Tryz.func246 ?_
   repeat'(first|refine M.gw ?_|refine M.c2 (h1) ?_|((with_reducible refine D.blk ?_);refine AW.block ?_)|fail)
   simp[tupV,V.wk,V.wks,constV,Fm.head,hn]
  |true=>
   rw[hn] at h1
   refine M.F Tryz.func246 ?_
   repeat'(first|refine M.gw ?_|refine M.c2 (h1) ?_|((fail_if_success refine AX.wt U ?_);refine AX.gs U U (fun _=>trivial) (fun h=> ?_) (fun h=> ?_))|((with_reducible refine D.blk ?_);refine AW.block ?_)|fail)
   ·have h':ts.length=2:=by simp at h;omega
    have e:((fs.length:Int)==0)=(fs.length==0):=by rw[Bool.eq_iff_iff];simp
    simp[tupV,V.wk,V.wks,constV,Fm.head,hn,h',e]
   ·have h':¬ts.length=2:=by simp at h;omega
    simp[tupV,V.wk,V.wks,constV,Fm.head,hn,h']
 all_goals first
  |(cases hn:h.isNo with
    |false=>
     rw[hn] at h1
     refine M.F Tryz.func246 ?_
     repeat'(first|refine M.gw ?_|refine M.c2 (h1) ?_|((with_reducible refine D.blk ?_);refine AW.block ?_)|refine AW.condS U (fun h=> ?_) (fun h=> ?_)|fail)
     simp[tupV,V.wk,V.wks,constV,Fm.head,hn]
     done
    |true=>
     rw[hn] at h1
     refine M.F Tryz.func246 ?_
     repeat'(first|refine M.gw ?_|refine M.c2 (h1) ?_|((fail_if_success refine AX.wt U ?_);refine AX.gs U U (fun _=>trivial) (fun h=> ?_) (fun h=> ?_))|((with_reducible refine D.blk ?_);refine AW.block ?_)|fail)
     ·have h':ts.length=0:=by simp at h;simp[h]
      have e:((fs.length:Int)==2)=(fs.length==2):=by rw[Bool.eq_iff_iff];simp;omega
      simp[tupV,V.wk,V.wks,constV,Fm.head,hn,h',e]
     ·have h':¬ts.length=0:=by simp at h;simpa using h
      simp[tupV,V.wk,V.wks,constV,Fm.head,hn,h']
      done)
  |(by_cases hn:h.err=0
    ·rw [hn] at h2
     refine M.F Tryz.func246 ?_
     repeat'(first|refine M.gw ?_|refine M.c2 (h2) ?_|((fail_if_success refine AX.wt U ?_);refine AX.gs U U (fun _=>trivial) (fun h=> ?_) (fun h=> ?_))|((with_reducible refine D.blk ?_);refine AW.block ?_)|refine AW.condS U (fun h=> ?_) (fun h=> ?_)|fail)
     ·have h':ts.length=0:=by simp at h;simp[h]
      have e:((fs.length:Int)==1)=(fs.length==1):=by rw[Bool.eq_iff_iff];simp;omega
      simp[tupV,V.wk,V.wks,constV,Fm.head,hok,hn,h',e]
     ·have h':¬ts.length=0:=by simp at h;simpa using h
      simp[tupV,V.wk,V.wks,constV,Fm.head,hok,hn,h']
      done
    ·have hb:(h.err !=0)=true:=by simpa using hn
     refine M.F Tryz.func246 ?_
     repeat'(first|refine M.gw ?_|refine M.c2 (h2) ?_|((fail_if_success refine AX.wt U ?_);refine AX.gs U U (fun _=>trivial) (fun h=> ?_) (fun h=> ?_))|((with_reducible refine D.blk ?_);refine AW.block ?_)|refine AW.condS U (fun h=> ?_) (fun h=> ?_)|fail)
     ·simp [tupV,V.wk,V.wks,constV,Fm.head,hok,hn]
     all_goals(exfalso;simp_all;done))
  |(refine M.F Tryz.func246 ?_
    repeat'(first|refine M.gw ?_|((with_reducible refine D.blk ?_);refine AW.block ?_)|refine AW.condS U (fun h=> ?_) (fun h=> ?_)|fail)
    all_goals first
     |(exfalso;simp_all;done)
     |(simp[tupV,V.wk,V.wks,constV,Fm.head,hk];done))
theorem formulaNodes_c:∀(b:Nat) (f:Fm),f.full≤b→b<1099511627776→PC E 216 [.agg f.view] (.tup [.i f.nodes,.bool f.shape]):=by
 intro b
 induction b with
 |zero=>intro f h;have:=f.full_pos;omega
 |succ b ih=>
 intro f hsz hb
 have hsz':=f.full_eq
 have hse:=f.size_eq
 have hle:=f.size_le_full
 have hlen:=lsum_len Fm.full Fm.full_pos f.args
 have hlen2:=lsum_len Tm.full Tm.full_pos f.terms
 have hsh:=f.shape_eq
 have h1:=formed_c f (by omega)
 cases hh:f.head with
 |false=>
  rw[hh] at h1 hsh
  have e:f.shape=false:=by rw[hsh];rfl
  rw[show f.nodes=0 by simp[Fm.nodes,e],e]
  refine M.F Tryz.func216 ?_
  repeat'(first|refine M.gw ?_|refine M.c2 (h1) ?_|fail)
  rfl
 |true=>
 rw[hh] at h1 hsh
 refine M.F Tryz.func216 ?_
 repeat'(first|refine M.gw ?_|refine M.c2 (h1) ?_|fail)
 refine AW.range f.terms.length (fun m=>∀j (hj:j<f.terms.length),j<m→(f.terms[j]).shape=true)
  (fun m=>([(1,.ptr 0 0),(4,.i (1+((f.terms.take m).map Tm.size).sum:Nat)),(17,.s .tm f.terms),(18,.i f.terms.length),(19,.i m)],⟨1,[(0,.var f.view)]⟩))
  (by omega) (fun m=>rfl) (fun m=>rfl) rfl (fun j hj h=>by omega) (M.W [some 0]) ?_ ?_
 ·intro m hm hP
  have hs1:=lsum_take Tm.size f.terms m hm
  have hs2:=lsum_mem Tm.full (List.getElem_mem hm)
  have hs3:=lsum_take_le Tm.size f.terms m
  have hs4:=lsum_le (f:=Tm.size) (g:=Tm.full) f.terms fun x _=>x.size_le_full
  have hs5:=f.terms[m].size_le_full
  have hc:=termNodes_c _ f.terms[m] (Nat.le_refl _) (by omega)
  cases hx:(f.terms[m]).shape with
  |false=>
   rw[show nodesM f.terms[m]= .tup [.i 0,.bool false] by simp[nodesM,Tm.nodes,hx]] at hc
   have e:f.shape=false:=by rw[hsh,all_not Tm.shape hm hx];rfl
   rw[show f.nodes=0 by simp[Fm.nodes,e],e]
   repeat'(first|refine M.gw ?_|refine M.c2 (hc) ?_|fail)
   rfl
  |true=>
   rw[show nodesM f.terms[m]= .tup [.i f.terms[m].size,.bool true] by simp[nodesM,Tm.nodes,hx]] at hc
   repeat'(first|refine M.gw ?_|refine M.c2 (hc) ?_|fail)
   refine⟨rfl,all_step (p:=fun t=>Tm.shape t=true) hm hP hx,?_⟩
   simp only[hs1]
   exact(M.W [some 0] (hf:=(by(repeat'(first|exact trivial|refine And.intro ?_ ?_|refine⟨_,U,_,U,?_⟩|exact VLe.refl _|exact VLe.of_eq (by simp[Sto.upd,Int.natCast_add,Int.add_assoc])));done)))
 ·intro hP
  have hpt:=all_of Tm.shape f.terms fun j hj=>hP j hj hj
  rw[hpt] at hsh
  simp only[List.take_length]
  repeat'(first|refine M.gw ?_|fail)
  refine AW.range f.args.length (fun m=>∀j (hj:j<f.args.length),j<m→(f.args[j]).shape=true)
   (fun m=>([(1,.ptr 0 0),(4,.i (1+(f.terms.map Tm.size).sum+((f.args.take m).map Fm.size).sum:Nat)),(35,.s .fm f.args),(36,.i f.args.length),(37,.i m)],⟨1,[(0,.var f.view)]⟩))
   (by omega) (fun m=>rfl) (fun m=>rfl) rfl (fun j hj h=>by omega) (M.W [some 0]) ?_ ?_
  ·intro m hm hP
   have hs0:=lsum_le (f:=Tm.size) (g:=Tm.full) f.terms fun x _=>x.size_le_full
   have hs1:=lsum_take Fm.size f.args m hm
   have hs2:=lsum_mem Fm.full (List.getElem_mem hm)
   have hs3:=lsum_take_le Fm.size f.args m
   have hs4:=lsum_le (f:=Fm.size) (g:=Fm.full) f.args fun x _=>x.size_le_full
   have hs5:=f.args[m].size_le_full
   have hc:=ih f.args[m] (by omega) (by omega)
   cases hx:(f.args[m]).shape with
   |false=>
    rw[hx,show(f.args[m]).nodes=0 by simp[Fm.nodes,hx]] at hc
    have e:f.shape=false:=by rw[hsh,all_not Fm.shape hm hx];rfl
    rw[show f.nodes=0 by simp[Fm.nodes,e],e]
    repeat'(first|refine M.gw ?_|refine M.c2 (hc) ?_|fail)
    rfl
   |true=>
    rw[hx,show(f.args[m]).nodes=(f.args[m]).size by simp[Fm.nodes,hx]] at hc
    repeat'(first|refine M.gw ?_|refine M.c2 (hc) ?_|fail)
    refine⟨rfl,all_step (p:=fun t=>Fm.shape t=true) hm hP hx,?_⟩
    simp only[hs1]
    exact(M.W [some 0] (hf:=(by(repeat'(first|exact trivial|refine And.intro ?_ ?_|refine⟨_,U,_,U,?_⟩|exact VLe.refl _|exact VLe.of_eq (by simp[Sto.upd,Int.natCast_add,Int.add_assoc])));done)))
  ·intro hP
   have hpa:=all_of Fm.shape f.args fun j hj=>hP j hj hj
   rw[hpa] at hsh
   have e:f.shape=true:=hsh
   rw[show f.nodes=f.size by simp[Fm.nodes,e],e,hse]
   simp only[List.take_length]
   repeat'(first|refine M.gw ?_|fail)
   rfl
theorem checkFm_c(f:Fm)(hf:f.full<1099511627776):PC E 184 [.agg f.view] (.tup [.i f.num,.i f.err]):=by
 have h1:=formulaNodes_c _ f (Nat.le_refl _) hf
 have hle:=f.size_le_full
 cases hs:f.shape with
 |false=>
  have e:f.err=2:=by simp[Fm.err,hs]
  rw[hs,show f.nodes=0 by simp[Fm.nodes,hs]] at h1
  rw[show f.num=0 by simp[Fm.num,e],e]
  refine M.F Tryz.func184 ?_
  repeat'(first|refine M.gw ?_|refine M.c2 (h1) ?_|((with_reducible refine D.sblk ?_);refine K.sq (AW.block ?_))|fail)
  rfl
 |true=>
  rw[hs,show f.nodes=f.size by simp[Fm.nodes,hs]] at h1
  by_cases hz:f.size>4096
  ·have e:f.err=4:=by simp[Fm.err,hs,hz]
   rw[show f.num=0 by simp[Fm.num,e],e]
   refine M.F Tryz.func184 ?_
   repeat'(first|refine M.gw ?_|refine M.c2 (h1) ?_|((with_reducible refine D.sblk ?_);refine K.sq (AW.block ?_))|refine AW.condS U (fun h=> ?_) (fun h=> ?_)|fail)
   ·rfl
   ·exfalso;simp at h;omega
  ·have e:f.err=0:=by simp[Fm.err,hs,hz]
   rw[show f.num=f.size by simp[Fm.num,e],e]
   refine M.F Tryz.func184 ?_
   repeat'(first|refine M.gw ?_|refine M.c2 (h1) ?_|((with_reducible refine D.sblk ?_);refine K.sq (AW.block ?_))|refine AW.condS U (fun h=> ?_) (fun h=> ?_)|fail)
   ·exfalso;simp at h;omega
   ·rfl
theorem fcheck_c(f:Fm)(hf:f.full<1099511627776):PC E 156 [.agg f.view] (.i f.err):=by
 have h1:=checkFm_c f hf
 refine M.F Tryz.func156 ?_
 repeat'(first|refine M.gw ?_|refine M.c2 (h1) ?_|fail)
 rfl
theorem copyFm_c:∀(b:Nat) (f:Fm),f.full≤b→b<1099511627776→PC E 47 [.agg f.view] (.agg f.view):=by
 intro b
 induction b with
 |zero=>intro f h;have:=f.full_pos;omega
 |succ b ih=>
 intro f hsz hb
 have hsz':=f.full_eq
 have hlen:=lsum_len Fm.full Fm.full_pos f.args
 have hlen2:=lsum_len Tm.full Tm.full_pos f.terms
 have hty:=copyTy_c _ f.ty (Nat.le_refl _) (by omega)
 refine M.F Tryz.func47 ?_
 repeat'(first|refine M.gw ?_|refine M.c2 (hty) ?_|fail)
 refine AW.range f.terms.length (fun m=>True)
  (fun m=>([(1,.ptr 0 0),(2,.ptr 1 0),(3,.ptr 2 0),(15,.s .tm f.terms),(16,.i f.terms.length),(17,.i m)],⟨4,[(0,.var f.view),(1,.var [.i 0,.i 0,.slice .nil (.t .ty []),.slice .nil (.t .tm []),.slice .nil (.t .fm [])]),(2,.var [.i f.kind,.i f.ty.kind,.s .ty f.ty.args,.slice (.own 3) (.t .tm (f.terms.take m)),.slice .nil (.t .fm [])]),(3,.row)]⟩))
  (by omega) (fun m=>rfl) (fun m=>rfl) rfl trivial (M.W [some 0,some 1,some 2,none]) ?_ ?_
 ·intro m hm _
  have hs2:=lsum_mem Tm.full (List.getElem_mem hm)
  repeat'(first|refine M.gw ?_|refine M.c2 (copyTm_c _ _ (Nat.le_refl _) ?_) ?_|((with_reducible show @LT.lt Nat _ _ _);omega)|fail)
  exact⟨rfl,trivial,(M.W [some 0,some 1,some 2,some 5] (he:=(by(repeat'(first|exact trivial|exact Or.inr ⟨_,U,rfl⟩|refine And.intro ?_ ?_|refine⟨_,U,_,U,_,U,?_⟩|exact VLe.refl _|exact VLe.of_eq (by simp[Sto.upd,List.take_append_getElem])));done)))⟩
 ·intro _
  simp only[List.take_length]
  repeat'(first|refine M.gw ?_|fail)
  refine AW.range f.args.length (fun m=>True)
   (fun m=>([(1,.ptr 0 0),(2,.ptr 1 0),(3,.ptr 2 0),(30,.s .fm f.args),(31,.i f.args.length),(32,.i m)],⟨5,[(0,.var f.view),(1,.var [.i 0,.i 0,.slice .nil (.t .ty []),.slice .nil (.t .tm []),.slice .nil (.t .fm [])]),(2,.var [.i f.kind,.i f.ty.kind,.s .ty f.ty.args,.slice (.own 3) (.t .tm f.terms),.slice (.own 4) (.t .fm (f.args.take m))]),(3,.row),(4,.row)]⟩))
   (by omega) (fun m=>rfl) (fun m=>rfl) rfl trivial (M.W [some 0,some 1,some 2,some 3,none]) ?_ ?_
  ·intro m hm _
   have hs2:=lsum_mem Fm.full (List.getElem_mem hm)
   repeat'(first|refine M.gw ?_|refine M.c2 (ih _ ?_ ?_) ?_|((with_reducible show @LE.le Nat _ _ _);omega)|((with_reducible show @LT.lt Nat _ _ _);omega)|fail)
   exact⟨rfl,trivial,(M.W [some 0,some 1,some 2,some 3,some 6] (he:=(by(repeat'(first|exact trivial|exact Or.inr ⟨_,U,rfl⟩|refine And.intro ?_ ?_|refine⟨_,U,_,U,_,U,?_⟩|exact VLe.refl _|exact VLe.of_eq (by simp[Sto.upd,List.take_append_getElem])));done)))⟩
  ·intro _
   simp only[List.take_length]
   repeat'(first|refine M.gw ?_|fail)
   rfl
theorem eqFm_c(a b:Tm)(ha:a.full<1099511627776)(hb:b.full<1099511627776):PC E 7 [.agg a.view,.agg b.view] (.agg (eqF a b).view):=by
 have h1:=copyTm_c _ a (Nat.le_refl _) ha
 have h2:=copyTm_c _ b (Nat.le_refl _) hb
 refine M.F Tryz.func7 ?_
 repeat'(first|refine M.gw ?_|refine M.c2 (h1) ?_|refine M.c2 (h2) ?_|fail)
 rfl
theorem twoFm_c(k:Int)(a b:Fm)(ha:a.full<1099511627776)(hb:b.full<1099511627776):PC E 10 [.i k,.agg a.view,.agg b.view] (.agg (Fm.mk k (.mk 0 []) [] [a,b]).view):=by
 have h1:=copyFm_c _ a (Nat.le_refl _) ha
 have h2:=copyFm_c _ b (Nat.le_refl _) hb
 refine M.F Tryz.func10 ?_
 repeat'(first|refine M.gw ?_|refine M.c2 (h1) ?_|refine M.c2 (h2) ?_|fail)
 rfl
theorem qFm_c(k:Int)(s:Ty)(f:Fm)(hs:s.size<1099511627776)(hf:f.full<1099511627776):PC E 16 [.i k,.agg s.view,.agg f.view] (.agg (Fm.mk k s [] [f]).view):=by
 have h1:=copyTy_c _ s (Nat.le_refl _) hs
 have h2:=copyFm_c _ f (Nat.le_refl _) hf
 refine M.F Tryz.func16 ?_
 repeat'(first|refine M.gw ?_|refine M.c2 (h1) ?_|refine M.c2 (h2) ?_|fail)
 rfl
theorem ownFmCb(t:Tm)(b:Int)(ht:t.full<1099511627776):PC E 248 [.agg t.view,.i b] (.agg t.view):=by
 have h1:=ownTm_c _ t (Nat.le_refl _) ht
 refine M.F Tryz.func248 ?_
 repeat'(first|refine M.gw ?_|refine M.c2 (h1) ?_|fail)
 simp[tupV,V.wk,V.wks,constV,Ty.view,Tm.view]
theorem ownFmRe:∀(n:Nat) (f:Fm) (bl:Int),f.full≤n→n<549755813888→0≤bl→bl+n<549755813888→PC E 164 [.agg f.view,.i bl,.fn (.func 248) [] []] (.agg f.view):=by
 intro n
 induction n with
 |zero=>intro f bl h;have:=f.full_pos;omega
 |succ n ih=>
 intro f bl hsz hb hbl hbn
 have hsz':=f.full_eq
 have hlen:=lsum_len Fm.full Fm.full_pos f.args
 have hlen2:=lsum_len Tm.full Tm.full_pos f.terms
 have hty:=ownTy_c _ f.ty (Nat.le_refl _) (by omega)
 have hq:=quantifier_c f.kind
 refine M.F Tryz.func164 ?_
 repeat'(first|refine M.gw ?_|refine M.c2 (hty) ?_|fail)
 refine AW.range f.terms.length (fun m=>True)
  (fun m=>([(1,.i bl),(2,.fn (.func 248) [] []),(3,.ptr 0 0),(6,.ptr 1 0),(7,.ptr 2 0),(19,.s .tm f.terms),(20,.i f.terms.length),(21,.i m)],⟨4,[(0,.var f.view),(1,.var [.i 0,.i 0,.slice .nil (.t .ty []),.slice .nil (.t .tm []),.slice .nil (.t .fm [])]),(2,.var [.i f.kind,.i f.ty.kind,.s .ty f.ty.args,.slice (.own 3) (.t .tm (f.terms.take m)),.slice .nil (.t .fm [])]),(3,.row)]⟩))
  (by omega) (fun m=>rfl) (fun m=>rfl) rfl trivial (M.W [some 0,some 1,some 2,none]) ?_ ?_
 ·intro m hm _
  have hs2:=lsum_mem Tm.full (List.getElem_mem hm)
  have hc:=ownFmCb f.terms[m] bl (by omega)
  repeat'(first|refine M.gw ?_|refine M.cv (hc) [] 0 ?_|fail)
  exact⟨rfl,trivial,(M.W [some 0,some 1,some 2,some 5] (he:=(by(repeat'(first|exact trivial|exact Or.inr ⟨_,U,rfl⟩|refine And.intro ?_ ?_|refine⟨_,U,_,U,_,U,?_⟩|exact VLe.refl _|exact VLe.of_eq (by simp[Sto.upd,List.take_append_getElem])));done)))⟩
 ·intro _
  simp only[List.take_length]
  cases hqk:quantK f.kind with
  |true=>
   rw[hqk] at hq
   repeat'(first|refine M.gw ?_|refine M.c2 (hq) ?_|fail)
   refine AW.range f.args.length (fun m=>True)
    (fun m=>([(1,.i (bl+1)),(2,.fn (.func 248) [] []),(3,.ptr 0 0),(6,.ptr 1 0),(7,.ptr 2 0),(41,.s .fm f.args),(42,.i f.args.length),(43,.i m)],⟨5,[(0,.var f.view),(1,.var [.i 0,.i 0,.slice .nil (.t .ty []),.slice .nil (.t .tm []),.slice .nil (.t .fm [])]),(2,.var [.i f.kind,.i f.ty.kind,.s .ty f.ty.args,.slice (.own 3) (.t .tm f.terms),.slice (.own 4) (.t .fm (f.args.take m))]),(3,.row),(4,.row)]⟩))
    (by omega) (fun m=>rfl) (fun m=>rfl) rfl trivial (M.W [some 0,some 1,some 2,some 3,none]) ?_ ?_
   ·intro m hm _
    have hs2:=lsum_mem Fm.full (List.getElem_mem hm)
    have hc:=ih f.args[m] (bl+1) (by omega) (by omega) (by omega) (by omega)
    repeat'(first|refine M.gw ?_|refine M.c2 (hc) ?_|fail)
    exact⟨rfl,trivial,(M.W [some 0,some 1,some 2,some 3,some 6] (he:=(by(repeat'(first|exact trivial|exact Or.inr ⟨_,U,rfl⟩|refine And.intro ?_ ?_|refine⟨_,U,_,U,_,U,?_⟩|exact VLe.refl _|exact VLe.of_eq (by simp[Sto.upd,List.take_append_getElem])));done)))⟩
   ·intro _
    simp only[List.take_length]
    repeat'(first|refine M.gw ?_|fail)
    rfl
  |false=>
   rw[hqk] at hq
   repeat'(first|refine M.gw ?_|refine M.c2 (hq) ?_|fail)
   refine AW.range f.args.length (fun m=>True)
    (fun m=>([(1,.i bl),(2,.fn (.func 248) [] []),(3,.ptr 0 0),(6,.ptr 1 0),(7,.ptr 2 0),(41,.s .fm f.args),(42,.i f.args.length),(43,.i m)],⟨5,[(0,.var f.view),(1,.var [.i 0,.i 0,.slice .nil (.t .ty []),.slice .nil (.t .tm []),.slice .nil (.t .fm [])]),(2,.var [.i f.kind,.i f.ty.kind,.s .ty f.ty.args,.slice (.own 3) (.t .tm f.terms),.slice (.own 4) (.t .fm (f.args.take m))]),(3,.row),(4,.row)]⟩))
    (by omega) (fun m=>rfl) (fun m=>rfl) rfl trivial (M.W [some 0,some 1,some 2,some 3,none]) ?_ ?_
   ·intro m hm _
    have hs2:=lsum_mem Fm.full (List.getElem_mem hm)
    have hc:=ih f.args[m] bl (by omega) (by omega) (by omega) (by omega)
    repeat'(first|refine M.gw ?_|refine M.c2 (hc) ?_|fail)
    exact⟨rfl,trivial,(M.W [some 0,some 1,some 2,some 3,some 6] (he:=(by(repeat'(first|exact trivial|exact Or.inr ⟨_,U,rfl⟩|refine And.intro ?_ ?_|refine⟨_,U,_,U,_,U,?_⟩|exact VLe.refl _|exact VLe.of_eq (by simp[Sto.upd,List.take_append_getElem])));done)))⟩
   ·intro _
    simp only[List.take_length]
    repeat'(first|refine M.gw ?_|fail)
    rfl
theorem ownFm_c(f:Fm)(hf:f.full<274877906944):PC E 220 [.agg f.view] (.agg f.view):=by
 have h1:=ownFmRe _ f 0 (Nat.le_refl _) (by omega) (by omega) (by omega)
 refine M.F Tryz.func220 ?_
 repeat'(first|refine M.gw ?_|refine M.c2 (h1) ?_|fail)
 rfl
theorem type0_c(d:Dk)(h:d.ok):AC E 89 [.ptr 0 0,.i 0] ⟨1,[(0,.var d.cells)]⟩ (.agg (d.type 0).1.view) ⟨1,[(0,.var (d.type 0).2.cells)]⟩:=type_c 0 0 d (by omega) (by omega) (by omega) h
theorem mkFm_c:∀(n:Nat) (d:Dk) (g:List Ty) (k:Int),n≤3→k=n→d.ok→smalls g→g.length+n≤5000→
 AC E 27 [.ptr 0 0,.s .ty g,.i k] ⟨1,[(0,.var d.cells)]⟩ (.agg (Dk.fm n d g).1.view) ⟨1,[(0,.var (Dk.fm n d g).2.cells)]⟩:=by
 have bd:∀(n:Nat) (d:Dk) (g:List Ty),n≤3→smalls g→(Dk.fm n d g).1.full≤10000:=fun n d g hn hg=>by
  have h1:=(Dk.fm_good n d g hg).2.2
  have h2:2^n≤2^3:=Nat.pow_le_pow_right (by omega) hn
  omega
 have eqc:∀(d:Dk) (g:List Ty),d.ok→smalls g→g.length≤5000→∃(x:Tm) (d1:Dk) (y:Tm) (d2:Dk),d.eqf g=(eqF x y,d2)∧x.full≤1000∧y.full≤1000∧
  AC E 87 [.ptr 0 0,.s .ty g,.agg natT.view,.i 1] ⟨1,[(0,.var d.cells)]⟩ (.agg x.view) ⟨1,[(0,.var d1.cells)]⟩∧
  AC E 87 [.ptr 0 0,.s .ty g,.agg natT.view,.i 1] ⟨1,[(0,.var d1.cells)]⟩ (.agg y.view) ⟨1,[(0,.var d2.cells)]⟩:=fun d g hd hg hl=>by
  have d1:=Dk.tm_ok 3 d g natT hd
  have m1:=(Dk.tm_mk 3 d g natT hg small_nat (by omega) (by omega)).full hg small_nat
  have m2:=(Dk.tm_mk 3 (Dk.tm 3 d g natT).2 g natT hg small_nat (by omega) (by omega)).full hg small_nat
  exact⟨_,_,_,_,rfl,by omega,by omega,term_c 3 (by omega) d g natT 1 (by omega) hd hg small_nat (by omega) (by omega) (by omega),
   term_c 3 (by omega) (Dk.tm 3 d g natT).2 g natT 1 (by omega) d1 hg small_nat (by omega) (by omega) (by omega)⟩
 intro n
 induction n with
 |zero=>
  intro d g k _ hk hd hg hl
  obtain⟨x,d1,y,d2,e,fx,fy,h1,h2⟩:=eqc d g hd hg (by omega)
  have he:=eqFm_c x y (by omega) (by omega)
  rw[show Dk.fm 0 d g=(eqF x y,d2) from e]
  obtain rfl:k=0:=hk
  refine M.F Tryz.func27 ?_
  repeat'(first|refine M.gw ?_|refine M.c2 (nat_c) ?_|refine M.cb (h1) [0] 0 ?_|refine M.cb (h2) [0] 0 ?_|refine M.c2 (he) ?_|fail)
  (exact M.n2 [some 0] (h8:=(by simp[tupV,V.wk,V.wks,constV,Ty.view,Tm.view,eqF,Fm.view])))
 |succ n ih=>
 intro d g k hn hk hd hg hl
 have h9:=next_c d 9 hd (by omega)
 have hbd:=Dk.next_bd d 9 (by omega)
 have d9:=Dk.next_ok hd 9
 have hkp:k>0:=by omega
 have efm:Dk.fm (n+1) d g=Dk.fm (n+1) d g:=rfl
 conv at efm=>rhs;rw[Dk.fm]
 generalize hr:(d.next 9).1=r at*
 generalize (d.next 9).2=e1 at*
 have hr9:r=0∨r=1∨r=2∨r=3∨r=4∨r=5∨r=6∨r=7∨r=8:=by omega
 rcases hr9 with rfl|rfl|rfl|rfl|rfl|rfl|rfl|rfl|rfl
 ·simp only[show((0:Int)=1)=False by simp,show((0:Int)=2)=False by simp,show((0:Int)=3)=False by simp,show((0:Int)=4)=False by simp,show((0:Int)=5)=False by simp,show((0:Int)=6)=False by simp,if_false,if_true,or_self,or_true,true_or,or_false,false_or] at efm
  rw[efm]
  have a1:=ih e1 g (k-1) (by omega) (by omega) d9 hg (by omega)
  have f1:=bd n e1 g (by omega) hg
  have k1:=Dk.fm_ok n e1 g d9
  generalize (Dk.fm n e1 g).1=x at*
  generalize (Dk.fm n e1 g).2=e2 at*
  have a2:=ih e2 g (k-1) (by omega) (by omega) k1 hg (by omega)
  have f2:=bd n e2 g (by omega) hg
  generalize (Dk.fm n e2 g).1=y at*
  generalize (Dk.fm n e2 g).2=e3 at*
  have hw:=twoFm_c 2 x y (by omega) (by omega)
  refine M.F Tryz.func27 ?_
  repeat'(first|refine M.gw ?_|refine M.cb (h9) [0] 0 ?_|refine M.cb (a1) [0] 0 ?_|refine M.cb (a2) [0] 0 ?_|refine M.c2 (hw) ?_|((with_reducible refine D.blk ?_);refine AW.block ?_)|refine AW.condS U (fun h=> ?_) (fun h=> ?_)|fail)
  all_goals first
   |(exfalso;simp at h;omega)
   |skip
  (exact M.n2 [some 0] (h8:=(by simp[tupV,V.wk,V.wks,constV,Ty.view,Tm.view,twoF,Fm.view])))
 ·simp only[show((1:Int)=0)=False by simp,show((1:Int)=2)=False by simp,show((1:Int)=3)=False by simp,show((1:Int)=4)=False by simp,show((1:Int)=5)=False by simp,show((1:Int)=6)=False by simp,if_false,if_true,or_self,or_true,true_or,or_false,false_or] at efm
  rw[efm]
  have a1:=ih e1 g (k-1) (by omega) (by omega) d9 hg (by omega)
  have f1:=bd n e1 g (by omega) hg
  have k1:=Dk.fm_ok n e1 g d9
  generalize (Dk.fm n e1 g).1=x at*
  generalize (Dk.fm n e1 g).2=e2 at*
  have a2:=ih e2 g (k-1) (by omega) (by omega) k1 hg (by omega)
  have f2:=bd n e2 g (by omega) hg
  generalize (Dk.fm n e2 g).1=y at*
  generalize (Dk.fm n e2 g).2=e3 at*
  have hw:=twoFm_c 3 x y (by omega) (by omega)
  refine M.F Tryz.func27 ?_
  repeat'(first|refine M.gw ?_|refine M.cb (h9) [0] 0 ?_|refine M.cb (a1) [0] 0 ?_|refine M.cb (a2) [0] 0 ?_|refine M.c2 (hw) ?_|((with_reducible refine D.blk ?_);refine AW.block ?_)|refine AW.condS U (fun h=> ?_) (fun h=> ?_)|fail)
  all_goals first
   |(exfalso;simp at h;omega)
   |skip
  (exact M.n2 [some 0] (h8:=(by simp[tupV,V.wk,V.wks,constV,Ty.view,Tm.view,twoF,Fm.view])))
 ·simp only[show((2:Int)=0)=False by simp,show((2:Int)=1)=False by simp,show((2:Int)=3)=False by simp,show((2:Int)=4)=False by simp,show((2:Int)=5)=False by simp,show((2:Int)=6)=False by simp,if_false,if_true,or_self,or_true,true_or,or_false,false_or] at efm
  rw[efm]
  have a1:=ih e1 g (k-1) (by omega) (by omega) d9 hg (by omega)
  have f1:=bd n e1 g (by omega) hg
  have k1:=Dk.fm_ok n e1 g d9
  generalize (Dk.fm n e1 g).1=x at*
  generalize (Dk.fm n e1 g).2=e2 at*
  have a2:=ih e2 g (k-1) (by omega) (by omega) k1 hg (by omega)
  have f2:=bd n e2 g (by omega) hg
  generalize (Dk.fm n e2 g).1=y at*
  generalize (Dk.fm n e2 g).2=e3 at*
  have hw:=twoFm_c 3 x y (by omega) (by omega)
  refine M.F Tryz.func27 ?_
  repeat'(first|refine M.gw ?_|refine M.cb (h9) [0] 0 ?_|refine M.cb (a1) [0] 0 ?_|refine M.cb (a2) [0] 0 ?_|refine M.c2 (hw) ?_|((with_reducible refine D.blk ?_);refine AW.block ?_)|refine AW.condS U (fun h=> ?_) (fun h=> ?_)|fail)
  all_goals first
   |(exfalso;simp at h;omega)
   |skip
  (exact M.n2 [some 0] (h8:=(by simp[tupV,V.wk,V.wks,constV,Ty.view,Tm.view,twoF,Fm.view])))
 ·simp only[show((3:Int)=0)=False by simp,show((3:Int)=1)=False by simp,show((3:Int)=2)=False by simp,show((3:Int)=4)=False by simp,show((3:Int)=5)=False by simp,show((3:Int)=6)=False by simp,if_false,if_true,or_self,or_true,true_or,or_false,false_or] at efm
  rw[efm]
  have ts:=type1_c e1 d9
  have ss:=Dk.type1 e1
  have k1:=Dk.type_ok 1 e1 d9
  generalize (e1.type 1).1=s at*
  generalize (e1.type 1).2=e2 at*
  have gs:=smalls_app hg (smalls_cons ss smalls_nil)
  have hlg:=longer_c g [s] (by simp;omega)
  have a1:=ih e2 (g++[s]) (k-1) (by omega) (by omega) k1 gs (by simp;omega)
  have f1:=bd n e2 (g++[s]) (by omega) gs
  generalize (Dk.fm n e2 (g++[s])).1=x at*
  generalize (Dk.fm n e2 (g++[s])).2=e3 at*
  have hw:=qFm_c 4 s x (by have:=ss.2;omega) (by omega)
  refine M.F Tryz.func27 ?_
  repeat'(first|refine M.gw ?_|refine M.cb (h9) [0] 0 ?_|refine M.cb (ts) [0] 0 ?_|refine M.c2 (hlg) ?_|refine M.cb (a1) [0] 0 ?_|refine M.c2 (hw) ?_|((with_reducible refine D.blk ?_);refine AW.block ?_)|refine AW.condS U (fun h=> ?_) (fun h=> ?_)|fail)
  all_goals first
   |(exfalso;simp at h;omega)
   |skip
  (exact M.n2 [some 0] (h8:=(by simp[tupV,V.wk,V.wks,constV,Ty.view,Tm.view,quF,Fm.view])))
 ·simp only[show((4:Int)=0)=False by simp,show((4:Int)=1)=False by simp,show((4:Int)=2)=False by simp,show((4:Int)=3)=False by simp,show((4:Int)=5)=False by simp,show((4:Int)=6)=False by simp,if_false,if_true,or_self,or_true,true_or,or_false,false_or] at efm
  rw[efm]
  have ts:=type1_c e1 d9
  have ss:=Dk.type1 e1
  have k1:=Dk.type_ok 1 e1 d9
  generalize (e1.type 1).1=s at*
  generalize (e1.type 1).2=e2 at*
  have gs:=smalls_app hg (smalls_cons ss smalls_nil)
  have hlg:=longer_c g [s] (by simp;omega)
  have a1:=ih e2 (g++[s]) (k-1) (by omega) (by omega) k1 gs (by simp;omega)
  have f1:=bd n e2 (g++[s]) (by omega) gs
  generalize (Dk.fm n e2 (g++[s])).1=x at*
  generalize (Dk.fm n e2 (g++[s])).2=e3 at*
  have hw:=qFm_c 4 s x (by have:=ss.2;omega) (by omega)
  refine M.F Tryz.func27 ?_
  repeat'(first|refine M.gw ?_|refine M.cb (h9) [0] 0 ?_|refine M.cb (ts) [0] 0 ?_|refine M.c2 (hlg) ?_|refine M.cb (a1) [0] 0 ?_|refine M.c2 (hw) ?_|((with_reducible refine D.blk ?_);refine AW.block ?_)|refine AW.condS U (fun h=> ?_) (fun h=> ?_)|fail)
  all_goals first
   |(exfalso;simp at h;omega)
   |skip
  (exact M.n2 [some 0] (h8:=(by simp[tupV,V.wk,V.wks,constV,Ty.view,Tm.view,quF,Fm.view])))
 ·simp only[show((5:Int)=0)=False by simp,show((5:Int)=1)=False by simp,show((5:Int)=2)=False by simp,show((5:Int)=3)=False by simp,show((5:Int)=4)=False by simp,show((5:Int)=6)=False by simp,if_false,if_true,or_self,or_true,true_or,or_false,false_or] at efm
  rw[efm]
  have ts:=type1_c e1 d9
  have ss:=Dk.type1 e1
  have k1:=Dk.type_ok 1 e1 d9
  generalize (e1.type 1).1=s at*
  generalize (e1.type 1).2=e2 at*
  have gs:=smalls_app hg (smalls_cons ss smalls_nil)
  have hlg:=longer_c g [s] (by simp;omega)
  have a1:=ih e2 (g++[s]) (k-1) (by omega) (by omega) k1 gs (by simp;omega)
  have f1:=bd n e2 (g++[s]) (by omega) gs
  generalize (Dk.fm n e2 (g++[s])).1=x at*
  generalize (Dk.fm n e2 (g++[s])).2=e3 at*
  have hw:=qFm_c 5 s x (by have:=ss.2;omega) (by omega)
  refine M.F Tryz.func27 ?_
  repeat'(first|refine M.gw ?_|refine M.cb (h9) [0] 0 ?_|refine M.cb (ts) [0] 0 ?_|refine M.c2 (hlg) ?_|refine M.cb (a1) [0] 0 ?_|refine M.c2 (hw) ?_|((with_reducible refine D.blk ?_);refine AW.block ?_)|refine AW.condS U (fun h=> ?_) (fun h=> ?_)|fail)
  all_goals first
   |(exfalso;simp at h;omega)
   |skip
  (exact M.n2 [some 0] (h8:=(by simp[tupV,V.wk,V.wks,constV,Ty.view,Tm.view,quF,Fm.view])))
 ·simp only[show((6:Int)=0)=False by simp,show((6:Int)=1)=False by simp,show((6:Int)=2)=False by simp,show((6:Int)=3)=False by simp,show((6:Int)=4)=False by simp,show((6:Int)=5)=False by simp,if_false,if_true,or_self,or_true,true_or,or_false,false_or] at efm
  rw[efm]
  have ts:=type0_c e1 d9
  have ss0:=Dk.type0 e1
  have ss:=small_one ss0.1 ss0.2
  have k1:=Dk.type_ok 0 e1 d9
  generalize (e1.type 0).1=s at*
  generalize (e1.type 0).2=e2 at*
  have h2:=next_c e2 2 k1 (by omega)
  have hb2:=Dk.next_bd e2 2 (by omega)
  have k2:=Dk.next_ok k1 2
  generalize (e2.next 2).1=u at*
  generalize (e2.next 2).2=e3 at*
  have gs:=smalls_app hg (smalls_cons ss smalls_nil)
  have hlg:=longer_c g [s] (by simp;omega)
  have a1:=ih e3 (g++[s]) (k-1) (by omega) (by omega) k2 gs (by simp;omega)
  have f1:=bd n e3 (g++[s]) (by omega) gs
  generalize (Dk.fm n e3 (g++[s])).1=x at*
  generalize (Dk.fm n e3 (g++[s])).2=e4 at*
  have hw:=qFm_c (6+u) s x (by have:=ss.2;omega) (by omega)
  refine M.F Tryz.func27 ?_
  repeat'(first|refine M.gw ?_|refine M.cb (h9) [0] 0 ?_|refine M.cb (ts) [0] 0 ?_|refine M.cb (h2) [0] 0 ?_|refine M.c2 (hlg) ?_|refine M.cb (a1) [0] 0 ?_|refine M.c2 (hw) ?_|((with_reducible refine D.blk ?_);refine AW.block ?_)|refine AW.condS U (fun h=> ?_) (fun h=> ?_)|fail)
  all_goals first
   |(exfalso;simp at h;omega)
   |skip
  (exact M.n2 [some 0] (h8:=(by simp[tupV,V.wk,V.wks,constV,Ty.view,Tm.view,quF,Fm.view])))
 ·simp only[show((7:Int)=0)=False by simp,show((7:Int)=1)=False by simp,show((7:Int)=2)=False by simp,show((7:Int)=3)=False by simp,show((7:Int)=4)=False by simp,show((7:Int)=5)=False by simp,show((7:Int)=6)=False by simp,if_false,if_true,or_self,or_true,true_or,or_false,false_or] at efm
  rw[efm]
  obtain⟨x,d1,y,d2,e,fx,fy,h1,h2⟩:=eqc e1 g d9 hg (by omega)
  rw[e]
  have he:=eqFm_c x y (by omega) (by omega)
  refine M.F Tryz.func27 ?_
  repeat'(first|refine M.gw ?_|refine M.cb (h9) [0] 0 ?_|refine M.c2 (nat_c) ?_|refine M.cb (h1) [0] 0 ?_|refine M.cb (h2) [0] 0 ?_|refine M.c2 (he) ?_|((with_reducible refine D.blk ?_);refine AW.block ?_)|refine AW.condS U (fun h=> ?_) (fun h=> ?_)|fail)
  all_goals first
   |(exfalso;simp at h;omega)
   |skip
  (exact M.n2 [some 0] (h8:=(by simp[tupV,V.wk,V.wks,constV,Ty.view,Tm.view,eqF,Fm.view])))
 ·simp only[show((8:Int)=0)=False by simp,show((8:Int)=1)=False by simp,show((8:Int)=2)=False by simp,show((8:Int)=3)=False by simp,show((8:Int)=4)=False by simp,show((8:Int)=5)=False by simp,show((8:Int)=6)=False by simp,if_false,if_true,or_self,or_true,true_or,or_false,false_or] at efm
  rw[efm]
  obtain⟨x,d1,y,d2,e,fx,fy,h1,h2⟩:=eqc e1 g d9 hg (by omega)
  rw[e]
  have he:=eqFm_c x y (by omega) (by omega)
  refine M.F Tryz.func27 ?_
  repeat'(first|refine M.gw ?_|refine M.cb (h9) [0] 0 ?_|refine M.c2 (nat_c) ?_|refine M.cb (h1) [0] 0 ?_|refine M.cb (h2) [0] 0 ?_|refine M.c2 (he) ?_|((with_reducible refine D.blk ?_);refine AW.block ?_)|refine AW.condS U (fun h=> ?_) (fun h=> ?_)|fail)
  all_goals first
   |(exfalso;simp at h;omega)
   |skip
  (exact M.n2 [some 0] (h8:=(by simp[tupV,V.wk,V.wks,constV,Ty.view,Tm.view,eqF,Fm.view])))
def nearG(b:Bool)(l:List (Int×Int)):Bool:=b&&l.all fun p=>decide (p.1≤268435456)
theorem nearFFm(b:Bool)(t:Tm)(bl:Int)(ht:t.full<1099511627776):AC E 197 [.agg t.view,.i bl,.ptr 0 0] ⟨1,[(0,.var [.bool b])]⟩ (.tup []) ⟨1,[(0,.var [.bool (allP Tm.near b [(t,bl)])])]⟩:=by
 have hc:=near_c t ht
 refine M.F Tryz.func197 ?_
 repeat'(first|refine M.gw ?_|refine M.c2 (hc) ?_|((fail_if_success refine AX.wt U ?_);refine AX.gs U U (fun _=>trivial) (fun h=> ?_) (fun h=> ?_))|fail)
 ·(exact M.n2 [some 0] (h6:=(by(repeat'(first|exact trivial|refine And.intro ?_ ?_|refine⟨_,U,_,U,_,U,?_⟩|exact VLe.of_eq (by simp[Sto.upd,allP_one,h])));done)) (h8:=(by simp[tupV,V.wk,V.wks,constV,Ty.view,Tm.view,allP_one,h])))
 ·(exact M.n2 [some 0] (h6:=(by(repeat'(first|exact trivial|refine And.intro ?_ ?_|refine⟨_,U,_,U,_,U,?_⟩|exact VLe.of_eq (by simp[Sto.upd,allP_one,h])));done)) (h8:=(by simp[tupV,V.wk,V.wks,constV,Ty.view,Tm.view,allP_one,h])))
theorem countFFm(at_ c:Int)(t:Tm)(bl:Int)(ht:t.full<549755813888)(hc0:0≤c∧c<549755813888)(ha:0≤at_∧at_<549755813888)(hb:0≤bl∧bl<549755813888)(hix:∀p∈t.vars 0,0≤p.1∧p.1<1099511627776):
 AC E 249 [.agg t.view,.i bl,.ptr 0 0,.ptr 1 0] ⟨2,[(0,.var [.i c]),(1,.var [.i at_])]⟩ (.tup []) ⟨2,[(0,.var [.i (c+cntF at_ [(t,bl)])]),(1,.var [.i at_])]⟩:=by
 have hc:=count_c t (at_+bl) ht hix
 have h1:=cnt_le (at_+bl) (t.vars 0)
 have h2:=t.vars_len 0
 have h3:=t.size_le_full
 refine M.F Tryz.func249 ?_
 repeat'(first|refine M.gw ?_|refine M.c2 (hc) ?_|fail)
 (exact M.n2 [some 0,some 1] (h8:=(by simp[tupV,V.wk,V.wks,constV,Ty.view,Tm.view,cntF])))
theorem nearFEachF:∀(n:Nat) (f:Fm) (b:Bool) (bl:Int),f.full≤n→n<549755813888→0≤bl→bl+n<549755813888→AC E 196 [.agg f.view,.i bl,.fn (.func 197) [] [.ptr 0 0]] ⟨1,[(0,.var [.bool b])]⟩ (.tup []) ⟨1,[(0,.var [.bool (allP Tm.near b (f.tms bl))])]⟩:=by
 intro n
 induction n with
 |zero=>intro f;intros;have:=f.full_pos;omega
 |succ n ih=>
 intro f b bl hsz hn hbl hbn
 have hsz':=f.full_eq
 have hlen:=lsum_len Fm.full Fm.full_pos f.args
 have hlen2:=lsum_len Tm.full Tm.full_pos f.terms
 have htm:=f.tms_eq bl
 have hq:=quantifier_c f.kind
 refine M.F Tryz.func196 ?_
 repeat'(first|refine M.gw ?_|fail)
 refine AW.range f.terms.length (fun m=>True)
  (fun m=>([(1,.i bl),(2,.fn (.func 197) [] [.ptr 0 0]),(3,.ptr 1 0),(11,.s .tm f.terms),(12,.i f.terms.length),(13,.i m)],⟨2,[(0,.var [.bool (allP Tm.near b ((f.terms.take m).map (fun t=>(t,bl))))]),(1,.var f.view)]⟩))
  (by omega) (fun m=>rfl) (fun m=>rfl) rfl trivial ?_ ?_ ?_
 ·exact (M.W [some 0,some 1] (he:=(by(repeat'(first|exact trivial|refine And.intro ?_ ?_|refine⟨_,U,_,U,_,U,?_⟩|exact VLe.refl _|exact VLe.of_eq (by simp[Sto.upd,allP_nil])));done)))
 ·intro m hm _
  have hs2:=lsum_mem Tm.full (List.getElem_mem hm)
  have hc:=nearFFm (allP Tm.near b ((f.terms.take m).map (fun t=>(t,bl)))) f.terms[m] bl (by omega)
  repeat'(first|refine M.gw ?_|refine M.cv (hc) [0] 0 ?_|fail)
  refine⟨rfl,trivial,?_⟩
  exact(M.W [some 0,some 1] (he:=(by(repeat'(first|exact trivial|refine And.intro ?_ ?_|refine⟨_,U,_,U,_,U,?_⟩|exact VLe.refl _|exact VLe.of_eq (by simp[Sto.upd,allP_append,map_take _ _ _ hm])));done)))
 ·intro _
  simp only[List.take_length]
  repeat'(first|refine M.gw ?_|refine M.c2 (hq) ?_|refine AW.condS U (fun h=> ?_) (fun h=> ?_)|fail)
  all_goals
   have hup:upF f.kind bl≤bl+1:=by simp only[upF];split<;>omega
   have hup0:0≤upF f.kind bl:=by simp only[upF];split<;>omega
   refine AW.range f.args.length (fun m=>True)
    (fun m=>([(1,.i (upF f.kind bl)),(2,.fn (.func 197) [] [.ptr 0 0]),(3,.ptr 1 0),(28,.s .fm f.args),(29,.i f.args.length),(30,.i m)],⟨2,[(0,.var [.bool (allP Tm.near b (f.terms.map (fun t=>(t,bl))++(f.args.take m).flatMap (Fm.tms (upF f.kind bl))))]),(1,.var f.view)]⟩))
    (by omega) (fun m=>rfl) (fun m=>rfl) rfl trivial ?_ ?_ ?_
   ·exact (M.W [some 0,some 1] (hf:=(by(repeat'(first|exact trivial|refine And.intro ?_ ?_|refine⟨_,U,_,U,?_⟩|exact VLe.refl _|exact VLe.of_eq (by simp[Sto.upd,upF,h,allP_nil])));done)) (he:=(by(repeat'(first|exact trivial|refine And.intro ?_ ?_|refine⟨_,U,_,U,_,U,?_⟩|exact VLe.refl _|exact VLe.of_eq (by simp[Sto.upd,upF,h,allP_nil])));done)))
   ·intro m hm _
    have hs2:=lsum_mem Fm.full (List.getElem_mem hm)
    have hc:=ih f.args[m] (allP Tm.near b (f.terms.map (fun t=>(t,bl))++(f.args.take m).flatMap (Fm.tms (upF f.kind bl)))) (upF f.kind bl) (by omega) (by omega) hup0 (by omega)
    repeat'(first|refine M.gw ?_|refine M.cv (hc) [0] 0 ?_|fail)
    refine⟨rfl,trivial,?_⟩
    exact(M.W [some 0,some 1] (he:=(by(repeat'(first|exact trivial|refine And.intro ?_ ?_|refine⟨_,U,_,U,_,U,?_⟩|exact VLe.refl _|exact VLe.of_eq (by simp[Sto.upd,allP_append,flat_take _ _ _ hm])));done)))
   ·intro _
    skip
    (exact M.n2 [some 0] (h6:=(by(repeat'(first|exact trivial|refine And.intro ?_ ?_|refine⟨_,U,_,U,_,U,?_⟩|exact VLe.of_eq (by simp[Sto.upd,htm])));done)) (h8:=(by simp[tupV,V.wk,V.wks,constV,Ty.view,Tm.view,htm])))
theorem countFEachF(at_ C:Int)(ha:0≤at_∧at_<549755813888)(hC:C<549755813888):∀(n:Nat) (f:Fm) (c:Int) (bl:Int),f.full≤n→n<549755813888→0≤bl→bl+n<549755813888→0≤c→c+f.size≤C→(∀p∈f.tms bl,∀q∈p.1.vars 0,0≤q.1∧q.1<1099511627776)→AC E 196 [.agg f.view,.i bl,.fn (.func 249) [] [.ptr 0 0,.ptr 1 0]] ⟨2,[(0,.var [.i c]),(1,.var [.i at_])]⟩ (.tup []) ⟨2,[(0,.var [.i (c+cntF at_ (f.tms bl))]),(1,.var [.i at_])]⟩:=by
 intro n
 induction n with
 |zero=>intro f;intros;have:=f.full_pos;omega
 |succ n ih=>
 intro f c bl hsz hn hbl hbn hc0 hcC hix
 have hsz':=f.full_eq
 have hlen:=lsum_len Fm.full Fm.full_pos f.args
 have hlen2:=lsum_len Tm.full Tm.full_pos f.terms
 have htm:=f.tms_eq bl
 have hq:=quantifier_c f.kind
 refine M.F Tryz.func196 ?_
 repeat'(first|refine M.gw ?_|fail)
 refine AW.range f.terms.length (fun m=>True)
  (fun m=>([(1,.i bl),(2,.fn (.func 249) [] [.ptr 0 0,.ptr 1 0]),(3,.ptr 2 0),(11,.s .tm f.terms),(12,.i f.terms.length),(13,.i m)],⟨3,[(0,.var [.i (c+cntF at_ ((f.terms.take m).map (fun t=>(t,bl))))]),(1,.var [.i at_]),(2,.var f.view)]⟩))
  (by omega) (fun m=>rfl) (fun m=>rfl) rfl trivial ?_ ?_ ?_
 ·exact (M.W [some 0,some 1,some 2] (he:=(by(repeat'(first|exact trivial|refine And.intro ?_ ?_|refine⟨_,U,_,U,_,U,?_⟩|exact VLe.refl _|exact VLe.of_eq (by simp[Sto.upd,cntF])));done)))
 ·intro m hm _
  have hs2:=lsum_mem Tm.full (List.getElem_mem hm)
  have hle1:=cntF_le at_ ((f.terms.take m).map (fun t=>(t,bl)))
  have hle2:(((f.terms.take m).map (fun t=>(t,bl))).map fun p:Tm×Int=>p.1.size).sum≤f.size:=tms_le1 f bl m
  have hc:=countFFm at_ (c+cntF at_ ((f.terms.take m).map (fun t=>(t,bl)))) f.terms[m] bl (by omega) (by omega) ha (by omega) (fun p hp=>hix _ (by rw[htm];exact List.mem_append_left _ (List.mem_map.2 ⟨_,List.getElem_mem hm,rfl⟩)) p hp)
  repeat'(first|refine M.gw ?_|refine M.cv (hc) [0,1] 0 ?_|fail)
  refine⟨rfl,trivial,?_⟩
  exact(M.W [some 0,some 1,some 2] (he:=(by(repeat'(first|exact trivial|refine And.intro ?_ ?_|refine⟨_,U,_,U,_,U,?_⟩|exact VLe.refl _|exact VLe.of_eq (by simp[Sto.upd,cntF_append,Int.natCast_add,Int.add_assoc,map_take _ _ _ hm])));done)))
 ·intro _
  simp only[List.take_length]
  repeat'(first|refine M.gw ?_|refine M.c2 (hq) ?_|refine AW.condS U (fun h=> ?_) (fun h=> ?_)|fail)
  all_goals
   have hup:upF f.kind bl≤bl+1:=by simp only[upF];split<;>omega
   have hup0:0≤upF f.kind bl:=by simp only[upF];split<;>omega
   refine AW.range f.args.length (fun m=>True)
    (fun m=>([(1,.i (upF f.kind bl)),(2,.fn (.func 249) [] [.ptr 0 0,.ptr 1 0]),(3,.ptr 2 0),(28,.s .fm f.args),(29,.i f.args.length),(30,.i m)],⟨3,[(0,.var [.i (c+cntF at_ (f.terms.map (fun t=>(t,bl))++(f.args.take m).flatMap (Fm.tms (upF f.kind bl))))]),(1,.var [.i at_]),(2,.var f.view)]⟩))
    (by omega) (fun m=>rfl) (fun m=>rfl) rfl trivial ?_ ?_ ?_
   ·exact (M.W [some 0,some 1,some 2] (hf:=(by(repeat'(first|exact trivial|refine And.intro ?_ ?_|refine⟨_,U,_,U,?_⟩|exact VLe.refl _|exact VLe.of_eq (by simp[Sto.upd,upF,h,cntF])));done)) (he:=(by(repeat'(first|exact trivial|refine And.intro ?_ ?_|refine⟨_,U,_,U,_,U,?_⟩|exact VLe.refl _|exact VLe.of_eq (by simp[Sto.upd,upF,h,cntF])));done)))
   ·intro m hm _
    have hs2:=lsum_mem Fm.full (List.getElem_mem hm)
    have hle1:=cntF_le at_ (f.terms.map (fun t=>(t,bl))++(f.args.take m).flatMap (Fm.tms (upF f.kind bl)))
    have hle2:((f.terms.map (fun t=>(t,bl))++(f.args.take m).flatMap (Fm.tms (upF f.kind bl))).map fun p:Tm×Int=>p.1.size).sum+(f.args[m]).size≤f.size:=tms_le2 f bl m hm
    have hc:=ih f.args[m] (c+cntF at_ (f.terms.map (fun t=>(t,bl))++(f.args.take m).flatMap (Fm.tms (upF f.kind bl)))) (upF f.kind bl) (by omega) (by omega) hup0 (by omega) (by omega) (by omega) (fun p hp=>hix p (by rw[htm];exact List.mem_append_right _ (List.mem_flatMap.2 ⟨_,List.getElem_mem hm,hp⟩)))
    repeat'(first|refine M.gw ?_|refine M.cv (hc) [0,1] 0 ?_|fail)
    refine⟨rfl,trivial,?_⟩
    exact(M.W [some 0,some 1,some 2] (he:=(by(repeat'(first|exact trivial|refine And.intro ?_ ?_|refine⟨_,U,_,U,_,U,?_⟩|exact VLe.refl _|exact VLe.of_eq (by simp[Sto.upd,cntF_append,Int.natCast_add,Int.add_assoc,flat_take _ _ _ hm])));done)))
   ·intro _
    skip
    (exact M.n2 [some 0,some 1] (h6:=(by(repeat'(first|exact trivial|refine And.intro ?_ ?_|refine⟨_,U,_,U,_,U,?_⟩|exact VLe.refl _|exact VLe.of_eq (by simp[Sto.upd,htm])));done)) (h8:=(by simp[tupV,V.wk,V.wks,constV,Ty.view,Tm.view,htm])))
theorem nearFm_c(f:Fm)(hf:f.full<274877906944):PC E 170 [.agg f.view] (.bool f.near):=by
 have hc:=nearFEachF _ f true 0 (Nat.le_refl _) (by omega) (by omega) (by omega)
 refine M.F Tryz.func170 ?_
 repeat'(first|refine M.gw ?_|refine M.cv (hc) [1] 0 ?_|fail)
 simp[tupV,V.wk,V.wks,allP,Fm.near]
theorem countFm_c(f:Fm)(at_:Int)(ha:0≤at_∧at_<549755813888)(hf:f.full<274877906944)(hix:∀p∈f.tms 0,∀q∈p.1.vars 0,0≤q.1∧q.1<1099511627776):PC E 227 [.agg f.view,.i at_] (.i (cntF at_ (f.tms 0))):=by
 have hle:=f.size_le_full
 have hc:=countFEachF at_ (f.size) ha (by omega) _ f 0 0 (Nat.le_refl _) (by omega) (by omega) (by omega) (by omega) (by omega) hix
 refine M.F Tryz.func227 ?_
 repeat'(first|refine M.gw ?_|refine M.cv (hc) [2,1] 0 ?_|fail)
 simp[tupV,V.wk,V.wks]
theorem putFmCb(at_:Int)(s:Tm)(hat:0≤at_∧at_<274877906944)(hs:s.full<274877906944)(hsi:∀p∈s.vars 0,0≤p.1∧p.1<549755813888)(t:Tm)(bl:Int)(ht:t.full<274877906944)(hb:0≤bl∧bl<274877906944)(hix:∀p∈t.vars 0,0≤p.1∧p.1<549755813888):
 AC E 251 [.agg t.view,.i bl,.ptr 0 0,.ptr 1 0] ⟨2,[(0,.var [.i at_]),(1,.var s.view)]⟩ (.agg (t.re (putG (at_+bl) s) 0).view) ⟨2,[(0,.var [.i at_]),(1,.var s.view)]⟩:=by
 have hc:=put_c t (at_+bl) s (by omega) hs hsi ht hix
 refine M.F Tryz.func251 ?_
 repeat'(first|refine M.gw ?_|refine M.c2 (hc) ?_|fail)
 (exact M.n2 [some 0,some 1] (h8:=(by simp[tupV,V.wk,V.wks,constV,Ty.view,Tm.view,hc])))
theorem putFmRe(at_:Int)(s:Tm)(hat:0≤at_∧at_<274877906944)(hs:s.full<274877906944)(hsi:∀p∈s.vars 0,0≤p.1∧p.1<549755813888):∀(n:Nat) (f:Fm) (bl:Int),f.full≤n→n<274877906944→0≤bl→bl+n<274877906944→(∀p∈f.tms bl,∀q∈p.1.vars 0,0≤q.1∧q.1<549755813888)→
 AC E 164 [.agg f.view,.i bl,.fn (.func 251) [] [.ptr 0 0,.ptr 1 0]] ⟨2,[(0,.var [.i at_]),(1,.var s.view)]⟩ (.agg (f.re (fun b t=>t.re (putG (at_+b) s) 0) bl).view) ⟨2,[(0,.var [.i at_]),(1,.var s.view)]⟩:=by
 intro n
 induction n with
 |zero=>intro f bl h;intros;have:=f.full_pos;omega
 |succ n ih=>
 intro f bl hsz hb hbl hbn hix
 have hsz':=f.full_eq
 have hlen:=lsum_len Fm.full Fm.full_pos f.args
 have hlen2:=lsum_len Tm.full Tm.full_pos f.terms
 have hty:=ownTy_c _ f.ty (Nat.le_refl _) (by omega)
 have hq:=quantifier_c f.kind
 have hre:=Fm.re_eq (fun b t=>t.re (putG (at_+b) s) 0) bl f
 have htm:=f.tms_eq bl
 refine M.F Tryz.func164 ?_
 repeat'(first|refine M.gw ?_|refine M.c2 (hty) ?_|fail)
 refine AW.range f.terms.length (fun m=>True)
  (fun m=>([(1,.i bl),(2,.fn (.func 251) [] [.ptr 0 0,.ptr 1 0]),(3,.ptr 2 0),(6,.ptr 3 0),(7,.ptr 4 0),(19,.s .tm f.terms),(20,.i f.terms.length),(21,.i m)],⟨6,[(0,.var [.i at_]),(1,.var s.view),(2,.var f.view),(3,.var [.i 0,.i 0,.slice .nil (.t .ty []),.slice .nil (.t .tm []),.slice .nil (.t .fm [])]),(4,.var [.i f.kind,.i f.ty.kind,.s .ty f.ty.args,.slice (.own 5) (.t .tm ((f.terms.take m).map ((fun b t=>t.re (putG (at_+b) s) 0) bl))),.slice .nil (.t .fm [])]),(5,.row)]⟩))
  (by omega) (fun m=>rfl) (fun m=>rfl) rfl trivial (M.W [some 0,some 1,some 2,some 3,some 4,none]) ?_ ?_
 ·intro m hm _
  have hs2:=lsum_mem Tm.full (List.getElem_mem hm)
  have hc:=putFmCb at_ s hat hs hsi f.terms[m] bl (by omega) (by omega) (fun p hp=>hix _ (by rw[htm];exact List.mem_append_left _ (List.mem_map.2 ⟨_,List.getElem_mem hm,rfl⟩)) p hp)
  repeat'(first|refine M.gw ?_|refine M.cv (hc) [0,1] 0 ?_|fail)
  exact⟨rfl,trivial,(M.W [some 0,some 1,some 2,some 3,some 4,some 7] (he:=(by(repeat'(first|exact trivial|exact Or.inr ⟨_,U,rfl⟩|refine And.intro ?_ ?_|refine⟨_,U,_,U,_,U,?_⟩|exact VLe.refl _|exact VLe.of_eq (by simp[Sto.upd,map_take _ _ _ hm])));done)))⟩
 ·intro _
  simp only[List.take_length]
  cases hqk:quantK f.kind with
  |true=>
   rw[hqk] at hq
   have hu:upF f.kind bl=bl+1:=by simp[upF,hqk]
   rw[hu] at hre htm
   repeat'(first|refine M.gw ?_|refine M.c2 (hq) ?_|fail)
   refine AW.range f.args.length (fun m=>True)
    (fun m=>([(1,.i (bl+1)),(2,.fn (.func 251) [] [.ptr 0 0,.ptr 1 0]),(3,.ptr 2 0),(6,.ptr 3 0),(7,.ptr 4 0),(41,.s .fm f.args),(42,.i f.args.length),(43,.i m)],⟨7,[(0,.var [.i at_]),(1,.var s.view),(2,.var f.view),(3,.var [.i 0,.i 0,.slice .nil (.t .ty []),.slice .nil (.t .tm []),.slice .nil (.t .fm [])]),(4,.var [.i f.kind,.i f.ty.kind,.s .ty f.ty.args,.slice (.own 5) (.t .tm (f.terms.map ((fun b t=>t.re (putG (at_+b) s) 0) bl))),.slice (.own 6) (.t .fm ((f.args.take m).map (Fm.re (fun b t=>t.re (putG (at_+b) s) 0) (bl+1))))]),(5,.row),(6,.row)]⟩))
    (by omega) (fun m=>rfl) (fun m=>rfl) rfl trivial (M.W [some 0,some 1,some 2,some 3,some 4,some 5,none]) ?_ ?_
   ·intro m hm _
    have hs2:=lsum_mem Fm.full (List.getElem_mem hm)
    have hc:=ih f.args[m] (bl+1) (by omega) (by omega) (by omega) (by omega) (fun p hp=>hix p (by rw[htm];exact List.mem_append_right _ (List.mem_flatMap.2 ⟨_,List.getElem_mem hm,hp⟩)))
    repeat'(first|refine M.gw ?_|refine M.cv (hc) [0,1] 0 ?_|fail)
    exact⟨rfl,trivial,(M.W [some 0,some 1,some 2,some 3,some 4,some 5,some 8] (he:=(by(repeat'(first|exact trivial|exact Or.inr ⟨_,U,rfl⟩|refine And.intro ?_ ?_|refine⟨_,U,_,U,_,U,?_⟩|exact VLe.refl _|exact VLe.of_eq (by simp[Sto.upd,map_take _ _ _ hm])));done)))⟩
   ·intro _
    simp only[List.take_length]
    repeat'(first|refine M.gw ?_|fail)
    (exact M.n2 [some 0,some 1] (h8:=(by simp[tupV,V.wk,V.wks,constV,Ty.view,Tm.view,hre])))
  |false=>
   rw[hqk] at hq
   have hu:upF f.kind bl=bl:=by simp[upF,hqk]
   rw[hu] at hre htm
   repeat'(first|refine M.gw ?_|refine M.c2 (hq) ?_|fail)
   refine AW.range f.args.length (fun m=>True)
    (fun m=>([(1,.i bl),(2,.fn (.func 251) [] [.ptr 0 0,.ptr 1 0]),(3,.ptr 2 0),(6,.ptr 3 0),(7,.ptr 4 0),(41,.s .fm f.args),(42,.i f.args.length),(43,.i m)],⟨7,[(0,.var [.i at_]),(1,.var s.view),(2,.var f.view),(3,.var [.i 0,.i 0,.slice .nil (.t .ty []),.slice .nil (.t .tm []),.slice .nil (.t .fm [])]),(4,.var [.i f.kind,.i f.ty.kind,.s .ty f.ty.args,.slice (.own 5) (.t .tm (f.terms.map ((fun b t=>t.re (putG (at_+b) s) 0) bl))),.slice (.own 6) (.t .fm ((f.args.take m).map (Fm.re (fun b t=>t.re (putG (at_+b) s) 0) bl)))]),(5,.row),(6,.row)]⟩))
    (by omega) (fun m=>rfl) (fun m=>rfl) rfl trivial (M.W [some 0,some 1,some 2,some 3,some 4,some 5,none]) ?_ ?_
   ·intro m hm _
    have hs2:=lsum_mem Fm.full (List.getElem_mem hm)
    have hc:=ih f.args[m] bl (by omega) (by omega) (by omega) (by omega) (fun p hp=>hix p (by rw[htm];exact List.mem_append_right _ (List.mem_flatMap.2 ⟨_,List.getElem_mem hm,hp⟩)))
    repeat'(first|refine M.gw ?_|refine M.cv (hc) [0,1] 0 ?_|fail)
    exact⟨rfl,trivial,(M.W [some 0,some 1,some 2,some 3,some 4,some 5,some 8] (he:=(by(repeat'(first|exact trivial|exact Or.inr ⟨_,U,rfl⟩|refine And.intro ?_ ?_|refine⟨_,U,_,U,_,U,?_⟩|exact VLe.refl _|exact VLe.of_eq (by simp[Sto.upd,map_take _ _ _ hm])));done)))⟩
   ·intro _
    simp only[List.take_length]
    repeat'(first|refine M.gw ?_|fail)
    (exact M.n2 [some 0,some 1] (h8:=(by simp[tupV,V.wk,V.wks,constV,Ty.view,Tm.view,hre])))
theorem putFm_c(f:Fm)(at_:Int)(s:Tm)(hat:0≤at_∧at_<274877906944)(hs:s.full<274877906944)(hsi:∀p∈s.vars 0,0≤p.1∧p.1<549755813888)(hf:f.full<137438953472)(hix:∀p∈f.tms 0,∀q∈p.1.vars 0,0≤q.1∧q.1<549755813888):PC E 228 [.agg f.view,.i at_,.agg s.view] (.agg (f.put at_ s).view):=by
 have hc:=putFmRe at_ s hat hs hsi _ f 0 (Nat.le_refl _) (by omega) (by omega) (by omega) hix
 refine M.F Tryz.func228 ?_
 repeat'(first|refine M.gw ?_|refine M.cv (hc) [1,2] 0 ?_|fail)
 rfl
theorem fsize_c(f:Fm)(hf:f.full<1099511627776):PC E 225 [.agg f.view] (.tup [.i f.num,.i f.err]):=by
 have h1:=checkFm_c f hf
 refine M.F Tryz.func225 ?_
 repeat'(first|refine M.gw ?_|refine M.c2 (h1) ?_|fail)
 rfl
theorem fwithin_c(n:Int):PC E 169 [.i n] (.bool (decide (0≤n∧n≤4096))):=by
 refine M.F Tryz.func169 ?_
 repeat'(first|refine M.gw ?_|((fail_if_success refine AX.wt U ?_);refine AX.gs U U (fun _=>trivial) (fun h=> ?_) (fun h=> ?_))|fail)
 all_goals(simp_all[tupV,V.wk,V.wks,constV];try omega)
theorem fput_c(f:Fm)(at_:Int)(s:Tm)(hf:f.full<137438953472)(hs:s.full<274877906944):PC E 190 [.agg f.view,.i at_,.agg s.view] (.tup [.agg (if putFErr f at_ s=0 then f.put at_ s else noFm).view,.i (putFErr f at_ s)]):=by
 have h1:=fsize_c f (by omega)
 have h2:=size_c s (by omega)
 have h3:=fwithin_c at_
 have h4:=nearFm_c f (by omega)
 have h5:=near_c s (by omega)
 have h6:f.err=0→f.near=true→0≤at_∧at_≤4096→_:=fun h hn ha=>countFm_c f at_ (by omega) (by omega) fun p hp q hq=>by have:=nearF_lt h hn p hp q hq;omega
 have h7:f.err=0→f.near=true→s.err=0→s.near=true→0≤at_∧at_≤4096→_:=fun h hn h' hn' ha=>putFm_c f at_ s (by omega) hs (near_lt h' hn') hf (nearF_lt h hn)
 have hn1:=fnum_le f
 have hn2:=num_le s
 have hle:=f.size_le_full
 have hcl:=cntF_le at_ (f.tms 0)
 have hvl:=tms_size f 0
 have hm:=mul_bd (cntF at_ (f.tms 0)) (s.num-1) (by omega) (by omega)
 have hm': -9223372036854775808≤(cntF at_ (f.tms 0):Int)*(s.num-1)∧(cntF at_ (f.tms 0):Int)*(s.num-1)≤9223372036854775807:=by omega
 refine M.F Tryz.func190 ?_
 repeat'(first|refine M.gw ?_|refine M.c2 (h1) ?_|refine M.c2 (h2) ?_|refine M.c2 (h3) ?_|refine M.c2 (h4) ?_|refine M.c2 (h5) ?_|refine M.c2 (h6 (by simp_all) (by simp_all) (by simp_all)) ?_|refine M.c2 (h7 (by simp_all) (by simp_all) (by simp_all) (by simp_all) (by simp_all)) ?_|((fail_if_success refine AX.wt U ?_);refine AX.gs U U (fun _=>trivial) (fun h=> ?_) (fun h=> ?_))|refine AW.condS U (fun h=> ?_) (fun h=> ?_)|fail)
 all_goals first
  |(simp_all[tupV,V.wk,V.wks,constV,Ty.view,Fm.view,putFErr,noFm,Fm.num,Tm.num];done)
  |skip
 rename_i h0
 have h':¬(0≤at_∧at_≤4096):=by intro hc;simp[hc] at h
 have h0':f.err=0:=by simpa using h0
 have e:putFErr f at_ s=1:=by simp only[putFErr,h0',ne_eq,not_true_eq_false,if_false,h',not_false_eq_true,if_true]
 simp[tupV,V.wk,V.wks,constV,Ty.view,Fm.view,e,noFm]
end Go.Ab
