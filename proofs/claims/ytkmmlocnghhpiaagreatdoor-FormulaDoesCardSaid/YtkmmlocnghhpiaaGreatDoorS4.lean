/- A part of the proofs of this seat's statements: S46, S47, S54, S55, S56, S62. It has no conditions of its own. -/
import Derived.Test.YtkmmlocnghhpiaaGreatDoorA2
import Derived.Test.YtkmmlocnghhpiaaGreatDoorS3
import Derived.Test.YtkmmlocnghhpiaaGreatDoorD1
namespace Go.Ab
open Go Go.Proofs
set_option maxRecDepth 100000
set_option maxHeartbeats 4000000
set_option linter.all false
def nearG(b:Bool)(l:List (Int×Int)):Bool:=b&&l.all fun p=>decide (p.1≤268435456)
theorem nearFFm(b:Bool)(t:Tm)(bl:Int)(ht:t.full<1099511627776):AC E 135 [.agg t.view,.i bl,.ptr 0 0] ⟨1,[(0,.var [.bool b])]⟩ (.tup []) ⟨1,[(0,.var [.bool (allP Tm.near b [(t,bl)])])]⟩:=by
 have hc:=near_c t ht
 refine M.F Tryz.func135 ?_
 repeat'(first|refine M.gw ?_|refine M.c2 (hc) ?_|refine M.gs ?_ ?_<;>intro h|fail)
 ·(exact M.n2 [some 0] (h6:=(by(repeat'(first|exact trivial|refine And.intro ?_ ?_|refine⟨_,U,_,U,_,U,?_⟩|exact VLe.of_eq (by simp[Sto.upd,allP_one,h])));done)) (h8:=(by simp[tupV,V.wk,V.wks,constV,Ty.view,Tm.view,allP_one,h])))
 ·(exact M.n2 [some 0] (h6:=(by(repeat'(first|exact trivial|refine And.intro ?_ ?_|refine⟨_,U,_,U,_,U,?_⟩|exact VLe.of_eq (by simp[Sto.upd,allP_one,h])));done)) (h8:=(by simp[tupV,V.wk,V.wks,constV,Ty.view,Tm.view,allP_one,h])))
theorem countFFm(at_ c:Int)(t:Tm)(bl:Int)(ht:t.full<549755813888)(hc0:0≤c∧c<549755813888)(ha:0≤at_∧at_<549755813888)(hb:0≤bl∧bl<549755813888)(hix:∀p∈t.vars 0,0≤p.1∧p.1<1099511627776):
 AC E 139 [.agg t.view,.i bl,.ptr 0 0,.ptr 1 0] ⟨2,[(0,.var [.i c]),(1,.var [.i at_])]⟩ (.tup []) ⟨2,[(0,.var [.i (c+cntF at_ [(t,bl)])]),(1,.var [.i at_])]⟩:=by
 have hc:=count_c t (at_+bl) ht hix
 have h1:=cnt_le (at_+bl) (t.vars 0)
 have h2:=t.vars_len 0
 have h3:=t.size_le_full
 refine M.F Tryz.func139 ?_
 repeat'(first|refine M.gw ?_|refine M.c2 (hc) ?_|fail)
 (exact M.n2 [some 0,some 1] (h8:=(by simp[tupV,V.wk,V.wks,constV,Ty.view,Tm.view,cntF])))
theorem nearFEachF:∀(n:Nat) (f:Fm) (b:Bool) (bl:Int),f.full≤n→n<549755813888→0≤bl→bl+n<549755813888→AC E 64 [.agg f.view,.i bl,.fn (.func 135) [] [.ptr 0 0]] ⟨1,[(0,.var [.bool b])]⟩ (.tup []) ⟨1,[(0,.var [.bool (allP Tm.near b (f.tms bl))])]⟩:=by
 intro n
 induction n with
 |zero=>intro f;intros;have:=f.full_pos;omega
 |succ n ih=>
 intro f b bl hsz hn hbl hbn
 have hsz':=f.full_eq
 have hlen:=lsum_len Fm.full Fm.full_pos f.args
 have hlen2:=lsum_len Tm.full Tm.full_pos f.terms
 have htm:=f.tms_eq bl
 have hq:=quantifier_c f.kind
 refine M.F Tryz.func64 ?_
 repeat'(first|refine M.gw ?_|fail)
 refine AW.range f.terms.length (fun m=>True)
  (fun m=>([(1,.i bl),(2,.fn (.func 135) [] [.ptr 0 0]),(3,.ptr 1 0),(11,.s .tm f.terms),(12,.i f.terms.length),(13,.i m)],⟨2,[(0,.var [.bool (allP Tm.near b ((f.terms.take m).map (fun t=>(t,bl))))]),(1,.var f.view)]⟩))
  (by omega) (fun m=>rfl) (fun m=>rfl) rfl trivial ?_ ?_ ?_
 ·exact (M.W [some 0,some 1] (he:=(by(repeat'(first|exact trivial|refine And.intro ?_ ?_|refine⟨_,U,_,U,_,U,?_⟩|exact VLe.refl _|exact VLe.of_eq (by simp[Sto.upd,allP_nil])));done)))
 ·intro m hm _
  have hs2:=lsum_mem Tm.full (List.getElem_mem hm)
  have hc:=nearFFm (allP Tm.near b ((f.terms.take m).map (fun t=>(t,bl)))) f.terms[m] bl (by omega)
  repeat'(first|refine M.gw ?_|refine M.cv (hc) [0] 0 ?_|fail)
  refine⟨rfl,trivial,?_⟩
  exact(M.W [some 0,some 1] (he:=(by(repeat'(first|exact trivial|refine And.intro ?_ ?_|refine⟨_,U,_,U,_,U,?_⟩|exact VLe.refl _|exact VLe.of_eq (by simp[Sto.upd,allP_append,map_take _ _ _ hm])));done)))
 ·intro _
  simp only[List.take_length]
  repeat'(first|refine M.gw ?_|refine M.c2 (hq) ?_|refine M.cs ?_ ?_<;>intro h|fail)
  all_goals
   have hup:upF f.kind bl≤bl+1:=by simp only[upF];split<;>omega
   have hup0:0≤upF f.kind bl:=by simp only[upF];split<;>omega
   refine AW.range f.args.length (fun m=>True)
    (fun m=>([(1,.i (upF f.kind bl)),(2,.fn (.func 135) [] [.ptr 0 0]),(3,.ptr 1 0),(28,.s .fm f.args),(29,.i f.args.length),(30,.i m)],⟨2,[(0,.var [.bool (allP Tm.near b (f.terms.map (fun t=>(t,bl))++(f.args.take m).flatMap (Fm.tms (upF f.kind bl))))]),(1,.var f.view)]⟩))
    (by omega) (fun m=>rfl) (fun m=>rfl) rfl trivial ?_ ?_ ?_
   ·exact (M.W [some 0,some 1] (hf:=(by(repeat'(first|exact trivial|refine And.intro ?_ ?_|refine⟨_,U,_,U,?_⟩|exact VLe.refl _|exact VLe.of_eq (by simp[Sto.upd,upF,h,allP_nil])));done)) (he:=(by(repeat'(first|exact trivial|refine And.intro ?_ ?_|refine⟨_,U,_,U,_,U,?_⟩|exact VLe.refl _|exact VLe.of_eq (by simp[Sto.upd,upF,h,allP_nil])));done)))
   ·intro m hm _
    have hs2:=lsum_mem Fm.full (List.getElem_mem hm)
    have hc:=ih f.args[m] (allP Tm.near b (f.terms.map (fun t=>(t,bl))++(f.args.take m).flatMap (Fm.tms (upF f.kind bl)))) (upF f.kind bl) (by omega) (by omega) hup0 (by omega)
    repeat'(first|refine M.gw ?_|refine M.cv (hc) [0] 0 ?_|fail)
    refine⟨rfl,trivial,?_⟩
    exact(M.W [some 0,some 1] (he:=(by(repeat'(first|exact trivial|refine And.intro ?_ ?_|refine⟨_,U,_,U,_,U,?_⟩|exact VLe.refl _|exact VLe.of_eq (by simp[Sto.upd,allP_append,flat_take _ _ _ hm])));done)))
   ·intro _
    skip
    (exact M.n2 [some 0] (h6:=(by(repeat'(first|exact trivial|refine And.intro ?_ ?_|refine⟨_,U,_,U,_,U,?_⟩|exact VLe.of_eq (by simp[Sto.upd,htm])));done)) (h8:=(by simp[tupV,V.wk,V.wks,constV,Ty.view,Tm.view,htm])))
theorem countFEachF(at_ C:Int)(ha:0≤at_∧at_<549755813888)(hC:C<549755813888):∀(n:Nat) (f:Fm) (c:Int) (bl:Int),f.full≤n→n<549755813888→0≤bl→bl+n<549755813888→0≤c→c+f.size≤C→(∀p∈f.tms bl,∀q∈p.1.vars 0,0≤q.1∧q.1<1099511627776)→AC E 64 [.agg f.view,.i bl,.fn (.func 139) [] [.ptr 0 0,.ptr 1 0]] ⟨2,[(0,.var [.i c]),(1,.var [.i at_])]⟩ (.tup []) ⟨2,[(0,.var [.i (c+cntF at_ (f.tms bl))]),(1,.var [.i at_])]⟩:=by
 intro n
 induction n with
 |zero=>intro f;intros;have:=f.full_pos;omega
 |succ n ih=>
 intro f c bl hsz hn hbl hbn hc0 hcC hix
 have hsz':=f.full_eq
 have hlen:=lsum_len Fm.full Fm.full_pos f.args
 have hlen2:=lsum_len Tm.full Tm.full_pos f.terms
 have htm:=f.tms_eq bl
 have hq:=quantifier_c f.kind
 refine M.F Tryz.func64 ?_
 repeat'(first|refine M.gw ?_|fail)
 refine AW.range f.terms.length (fun m=>True)
  (fun m=>([(1,.i bl),(2,.fn (.func 139) [] [.ptr 0 0,.ptr 1 0]),(3,.ptr 2 0),(11,.s .tm f.terms),(12,.i f.terms.length),(13,.i m)],⟨3,[(0,.var [.i (c+cntF at_ ((f.terms.take m).map (fun t=>(t,bl))))]),(1,.var [.i at_]),(2,.var f.view)]⟩))
  (by omega) (fun m=>rfl) (fun m=>rfl) rfl trivial ?_ ?_ ?_
 ·exact (M.W [some 0,some 1,some 2] (he:=(by(repeat'(first|exact trivial|refine And.intro ?_ ?_|refine⟨_,U,_,U,_,U,?_⟩|exact VLe.refl _|exact VLe.of_eq (by simp[Sto.upd,cntF])));done)))
 ·intro m hm _
  have hs2:=lsum_mem Tm.full (List.getElem_mem hm)
  have hle1:=cntF_le at_ ((f.terms.take m).map (fun t=>(t,bl)))
  have hle2:(((f.terms.take m).map (fun t=>(t,bl))).map fun p:Tm×Int=>p.1.size).sum≤f.size:=tms_le1 f bl m
  have hc:=countFFm at_ (c+cntF at_ ((f.terms.take m).map (fun t=>(t,bl)))) f.terms[m] bl (by omega) (by omega) ha (by omega) (fun p hp=>hix _ (by rw[htm];exact List.mem_append_left _ (List.mem_map.2 ⟨_,List.getElem_mem hm,rfl⟩)) p hp)
  repeat'(first|refine M.gw ?_|refine M.cv (hc) [0,1] 0 ?_|fail)
  refine⟨rfl,trivial,?_⟩
  exact(M.W [some 0,some 1,some 2] (he:=(by(repeat'(first|exact trivial|refine And.intro ?_ ?_|refine⟨_,U,_,U,_,U,?_⟩|exact VLe.refl _|exact VLe.of_eq (by simp[Sto.upd,cntF_append,Int.natCast_add,Int.add_assoc,map_take _ _ _ hm])));done)))
 ·intro _
  simp only[List.take_length]
  repeat'(first|refine M.gw ?_|refine M.c2 (hq) ?_|refine M.cs ?_ ?_<;>intro h|fail)
  all_goals
   have hup:upF f.kind bl≤bl+1:=by simp only[upF];split<;>omega
   have hup0:0≤upF f.kind bl:=by simp only[upF];split<;>omega
   refine AW.range f.args.length (fun m=>True)
    (fun m=>([(1,.i (upF f.kind bl)),(2,.fn (.func 139) [] [.ptr 0 0,.ptr 1 0]),(3,.ptr 2 0),(28,.s .fm f.args),(29,.i f.args.length),(30,.i m)],⟨3,[(0,.var [.i (c+cntF at_ (f.terms.map (fun t=>(t,bl))++(f.args.take m).flatMap (Fm.tms (upF f.kind bl))))]),(1,.var [.i at_]),(2,.var f.view)]⟩))
    (by omega) (fun m=>rfl) (fun m=>rfl) rfl trivial ?_ ?_ ?_
   ·exact (M.W [some 0,some 1,some 2] (hf:=(by(repeat'(first|exact trivial|refine And.intro ?_ ?_|refine⟨_,U,_,U,?_⟩|exact VLe.refl _|exact VLe.of_eq (by simp[Sto.upd,upF,h,cntF])));done)) (he:=(by(repeat'(first|exact trivial|refine And.intro ?_ ?_|refine⟨_,U,_,U,_,U,?_⟩|exact VLe.refl _|exact VLe.of_eq (by simp[Sto.upd,upF,h,cntF])));done)))
   ·intro m hm _
    have hs2:=lsum_mem Fm.full (List.getElem_mem hm)
    have hle1:=cntF_le at_ (f.terms.map (fun t=>(t,bl))++(f.args.take m).flatMap (Fm.tms (upF f.kind bl)))
    have hle2:((f.terms.map (fun t=>(t,bl))++(f.args.take m).flatMap (Fm.tms (upF f.kind bl))).map fun p:Tm×Int=>p.1.size).sum+(f.args[m]).size≤f.size:=tms_le2 f bl m hm
    have hc:=ih f.args[m] (c+cntF at_ (f.terms.map (fun t=>(t,bl))++(f.args.take m).flatMap (Fm.tms (upF f.kind bl)))) (upF f.kind bl) (by omega) (by omega) hup0 (by omega) (by omega) (by omega) (fun p hp=>hix p (by rw[htm];exact List.mem_append_right _ (List.mem_flatMap.2 ⟨_,List.getElem_mem hm,hp⟩)))
    repeat'(first|refine M.gw ?_|refine M.cv (hc) [0,1] 0 ?_|fail)
    refine⟨rfl,trivial,?_⟩
    exact(M.W [some 0,some 1,some 2] (he:=(by(repeat'(first|exact trivial|refine And.intro ?_ ?_|refine⟨_,U,_,U,_,U,?_⟩|exact VLe.refl _|exact VLe.of_eq (by simp[Sto.upd,cntF_append,Int.natCast_add,Int.add_assoc,flat_take _ _ _ hm])));done)))
   ·intro _
    skip
    (exact M.n2 [some 0,some 1] (h6:=(by(repeat'(first|exact trivial|refine And.intro ?_ ?_|refine⟨_,U,_,U,_,U,?_⟩|exact VLe.refl _|exact VLe.of_eq (by simp[Sto.upd,htm])));done)) (h8:=(by simp[tupV,V.wk,V.wks,constV,Ty.view,Tm.view,htm])))
theorem nearFm_c(f:Fm)(hf:f.full<274877906944):PC E 91 [.agg f.view] (.bool f.near):=by
 have hc:=nearFEachF _ f true 0 (Nat.le_refl _) (by omega) (by omega) (by omega)
 refine M.F Tryz.func91 ?_
 repeat'(first|refine M.gw ?_|refine M.cv (hc) [1] 0 ?_|fail)
 simp[tupV,V.wk,V.wks,allP,Fm.near]
theorem countFm_c(f:Fm)(at_:Int)(ha:0≤at_∧at_<549755813888)(hf:f.full<274877906944)(hix:∀p∈f.tms 0,∀q∈p.1.vars 0,0≤q.1∧q.1<1099511627776):PC E 95 [.agg f.view,.i at_] (.i (cntF at_ (f.tms 0))):=by
 have hle:=f.size_le_full
 have hc:=countFEachF at_ (f.size) ha (by omega) _ f 0 0 (Nat.le_refl _) (by omega) (by omega) (by omega) (by omega) (by omega) hix
 refine M.F Tryz.func95 ?_
 repeat'(first|refine M.gw ?_|refine M.cv (hc) [2,1] 0 ?_|fail)
 simp[tupV,V.wk,V.wks]
theorem putFmCb(at_:Int)(s:Tm)(hat:0≤at_∧at_<274877906944)(hs:s.full<274877906944)(hsi:∀p∈s.vars 0,0≤p.1∧p.1<549755813888)(t:Tm)(bl:Int)(ht:t.full<274877906944)(hb:0≤bl∧bl<274877906944)(hix:∀p∈t.vars 0,0≤p.1∧p.1<549755813888):
 AC E 141 [.agg t.view,.i bl,.ptr 0 0,.ptr 1 0] ⟨2,[(0,.var [.i at_]),(1,.var s.view)]⟩ (.agg (t.re (putG (at_+bl) s) 0).view) ⟨2,[(0,.var [.i at_]),(1,.var s.view)]⟩:=by
 have hc:=put_c t (at_+bl) s (by omega) hs hsi ht hix
 refine M.F Tryz.func141 ?_
 repeat'(first|refine M.gw ?_|refine M.c2 (hc) ?_|fail)
 (exact M.n2 [some 0,some 1] (h8:=(by simp[tupV,V.wk,V.wks,constV,Ty.view,Tm.view,hc])))
theorem putFmRe(at_:Int)(s:Tm)(hat:0≤at_∧at_<274877906944)(hs:s.full<274877906944)(hsi:∀p∈s.vars 0,0≤p.1∧p.1<549755813888):∀(n:Nat) (f:Fm) (bl:Int),f.full≤n→n<274877906944→0≤bl→bl+n<274877906944→(∀p∈f.tms bl,∀q∈p.1.vars 0,0≤q.1∧q.1<549755813888)→
 AC E 120 [.agg f.view,.i bl,.fn (.func 141) [] [.ptr 0 0,.ptr 1 0]] ⟨2,[(0,.var [.i at_]),(1,.var s.view)]⟩ (.agg (f.re (fun b t=>t.re (putG (at_+b) s) 0) bl).view) ⟨2,[(0,.var [.i at_]),(1,.var s.view)]⟩:=by
 intro n
 induction n with
 |zero=>intro f bl h;intros;have:=f.full_pos;omega
 |succ n ih=>
 intro f bl hsz hb hbl hbn hix
 have hsz':=f.full_eq
 have hlen:=lsum_len Fm.full Fm.full_pos f.args
 have hlen2:=lsum_len Tm.full Tm.full_pos f.terms
 have hty:=ownTy_c _ f.ty (Nat.le_refl _) (by omega)
 have hq:=quantifier_c f.kind
 have hre:=Fm.re_eq (fun b t=>t.re (putG (at_+b) s) 0) bl f
 have htm:=f.tms_eq bl
 refine M.F Tryz.func120 ?_
 repeat'(first|refine M.gw ?_|refine M.c2 (hty) ?_|fail)
 refine AW.range f.terms.length (fun m=>True)
  (fun m=>([(1,.i bl),(2,.fn (.func 141) [] [.ptr 0 0,.ptr 1 0]),(3,.ptr 2 0),(6,.ptr 3 0),(7,.ptr 4 0),(19,.s .tm f.terms),(20,.i f.terms.length),(21,.i m)],⟨6,[(0,.var [.i at_]),(1,.var s.view),(2,.var f.view),(3,.var [.i 0,.i 0,.slice .nil (.t .ty []),.slice .nil (.t .tm []),.slice .nil (.t .fm [])]),(4,.var [.i f.kind,.i f.ty.kind,.s .ty f.ty.args,.slice (.own 5) (.t .tm ((f.terms.take m).map ((fun b t=>t.re (putG (at_+b) s) 0) bl))),.slice .nil (.t .fm [])]),(5,.row)]⟩))
  (by omega) (fun m=>rfl) (fun m=>rfl) rfl trivial (M.W [some 0,some 1,some 2,some 3,some 4,none]) ?_ ?_
 ·intro m hm _
  have hs2:=lsum_mem Tm.full (List.getElem_mem hm)
  have hc:=putFmCb at_ s hat hs hsi f.terms[m] bl (by omega) (by omega) (fun p hp=>hix _ (by rw[htm];exact List.mem_append_left _ (List.mem_map.2 ⟨_,List.getElem_mem hm,rfl⟩)) p hp)
  repeat'(first|refine M.gw ?_|refine M.cv (hc) [0,1] 0 ?_|fail)
  exact⟨rfl,trivial,(M.W [some 0,some 1,some 2,some 3,some 4,some 7] (he:=(by(repeat'(first|exact trivial|exact Or.inr ⟨_,U,rfl⟩|refine And.intro ?_ ?_|refine⟨_,U,_,U,_,U,?_⟩|exact VLe.refl _|exact VLe.of_eq (by simp[Sto.upd,map_take _ _ _ hm])));done)))⟩
 ·intro _
  simp only[List.take_length]
  cases hqk:quantK f.kind with
  |true=>
   rw[hqk] at hq
   have hu:upF f.kind bl=bl+1:=by simp[upF,hqk]
   rw[hu] at hre htm
   repeat'(first|refine M.gw ?_|refine M.c2 (hq) ?_|fail)
   refine AW.range f.args.length (fun m=>True)
    (fun m=>([(1,.i (bl+1)),(2,.fn (.func 141) [] [.ptr 0 0,.ptr 1 0]),(3,.ptr 2 0),(6,.ptr 3 0),(7,.ptr 4 0),(41,.s .fm f.args),(42,.i f.args.length),(43,.i m)],⟨7,[(0,.var [.i at_]),(1,.var s.view),(2,.var f.view),(3,.var [.i 0,.i 0,.slice .nil (.t .ty []),.slice .nil (.t .tm []),.slice .nil (.t .fm [])]),(4,.var [.i f.kind,.i f.ty.kind,.s .ty f.ty.args,.slice (.own 5) (.t .tm (f.terms.map ((fun b t=>t.re (putG (at_+b) s) 0) bl))),.slice (.own 6) (.t .fm ((f.args.take m).map (Fm.re (fun b t=>t.re (putG (at_+b) s) 0) (bl+1))))]),(5,.row),(6,.row)]⟩))
    (by omega) (fun m=>rfl) (fun m=>rfl) rfl trivial (M.W [some 0,some 1,some 2,some 3,some 4,some 5,none]) ?_ ?_
   ·intro m hm _
    have hs2:=lsum_mem Fm.full (List.getElem_mem hm)
    have hc:=ih f.args[m] (bl+1) (by omega) (by omega) (by omega) (by omega) (fun p hp=>hix p (by rw[htm];exact List.mem_append_right _ (List.mem_flatMap.2 ⟨_,List.getElem_mem hm,hp⟩)))
    repeat'(first|refine M.gw ?_|refine M.cv (hc) [0,1] 0 ?_|fail)
    exact⟨rfl,trivial,(M.W [some 0,some 1,some 2,some 3,some 4,some 5,some 8] (he:=(by(repeat'(first|exact trivial|exact Or.inr ⟨_,U,rfl⟩|refine And.intro ?_ ?_|refine⟨_,U,_,U,_,U,?_⟩|exact VLe.refl _|exact VLe.of_eq (by simp[Sto.upd,map_take _ _ _ hm])));done)))⟩
   ·intro _
    simp only[List.take_length]
    repeat'(first|refine M.gw ?_|fail)
    (exact M.n2 [some 0,some 1] (h8:=(by simp[tupV,V.wk,V.wks,constV,Ty.view,Tm.view,hre])))
  |false=>
   rw[hqk] at hq
   have hu:upF f.kind bl=bl:=by simp[upF,hqk]
   rw[hu] at hre htm
   repeat'(first|refine M.gw ?_|refine M.c2 (hq) ?_|fail)
   refine AW.range f.args.length (fun m=>True)
    (fun m=>([(1,.i bl),(2,.fn (.func 141) [] [.ptr 0 0,.ptr 1 0]),(3,.ptr 2 0),(6,.ptr 3 0),(7,.ptr 4 0),(41,.s .fm f.args),(42,.i f.args.length),(43,.i m)],⟨7,[(0,.var [.i at_]),(1,.var s.view),(2,.var f.view),(3,.var [.i 0,.i 0,.slice .nil (.t .ty []),.slice .nil (.t .tm []),.slice .nil (.t .fm [])]),(4,.var [.i f.kind,.i f.ty.kind,.s .ty f.ty.args,.slice (.own 5) (.t .tm (f.terms.map ((fun b t=>t.re (putG (at_+b) s) 0) bl))),.slice (.own 6) (.t .fm ((f.args.take m).map (Fm.re (fun b t=>t.re (putG (at_+b) s) 0) bl)))]),(5,.row),(6,.row)]⟩))
    (by omega) (fun m=>rfl) (fun m=>rfl) rfl trivial (M.W [some 0,some 1,some 2,some 3,some 4,some 5,none]) ?_ ?_
   ·intro m hm _
    have hs2:=lsum_mem Fm.full (List.getElem_mem hm)
    have hc:=ih f.args[m] bl (by omega) (by omega) (by omega) (by omega) (fun p hp=>hix p (by rw[htm];exact List.mem_append_right _ (List.mem_flatMap.2 ⟨_,List.getElem_mem hm,hp⟩)))
    repeat'(first|refine M.gw ?_|refine M.cv (hc) [0,1] 0 ?_|fail)
    exact⟨rfl,trivial,(M.W [some 0,some 1,some 2,some 3,some 4,some 5,some 8] (he:=(by(repeat'(first|exact trivial|exact Or.inr ⟨_,U,rfl⟩|refine And.intro ?_ ?_|refine⟨_,U,_,U,_,U,?_⟩|exact VLe.refl _|exact VLe.of_eq (by simp[Sto.upd,map_take _ _ _ hm])));done)))⟩
   ·intro _
    simp only[List.take_length]
    repeat'(first|refine M.gw ?_|fail)
    (exact M.n2 [some 0,some 1] (h8:=(by simp[tupV,V.wk,V.wks,constV,Ty.view,Tm.view,hre])))
theorem putFm_c(f:Fm)(at_:Int)(s:Tm)(hat:0≤at_∧at_<274877906944)(hs:s.full<274877906944)(hsi:∀p∈s.vars 0,0≤p.1∧p.1<549755813888)(hf:f.full<137438953472)(hix:∀p∈f.tms 0,∀q∈p.1.vars 0,0≤q.1∧q.1<549755813888):PC E 96 [.agg f.view,.i at_,.agg s.view] (.agg (f.put at_ s).view):=by
 have hc:=putFmRe at_ s hat hs hsi _ f 0 (Nat.le_refl _) (by omega) (by omega) (by omega) hix
 refine M.F Tryz.func96 ?_
 repeat'(first|refine M.gw ?_|refine M.cv (hc) [1,2] 0 ?_|fail)
 rfl
theorem fsize_c(f:Fm)(hf:f.full<1099511627776):PC E 15 [.agg f.view] (.tup [.i f.num,.i f.err]):=by
 have h1:=checkFm_c f hf
 refine M.F Tryz.func15 ?_
 repeat'(first|refine M.gw ?_|refine M.c2 (h1) ?_|fail)
 rfl
theorem fwithin_c(n:Int):PC E 90 [.i n] (.bool (decide (0≤n∧n≤4096))):=by
 refine M.F Tryz.func90 ?_
 repeat'(first|refine M.gw ?_|refine M.gs ?_ ?_<;>intro h|fail)
 all_goals(simp_all[tupV,V.wk,V.wks,constV];try omega)
theorem fput_c(f:Fm)(at_:Int)(s:Tm)(hf:f.full<137438953472)(hs:s.full<274877906944):PC E 35 [.agg f.view,.i at_,.agg s.view] (.tup [.agg (if putFErr f at_ s=0 then f.put at_ s else noFm).view,.i (putFErr f at_ s)]):=by
 have h1:=fsize_c f (by omega)
 have h2:=size_c s (by omega)
 have h3:=fwithin_c at_
 have h4:=nearFm_c f (by omega)
 have h5:=near_c s (by omega)
 have h6:f.err=0→f.near=true→0≤at_∧at_≤4096→_:=fun h hn ha=>countFm_c f at_ (by omega) (by omega) fun p hp q hq=>by have:=nearF_lt h hn p hp q hq;omega
 have h7:f.err=0→f.near=true→s.err=0→s.near=true→0≤at_∧at_≤4096→_:=fun h hn h' hn' ha=>putFm_c f at_ s (by omega) hs (near_lt h' hn') hf (nearF_lt h hn)
 have hn1:=fnum_le f
 have hn2:=num_le s
 have hle:=f.size_le_full
 have hcl:=cntF_le at_ (f.tms 0)
 have hvl:=tms_size f 0
 have hm:=mul_bd (cntF at_ (f.tms 0)) (s.num-1) (by omega) (by omega)
 have hm': -9223372036854775808≤(cntF at_ (f.tms 0):Int)*(s.num-1)∧(cntF at_ (f.tms 0):Int)*(s.num-1)≤9223372036854775807:=by omega
 refine M.F Tryz.func35 ?_
 repeat'(first|refine M.gw ?_|refine M.c2 (h1) ?_|refine M.c2 (h2) ?_|refine M.c2 (h3) ?_|refine M.c2 (h4) ?_|refine M.c2 (h5) ?_|refine M.c2 (h6 (by simp_all) (by simp_all) (by simp_all)) ?_|refine M.c2 (h7 (by simp_all) (by simp_all) (by simp_all) (by simp_all) (by simp_all)) ?_|refine M.gs ?_ ?_<;>intro h|refine M.cs ?_ ?_<;>intro h|fail)
 all_goals first
  |(simp_all[tupV,V.wk,V.wks,constV,Ty.view,Fm.view,putFErr,noFm,Fm.num,Tm.num];done)
  |skip
 rename_i h0
 have h':¬(0≤at_∧at_≤4096):=by intro hc;simp[hc] at h
 have h0':f.err=0:=by simpa using h0
 have e:putFErr f at_ s=1:=by simp only[putFErr,h0',ne_eq,not_true_eq_false,if_false,h',not_false_eq_true,if_true]
 simp[tupV,V.wk,V.wks,constV,Ty.view,Fm.view,e,noFm]
theorem sameForm_c:∀(n:Nat) (x y:Fm),x.full≤n→n<1099511627776→PC E 78 [.agg x.view,.agg y.view] (.bool (decide (x=y))):=by
 intro n
 induction n with
 |zero=>intro x y h;have:=x.full_pos;omega
 |succ n ih=>
 intro x y hsz hb
 have hsz':=x.full_eq
 have hlen:=lsum_len Fm.full Fm.full_pos x.args
 have hlen2:=lsum_len Tm.full Tm.full_pos x.terms
 have heq:=Fm.eq_iff x y
 have hty:=sameTy2_c _ x.ty y.ty (Nat.le_refl _) (by omega)
 refine M.F Tryz.func78 ?_
 repeat'(first|refine M.gw ?_|refine M.c2 (hty) ?_|refine M.gs ?_ ?_<;>intro h|refine M.cs ?_ ?_<;>intro h|fail)
 ·have:¬x=y:=by rw[heq];simp_all
  simp[this,tupV,constV,V.wk,V.wks]
 ·have:¬x=y:=by rw[heq];simp_all
  simp[this,tupV,constV,V.wk,V.wks]
 ·have:¬x=y:=by rintro rfl;simp at h
  simp[this,tupV,constV,V.wk,V.wks]
 ·have:¬x=y:=by rintro rfl;simp at h
  simp[this,tupV,constV,V.wk,V.wks]
 ·rename_i h1 h2 h3
  simp at h h1 h2 h3
  have hl:x.args.length=y.args.length:=by omega
  have hl2:x.terms.length=y.terms.length:=by omega
  refine AW.range x.terms.length (fun m=>∀j (hj:j<x.terms.length),j<m→x.terms[j]=y.terms[j]'(by omega))
   (fun m=>([(2,.ptr 0 0),(3,.ptr 1 0),(41,.s .tm x.terms),(42,.i x.terms.length),(43,.i m)],⟨2,[(0,.var x.view),(1,.var y.view)]⟩))
   (by omega) (fun m=>rfl) (fun m=>rfl) rfl (by intro j hj h;omega) (M.W [some 0,some 1]) ?_ ?_
  ·intro m hm hP
   have hm':m<y.terms.length:=by omega
   have hs2:=lsum_mem Tm.full (List.getElem_mem hm)
   have hc:=sameTm2_c _ x.terms[m] y.terms[m] (Nat.le_refl _) (by omega)
   repeat'(first|refine M.gw ?_|refine M.c2 (hc) ?_|refine M.cs ?_ ?_<;>intro h|fail)
   ·have:¬x=y:=by rw[heq];exact fun hc=>list_ne hm hm' (by simpa using h) hc.2.2.1
    simp[this,tupV,constV,V.wk,V.wks]
   ·exact ⟨rfl,step2 hl2 hm hP (by simpa using h),(M.W [some 0,some 1])⟩
  ·intro hP2
   have hterms:=list_eq hl2 hP2
   repeat'(first|refine M.gw ?_|fail)
   refine AW.range x.args.length (fun m=>∀j (hj:j<x.args.length),j<m→x.args[j]=y.args[j]'(by omega))
    (fun m=>([(2,.ptr 0 0),(3,.ptr 1 0),(58,.s .fm x.args),(59,.i x.args.length),(60,.i m)],⟨2,[(0,.var x.view),(1,.var y.view)]⟩))
    (by omega) (fun m=>rfl) (fun m=>rfl) rfl (by intro j hj h;omega) (M.W [some 0,some 1]) ?_ ?_
   ·intro m hm hP
    have hm':m<y.args.length:=by omega
    have hs2:=lsum_mem Fm.full (List.getElem_mem hm)
    repeat'(first|refine M.gw ?_|refine M.c2 (ih _ _ ?_ ?_) ?_|refine M.cs ?_ ?_<;>intro h|exact M.le|exact M.lt|fail)
    ·have:¬x=y:=by rw[heq];exact fun hc=>list_ne hm hm' (by simpa using h) hc.2.2.2
     simp[this,tupV,constV,V.wk,V.wks]
    ·exact ⟨rfl,step2 hl hm hP (by simpa using h),(M.W [some 0,some 1])⟩
   ·intro hP
    have:x=y:=heq.2 ⟨h1,h2,hterms,list_eq hl hP⟩
    repeat'(first|refine M.gw ?_|fail)
    simp[this,tupV,constV,V.wk,V.wks]
theorem fsame_c(x y:Fm)(h:x.full<1099511627776):PC E 25 [.agg x.view,.agg y.view] (.bool (decide (x=y))):=by
 have h1:=sameForm_c _ x y (Nat.le_refl _) h
 refine M.F Tryz.func25 ?_
 repeat'(first|refine M.gw ?_|refine M.c2 (h1) ?_|fail)
 simp[tupV,V.wk,V.wks,constV,Ty.view,Tm.view]
theorem rbelow_c(t:Tm):PC E 154 [.agg t.view] (.i (up t.kind 0)):=by
 refine M.F Tryz.func154 ?_
 repeat'(first|refine M.gw ?_|refine M.cs ?_ ?_<;>intro h|fail)
 ·have e:up t.kind 0=1:=by simp only[beq_iff_eq] at h;rw[h];rfl
  rw[e];rfl
 ·have e:up t.kind 0=0:=by simp only[beq_eq_false_iff_ne,ne_eq] at h;exact if_neg h
  rw[e];rfl
theorem up_bd(k b:Int):b≤up k b∧up k b≤b+1:=by simp only[up];split<;>omega
theorem up_plus(k b:Int):b+up k 0=up k b:=by simp only[up];split<;>omega
theorem rleast_c(most:Int)(h0:0≤most):∀(n:Nat) (t:Tm),t.full≤n→n<549755813888→t.shape=true→PC E 101 [.agg t.view,.i most] (.bool (leastT most t)):=by
 intro n
 induction n with
 |zero=>intro t h;have:=t.full_pos;omega
 |succ n ih=>
 intro t hsz hn hs
 have hsz':=Tm.full_eq t
 have hlen:=lsum_len Tm.full Tm.full_pos t.args
 have he:=leastT_eq h0 hs
 refine M.F Tryz.func101 ?_
 repeat'(first|refine M.gw ?_|refine M.cs ?_ ?_<;>intro h|fail)
 ·have h1:¬t.index≤most:=by simp at h;omega
  rw[he,decide_eq_false h1];rfl
 have h1:t.index≤most:=by simp at h;omega
 rw[decide_eq_true h1,Bool.true_and] at he
 refine AW.range t.args.length (fun m=>∀j (hj:j<t.args.length),j<m→leastT most t.args[j]=true)
  (fun m=>([(1,.i most),(2,.ptr 0 0),(12,.s .tm t.args),(13,.i t.args.length),(14,.i m)],⟨1,[(0,.var t.view)]⟩))
  (by omega) (fun m=>rfl) (fun m=>rfl) rfl (fun j hj h=>by omega) (M.W [some 0]) ?_ ?_
 ·intro m hm hP
  have hs2:=lsum_mem Tm.full (List.getElem_mem hm)
  have hc:=ih t.args[m] (by omega) (by omega) (shape_args hs _ (List.getElem_mem hm))
  repeat'(first|refine M.gw ?_|refine M.c2 (hc) ?_|refine M.cs ?_ ?_<;>intro h|fail)
  ·have hx:leastT most t.args[m]=false:=by simpa using h
   rw[he,all_not (leastT most) hm hx];rfl
  ·have hx:leastT most t.args[m]=true:=by simpa using h
   exact⟨rfl,all_step (p:=fun t=>leastT most t=true) hm hP hx,(M.W [some 0])⟩
 ·intro hP
  rw[he,all_of (leastT most) t.args fun j hj=>hP j hj hj]
  repeat'(first|refine M.gw ?_|fail)
  rfl
theorem rhas_c:∀(n:Nat) (t:Tm) (at_:Int),t.full≤n→n<274877906944→-274877906944≤at_→at_+n<549755813888→t.shape=true→PC E 143 [.agg t.view,.i at_] (.bool (decide (timesT at_ t≠0))):=by
 intro n
 induction n with
 |zero=>intro t at_ h;have:=t.full_pos;omega
 |succ n ih=>
 intro t at_ hsz hn h1 h2 hs
 have hsz':=Tm.full_eq t
 have hlen:=lsum_len Tm.full Tm.full_pos t.args
 have he:=timesT_eq at_ t
 have hup:=up_bd t.kind at_
 have hpl:=up_plus t.kind at_
 have hb:=rbelow_c t
 by_cases hv:t.kind=1∧t.index=at_
 ·rw [if_pos hv] at he
  rw[he]
  refine M.F Tryz.func143 ?_
  repeat'(first|refine M.go ?_|refine M.gs ?_ ?_<;>intro h|refine M.z1 4 ?_|refine M.cs ?_ ?_<;>intro h|refine M.gk ?_|fail)
  all_goals first
   |rfl
   |(exfalso;simp[hv.1,hv.2] at*;done)
   |(exfalso;simp_all;done)
 rw[if_neg hv] at he
 refine M.F Tryz.func143 ?_
 repeat'(first|refine M.gw ?_|refine M.gs ?_ ?_<;>intro h|refine M.cs ?_ ?_<;>intro h|fail)
 all_goals first
  |(exfalso;simp_all;done)
  |skip
 all_goals
  refine AW.range t.args.length (fun m=>∀j (hj:j<t.args.length),j<m→timesT (up t.kind at_) t.args[j]=0)
   (fun m=>([(1,.i at_),(2,.ptr 0 0),(17,.s .tm t.args),(18,.i t.args.length),(19,.i m)],⟨1,[(0,.var t.view)]⟩))
   (by omega) (fun m=>rfl) (fun m=>rfl) rfl (fun j hj h=>by omega) (M.W [some 0]) ?_ ?_
  ·intro m hm hP
   have hs2:=lsum_mem Tm.full (List.getElem_mem hm)
   have hc:=ih t.args[m] (up t.kind at_) (by omega) (by omega) (by omega) (by omega) (shape_args hs _ (List.getElem_mem hm))
   rw[←hpl] at hc
   rw[←hpl] at hP he
   repeat'(first|refine M.gw ?_|refine M.c2 (hb) ?_|refine M.c2 (hc) ?_|refine M.cs ?_ ?_<;>intro h|fail)
   ·have hx:timesT (at_+up t.kind 0) t.args[m]≠0:=by simpa using h
    rw[he,decide_eq_true (sum_pos hm hx)];rfl
   ·have hx:timesT (at_+up t.kind 0) t.args[m]=0:=by simpa using h
    exact⟨rfl,by rw[←hpl];exact all_step (p:=fun t'=>timesT (at_+up t.kind 0) t'=0) hm hP hx,(M.W [some 0])⟩
  ·intro hP
   rw[he,sum_zero fun j hj=>hP j hj hj]
   repeat'(first|refine M.gw ?_|fail)
   rfl
theorem rtimes_c:∀(n:Nat) (t:Tm) (at_:Int),t.full≤n→n<274877906944→-274877906944≤at_→at_+n<549755813888→t.shape=true→PC E 146 [.agg t.view,.i at_] (.i (timesT at_ t)):=by
 intro n
 induction n with
 |zero=>intro t at_ h;have:=t.full_pos;omega
 |succ n ih=>
 intro t at_ hsz hn h1 h2 hs
 have hsz':=Tm.full_eq t
 have hlen:=lsum_len Tm.full Tm.full_pos t.args
 have he:=timesT_eq at_ t
 have hup:=up_bd t.kind at_
 have hpl:=up_plus t.kind at_
 have hb:=rbelow_c t
 by_cases hv:t.kind=1∧t.index=at_
 ·rw [if_pos hv] at he
  rw[he]
  have ha:=var_args hs hv.1
  obtain⟨k,i,th,xs⟩:=t
  simp only[Tm.args_mk] at ha
  subst ha
  obtain⟨hv1,hv2⟩:=hv
  simp only[Tm.kind_mk,Tm.index_mk] at hv1 hv2
  subst hv1;subst hv2
  refine M.F Tryz.func146 ?_
  repeat'(first|refine M.gw ?_|refine M.cs ?_ ?_<;>intro h|fail)
  all_goals first
   |(exfalso;simp at h;done)
   |skip
  all_goals
   refine AW.range 0 (fun m=>True) (fun m=>([(1,.i i),(2,.ptr 0 0),(5,.i 1),(20,.s .tm []),(21,.i 0),(22,.i m)],⟨1,[(0,.var (Tm.mk 1 i th []).view)]⟩))
    (by omega) (fun m=>rfl) (fun m=>rfl) rfl trivial (M.W [some 0]) ?_ ?_
   ·intro m hm;omega
   ·intro _
    repeat'(first|refine M.gw ?_|fail)
    rfl
 rw[if_neg hv] at he
 refine M.F Tryz.func146 ?_
 repeat'(first|refine M.gw ?_|refine M.gs ?_ ?_<;>intro h|refine M.cs ?_ ?_<;>intro h|fail)
 all_goals first
  |(exfalso;simp_all;done)
  |skip
 all_goals
  refine AW.range t.args.length (fun m=>True)
   (fun m=>([(1,.i at_),(2,.ptr 0 0),(5,.i (((t.args.take m).map (timesT (up t.kind at_))).sum:Nat)),(20,.s .tm t.args),(21,.i t.args.length),(22,.i m)],⟨1,[(0,.var t.view)]⟩))
   (by omega) (fun m=>rfl) (fun m=>rfl) rfl trivial (M.W [some 0]) ?_ ?_
  ·intro m hm _
   have hs1:=lsum_take (timesT (up t.kind at_)) t.args m hm
   have hs2:=lsum_mem Tm.full (List.getElem_mem hm)
   have hs3:((t.args.take m).map (timesT (up t.kind at_))).sum≤(t.args.map Tm.full).sum:=by
    have a1:=lsum_take_le Tm.full t.args m
    have a2:=lsum_le (f:=timesT (up t.kind at_)) (g:=Tm.full) (t.args.take m) fun x _=>Nat.le_trans (timesT_le x _) x.size_le_full
    omega
   have hs4:=timesT_le t.args[m] (up t.kind at_)
   have hs5:=t.args[m].size_le_full
   have hc:=ih t.args[m] (up t.kind at_) (by omega) (by omega) (by omega) (by omega) (shape_args hs _ (List.getElem_mem hm))
   rw[←hpl] at hc hs1 hs3 hs4
   simp only[←hpl]
   repeat'(first|refine M.gw ?_|refine M.c2 (hb) ?_|refine M.c2 (hc) ?_|fail)
   refine⟨rfl,trivial,?_⟩
   simp only[hs1]
   exact(M.W [some 0])
  ·intro _
   repeat'(first|refine M.gw ?_|fail)
   rw[he]
   simp[tupV,V.wk,V.wks,constV]
theorem rup_w(by_:Int)(hby: -549755813888≤by_∧by_≤549755813888):∀(n:Nat) (t:Tm) (fr:Int),t.full≤n→n<274877906944→-274877906944≤fr→fr+n<549755813888→t.shape=true→(∀p∈t.vars 0,0≤p.1∧p.1<9223372036854775808∧p.1+by_<9223372036854775808)→
 PC E 138 [.agg t.view,.i fr,.i by_] (.agg (t.re (liftG fr by_) 0).view):=by
 intro n
 induction n with
 |zero=>intro t fr h;have:=t.full_pos;omega
 |succ n ih=>
 intro t fr hsz hn h1 h2 hs hix
 have hsz':=Tm.full_eq t
 have hlen:=lsum_len Tm.full Tm.full_pos t.args
 have hup:=up_bd t.kind fr
 have hpl:=up_plus t.kind fr
 have hb:=rbelow_c t
 by_cases hv:t.kind=1
 ·have ht:=var_vT hs hv
  have hi:=hix (t.index,0) (by rw[vars_var hs hv];simp)
  rw[ht]
  generalize t.index=i at hi
  simp only at hi
  rw[re_vT,liftG_eq]
  have hvi:(vT i).index=i:=rfl
  refine M.F Tryz.func138 ?_
  repeat'(first|refine M.gw ?_|refine M.cs ?_ ?_<;>intro h|fail)
  all_goals first
   |(exfalso;simp at h;done)
   |skip
  ·have h3:i-0≥fr:=by simp at h;omega
   rw[if_pos h3]
   refine AW.range 0 (fun m=>True) (fun m=>([(1,.i fr),(2,.i by_),(3,.ptr 0 0),(6,.ptr 1 0),(7,.ptr 2 0),(32,.s .tm []),(33,.i 0),(34,.i m)],⟨3,[(0,.var (vT i).view),(1,.var [.i 0,.i 0,.i 0,.slice .nil (.t .ty []),.slice .nil (.t .tm [])]),(2,.var [.i 1,.i (i+by_),.i 0,.s .ty [],.slice .nil (.t .tm [])])]⟩))
    (by omega) (fun m=>rfl) (fun m=>rfl) rfl trivial (M.W [some 0,some 1,some 2]) ?_ ?_
   ·intro m hm;omega
   ·intro _
    repeat'(first|refine M.gw ?_|fail)
    rfl
  ·have h3:¬i-0≥fr:=by simp at h;omega
   rw[if_neg h3]
   refine AW.range 0 (fun m=>True) (fun m=>([(1,.i fr),(2,.i by_),(3,.ptr 0 0),(6,.ptr 1 0),(7,.ptr 2 0),(32,.s .tm []),(33,.i 0),(34,.i m)],⟨3,[(0,.var (vT i).view),(1,.var [.i 0,.i 0,.i 0,.slice .nil (.t .ty []),.slice .nil (.t .tm [])]),(2,.var [.i 1,.i i,.i 0,.s .ty [],.slice .nil (.t .tm [])])]⟩))
    (by omega) (fun m=>rfl) (fun m=>rfl) rfl trivial (M.W [some 0,some 1,some 2]) ?_ ?_
   ·intro m hm;omega
   ·intro _
    repeat'(first|refine M.gw ?_|fail)
    rfl
 have he:=lift_node (fr:=fr) (by_:=by_) hv
 refine M.F Tryz.func138 ?_
 repeat'(first|refine M.gw ?_|refine M.gs ?_ ?_<;>intro h|refine M.cs ?_ ?_<;>intro h|fail)
 all_goals first
  |(exfalso;simp_all;done)
  |skip
 all_goals
  refine AW.range t.args.length (fun m=>True) (fun m=>([(1,.i fr),(2,.i by_),(3,.ptr 0 0),(6,.ptr 1 0),(7,.ptr 2 0),(32,.s .tm t.args),(33,.i t.args.length),(34,.i m)],⟨4,[(0,.var t.view),(1,.var [.i 0,.i 0,.i 0,.slice .nil (.t .ty []),.slice .nil (.t .tm [])]),(2,.var [.i t.kind,.i t.index,.i t.ty.kind,.s .ty t.ty.args,.slice (.own 3) (.t .tm ((t.args.take m).map fun x=>x.re (liftG (up t.kind fr) by_) 0))]),(3,.row)]⟩))
   (by omega) (fun m=>rfl) (fun m=>rfl) rfl trivial (M.W [some 0,some 1,some 2,none]) ?_ ?_
  ·intro m hm _
   have hs2:=lsum_mem Tm.full (List.getElem_mem hm)
   have hc:=ih t.args[m] (up t.kind fr) (by omega) (by omega) (by omega) (by omega) (shape_args hs _ (List.getElem_mem hm)) (fun p hp=>by
    obtain⟨q,hq,hqe⟩:=vars_idx (b':=up t.kind 0) p hp
    have:=hix q (mem_vars hv (List.getElem_mem hm) hq)
    rw[←hqe];exact this)
   rw[←hpl] at hc
   simp only[←hpl]
   repeat'(first|refine M.gw ?_|refine M.c2 (hb) ?_|refine M.c2 (hc) ?_|fail)
   exact⟨rfl,trivial,(M.W [some 0,some 1,some 2,some 5] (he:=(by(repeat'(first|exact trivial|exact Or.inr ⟨_,U,rfl⟩|refine And.intro ?_ ?_|refine⟨_,U,_,U,_,U,?_⟩|exact VLe.refl _|exact VLe.of_eq (by simp[Sto.upd,map_take _ _ _ hm])));done)))⟩
  ·intro _
   simp only[List.take_length]
   repeat'(first|refine M.gw ?_|fail)
   rw[he]
   simp[tupV,V.wk,V.wks,constV,Ty.view,Tm.view]
theorem rup_c(by_:Int)(hby: -549755813888≤by_∧by_≤549755813888):∀(n:Nat) (t:Tm) (fr:Int),t.full≤n→n<274877906944→-274877906944≤fr→fr+n<549755813888→t.shape=true→(∀p∈t.vars 0,0≤p.1∧p.1<549755813888)→
 PC E 138 [.agg t.view,.i fr,.i by_] (.agg (t.re (liftG fr by_) 0).view):=
 fun n t fr h1 h2 h3 h4 h5 h6=>rup_w by_ hby n t fr h1 h2 h3 h4 h5 fun p hp=>by have:=h6 p hp;omega
theorem rquant_c(k:Int):PC E 125 [.i k] (.bool (quantK k)):=by
 have e:quantK k=decide (k=4∨k=5∨k=6∨k=7):=by rw[Bool.eq_iff_iff,quantK_iff,decide_eq_true_iff];omega
 rw[e]
 refine M.F Tryz.func125 ?_
 repeat'(first|refine M.gw ?_|refine M.gs ?_ ?_<;>intro h|fail)
 all_goals(simp_all[tupV,V.wk,V.wks,constV];try(first|omega|(rw[Bool.eq_iff_iff];simp)))
theorem rfbelow_c(f:Fm):PC E 119 [.agg f.view] (.i (upF f.kind 0)):=by
 have h1:=rquant_c f.kind
 cases hq:quantK f.kind with
 |true=>
  have e:upF f.kind 0=1:=by simp[upF,hq]
  rw[hq] at h1
  rw[e]
  refine M.F Tryz.func119 ?_
  repeat'(first|refine M.gw ?_|refine M.c2 (h1) ?_|fail)
  rfl
 |false=>
  have e:upF f.kind 0=0:=by simp[upF,hq]
  rw[hq] at h1
  rw[e]
  refine M.F Tryz.func119 ?_
  repeat'(first|refine M.gw ?_|refine M.c2 (h1) ?_|fail)
  rfl
theorem upF_plus(k b:Int):b+upF k 0=upF k b:=by simp only[upF];split<;>omega
theorem tyok_err(t:Ty):t.ok=(t.err==0):=Ty.ok_err t
theorem fshapeEq{f:Fm}(hk:f.kind=1):f.shape=(decide (f.args.length=0)&&f.ty.isNo&&decide (f.terms.length=2)&&f.terms.all Tm.shape):=by
 rw[Fm.shape_eq]
 simp only[Fm.head,hk,if_true]
 by_cases h:f.args.length=0
 ·have ha:f.args=[]:=List.length_eq_zero_iff.1 h
  rw[ha]
  cases f.ty.isNo<;>simp
  rw[Bool.eq_iff_iff];simp
 ·simp [h]
theorem fshapeTwo{f:Fm}(hk:f.kind=2∨f.kind=3):f.shape=(decide (f.terms.length=0)&&f.ty.isNo&&decide (f.args.length=2)&&f.args.all Fm.shape):=by
 rw[Fm.shape_eq]
 have h1:¬f.kind=1:=by omega
 simp only[Fm.head,if_neg h1,if_pos hk]
 by_cases h:f.terms.length=0
 ·have ha:f.terms=[]:=List.length_eq_zero_iff.1 h
  rw[ha]
  cases f.ty.isNo<;>simp
  rw[Bool.eq_iff_iff];simp
 ·simp [h]
theorem fshapeQu{f:Fm}(hk:quantK f.kind=true):f.shape=(decide (f.terms.length=0)&&f.ty.ok&&decide (f.args.length=1)&&f.args.all Fm.shape):=by
 rw[Fm.shape_eq]
 rw[quantK_iff] at hk
 have h1:¬f.kind=1:=by omega
 have h2:¬(f.kind=2∨f.kind=3):=by omega
 have h3:f.kind=4∨f.kind=5∨f.kind=6∨f.kind=7:=by omega
 simp only[Fm.head,if_neg h1,if_neg h2,if_pos h3]
 by_cases h:f.terms.length=0
 ·have ha:f.terms=[]:=List.length_eq_zero_iff.1 h
  rw[ha]
  cases f.ty.ok<;>simp
  rw[Bool.eq_iff_iff];simp
 ·simp [h]
theorem fshapeNo{f:Fm}(h1:f.kind≠1)(h2:¬(f.kind=2∨f.kind=3))(h3:quantK f.kind=false):f.shape=false:=by
 rw[Fm.shape_eq]
 have h4:¬(f.kind=4∨f.kind=5∨f.kind=6∨f.kind=7):=by
  intro hc
  have:quantK f.kind=true:=by rw[quantK_iff];omega
  rw[h3] at this;cases this
 simp only[Fm.head,if_neg h1,if_neg h2,if_neg h4,Bool.false_and]
theorem fshapeR_c:∀(n:Nat) (f:Fm),f.full≤n→n<549755813888→PC E 76 [.agg f.view] (.bool f.shape):=by
 intro n
 induction n with
 |zero=>intro f h;have:=f.full_pos;omega
 |succ n ih=>
 intro f hsz hn
 have hsz':=f.full_eq
 have hlen:=lsum_len Fm.full Fm.full_pos f.args
 have hlen2:=lsum_len Tm.full Tm.full_pos f.terms
 have hz:=zeroTy_c f.ty
 have hty:=checkTyR_c f.ty (by omega)
 have hq:=rquant_c f.kind
 have ht:∀x∈f.terms,PC E 124 [.agg x.view] (.bool x.shape):=fun x hx=>shapeTm_c _ x (Nat.le_refl _) (by have:=lsum_mem Tm.full hx;omega)
 have ha:∀x∈f.args,PC E 76 [.agg x.view] (.bool x.shape):=fun x hx=>ih x (by have:=lsum_mem Fm.full hx;omega) (by omega)
 clear ih
 by_cases k1:f.kind=1
 ·have e:=fshapeEq k1
  obtain⟨k,ty,ts,fs⟩:=f
  simp only[Fm.kind_mk,Fm.ty_mk,Fm.terms_mk,Fm.args_mk] at*
  subst k1
  by_cases hl:ts.length=2
  ·obtain ⟨a,b,rfl⟩:=len_2 hl
   have t1:=ht a (by simp)
   have t2:=ht b (by simp)
   rw[e]
   refine M.F Tryz.func76 ?_
   repeat'(first|refine M.gw ?_|refine M.c2 (hz) ?_|refine M.c2 (t1) ?_|refine M.c2 (t2) ?_|refine M.gs ?_ ?_<;>intro h|refine M.zb ?_|fail)
   all_goals(simp at*;simp_all[tupV,V.wk,V.wks,constV];done)
  ·have e2:(Fm.mk 1 ty ts fs).shape=false:=by rw[e];simp[hl]
   rw[e2]
   refine M.F Tryz.func76 ?_
   repeat'(first|refine M.gw ?_|refine M.c2 (hz) ?_|refine M.gs ?_ ?_<;>intro h|refine M.zb ?_|fail)
   all_goals first
    |(simp at*;simp_all[tupV,V.wk,V.wks,constV];done)
    |(exfalso;simp at*;omega)
 by_cases k2:f.kind=2∨f.kind=3
 ·have e:=fshapeTwo k2
  obtain⟨k,ty,ts,fs⟩:=f
  simp only[Fm.kind_mk,Fm.ty_mk,Fm.terms_mk,Fm.args_mk] at*
  by_cases hl:fs.length=2
  ·obtain ⟨a,b,rfl⟩:=len_2 hl
   have t1:=ha a (by simp)
   have t2:=ha b (by simp)
   rw[e]
   rcases k2 with rfl|rfl
   all_goals
    refine M.F Tryz.func76 ?_
    repeat'(first|refine M.gw ?_|refine M.c2 (hz) ?_|refine M.c2 (t1) ?_|refine M.c2 (t2) ?_|refine M.gs ?_ ?_<;>intro h|refine M.zb ?_|fail)
    all_goals(simp at*;simp_all[tupV,V.wk,V.wks,constV];done)
  ·have e2:(Fm.mk k ty ts fs).shape=false:=by rw[e];simp[hl]
   rw[e2]
   rcases k2 with rfl|rfl
   all_goals
    refine M.F Tryz.func76 ?_
    repeat'(first|refine M.gw ?_|refine M.c2 (hz) ?_|refine M.gs ?_ ?_<;>intro h|refine M.zb ?_|fail)
    all_goals first
     |(simp at*;simp_all[tupV,V.wk,V.wks,constV];done)
     |(exfalso;simp at*;omega)
 cases k3:quantK f.kind with
 |true=>
  have e:=fshapeQu k3
  rw[k3] at hq
  have hk:f.kind=4∨f.kind=5∨f.kind=6∨f.kind=7:=by rw[quantK_iff] at k3;omega
  obtain⟨k,ty,ts,fs⟩:=f
  simp only[Fm.kind_mk,Fm.ty_mk,Fm.terms_mk,Fm.args_mk] at*
  rw[tyok_err] at e
  by_cases hl:fs.length=1
  ·obtain ⟨a,rfl⟩:=len_1 hl
   have t1:=ha a (by simp)
   rw[e]
   rcases hk with rfl|rfl|rfl|rfl
   all_goals
    refine M.F Tryz.func76 ?_
    repeat'(first|refine M.gw ?_|refine M.c2 (hty) ?_|refine M.c2 (hq) ?_|refine M.c2 (t1) ?_|refine M.gs ?_ ?_<;>intro h|refine M.zb ?_|fail)
    all_goals(simp at*;simp_all[tupV,V.wk,V.wks,constV];done)
  ·have e2:(Fm.mk k ty ts fs).shape=false:=by rw[e];simp[hl]
   rw[e2]
   rcases hk with rfl|rfl|rfl|rfl
   all_goals
    refine M.F Tryz.func76 ?_
    repeat'(first|refine M.gw ?_|refine M.c2 (hty) ?_|refine M.c2 (hq) ?_|refine M.gs ?_ ?_<;>intro h|refine M.zb ?_|fail)
    all_goals first
     |(simp at*;simp_all[tupV,V.wk,V.wks,constV];done)
     |(exfalso;simp at*;omega)
 |false=>
  have e:=fshapeNo k1 k2 k3
  rw[k3] at hq
  rw[e]
  refine M.F Tryz.func76 ?_
  repeat'(first|refine M.gw ?_|refine M.c2 (hq) ?_|refine M.gs ?_ ?_<;>intro h|refine M.zb ?_|refine M.cs ?_ ?_<;>intro h|fail)
  all_goals first
   |rfl
   |(exfalso;simp at*;omega)
theorem fcountR_c:∀(n:Nat) (f:Fm),f.full≤n→n<549755813888→PC E 63 [.agg f.view] (.i f.size):=by
 intro n
 induction n with
 |zero=>intro f h;have:=f.full_pos;omega
 |succ n ih=>
 intro f hsz hn
 have hsz':=f.full_eq
 have hse:=f.size_eq
 have hlen:=lsum_len Fm.full Fm.full_pos f.args
 have hlen2:=lsum_len Tm.full Tm.full_pos f.terms
 have hle1:=lsum_le (f:=Tm.size) (g:=Tm.full) f.terms fun x _=>x.size_le_full
 have hle2:=lsum_le (f:=Fm.size) (g:=Fm.full) f.args fun x _=>x.size_le_full
 refine M.F Tryz.func63 ?_
 repeat'(first|refine M.gw ?_|fail)
 refine AW.range f.terms.length (fun m=>True)
  (fun m=>([(1,.ptr 0 0),(3,.i (1+((f.terms.take m).map Tm.size).sum:Nat)),(9,.s .tm f.terms),(10,.i f.terms.length),(11,.i m)],⟨1,[(0,.var f.view)]⟩))
  (by omega) (fun m=>rfl) (fun m=>rfl) rfl trivial (M.W [some 0]) ?_ ?_
 ·intro m hm _
  have hs1:=lsum_take Tm.size f.terms m hm
  have hs2:=lsum_mem Tm.full (List.getElem_mem hm)
  have hs3:=lsum_take_le Tm.size f.terms (m+1)
  have hc:=countTm_c _ f.terms[m] (Nat.le_refl _) (by omega)
  repeat'(first|refine M.gw ?_|refine M.c2 (hc) ?_|fail)
  refine⟨rfl,trivial,?_⟩
  simp only[hs1]
  exact(M.W [some 0] (hf:=(by(repeat'(first|exact trivial|refine And.intro ?_ ?_|refine⟨_,U,_,U,?_⟩|exact VLe.refl _|exact VLe.of_eq (by simp[Sto.upd,Int.natCast_add,Int.add_assoc])));done)))
 ·intro _
  simp only[List.take_length]
  repeat'(first|refine M.gw ?_|fail)
  refine AW.range f.args.length (fun m=>True)
   (fun m=>([(1,.ptr 0 0),(3,.i (1+(f.terms.map Tm.size).sum+((f.args.take m).map Fm.size).sum:Nat)),(21,.s .fm f.args),(22,.i f.args.length),(23,.i m)],⟨1,[(0,.var f.view)]⟩))
   (by omega) (fun m=>rfl) (fun m=>rfl) rfl trivial (M.W [some 0]) ?_ ?_
  ·intro m hm _
   have hs1:=lsum_take Fm.size f.args m hm
   have hs2:=lsum_mem Fm.full (List.getElem_mem hm)
   have hs3:=lsum_take_le Fm.size f.args (m+1)
   have hc:=ih f.args[m] (by omega) (by omega)
   repeat'(first|refine M.gw ?_|refine M.c2 (hc) ?_|fail)
   refine⟨rfl,trivial,?_⟩
   simp only[hs1]
   exact(M.W [some 0] (hf:=(by(repeat'(first|exact trivial|refine And.intro ?_ ?_|refine⟨_,U,_,U,?_⟩|exact VLe.refl _|exact VLe.of_eq (by simp[Sto.upd,Int.natCast_add,Int.add_assoc])));done)))
  ·intro _
   simp only[List.take_length]
   repeat'(first|refine M.gw ?_|fail)
   rw[hse]
   rfl
theorem fcheckR_c(f:Fm)(hf:f.full<549755813888):PC E 22 [.agg f.view] (.i f.err):=by
 have h1:=fshapeR_c _ f (Nat.le_refl _) hf
 have h2:=fcountR_c _ f (Nat.le_refl _) hf
 have hle:=f.size_le_full
 cases hs:f.shape with
 |false=>
  have e:f.err=2:=by simp[Fm.err,hs]
  rw[hs] at h1
  rw[e]
  refine M.F Tryz.func22 ?_
  repeat'(first|refine M.gw ?_|refine M.c2 (h1) ?_|fail)
  rfl
 |true=>
  rw[hs] at h1
  by_cases hz:f.size>4096
  ·have e:f.err=4:=by simp[Fm.err,hs,hz]
   rw[e]
   refine M.F Tryz.func22 ?_
   repeat'(first|refine M.gw ?_|refine M.c2 (h1) ?_|refine M.c2 (h2) ?_|refine M.cs ?_ ?_<;>intro h|fail)
   ·rfl
   ·exfalso;simp at h;omega
  ·have e:f.err=0:=by simp[Fm.err,hs,hz]
   rw[e]
   refine M.F Tryz.func22 ?_
   repeat'(first|refine M.gw ?_|refine M.c2 (h1) ?_|refine M.c2 (h2) ?_|refine M.cs ?_ ?_<;>intro h|fail)
   ·exfalso;simp at h;omega
   ·rfl
theorem fhas_c:∀(n:Nat) (f:Fm) (at_:Int),f.full≤n→n<274877906944→-274877906944≤at_→at_+n<549755813888→f.shape=true→PC E 97 [.agg f.view,.i at_] (.bool (decide (timesF at_ f≠0))):=by
 intro n
 induction n with
 |zero=>intro f at_ h;have:=f.full_pos;omega
 |succ n ih=>
 intro f at_ hsz hn h1 h2 hs
 have hsz':=f.full_eq
 have hlen:=lsum_len Fm.full Fm.full_pos f.args
 have hlen2:=lsum_len Tm.full Tm.full_pos f.terms
 have he:=timesF_eq (at_:=at_) hs
 have hup:=upF_le f.kind at_
 have hpl:=upF_plus f.kind at_
 have hb:=rfbelow_c f
 refine M.F Tryz.func97 ?_
 repeat'(first|refine M.gw ?_|fail)
 refine AW.range f.terms.length (fun m=>∀j (hj:j<f.terms.length),j<m→timesT at_ f.terms[j]=0)
  (fun m=>([(1,.i at_),(2,.ptr 0 0),(10,.s .tm f.terms),(11,.i f.terms.length),(12,.i m)],⟨1,[(0,.var f.view)]⟩))
  (by omega) (fun m=>rfl) (fun m=>rfl) rfl (fun j hj h=>by omega) (M.W [some 0]) ?_ ?_
 ·intro m hm hP
  have hs2:=lsum_mem Tm.full (List.getElem_mem hm)
  have hc:=rhas_c _ f.terms[m] at_ (Nat.le_refl _) (by omega) (by omega) (by omega) (fshape_terms hs (List.getElem_mem hm))
  repeat'(first|refine M.gw ?_|refine M.c2 (hc) ?_|refine M.cs ?_ ?_<;>intro h|fail)
  ·have hx:timesT at_ f.terms[m]≠0:=by simpa using h
   have:=sum_pos hm hx
   rw[he,decide_eq_true (show _≠0 by omega)];rfl
  ·have hx:timesT at_ f.terms[m]=0:=by simpa using h
   exact⟨rfl,all_step (p:=fun t'=>timesT at_ t'=0) hm hP hx,(M.W [some 0])⟩
 ·intro hP
  rw[sum_zero (f:=timesT at_) fun j hj=>hP j hj hj,Nat.zero_add] at he
  repeat'(first|refine M.gw ?_|fail)
  refine AW.range f.args.length (fun m=>∀j (hj:j<f.args.length),j<m→timesF (upF f.kind at_) f.args[j]=0)
   (fun m=>([(1,.i at_),(2,.ptr 0 0),(21,.s .fm f.args),(22,.i f.args.length),(23,.i m)],⟨1,[(0,.var f.view)]⟩))
   (by omega) (fun m=>rfl) (fun m=>rfl) rfl (fun j hj h=>by omega) (M.W [some 0]) ?_ ?_
  ·intro m hm hP
   have hs2:=lsum_mem Fm.full (List.getElem_mem hm)
   have hc:=ih f.args[m] (upF f.kind at_) (by omega) (by omega) (by omega) (by omega) (fshape_args hs (List.getElem_mem hm))
   rw[←hpl] at hc
   rw[←hpl] at hP he
   repeat'(first|refine M.gw ?_|refine M.c2 (hb) ?_|refine M.c2 (hc) ?_|refine M.cs ?_ ?_<;>intro h|fail)
   ·have hx:timesF (at_+upF f.kind 0) f.args[m]≠0:=by simpa using h
    rw[he,decide_eq_true (sum_pos hm hx)];rfl
   ·have hx:timesF (at_+upF f.kind 0) f.args[m]=0:=by simpa using h
    exact⟨rfl,by rw[←hpl];exact all_step (p:=fun t'=>timesF (at_+upF f.kind 0) t'=0) hm hP hx,(M.W [some 0])⟩
  ·intro hP
   rw[he,sum_zero fun j hj=>hP j hj hj]
   repeat'(first|refine M.gw ?_|fail)
   rfl
theorem ftyped_c:∀(n:Nat) (f:Fm) (g:List Ty),f.full≤n→n<100000000→f.shape=true→(∀x∈g,x.err=0)→g.length+n<274877906944→g.length+f.size<100000→PC E 134 [.s .ty g,.agg f.view] (.i (f.tyE g)):=by
 intro n
 induction n with
 |zero=>intro f g h;have:=f.full_pos;omega
 |succ n ih=>
 intro f g hsz hn hs hg hgl hgz
 have hsz':=f.full_eq
 have hse:=f.size_eq
 have hlen:=lsum_len Fm.full Fm.full_pos f.args
 have hlen2:=lsum_len Tm.full Tm.full_pos f.terms
 have he:=Fm.tyE_eq g f
 have hq:=rquant_c f.kind
 refine M.F Tryz.func134 ?_
 repeat'(first|refine M.gw ?_|fail)
 refine AW.range f.terms.length (fun m=>∀j (hj:j<f.terms.length),j<m→tE g f.terms[j]=0)
  (fun m=>([(0,.s .ty g),(3,.ptr 0 0),(13,.s .tm f.terms),(14,.i f.terms.length),(15,.i m)],⟨1,[(0,.var f.view)]⟩))
  (by omega) (fun m=>rfl) (fun m=>rfl) rfl (fun j hj h=>by omega) (M.W [some 0]) ?_ ?_
 ·intro m hm hP
  have hs2:=lsum_mem Tm.full (List.getElem_mem hm)
  have hc:=typed_c' g f.terms[m] (by omega) hg (by omega)
  have hfi:tE g f.terms[m]≠0→f.tyE g=tE g f.terms[m]:=fun hx=>by
   have h1:=firstI_at hm hP hx
   rw[he,h1,if_pos hx]
  by_cases hx:(typed g f.terms[m]).2=0
  ·by_cases hk:(typed g f.terms[m]).1.kind=1
   ·have ht:tE g f.terms[m]=0:=by simp[tE,hx,hk]
    rw[hx] at hc
    repeat'(first|refine M.gw ?_|refine M.c2 (hc) ?_|refine M.cs ?_ ?_<;>intro h|fail)
    ·exfalso;simp at h;exact h hk
    ·exact ⟨rfl,all_step (p:=fun t'=>tE g t'=0) hm hP ht,(M.W [some 0])⟩
   ·have ht:tE g f.terms[m]=7:=by simp[tE,hx,hk]
    rw[ht] at hfi
    rw[hfi (by decide)]
    rw[hx] at hc
    repeat'(first|refine M.gw ?_|refine M.c2 (hc) ?_|refine M.cs ?_ ?_<;>intro h|fail)
    ·rfl
    ·exfalso;simp at h;exact hk h
  ·have ht:tE g f.terms[m]=(typed g f.terms[m]).2:=by simp[tE,hx]
   rw[ht] at hfi
   rw[hfi hx]
   repeat'(first|refine M.gw ?_|refine M.c2 (hc) ?_|refine M.cs ?_ ?_<;>intro h|fail)
   ·rfl
   all_goals(exfalso;simp_all)
 ·intro hP
  have h0:firstI (tE g) f.terms=0:=firstI_none fun j hj _=>hP j hj hj
  rw[if_neg (by simp[h0])] at he
  have htyl:=f.ty.size_pos
  have hrest:∀g',g'=ctxF g f→(∀x∈g',x.err=0)∧g'.length≤g.length+1∧∀(m:Nat) (hm:m<f.args.length),PC E 134 [.s .ty g',.agg f.args[m].view] (.i (f.args[m].tyE g')):=fun g' hg'=>by
   have hl:g'.length≤g.length+1:=by rw[hg'];simp only[ctxF];split<;>simp
   have hee:∀x∈g',x.err=0:=fun x hx=>by
    rw[hg'] at hx
    simp only[ctxF] at hx
    split at hx
    ·rename_i hqk
     rcases List.mem_append.1 hx with hx|hx
     ·exact hg x hx
     ·rw [List.mem_singleton] at hx;subst hx
      have h1:=fshapeQu hqk
      rw[hs] at h1
      have h2:f.ty.ok=true:=by
       cases ho:f.ty.ok with
       |true=>rfl
       |false=>rw[ho] at h1;simp at h1
      rw[tyok_err] at h2
      simpa using h2
    ·exact hg x hx
   refine⟨hee,hl,fun m hm=> ?_⟩
   have hs2:=lsum_mem Fm.full (List.getElem_mem hm)
   have hs3:=lsum_mem Fm.size (List.getElem_mem hm)
   exact ih f.args[m] g' (by omega) (by omega) (fshape_args hs (List.getElem_mem hm)) hee (by omega) (by omega)
  cases hqk:quantK f.kind with
  |true=>
   rw[hqk] at hq
   have hcx:ctxF g f=g++[f.ty]:=ctxF_q hqk
   obtain⟨_,_,hcall⟩:=hrest (g++[f.ty]) hcx.symm
   rw[hcx] at he
   repeat'(first|refine M.gw ?_|refine M.c2 (hq) ?_|fail)
   refine AW.range f.args.length (fun m=>∀j (hj:j<f.args.length),j<m→f.args[j].tyE (g++[f.ty])=0)
    (fun m=>([(0,.s .ty (g++[f.ty])),(3,.ptr 0 0),(46,.s .fm f.args),(47,.i f.args.length),(48,.i m)],⟨1,[(0,.var f.view)]⟩))
    (by omega) (fun m=>rfl) (fun m=>rfl) rfl (fun j hj h=>by omega) (M.W [some 0]) ?_ ?_
   ·intro m hm hP
    have hc:=hcall m hm
    by_cases hx:f.args[m].tyE (g++[f.ty])=0
    ·rw [hx] at hc
     repeat'(first|refine M.gw ?_|refine M.c2 (hc) ?_|fail)
     exact⟨rfl,all_step (p:=fun t'=>Fm.tyE (g++[f.ty]) t'=0) hm hP hx,(M.W [some 0])⟩
    ·rw [he,firstI_at hm hP hx]
     repeat'(first|refine M.gw ?_|refine M.c2 (hc) ?_|refine M.cs ?_ ?_<;>intro h|fail)
     ·rfl
     ·exfalso;simp at h;exact hx h
   ·intro hP
    rw[he,firstI_none fun j hj _=>hP j hj hj]
    repeat'(first|refine M.gw ?_|fail)
    rfl
  |false=>
   rw[hqk] at hq
   have hcx:ctxF g f=g:=ctxF_n (by simp[hqk])
   obtain⟨_,_,hcall⟩:=hrest g hcx.symm
   rw[hcx] at he
   repeat'(first|refine M.gw ?_|refine M.c2 (hq) ?_|fail)
   refine AW.range f.args.length (fun m=>∀j (hj:j<f.args.length),j<m→f.args[j].tyE g=0)
    (fun m=>([(0,.s .ty g),(3,.ptr 0 0),(46,.s .fm f.args),(47,.i f.args.length),(48,.i m)],⟨1,[(0,.var f.view)]⟩))
    (by omega) (fun m=>rfl) (fun m=>rfl) rfl (fun j hj h=>by omega) (M.W [some 0]) ?_ ?_
   ·intro m hm hP
    have hc:=hcall m hm
    by_cases hx:f.args[m].tyE g=0
    ·rw [hx] at hc
     repeat'(first|refine M.gw ?_|refine M.c2 (hc) ?_|fail)
     exact⟨rfl,all_step (p:=fun t'=>Fm.tyE g t'=0) hm hP hx,(M.W [some 0])⟩
    ·rw [he,firstI_at hm hP hx]
     repeat'(first|refine M.gw ?_|refine M.c2 (hc) ?_|refine M.cs ?_ ?_<;>intro h|fail)
     ·rfl
     ·exfalso;simp at h;exact hx h
   ·intro hP
    rw[he,firstI_none fun j hj _=>hP j hj hj]
    repeat'(first|refine M.gw ?_|fail)
    rfl
theorem fBelow_c(g:List Ty)(f:Fm)(hf:f.full<549755813888)(hg:∀x∈g,x.err=0)(hgl:g.length<90000):PC E 89 [.s .ty g,.agg f.view] (.i (typedF g f)):=by
 have h1:=fcheckR_c f hf
 by_cases he:f.err=0
 ·have h2:=(Fm.err_iff f).1 he
  have h3:=ferr_full he
  have h4:=ftyped_c _ f g (Nat.le_refl _) (by omega) h2.1 hg (by omega) (by omega)
  have e:typedF g f=f.tyE g:=by simp only[typedF];rw[if_neg (by simp[he])]
  rw[he] at h1
  rw[e]
  refine M.F Tryz.func89 ?_
  repeat'(first|refine M.gw ?_|refine M.c2 (h1) ?_|refine M.c2 (h4) ?_|fail)
  rfl
 ·have e:typedF g f=f.err:=by simp only[typedF];rw[if_pos he]
  rw[e]
  refine M.F Tryz.func89 ?_
  repeat'(first|refine M.gw ?_|refine M.c2 (h1) ?_|refine M.cs ?_ ?_<;>intro h|fail)
  ·rfl
  ·exfalso;simp at h;exact he h
theorem fTyped_c(g:List Ty)(f:Fm)(hf:f.full<549755813888)(hg:(g.map Ty.size).sum<1099511627776):PC E 29 [.s .ty g,.agg f.view] (.i (typedFC g f)):=by
 have h1:=contextR_c g hg
 by_cases he:ctxErr g=0
 ·have h2:=ctxErr_all he
  have h4:=fBelow_c g f hf h2.2 (by omega)
  have e:typedFC g f=typedF g f:=by simp only[typedFC];rw[if_neg (by simp[he])]
  rw[he] at h1
  rw[e]
  refine M.F Tryz.func29 ?_
  repeat'(first|refine M.gw ?_|refine M.c2 (h1) ?_|refine M.c2 (h4) ?_|fail)
  rfl
 ·have e:typedFC g f=ctxErr g:=by simp only[typedFC];rw[if_pos he]
  rw[e]
  refine M.F Tryz.func29 ?_
  repeat'(first|refine M.gw ?_|refine M.c2 (h1) ?_|refine M.cs ?_ ?_<;>intro h|fail)
  ·rfl
  ·exfalso;simp at h;exact he h
theorem putG_node{at_ b:Int}{s t:Tm}(h:t.kind≠1):t.re (putG at_ s) b= .mk t.kind t.index t.ty (t.args.map fun x=>x.re (putG at_ s) (up t.kind b)):=re_node h
theorem rin_c(at_:Int)(s:Tm)(hat:0≤at_∧at_<137438953472)(hs:s.shape=true)(hsf:s.full<137438953472)(hsi:∀p∈s.vars 0,0≤p.1∧p.1<274877906944):∀(n:Nat) (t:Tm) (dp:Int),t.full≤n→n<137438953472→0≤dp→dp+n<274877906944→t.shape=true→(∀p∈t.vars 0,0≤p.1∧p.1<274877906944)→
 PC E 147 [.agg t.view,.i at_,.i dp,.agg s.view] (.agg (t.re (putG at_ s) dp).view):=by
 intro n
 induction n with
 |zero=>intro t dp h;have:=t.full_pos;omega
 |succ n ih=>
 intro t dp hsz hn h1 h2 ht hix
 have hsz':=Tm.full_eq t
 have hlen:=lsum_len Tm.full Tm.full_pos t.args
 have hup:=up_bd t.kind dp
 have hpl:=up_plus t.kind dp
 have hb:=rbelow_c t
 by_cases hv:t.kind=1
 ·have hti:=hix (t.index,0) (by rw[vars_var ht hv];simp)
  rw[var_vT ht hv]
  generalize t.index=i at hti
  simp only at hti
  rw[re_vT,putG_eq]
  have hvi:(vT i).index=i:=rfl
  have hu:=rup_c (at_+dp) (by omega) _ s 0 (Nat.le_refl _) (by omega) (by omega) (by omega) hs fun p hp=>by have:=hsi p hp;omega
  have hvc:=var_c (i-1)
  clear ih hix
  by_cases h3:i-dp=at_
  ·rw [if_pos h3]
   have h3':i=at_+dp:=by omega
   subst h3'
   refine M.F Tryz.func147 ?_
   repeat'(first|refine M.go ?_|refine M.c2 (hu) ?_|refine M.z1 4 ?_|refine M.cs ?_ ?_<;>intro h|refine M.gk ?_|fail)
   all_goals first
    |rfl
    |(exfalso;simp at h;done)
    |(exfalso;simp at h;omega)
  ·rw [if_neg h3]
   by_cases h4:i-dp>at_
   ·rw [if_pos h4]
    refine M.F Tryz.func147 ?_
    repeat'(first|refine M.go ?_|refine M.z3 3 5 6 ?_|refine M.cs ?_ ?_<;>intro h|refine M.gk ?_|fail)
    all_goals first
     |(exfalso;simp at h;omega)
     |skip
    repeat'(first|refine M.gw ?_|refine M.c2 (hvc) ?_|fail)
    rfl
   ·rw [if_neg h4]
    refine M.F Tryz.func147 ?_
    repeat'(first|refine M.go ?_|refine M.z3 3 5 6 ?_|refine M.cs ?_ ?_<;>intro h|refine M.gk ?_|fail)
    all_goals first
     |(exfalso;simp at h;omega)
     |skip
    repeat'(first|refine M.gw ?_|fail)
    rfl
 have he:=putG_node (at_:=at_) (b:=dp) (s:=s) hv
 refine M.F Tryz.func147 ?_
 repeat'(first|refine M.go ?_|refine M.z1 2 ?_|refine M.cs ?_ ?_<;>intro h|refine M.gk ?_|fail)
 all_goals first
  |(exfalso;simp at h;exact hv h)
  |skip
 skip
 refine AW.range t.args.length (fun m=>True) (fun m=>([(1,.i at_),(2,.i dp),(4,.ptr 0 0),(7,.ptr 1 0),(8,.ptr 2 0),(9,.ptr 3 0),(45,.s .tm t.args),(46,.i t.args.length),(47,.i m)],⟨5,[(0,.var t.view),(1,.var s.view),(2,.var [.i 0,.i 0,.i 0,.slice .nil (.t .ty []),.slice .nil (.t .tm [])]),(3,.var [.i t.kind,.i t.index,.i t.ty.kind,.s .ty t.ty.args,.slice (.own 4) (.t .tm ((t.args.take m).map fun x=>x.re (putG at_ s) (up t.kind dp)))]),(4,.row)]⟩))
  (by omega) (fun m=>rfl) (fun m=>rfl) rfl trivial (M.W [some 0,some 1,some 2,some 3,none]) ?_ ?_
 ·intro m hm _
  have hs2:=lsum_mem Tm.full (List.getElem_mem hm)
  have hc:=ih t.args[m] (up t.kind dp) (by omega) (by omega) (by omega) (by omega) (shape_args ht _ (List.getElem_mem hm)) (fun p hp=>by
   obtain⟨q,hq,hqe⟩:=vars_idx (b':=up t.kind 0) p hp
   have:=hix q (mem_vars hv (List.getElem_mem hm) hq)
   rw[←hqe];exact this)
  rw[←hpl] at hc
  simp only[←hpl]
  repeat'(first|refine M.gw ?_|refine M.c2 (hb) ?_|refine M.c2 (hc) ?_|fail)
  exact⟨rfl,trivial,(M.W [some 0,some 1,some 2,some 3,some 6] (he:=(by(repeat'(first|exact trivial|exact Or.inr ⟨_,U,rfl⟩|refine And.intro ?_ ?_|refine⟨_,U,_,U,_,U,?_⟩|exact VLe.refl _|exact VLe.of_eq (by simp[Sto.upd,map_take _ _ _ hm])));done)))⟩
 ·intro _
  simp only[List.take_length]
  repeat'(first|refine M.gw ?_|fail)
  rw[he]
  simp[tupV,V.wk,V.wks,constV,Ty.view,Tm.view]
theorem near_all{t:Tm}(h:t.near=true):∀q∈t.vars 0,q.1≤536870912:=fun q hq=>by simpa using List.all_eq_true.1 h q hq
theorem rtimesF_c:∀(n:Nat) (f:Fm) (at_:Int),f.full≤n→n<274877906944→-274877906944≤at_→at_+n<549755813888→f.shape=true→PC E 102 [.agg f.view,.i at_] (.i (timesF at_ f)):=by
 intro n
 induction n with
 |zero=>intro f at_ h;have:=f.full_pos;omega
 |succ n ih=>
 intro f at_ hsz hn h1 h2 hs
 have hsz':=f.full_eq
 have hlen:=lsum_len Fm.full Fm.full_pos f.args
 have hlen2:=lsum_len Tm.full Tm.full_pos f.terms
 have he:=timesF_eq (at_:=at_) hs
 have hup:=upF_le f.kind at_
 have hpl:=upF_plus f.kind at_
 have hb:=rfbelow_c f
 have hle1:∀m,((f.terms.take m).map (timesT at_)).sum≤(f.terms.map Tm.full).sum:=fun m=>by
  have a1:=lsum_take_le Tm.full f.terms m
  have a2:=lsum_le (f:=timesT at_) (g:=Tm.full) (f.terms.take m) fun x _=>Nat.le_trans (timesT_le x _) x.size_le_full
  omega
 have hle2:∀m,((f.args.take m).map (timesF (upF f.kind at_))).sum≤(f.args.map Fm.full).sum:=fun m=>by
  have a1:=lsum_take_le Fm.full f.args m
  have a2:=lsum_le (f:=timesF (upF f.kind at_)) (g:=Fm.full) (f.args.take m) fun x _=>Nat.le_trans (timesF_le _ x) x.size_le_full
  omega
 refine M.F Tryz.func102 ?_
 repeat'(first|refine M.gw ?_|fail)
 refine AW.range f.terms.length (fun m=>True)
  (fun m=>([(1,.i at_),(2,.ptr 0 0),(5,.i (((f.terms.take m).map (timesT at_)).sum:Nat)),(11,.s .tm f.terms),(12,.i f.terms.length),(13,.i m)],⟨1,[(0,.var f.view)]⟩))
  (by omega) (fun m=>rfl) (fun m=>rfl) rfl trivial (M.W [some 0]) ?_ ?_
 ·intro m hm _
  have hs1:=lsum_take (timesT at_) f.terms m hm
  have hs2:=lsum_mem Tm.full (List.getElem_mem hm)
  have hs3:=hle1 m
  have hs4:=timesT_le f.terms[m] at_
  have hs5:=f.terms[m].size_le_full
  have hc:=rtimes_c _ f.terms[m] at_ (Nat.le_refl _) (by omega) (by omega) (by omega) (fshape_terms hs (List.getElem_mem hm))
  repeat'(first|refine M.gw ?_|refine M.c2 (hc) ?_|fail)
  refine⟨rfl,trivial,?_⟩
  simp only[hs1]
  exact(M.W [some 0])
 ·intro _
  have hs6:=hle1 f.terms.length
  simp only[List.take_length] at hs6 ⊢
  repeat'(first|refine M.gw ?_|fail)
  refine AW.range f.args.length (fun m=>True)
   (fun m=>([(1,.i at_),(2,.ptr 0 0),(5,.i ((f.terms.map (timesT at_)).sum+((f.args.take m).map (timesF (upF f.kind at_))).sum:Nat)),(24,.s .fm f.args),(25,.i f.args.length),(26,.i m)],⟨1,[(0,.var f.view)]⟩))
   (by omega) (fun m=>rfl) (fun m=>rfl) rfl trivial (M.W [some 0]) ?_ ?_
  ·intro m hm _
   have hs1:=lsum_take (timesF (upF f.kind at_)) f.args m hm
   have hs2:=lsum_mem Fm.full (List.getElem_mem hm)
   have hs3:=hle2 m
   have hs4:=timesF_le (upF f.kind at_) f.args[m]
   have hs5:=f.args[m].size_le_full
   have hc:=ih f.args[m] (upF f.kind at_) (by omega) (by omega) (by omega) (by omega) (fshape_args hs (List.getElem_mem hm))
   rw[←hpl] at hc hs1 hs3 hs4
   simp only[←hpl]
   repeat'(first|refine M.gw ?_|refine M.c2 (hb) ?_|refine M.c2 (hc) ?_|fail)
   refine⟨rfl,trivial,?_⟩
   simp only[hs1]
   exact(M.W [some 0] (hf:=(by(repeat'(first|exact trivial|refine And.intro ?_ ?_|refine⟨_,U,_,U,?_⟩|exact VLe.refl _|exact VLe.of_eq (by simp[Sto.upd,Int.natCast_add,Int.add_assoc])));done)))
  ·intro _
   simp only[List.take_length]
   repeat'(first|refine M.gw ?_|fail)
   rw[he]
   rfl
theorem rleastF_c(most:Int)(h0:0≤most):∀(n:Nat) (f:Fm),f.full≤n→n<549755813888→f.shape=true→PC E 93 [.agg f.view,.i most] (.bool (leastF most f)):=by
 intro n
 induction n with
 |zero=>intro f h;have:=f.full_pos;omega
 |succ n ih=>
 intro f hsz hn hs
 have hsz':=f.full_eq
 have hlen:=lsum_len Fm.full Fm.full_pos f.args
 have hlen2:=lsum_len Tm.full Tm.full_pos f.terms
 have he:=leastF_eq most f
 refine M.F Tryz.func93 ?_
 repeat'(first|refine M.gw ?_|fail)
 refine AW.range f.terms.length (fun m=>∀j (hj:j<f.terms.length),j<m→leastT most f.terms[j]=true)
  (fun m=>([(1,.i most),(2,.ptr 0 0),(10,.s .tm f.terms),(11,.i f.terms.length),(12,.i m)],⟨1,[(0,.var f.view)]⟩))
  (by omega) (fun m=>rfl) (fun m=>rfl) rfl (fun j hj h=>by omega) (M.W [some 0]) ?_ ?_
 ·intro m hm hP
  have hs2:=lsum_mem Tm.full (List.getElem_mem hm)
  have hc:=rleast_c most h0 _ f.terms[m] (Nat.le_refl _) (by omega) (fshape_terms hs (List.getElem_mem hm))
  repeat'(first|refine M.gw ?_|refine M.c2 (hc) ?_|refine M.cs ?_ ?_<;>intro h|fail)
  ·have hx:leastT most f.terms[m]=false:=by simpa using h
   rw[he,all_not (leastT most) hm hx];rfl
  ·have hx:leastT most f.terms[m]=true:=by simpa using h
   exact⟨rfl,all_step (p:=fun t=>leastT most t=true) hm hP hx,(M.W [some 0])⟩
 ·intro hP
  rw[all_of (leastT most) f.terms fun j hj=>hP j hj hj,Bool.true_and] at he
  repeat'(first|refine M.gw ?_|fail)
  refine AW.range f.args.length (fun m=>∀j (hj:j<f.args.length),j<m→leastF most f.args[j]=true)
   (fun m=>([(1,.i most),(2,.ptr 0 0),(22,.s .fm f.args),(23,.i f.args.length),(24,.i m)],⟨1,[(0,.var f.view)]⟩))
   (by omega) (fun m=>rfl) (fun m=>rfl) rfl (fun j hj h=>by omega) (M.W [some 0]) ?_ ?_
  ·intro m hm hP
   have hs2:=lsum_mem Fm.full (List.getElem_mem hm)
   have hc:=ih f.args[m] (by omega) (by omega) (fshape_args hs (List.getElem_mem hm))
   repeat'(first|refine M.gw ?_|refine M.c2 (hc) ?_|refine M.cs ?_ ?_<;>intro h|fail)
   ·have hx:leastF most f.args[m]=false:=by simpa using h
    rw[he,all_not (leastF most) hm hx];rfl
   ·have hx:leastF most f.args[m]=true:=by simpa using h
    exact⟨rfl,all_step (p:=fun t=>leastF most t=true) hm hP hx,(M.W [some 0])⟩
  ·intro hP
   rw[he,all_of (leastF most) f.args fun j hj=>hP j hj hj]
   repeat'(first|refine M.gw ?_|fail)
   rfl
end Go.Ab
