/- A part of the proofs of this seat's statements: S78, Y0, Y1, S73, S75, S76, S77, S173, S81, S174, S195. It has no conditions of its own. -/
import Derived.Test.YtfpadcmkjaopcaaGreatDoorS5
import Derived.Test.YtfpadcmkjaopcaaGreatDoorAT1
import Derived.Test.YtfpadcmkjaopcaaGreatDoorDT1
import Derived.Shelf.SlIterI.Sorted
import Derived.Shelf.SlIterI.Keys
import Derived.Shelf.SortM.Plain
import Derived.Shelf.SortM.SortNone
import Derived.Test.YtfpadcmkjaopcaaGreatDoorRows
import Derived.Test.YtfpadcmkjaopcaaGreatDoorS1
import Derived.Test.YtfpadcmkjaopcaaGreatDoorA2
import Derived.Test.YtfpadcmkjaopcaaGreatDoorS3
import Derived.Test.YtfpadcmkjaopcaaGreatDoorS4
import Derived.Test.YtfpadcmkjaopcaaGreatDoorD1
import Derived.Test.YtfpadcmkjaopcaaGreatDoorS2
import Derived.Test.YtfpadcmkjaopcaaGreatDoorS6
import Derived.Test.YtfpadcmkjaopcaaGreatDoorS7
import Derived.Test.YtfpadcmkjaopcaaGreatDoorA3
namespace Go.Ab
open Go Go.Proofs
set_option maxRecDepth 100000
set_option maxHeartbeats 4000000
set_option linter.all false
def srJ(r:Nat):List Int→AF×Sto
 |[]=>([(3,.slice .nil (.t .int [])),(7,.raw (.pointer (some ⟨r,0,none⟩)))],⟨1,[(0,.gone)]⟩)
 |x::d=>([(3,.arr 1 (d.length+1) 1),(7,.raw (.pointer (some ⟨r,0,none⟩)))],⟨2,[(1,.var ((sortI (x::d)).flatMap EC.int.view)),(0,.gone)]⟩)
def srL(r:Nat)(l:List Int)(q:Int)(i:Nat):AF×Sto:=([(3,.arr 1 (l.length+1) 1),(4,.i q),(5,.i i),(7,.raw (.pointer (some ⟨r,0,none⟩)))],⟨2,[(1,.var ((insS (sortI l) q i).flatMap EC.int.view)),(0,.gone)]⟩)
end Go.Ab
namespace Go.Proofs
open Go.Shelf
def Tryz.keysA_ren:Go.Shelf.Ren:=⟨fun|7=>56|10=>90|n=>n,fun|23=>82|26=>3|3=>4|28=>89|0=>0|27=>88|33=>71|4=>4|n=>n,fun|n=>n⟩
theorem Tryz.keysA:Go.Proofs.SlLaysZI.n7 Tryz.prog Tryz.keysA_ren:={
 mixed:=by kernel_rfl
 f7:=⟨Tryz.f56.name,by decide,Tryz.func56.trans (congrArg some (by kernel_rfl))⟩
 f10:=⟨Tryz.f90.name,by decide,Tryz.func90.trans (congrArg some (by kernel_rfl))⟩
 t0:=Tryz.underlying0
 a0:=Tryz.isAgg0
 z0:=Tryz.sizeOf0
 v0:=Tryz.zeroValue0
 t4:=Tryz.underlying4
 a4:=Tryz.isAgg4
 z4:=Tryz.sizeOf4
 v4:=Tryz.zeroValue4
 t23:=Tryz.underlying82
 a23:=Tryz.isAgg82
 z23:=Tryz.sizeOf82
 v23:=Tryz.zeroValue82
 t26:=Tryz.underlying3
 a26:=Tryz.isAgg3
 z26:=Tryz.sizeOf3
 v26:=Tryz.zeroValue3
 t27:=Tryz.underlying88
 a27:=Tryz.isAgg88
 z27:=Tryz.sizeOf88
 v27:=Tryz.zeroValue88
 t28:=Tryz.underlying89
 a28:=Tryz.isAgg89
 z28:=Tryz.sizeOf89
 v28:=Tryz.zeroValue89
 t33:=Tryz.underlying71
 a33:=Tryz.isAgg71
 z33:=Tryz.sizeOf71
 v33:=Tryz.zeroValue71}
def Tryz.sortedA_ren:Go.Shelf.Ren:=⟨fun|6=>55|8=>88|9=>89|11=>112|13=>114|12=>113|23=>143|24=>144|14=>134|15=>135|16=>136|17=>137|18=>138|19=>139|20=>140|21=>141|22=>142|25=>155|26=>156|27=>157|28=>158|29=>159|30=>160|31=>168|n=>n,fun|26=>3|28=>89|24=>22|0=>0|3=>3|37=>129|48=>153|50=>155|4=>4|40=>146|39=>145|45=>116|5=>5|9=>9|51=>168|55=>172|57=>180|58=>181|33=>71|n=>n,fun|n=>n⟩
theorem Tryz.sortedA:Go.Proofs.SlLaysZI.n6 Tryz.prog Tryz.sortedA_ren:={
 mixed:=by kernel_rfl
 f6:=⟨Tryz.f55.name,by decide,Tryz.func55.trans (congrArg some (by kernel_rfl))⟩
 f8:=⟨Tryz.f88.name,by decide,Tryz.func88.trans (congrArg some (by kernel_rfl))⟩
 f11:=⟨Tryz.f112.name,by decide,Tryz.func112.trans (congrArg some (by kernel_rfl))⟩
 t0:=Tryz.underlying0
 a0:=Tryz.isAgg0
 z0:=Tryz.sizeOf0
 v0:=Tryz.zeroValue0
 t24:=Tryz.underlying22
 a24:=Tryz.isAgg22
 z24:=Tryz.sizeOf22
 v24:=Tryz.zeroValue22
 t26:=Tryz.underlying3
 a26:=Tryz.isAgg3
 z26:=Tryz.sizeOf3
 v26:=Tryz.zeroValue3
 t28:=Tryz.underlying89
 a28:=Tryz.isAgg89
 z28:=Tryz.sizeOf89
 v28:=Tryz.zeroValue89
 i26:=by kernel_rfl}
def Tryz.sortA_ren:Go.Shelf.Ren:=⟨fun|5=>89|8=>114|7=>113|19=>143|20=>144|10=>134|11=>135|12=>136|13=>137|14=>138|15=>139|16=>140|17=>141|18=>142|30=>155|31=>156|32=>157|33=>158|34=>159|35=>160|40=>168|n=>n,fun|23=>22|25=>3|3=>3|32=>129|22=>22|0=>0|44=>153|46=>155|4=>4|36=>146|35=>145|41=>116|5=>5|9=>9|53=>168|57=>172|63=>180|64=>181|n=>n,fun|n=>n⟩
theorem Tryz.sortA:Go.Proofs.SlLaysM.n5 Tryz.prog Tryz.sortA_ren:={
 mixed:=by kernel_rfl
 f5:=⟨Tryz.f89.name,by decide,Tryz.func89.trans (congrArg some (by kernel_rfl))⟩
 f7:=⟨Tryz.f113.name,by decide,Tryz.func113.trans (congrArg some (by kernel_rfl))⟩
 f8:=Tryz.func114.trans (congrArg some (by kernel_rfl))
 f10:=⟨Tryz.f134.name,by decide,Tryz.func134.trans (congrArg some (by kernel_rfl))⟩
 f11:=⟨Tryz.f135.name,by decide,Tryz.func135.trans (congrArg some (by kernel_rfl))⟩
 f12:=⟨Tryz.f136.name,by decide,Tryz.func136.trans (congrArg some (by kernel_rfl))⟩
 f13:=⟨Tryz.f137.name,by decide,Tryz.func137.trans (congrArg some (by kernel_rfl))⟩
 f14:=⟨Tryz.f138.name,by decide,Tryz.func138.trans (congrArg some (by kernel_rfl))⟩
 f15:=⟨Tryz.f139.name,by decide,Tryz.func139.trans (congrArg some (by kernel_rfl))⟩
 f16:=⟨Tryz.f140.name,by decide,Tryz.func140.trans (congrArg some (by kernel_rfl))⟩
 f17:=⟨Tryz.f141.name,by decide,Tryz.func141.trans (congrArg some (by kernel_rfl))⟩
 f18:=⟨Tryz.f142.name,by decide,Tryz.func142.trans (congrArg some (by kernel_rfl))⟩
 f19:=Tryz.func143.trans (congrArg some (by kernel_rfl))
 f20:=Tryz.func144.trans (congrArg some (by kernel_rfl))
 f30:=⟨Tryz.f155.name,by decide,Tryz.func155.trans (congrArg some (by kernel_rfl))⟩
 f31:=Tryz.func156.trans (congrArg some (by kernel_rfl))
 f32:=Tryz.func157.trans (congrArg some (by kernel_rfl))
 f33:=⟨Tryz.f158.name,by decide,Tryz.func158.trans (congrArg some (by kernel_rfl))⟩
 f34:=⟨Tryz.f159.name,by decide,Tryz.func159.trans (congrArg some (by kernel_rfl))⟩
 f35:=⟨Tryz.f160.name,by decide,Tryz.func160.trans (congrArg some (by kernel_rfl))⟩
 f40:=⟨Tryz.f168.name,by decide,Tryz.func168.trans (congrArg some (by kernel_rfl))⟩
 t0:=Tryz.underlying0
 a0:=Tryz.isAgg0
 z0:=Tryz.sizeOf0
 v0:=Tryz.zeroValue0
 t3:=Tryz.underlying3
 a3:=Tryz.isAgg3
 z3:=Tryz.sizeOf3
 v3:=Tryz.zeroValue3
 t4:=Tryz.underlying4
 a4:=Tryz.isAgg4
 z4:=Tryz.sizeOf4
 v4:=Tryz.zeroValue4
 t5:=Tryz.underlying5
 a5:=Tryz.isAgg5
 z5:=Tryz.sizeOf5
 v5:=Tryz.zeroValue5
 t9:=Tryz.underlying9
 a9:=Tryz.isAgg9
 z9:=Tryz.sizeOf9
 v9:=Tryz.zeroValue9
 t22:=Tryz.underlying22
 a22:=Tryz.isAgg22
 z22:=Tryz.sizeOf22
 v22:=Tryz.zeroValue22
 t23:=Tryz.underlying22
 a23:=Tryz.isAgg22
 z23:=Tryz.sizeOf22
 v23:=Tryz.zeroValue22
 t25:=Tryz.underlying3
 a25:=Tryz.isAgg3
 z25:=Tryz.sizeOf3
 v25:=Tryz.zeroValue3
 t32:=Tryz.underlying129
 a32:=Tryz.isAgg129
 z32:=Tryz.sizeOf129
 v32:=Tryz.zeroValue129
 t35:=Tryz.underlying145
 a35:=Tryz.isAgg145
 z35:=Tryz.sizeOf145
 v35:=Tryz.zeroValue145
 t36:=Tryz.underlying146
 a36:=Tryz.isAgg146
 z36:=Tryz.sizeOf146
 v36:=Tryz.zeroValue146
 t41:=Tryz.underlying116
 a41:=Tryz.isAgg116
 z41:=Tryz.sizeOf116
 v41:=Tryz.zeroValue116
 t44:=Tryz.underlying153
 a44:=Tryz.isAgg153
 z44:=Tryz.sizeOf153
 v44:=Tryz.zeroValue153
 t46:=Tryz.underlying155
 a46:=Tryz.isAgg155
 z46:=Tryz.sizeOf155
 v46:=Tryz.zeroValue155
 t53:=Tryz.underlying168
 a53:=Tryz.isAgg168
 z53:=Tryz.sizeOf168
 v53:=Tryz.zeroValue168
 t57:=Tryz.underlying172
 a57:=Tryz.isAgg172
 z57:=Tryz.sizeOf172
 v57:=Tryz.zeroValue172
 t63:=Tryz.underlying180
 a63:=Tryz.isAgg180
 z63:=Tryz.sizeOf180
 v63:=Tryz.zeroValue180
 t64:=Tryz.underlying181
 a64:=Tryz.isAgg181
 z64:=Tryz.sizeOf181
 v64:=Tryz.zeroValue181}
end Go.Proofs
namespace Go.Ab
open Go Go.Proofs Go.RowKit
set_option linter.all false
set_option maxRecDepth 100000
theorem sorts_in(m:Nat):AnyZI.SortsIn E.P Tryz.sortedA_ren Fence.wide m:=
 ⟨fun blk off cap ss W hH hblk hsz=>callsIn_wide.2 (AnyM.slices_Sort_int Tryz.sortA blk off cap ss W hH hblk hsz),fun p cap W=>callsIn_wide.2 (AnyM.slices_Sort_int_none Tryz.sortA p cap W)⟩
theorem mapKeys_c{σ:Sto}{n:Nat}(h:n<σ.nx):AC E 56 [.mp n] σ (.fn (.func 90) [] [.ptr σ.nx 0]) ⟨σ.nx+1,(σ.nx,.var [.mp n])::σ.es⟩:=
 AC.mapKeys (E:=E) (ρ7:=Tryz.keysA_ren) Tryz.keysA (enters_of Tryz.func56 (by kernel_rfl) rfl) h
theorem sorted_c{σ:Sto}{n b:Nat}{c:EC}{ks:List Int}{xs:List c.sem}(hb:findE σ.es b=some (.var [.mp n]))(hn:findE σ.es n=some (.map c ks xs))
 (hnd:ks.Nodup) (hwf:∀x∈ks,(Lit.int .i64 x).wf=true) (hmax:ks.length<549755813888):
 AC E 55 [.fn (.func 90) [] [.ptr b 0]] σ (.s .int (sortI ks)) σ:=
 AC.sortedKeys (E:=E) (ρ7:=Tryz.keysA_ren) (ρ6:=Tryz.sortedA_ren) Tryz.keysA Tryz.sortedA sorts_in (enters_of Tryz.func55 (by kernel_rfl) rfl) (enters_of Tryz.func89 (by kernel_rfl) rfl)
  (enters_of Tryz.func90 (by kernel_rfl) rfl) (by kernel_rfl) hb hn hnd hwf (Nat.le_trans (Nat.le_of_lt hmax) (by decide)) (by omega)
end Go.Ab
namespace Go.Ab
open Go Go.Proofs
set_option maxRecDepth 100000
set_option maxHeartbeats 4000000
set_option linter.all false
theorem usesFCb(ks:List Int)(i bl ab:Int)(hi:0≤i∧i<9223372036854775808)(hb:0≤bl∧bl<1099511627776)(ha:0≤ab∧ab<1099511627776):AC E 54 [.i i,.i bl,.ptr 0 0,.ptr 1 0] ⟨3,[(0,.var [.i ab]),(1,.var [.mp 2]),(2,.map .bl ks (List.replicate ks.length true))]⟩ (.tup [])
 ⟨3,[(0,.var [.i ab]),(1,.var [.mp 2]),(2,.map .bl (nub ks (fre [(i,bl+ab)])) (List.replicate (nub ks (fre [(i,bl+ab)])).length true))]⟩:=by
 have e:i-bl-ab=i-(bl+ab):=by omega
 refine M.F Tryz.func54 ?_
 repeat'(first|refine M.gw ?_|refine M.cs ?_ ?_<;>intro h|fail)
 ·have h2:bl+ab≤i:=by simp at h;omega
  (exact M.n2 [some 0,some 1,some 2] (h6:=(by(repeat'(first|exact trivial|refine And.intro ?_ ?_|refine⟨_,U,_,U,_,U,?_⟩|exact VLe.refl _|refine⟨_,U,_,_,U,?_,?_⟩|(simp[Sto.upd,fre_one,nub_one,putCs_same,if_pos h2,e];done)));done)) (h8:=(by simp[tupV,V.wk,V.wks,constV,Ty.view,Tm.view,fre_one,nub_one,putCs_same,if_pos h2,e])))
 ·have h2:¬bl+ab≤i:=by simp at h;omega
  (exact M.n2 [some 0,some 1,some 2] (h6:=(by(repeat'(first|exact trivial|refine And.intro ?_ ?_|refine⟨_,U,_,U,_,U,?_⟩|exact VLe.refl _|refine⟨_,U,_,_,U,?_,?_⟩|(simp[Sto.upd,fre_one,nub_nil,if_neg h2];done)));done)) (h8:=(by simp[tupV,V.wk,V.wks,constV,Ty.view,Tm.view,fre_one,nub_nil,if_neg h2])))
theorem usesFEach1(ab:Int)(hab:0≤ab∧ab<1099511627776):∀(n:Nat) (t:Tm) (ks:List Int) (bl:Int),t.full≤n→n<1099511627776→0≤bl→bl+n<1099511627776→(∀p∈t.vars (bl+ab),0≤p.1∧p.1<9223372036854775808)→AC E 87 [.agg t.view,.i bl,.ptr 0 0,.ptr 1 0] ⟨5,[(0,.var [.fn (.func 54) [] [.ptr 2 0,.ptr 3 0]]),(1,.var [.fn (.func 87) [] [.ptr 0 0,.ptr 1 0]]),(2,.var [.i ab]),(3,.var [.mp 4]),(4,.map .bl ks (List.replicate ks.length true))]⟩ (.tup [])
 ⟨5,[(0,.var [.fn (.func 54) [] [.ptr 2 0,.ptr 3 0]]),(1,.var [.fn (.func 87) [] [.ptr 0 0,.ptr 1 0]]),(2,.var [.i ab]),(3,.var [.mp 4]),(4,.map .bl (nub ks (fre (t.vars (bl+ab)))) (List.replicate (nub ks (fre (t.vars (bl+ab)))).length true))]⟩:=by
 intro n
 induction n with
 |zero=>intro t b bl h;have:=t.full_pos;omega
 |succ n ih=>
 intro t ks bl hsz hb hbl hbn hix
 have hsz':=Tm.full_eq t
 have hlen:=lsum_len Tm.full Tm.full_pos t.args
 have hv:=Tm.vars_eq (bl+ab) t
 rw[show up t.kind (bl+ab)=up t.kind bl+ab by simp only[up];split<;>omega] at hv
 have hi:t.kind=1→0≤t.index∧t.index<9223372036854775808:=fun h=>by simpa using hix (t.index,bl+ab) (by rw[hv];simp[h])
 have hcb:t.kind=1→_:=fun h=>usesFCb ks t.index bl ab (hi h) (by omega) hab
 refine M.F Tryz.func87 ?_
 repeat'(first|refine M.gw ?_|refine M.cv (hcb (by simpa using h)) [2,3,4] 0 ?_|refine M.cs ?_ ?_<;>intro h|fail)
 all_goals
  have hup:up t.kind bl≤bl+1:=by simp only[up];split<;>omega
  have hup0:0≤up t.kind bl:=by simp only[up];split<;>omega
  refine AW.range t.args.length (fun m=>True)
   (fun m=>([(1,.i (up t.kind bl)),(3,.ptr 1 0),(22,.s .tm t.args),(23,.i t.args.length),(24,.i m)],⟨6,[(0,.var [.fn (.func 54) [] [.ptr 2 0,.ptr 3 0]]),(1,.var [.fn (.func 87) [] [.ptr 0 0,.ptr 1 0]]),(2,.var [.i ab]),(3,.var [.mp 4]),(4,.map .bl (nub ks (fre ((if t.kind=1 then [(t.index,bl+ab)] else [])++(t.args.take m).flatMap (Tm.vars (up t.kind bl+ab))))) (List.replicate (nub ks (fre ((if t.kind=1 then [(t.index,bl+ab)] else [])++(t.args.take m).flatMap (Tm.vars (up t.kind bl+ab))))).length true)),(5,.var t.view)]⟩))
   (by omega) (fun m=>rfl) (fun m=>rfl) rfl trivial ?_ ?_ ?_
  ·simp_all only[beq_iff_eq,beq_eq_false_iff_ne,ne_eq]
   exact(M.W [some 0,some 1,some 2,some 3,some 4,some 5] (hf:=(by(repeat'(first|exact trivial|refine And.intro ?_ ?_|refine⟨_,U,_,U,?_⟩|exact VLe.refl _|exact VLe.of_eq (by simp[Sto.upd,up, *,fre_app,fre_nil,nub_nil])));done)) (he:=(by(repeat'(first|exact trivial|refine And.intro ?_ ?_|refine⟨_,U,_,U,_,U,?_⟩|exact VLe.refl _|refine⟨_,U,_,_,U,?_,?_⟩|(simp[Sto.upd,up, *,fre_app,fre_nil,nub_nil];done)));done)))
  ·intro m hm hP
   have hs2:=lsum_mem Tm.full (List.getElem_mem hm)
   have hix':∀p∈(t.args[m]).vars (up t.kind bl+ab),0≤p.1∧p.1<9223372036854775808:=fun p hp=>hix p (by rw[hv];exact List.mem_append_right _ (List.mem_flatMap.2 ⟨_,List.getElem_mem hm,hp⟩))
   have hc:=ih t.args[m] (nub ks (fre ((if t.kind=1 then [(t.index,bl+ab)] else [])++(t.args.take m).flatMap (Tm.vars (up t.kind bl+ab))))) (up t.kind bl) (by omega) (by omega) hup0 (by omega) hix'
   repeat'(first|refine M.gw ?_|refine M.cv (hc) [0,1,2,3,4] 0 ?_|fail)
   refine⟨rfl,trivial,?_⟩
   exact(M.W [some 0,some 1,some 2,some 3,some 4,some 5] (he:=(by(repeat'(first|exact trivial|refine And.intro ?_ ?_|refine⟨_,U,_,U,_,U,?_⟩|exact VLe.refl _|refine⟨_,U,_,_,U,?_,?_⟩|(simp[Sto.upd,fre_app,nub_app,flat_take _ _ _ hm,←List.append_assoc];done)));done)))
  ·intro hP
   skip
   (exact M.n2 [some 0,some 1,some 2,some 3,some 4] (h6:=(by(repeat'(first|exact trivial|refine And.intro ?_ ?_|refine⟨_,U,_,U,_,U,?_⟩|exact VLe.refl _|refine⟨_,U,_,_,U,?_,?_⟩|(simp[Sto.upd,hv];done)));done)) (h8:=(by simp[tupV,V.wk,V.wks,constV,Ty.view,Tm.view,hv])))
theorem usesFEach(ab:Int)(hab:0≤ab∧ab<1099511627776)(ks:List Int)(t:Tm)(ht:t.full<549755813888)(hix:∀p∈t.vars ab,0≤p.1∧p.1<9223372036854775808):AC E 53 [.agg t.view,.fn (.func 54) [] [.ptr 0 0,.ptr 1 0]] ⟨3,[(0,.var [.i ab]),(1,.var [.mp 2]),(2,.map .bl ks (List.replicate ks.length true))]⟩ (.tup []) ⟨3,[(0,.var [.i ab]),(1,.var [.mp 2]),(2,.map .bl (nub ks (fre (t.vars ab))) (List.replicate (nub ks (fre (t.vars ab))).length true))]⟩:=by
 have hc:=usesFEach1 ab hab _ t ks 0 (Nat.le_refl _) (by omega) (by omega) (by omega) (by rw[Int.zero_add];exact hix)
 rw[Int.zero_add] at hc
 refine M.F Tryz.func53 ?_
 repeat'(first|refine M.gw ?_|refine M.cv (hc) [4,5,0,1,2] 0 ?_|fail)
 (exact M.n2 [some 0,some 1,some 2] (h8:=(by simp[tupV,V.wk,V.wks,constV,Ty.view,Tm.view,useK])))
theorem usesFFm(ab:Int)(hab:0≤ab∧ab<1099511627776)(ks:List Int)(t:Tm)(ht:t.full<549755813888)(hix:∀p∈t.vars ab,0≤p.1∧p.1<9223372036854775808):AC E 52 [.agg t.view,.i ab,.ptr 0 0] ⟨2,[(0,.var [.mp 1]),(1,.map .bl ks (List.replicate ks.length true))]⟩ (.tup []) ⟨2,[(0,.var [.mp 1]),(1,.map .bl (nub ks (fre (varsL [(t,ab)]))) (List.replicate (nub ks (fre (varsL [(t,ab)]))).length true))]⟩:=by
 have hc:=usesFEach ab hab ks t ht hix
 refine M.F Tryz.func52 ?_
 repeat'(first|refine M.gw ?_|refine M.cb (hc) [3,0,1] 0 ?_|fail)
 (exact M.n2 [some 0,some 1] (h6:=(by(repeat'(first|exact trivial|refine And.intro ?_ ?_|refine⟨_,U,_,U,_,U,?_⟩|exact VLe.refl _|refine⟨_,U,_,_,U,?_,?_⟩|(simp[Sto.upd,varsL_one];done)));done)) (h8:=(by simp[tupV,V.wk,V.wks,constV,Ty.view,Tm.view,varsL_one])))
theorem usesFEachF:∀(n:Nat) (f:Fm) (ks:List Int) (bl:Int),f.full≤n→n<549755813888→0≤bl→bl+n<549755813888→(∀p∈varsL (f.tms bl),0≤p.1∧p.1<9223372036854775808)→AC E 51 [.agg f.view,.i bl,.fn (.func 52) [] [.ptr 0 0]] ⟨2,[(0,.var [.mp 1]),(1,.map .bl ks (List.replicate ks.length true))]⟩ (.tup []) ⟨2,[(0,.var [.mp 1]),(1,.map .bl (nub ks (fre (varsL (f.tms bl)))) (List.replicate (nub ks (fre (varsL (f.tms bl)))).length true))]⟩:=by
 intro n
 induction n with
 |zero=>intro f;intros;have:=f.full_pos;omega
 |succ n ih=>
 intro f ks bl hsz hn hbl hbn hix
 have hsz':=f.full_eq
 have hlen:=lsum_len Fm.full Fm.full_pos f.args
 have hlen2:=lsum_len Tm.full Tm.full_pos f.terms
 have htm:=f.tms_eq bl
 have hq:=quantifier_c f.kind
 refine M.F Tryz.func51 ?_
 repeat'(first|refine M.gw ?_|fail)
 refine AW.range f.terms.length (fun m=>True)
  (fun m=>([(1,.i bl),(2,.fn (.func 52) [] [.ptr 0 0]),(3,.ptr 2 0),(11,.s .tm f.terms),(12,.i f.terms.length),(13,.i m)],⟨3,[(0,.var [.mp 1]),(1,.map .bl (nub ks (fre (varsL ((f.terms.take m).map (fun t=>(t,bl)))))) (List.replicate (nub ks (fre (varsL ((f.terms.take m).map (fun t=>(t,bl)))))).length true)),(2,.var f.view)]⟩))
  (by omega) (fun m=>rfl) (fun m=>rfl) rfl trivial ?_ ?_ ?_
 ·exact (M.W [some 0,some 1,some 2] (he:=(by(repeat'(first|exact trivial|refine And.intro ?_ ?_|refine⟨_,U,_,U,_,U,?_⟩|exact VLe.refl _|refine⟨_,U,_,_,U,?_,?_⟩|(simp[Sto.upd,varsL_nil,fre_nil,nub_nil];done)));done)))
 ·intro m hm _
  have hs2:=lsum_mem Tm.full (List.getElem_mem hm)
  have hc:=usesFFm bl (by omega) (nub ks (fre (varsL ((f.terms.take m).map (fun t=>(t,bl)))))) f.terms[m] (by omega) fun p hp=>hix p (by rw[htm,varsL_app];exact List.mem_append_left _ (List.mem_flatMap.2 ⟨(f.terms[m],bl),List.mem_map.2 ⟨_,List.getElem_mem hm,rfl⟩,hp⟩))
  repeat'(first|refine M.gw ?_|refine M.cv (hc) [0,1] 0 ?_|fail)
  refine⟨rfl,trivial,?_⟩
  exact(M.W [some 0,some 1,some 2] (he:=(by(repeat'(first|exact trivial|refine And.intro ?_ ?_|refine⟨_,U,_,U,_,U,?_⟩|exact VLe.refl _|refine⟨_,U,_,_,U,?_,?_⟩|(simp[Sto.upd,varsL_app,fre_app,nub_app,map_take _ _ _ hm];done)));done)))
 ·intro _
  simp only[List.take_length]
  repeat'(first|refine M.gw ?_|refine M.c2 (hq) ?_|refine M.cs ?_ ?_<;>intro h|fail)
  all_goals
   have hup:upF f.kind bl≤bl+1:=by simp only[upF];split<;>omega
   have hup0:0≤upF f.kind bl:=by simp only[upF];split<;>omega
   refine AW.range f.args.length (fun m=>True)
    (fun m=>([(1,.i (upF f.kind bl)),(2,.fn (.func 52) [] [.ptr 0 0]),(3,.ptr 2 0),(28,.s .fm f.args),(29,.i f.args.length),(30,.i m)],⟨3,[(0,.var [.mp 1]),(1,.map .bl (nub ks (fre (varsL (f.terms.map (fun t=>(t,bl))++(f.args.take m).flatMap (Fm.tms (upF f.kind bl)))))) (List.replicate (nub ks (fre (varsL (f.terms.map (fun t=>(t,bl))++(f.args.take m).flatMap (Fm.tms (upF f.kind bl)))))).length true)),(2,.var f.view)]⟩))
    (by omega) (fun m=>rfl) (fun m=>rfl) rfl trivial ?_ ?_ ?_
   ·exact (M.W [some 0,some 1,some 2] (hf:=(by(repeat'(first|exact trivial|refine And.intro ?_ ?_|refine⟨_,U,_,U,?_⟩|exact VLe.refl _|exact VLe.of_eq (by simp[Sto.upd,upF,h])));done)) (he:=(by(repeat'(first|exact trivial|refine And.intro ?_ ?_|refine⟨_,U,_,U,_,U,?_⟩|exact VLe.refl _|refine⟨_,U,_,_,U,?_,?_⟩|(simp[Sto.upd,upF,h];done)));done)))
   ·intro m hm _
    have hs2:=lsum_mem Fm.full (List.getElem_mem hm)
    have hc:=ih f.args[m] (nub ks (fre (varsL (f.terms.map (fun t=>(t,bl))++(f.args.take m).flatMap (Fm.tms (upF f.kind bl)))))) (upF f.kind bl) (by omega) (by omega) hup0 (by omega) fun p hp=>hix p (by rw[htm,varsL_app];refine List.mem_append_right _ ?_;obtain⟨q,hq1,hq2⟩:=List.mem_flatMap.1 hp;exact List.mem_flatMap.2 ⟨q,List.mem_flatMap.2 ⟨_,List.getElem_mem hm,hq1⟩,hq2⟩)
    repeat'(first|refine M.gw ?_|refine M.cv (hc) [0,1] 0 ?_|fail)
    refine⟨rfl,trivial,?_⟩
    exact(M.W [some 0,some 1,some 2] (he:=(by(repeat'(first|exact trivial|refine And.intro ?_ ?_|refine⟨_,U,_,U,_,U,?_⟩|exact VLe.refl _|refine⟨_,U,_,_,U,?_,?_⟩|(simp[Sto.upd,varsL_app,fre_app,nub_app,flat_take _ _ _ hm,←List.append_assoc];done)));done)))
   ·intro _
    skip
    (exact M.n2 [some 0,some 1] (h6:=(by(repeat'(first|exact trivial|refine And.intro ?_ ?_|refine⟨_,U,_,U,_,U,?_⟩|exact VLe.refl _|refine⟨_,U,_,_,U,?_,?_⟩|(simp[Sto.upd,htm];done)));done)) (h8:=(by simp[tupV,V.wk,V.wks,constV,Ty.view,Tm.view,htm])))
theorem useKF_wf{f:Fm}(hix:∀p∈varsL (f.tms 0),0≤p.1∧p.1<9223372036854775808)(hsn:∀p∈varsL (f.tms 0),0≤p.2):∀x∈useKF f,(Lit.int .i64 x).wf=true:=fun x hx=>by
 obtain⟨h0,p,hp,rfl⟩:=mem_useKF.1 hx
 have h2:=hix p hp
 have h3:=hsn p hp
 have h4:IntKind.i64.min≤p.1-p.2∧p.1-p.2≤IntKind.i64.max:=by
  rw[show IntKind.i64.min= -9223372036854775808 by rfl,show IntKind.i64.max=9223372036854775807 by rfl];omega
 simpa [Lit.wf] using h4
theorem usesF_c(f:Fm)(ht:f.full<137438953472)(hix:f.err=0→∀p∈varsL (f.tms 0),(0≤p.1∧p.1<9223372036854775808)∧0≤p.2):PC E 16 [.agg f.view] (.tup [.s .int (if f.err=0 then usesFI f else []),.i f.err]):=by
 have h1:=fcheck_c f (by omega)
 have hc:f.err=0→_:=fun h=>usesFEachF _ f [] 0 (Nat.le_refl _) (by omega) (by omega) (by omega) (fun p hp=>(hix h p hp).1)
 have hu:nub [] (fre (varsL (f.tms 0)))=useKF f:=rfl
 simp only[List.length_nil,List.replicate_zero,hu] at hc
 have hk:AC E 56 [.mp 0] ⟨1,[(0,.map .bl (useKF f) (List.replicate (useKF f).length true))]⟩ (.fn (.func 90) [] [.ptr 1 0]) ⟨2,[(1,.var [.mp 0]),(0,.map .bl (useKF f) (List.replicate (useKF f).length true))]⟩:=mapKeys_c (Nat.lt_succ_self 0)
 have hlen:=useKF_size f
 have hsz:=f.size_le_full
 have hs:f.err=0→AC E 55 [.fn (.func 90) [] [.ptr 0 0]] ⟨2,[(0,.var [.mp 1]),(1,.map .bl (useKF f) (List.replicate (useKF f).length true))]⟩ (.s .int (usesFI f)) ⟨2,[(0,.var [.mp 1]),(1,.map .bl (useKF f) (List.replicate (useKF f).length true))]⟩:=
  fun h=>sorted_c (c:= .bl) rfl rfl (useKF_nodup f) (useKF_wf (fun p hp=>(hix h p hp).1) (fun p hp=>(hix h p hp).2)) (by omega)
 refine M.F Tryz.func16 ?_
 repeat'(first|refine M.gw ?_|refine M.c2 (h1) ?_|refine M.cb (hc (by simpa using h)) [2,1] 0 ?_|refine M.cb (hk) [1] 1 ?_|refine M.cb (hs (by simpa using h)) [3,1] 0 ?_|refine M.cs ?_ ?_<;>intro h|fail)
 ·have e:¬f.err=0:=by simpa using h
  rw[if_neg e];simp[tupV,V.wk,V.wks];rfl
 ·have e:f.err=0:=by simpa using h
  rw[if_pos e];simp[tupV,V.wk,V.wks,e]
theorem tequation_c(a b:Tm):PC E 92 [.agg a.view,.agg b.view] (.agg (eqF a b).view):=by
 refine M.F Tryz.func92 ?_
 repeat'(first|refine M.gw ?_|fail)
 rfl
theorem tfalse_c:PC E 58 [] (.agg falseF.view):=by
 have h1:=tof_c 4 []
 have h2:=tof_c 5 [.mk 4 0 (.mk 0 []) []]
 have h3:=tequation_c (.mk 4 0 (.mk 0 []) []) (.mk 5 0 (.mk 0 []) [.mk 4 0 (.mk 0 []) []])
 refine M.F Tryz.func58 ?_
 repeat'(first|refine M.gw ?_|refine M.c2 (h1) ?_|refine M.c2 (h2) ?_|refine M.c2 (h3) ?_|fail)
 rfl
theorem ffalse_c:PC E 18 [] (.agg falseF.view):=by
 refine M.F Tryz.func18 ?_
 repeat'(first|refine M.gw ?_|refine M.c2 (tfalse_c) ?_|fail)
 rfl
theorem with_c(g:List Ty)(th:Ty)(hg:g.length<274877906944)(hl:th.size<274877906944):PC E 84 [.s .sz (g.map ofT),.s .ty [th]] (.s .sz ((g++[th]).map ofT)):=by
 have h1:=from_c [th] (by simp;omega)
 simp only[List.map_cons,List.map_nil] at h1
 refine M.F Tryz.func84 ?_
 repeat'(first|refine M.gw ?_|refine M.c2 (h1) ?_|fail)
 simp[tupV,V.wk,V.wks]
theorem tnumber_c(g:List Ty)(t:Tm)(ht:t.err=0)(hf:t.full<137438953472)(hg:∀x∈g,x.err=0)(hl:g.length<68719476736):PC E 85 [.s .sz (g.map ofT),.agg t.view] (.i (tE g t)):=by
 have h1:PC E 132 [.s .sz (g.map ofT),.agg t.view] (.tup [.agg (ofT (t.inf g).1).view,.i (t.inf g).2]):=ctypeOf_c _ t g (Nat.le_refl _) (err_zero ht).1 hg (by omega)
 have h2:=is_c (ofT (t.inf g).1) 1
 have e:tE g t=if(t.inf g).2≠0 then(t.inf g).2 else if(t.inf g).1.kind≠1 then 7 else 0:=by
  have ty:typed g t=t.inf g:=by simp only[typed];rw[if_neg (by simp[ht])]
  unfold tE;rw[ty]
 have hh:PC E 111 [.s .sz (g.map ofT),.agg t.view,.i 1] (.i (tE g t)):=by
  rw[e]
  generalize t.inf g=r at*
  obtain⟨u,q⟩:=r
  simp only at h1 h2 ⊢
  by_cases hq:q=0
  ·subst hq
   by_cases hk:u.kind=1
   ·rw [show((ofT u).ty.kind==1)=true by simp[ofT,hk]] at h2
    refine M.F Tryz.func111 ?_
    repeat'(first|refine M.gw ?_|refine M.c2 (h1) ?_|refine M.c2 (h2) ?_|fail)
    simp[tupV,V.wk,V.wks,hk]
   ·rw [show((ofT u).ty.kind==1)=false by simp[ofT,hk]] at h2
    refine M.F Tryz.func111 ?_
    repeat'(first|refine M.gw ?_|refine M.c2 (h1) ?_|refine M.c2 (h2) ?_|fail)
    simp[tupV,V.wk,V.wks,hk]
  ·refine M.F Tryz.func111 ?_
   repeat'(first|refine M.gw ?_|refine M.c2 (h1) ?_|refine M.c2 (h2) ?_|refine M.gs ?_ ?_<;>intro h|refine M.cs ?_ ?_<;>intro h|fail)
   all_goals first
    |(simp[tupV,V.wk,V.wks,hq];done)
    |(exfalso;simp_all;done)
 refine M.F Tryz.func85 ?_
 repeat'(first|refine M.gw ?_|refine M.c2 (hh) ?_|fail)
 simp[tupV,V.wk,V.wks,constV,Ty.view,Tm.view]
theorem cformula_c:∀(n:Nat) (f:Fm) (g:List Ty),f.full≤n→n<68719476736→f.shape=true→f.size≤4096→(∀x∈g,x.err=0)→g.length+n<68719476736→PC E 50 [.s .sz (g.map ofT),.agg f.view] (.i (f.tyE g)):=by
 intro n
 induction n with
 |zero=>intro f;intros;have:=f.full_pos;omega
 |succ n ih=>
 intro f g hsz hn hs hz hg hgl
 have hsz':=f.full_eq
 have hzz:=f.size_eq
 have hlen:=lsum_len Fm.full Fm.full_pos f.args
 have hlen2:=lsum_len Tm.full Tm.full_pos f.terms
 have he:=Fm.tyE_eq g f
 have sa:=fun x (hx:x∈f.args)=>fshape_args hs hx
 have st:=fun t (ht:t∈f.terms)=>fshape_terms hs ht
 have hkk:=fshape_kinds hs
 obtain⟨k,th,ts,xs⟩:=f
 simp only[Fm.kind_mk,Fm.ty_mk,Fm.terms_mk,Fm.args_mk] at*
 have args:∀(g':List Ty),(∀x∈g',x.err=0)→g'.length+n<68719476736→∀m (hm:m<xs.length),PC E 50 [.s .sz (g'.map ofT),.agg xs[m].view] (.i (xs[m].tyE g')):=fun g' h' hl' m hm=>by
  have h1:=lsum_mem Fm.full (List.getElem_mem hm)
  have h2:=lsum_mem Fm.size (List.getElem_mem hm)
  exact ih xs[m] g' (by omega) (by omega) (sa _ (List.getElem_mem hm)) (by omega) h' hl'
 have hw:=with_c g th (by omega) (by omega)
 rcases hkk with⟨rfl,rfl⟩|⟨hk,rfl⟩|⟨hk,rfl,hth⟩
 ·replace he:Fm.tyE g (Fm.mk 1 th ts [])=firstI (tE g) ts:=by
   rw[he];by_cases hx:firstI (tE g) ts=0<;>simp[hx,firstI]
  refine M.F Tryz.func50 ?_
  repeat'(first|refine M.gw ?_|refine M.zb ?_|refine M.bl ?_|fail)
  refine K.sq (AW.block ?_)
  repeat'(first|refine M.gw ?_|refine M.bl ?_|fail)
  refine AW.range ts.length (fun m=>∀j (hj:j<ts.length),j<m→tE g ts[j]=0)
   (fun m=>([(0,.s .sz (g.map ofT)),(3,.ptr 0 0),(42,.s .tm ts),(43,.i ts.length),(44,.i m)],⟨1,[(0,.var (Fm.mk 1 th ts []).view)]⟩))
   (by omega) (fun m=>rfl) (fun m=>rfl) rfl (fun j hj h=>by omega) (M.W [some 0]) ?_ ?_
  ·intro m hm hP
   have h1:=lsum_mem Tm.full (List.getElem_mem hm)
   have h2:=lsum_mem Tm.size (List.getElem_mem hm)
   have hc:=tnumber_c g ts[m] ((Tm.err_iff _).2 ⟨st _ (List.getElem_mem hm),by omega⟩) (by omega) hg (by omega)
   repeat'(first|refine M.gw ?_|refine M.c2 (hc) ?_|refine M.cs ?_ ?_<;>intro h|fail)
   ·have hx:tE g ts[m]≠0:=by simpa using h
    rw[he,firstI_at hm hP hx]
    rfl
   ·exact ⟨rfl,all_step (p:=fun x=>tE g x=0) hm hP (by simpa using h),(M.W [some 0])⟩
  ·intro hP
   rw[he,firstI_none (f:=tE g) fun j hj _=>hP j hj hj]
   repeat'(first|refine M.gw ?_|fail)
   rfl
 ·have e0:ctxF g (Fm.mk k th [] xs)=g:=by simp only[ctxF,quantK,Fm.kind_mk];rcases hk with rfl|rfl<;>rfl
  rw[e0] at he
  replace he:Fm.tyE g (Fm.mk k th [] xs)=firstI (Fm.tyE g) xs:=by rw[he];simp[firstI]
  rcases hk with rfl|rfl
  ·refine M.F Tryz.func50 ?_
   repeat'(first|refine M.gw ?_|refine M.zb ?_|refine M.bl ?_|fail)
   refine K.sq (AW.block ?_)
   repeat'(first|refine M.gw ?_|refine M.bl ?_|fail)
   refine AW.range xs.length (fun m=>∀j (hj:j<xs.length),j<m→xs[j].tyE (g)=0)
    (fun m=>([(0,.s .sz ((g).map ofT)),(3,.ptr 0 0),(28,.s .fm xs),(29,.i xs.length),(30,.i m)],⟨1,[(0,.var (Fm.mk 2 th [] xs).view)]⟩))
    (by omega) (fun m=>rfl) (fun m=>rfl) rfl (fun j hj h=>by omega) (M.W [some 0]) ?_ ?_
   ·intro m hm hP
    have hc:=args (g) hg (by omega) m hm
    repeat'(first|refine M.gw ?_|refine M.c2 (hc) ?_|refine M.cs ?_ ?_<;>intro h|fail)
    ·have hx:xs[m].tyE (g)≠0:=by simpa using h
     rw[he,firstI_at hm hP hx]
     rfl
    ·exact ⟨rfl,all_step (p:=fun x=>Fm.tyE (g) x=0) hm hP (by simpa using h),(M.W [some 0])⟩
   ·intro hP
    rw[he,firstI_none (f:=Fm.tyE (g)) fun j hj _=>hP j hj hj]
    repeat'(first|refine M.gw ?_|fail)
    rfl
  ·refine M.F Tryz.func50 ?_
   repeat'(first|refine M.gw ?_|refine M.zb ?_|refine M.bl ?_|fail)
   refine K.sq (AW.block ?_)
   repeat'(first|refine M.gw ?_|refine M.bl ?_|fail)
   refine AW.range xs.length (fun m=>∀j (hj:j<xs.length),j<m→xs[j].tyE (g)=0)
    (fun m=>([(0,.s .sz ((g).map ofT)),(3,.ptr 0 0),(28,.s .fm xs),(29,.i xs.length),(30,.i m)],⟨1,[(0,.var (Fm.mk 3 th [] xs).view)]⟩))
    (by omega) (fun m=>rfl) (fun m=>rfl) rfl (fun j hj h=>by omega) (M.W [some 0]) ?_ ?_
   ·intro m hm hP
    have hc:=args (g) hg (by omega) m hm
    repeat'(first|refine M.gw ?_|refine M.c2 (hc) ?_|refine M.cs ?_ ?_<;>intro h|fail)
    ·have hx:xs[m].tyE (g)≠0:=by simpa using h
     rw[he,firstI_at hm hP hx]
     rfl
    ·exact ⟨rfl,all_step (p:=fun x=>Fm.tyE (g) x=0) hm hP (by simpa using h),(M.W [some 0])⟩
   ·intro hP
    rw[he,firstI_none (f:=Fm.tyE (g)) fun j hj _=>hP j hj hj]
    repeat'(first|refine M.gw ?_|fail)
    rfl
 ·have e0:ctxF g (Fm.mk k th [] xs)=g++[th]:=by simp only[ctxF,quantK,Fm.kind_mk,Fm.ty_mk];rcases hk with rfl|rfl|rfl|rfl<;>rfl
  rw[e0] at he
  replace he:Fm.tyE g (Fm.mk k th [] xs)=firstI (Fm.tyE (g++[th])) xs:=by rw[he];simp[firstI]
  have hg':∀x∈g++[th],x.err=0:=fun x hx=>by
   rcases List.mem_append.1 hx with h|h
   ·exact hg x h
   ·simp at h;subst h;exact hth
  rcases hk with rfl|rfl|rfl|rfl
  ·refine M.F Tryz.func50 ?_
   repeat'(first|refine M.gw ?_|refine M.zb ?_|refine M.bl ?_|fail)
   refine K.sq (AW.block ?_)
   repeat'(first|refine M.gw ?_|refine M.c2 (hw) ?_|refine M.bl ?_|fail)
   refine AW.range xs.length (fun m=>∀j (hj:j<xs.length),j<m→xs[j].tyE (g++[th])=0)
    (fun m=>([(0,.s .sz ((g++[th]).map ofT)),(3,.ptr 0 0),(28,.s .fm xs),(29,.i xs.length),(30,.i m)],⟨1,[(0,.var (Fm.mk 4 th [] xs).view)]⟩))
    (by omega) (fun m=>rfl) (fun m=>rfl) rfl (fun j hj h=>by omega) (M.W [some 0]) ?_ ?_
   ·intro m hm hP
    have hc:=args (g++[th]) hg' (by simp;omega) m hm
    repeat'(first|refine M.gw ?_|refine M.c2 (hc) ?_|refine M.cs ?_ ?_<;>intro h|fail)
    ·have hx:xs[m].tyE (g++[th])≠0:=by simpa using h
     rw[he,firstI_at hm hP hx]
     rfl
    ·exact ⟨rfl,all_step (p:=fun x=>Fm.tyE (g++[th]) x=0) hm hP (by simpa using h),(M.W [some 0])⟩
   ·intro hP
    rw[he,firstI_none (f:=Fm.tyE (g++[th])) fun j hj _=>hP j hj hj]
    repeat'(first|refine M.gw ?_|fail)
    rfl
  ·refine M.F Tryz.func50 ?_
   repeat'(first|refine M.gw ?_|refine M.zb ?_|refine M.bl ?_|fail)
   refine K.sq (AW.block ?_)
   repeat'(first|refine M.gw ?_|refine M.c2 (hw) ?_|refine M.bl ?_|fail)
   refine AW.range xs.length (fun m=>∀j (hj:j<xs.length),j<m→xs[j].tyE (g++[th])=0)
    (fun m=>([(0,.s .sz ((g++[th]).map ofT)),(3,.ptr 0 0),(28,.s .fm xs),(29,.i xs.length),(30,.i m)],⟨1,[(0,.var (Fm.mk 5 th [] xs).view)]⟩))
    (by omega) (fun m=>rfl) (fun m=>rfl) rfl (fun j hj h=>by omega) (M.W [some 0]) ?_ ?_
   ·intro m hm hP
    have hc:=args (g++[th]) hg' (by simp;omega) m hm
    repeat'(first|refine M.gw ?_|refine M.c2 (hc) ?_|refine M.cs ?_ ?_<;>intro h|fail)
    ·have hx:xs[m].tyE (g++[th])≠0:=by simpa using h
     rw[he,firstI_at hm hP hx]
     rfl
    ·exact ⟨rfl,all_step (p:=fun x=>Fm.tyE (g++[th]) x=0) hm hP (by simpa using h),(M.W [some 0])⟩
   ·intro hP
    rw[he,firstI_none (f:=Fm.tyE (g++[th])) fun j hj _=>hP j hj hj]
    repeat'(first|refine M.gw ?_|fail)
    rfl
  ·refine M.F Tryz.func50 ?_
   repeat'(first|refine M.gw ?_|refine M.zb ?_|refine M.bl ?_|fail)
   refine K.sq (AW.block ?_)
   repeat'(first|refine M.gw ?_|refine M.c2 (hw) ?_|refine M.bl ?_|fail)
   refine AW.range xs.length (fun m=>∀j (hj:j<xs.length),j<m→xs[j].tyE (g++[th])=0)
    (fun m=>([(0,.s .sz ((g++[th]).map ofT)),(3,.ptr 0 0),(28,.s .fm xs),(29,.i xs.length),(30,.i m)],⟨1,[(0,.var (Fm.mk 6 th [] xs).view)]⟩))
    (by omega) (fun m=>rfl) (fun m=>rfl) rfl (fun j hj h=>by omega) (M.W [some 0]) ?_ ?_
   ·intro m hm hP
    have hc:=args (g++[th]) hg' (by simp;omega) m hm
    repeat'(first|refine M.gw ?_|refine M.c2 (hc) ?_|refine M.cs ?_ ?_<;>intro h|fail)
    ·have hx:xs[m].tyE (g++[th])≠0:=by simpa using h
     rw[he,firstI_at hm hP hx]
     rfl
    ·exact ⟨rfl,all_step (p:=fun x=>Fm.tyE (g++[th]) x=0) hm hP (by simpa using h),(M.W [some 0])⟩
   ·intro hP
    rw[he,firstI_none (f:=Fm.tyE (g++[th])) fun j hj _=>hP j hj hj]
    repeat'(first|refine M.gw ?_|fail)
    rfl
  ·refine M.F Tryz.func50 ?_
   repeat'(first|refine M.gw ?_|refine M.zb ?_|refine M.bl ?_|fail)
   refine K.sq (AW.block ?_)
   repeat'(first|refine M.gw ?_|refine M.c2 (hw) ?_|refine M.bl ?_|fail)
   refine AW.range xs.length (fun m=>∀j (hj:j<xs.length),j<m→xs[j].tyE (g++[th])=0)
    (fun m=>([(0,.s .sz ((g++[th]).map ofT)),(3,.ptr 0 0),(28,.s .fm xs),(29,.i xs.length),(30,.i m)],⟨1,[(0,.var (Fm.mk 7 th [] xs).view)]⟩))
    (by omega) (fun m=>rfl) (fun m=>rfl) rfl (fun j hj h=>by omega) (M.W [some 0]) ?_ ?_
   ·intro m hm hP
    have hc:=args (g++[th]) hg' (by simp;omega) m hm
    repeat'(first|refine M.gw ?_|refine M.c2 (hc) ?_|refine M.cs ?_ ?_<;>intro h|fail)
    ·have hx:xs[m].tyE (g++[th])≠0:=by simpa using h
     rw[he,firstI_at hm hP hx]
     rfl
    ·exact ⟨rfl,all_step (p:=fun x=>Fm.tyE (g++[th]) x=0) hm hP (by simpa using h),(M.W [some 0])⟩
   ·intro hP
    rw[he,firstI_none (f:=Fm.tyE (g++[th])) fun j hj _=>hP j hj hj]
    repeat'(first|refine M.gw ?_|fail)
    rfl
theorem fmTyped_c(g:List Ty)(f:Fm)(hf:f.full<34359738368)(hg:ctxErr g=0)(hg':∀x∈g,x.err=0)(hl:g.length<4096)(hs:(g.map Ty.size).sum<137438953472)(he:f.err=0):PC E 14 [.s .ty g,.agg f.view] (.i (f.tyE g)):=by
 have h1:=context2_c g (by omega)
 have h2:=fcheck_c f (by omega)
 have h3:=from_c g (by omega)
 have h4:=(Fm.err_iff f).1 he
 have h5:=cformula_c _ f g (Nat.le_refl _) (by omega) h4.1 h4.2 hg' (by omega)
 rw[hg] at h1
 rw[he] at h2
 refine M.F Tryz.func14 ?_
 repeat'(first|refine M.gw ?_|refine M.c2 (h1) ?_|refine M.c2 (h2) ?_|refine M.c2 (h3) ?_|refine M.c2 (h5) ?_|fail)
 simp[tupV,V.wk,V.wks,constV,Ty.view,Tm.view]
theorem false07_c:PC E 19 [] (.agg falseF.view):=by
 have h1:=n_c 4 [] (by simp)
 have h2:=n_c 5 [.mk 4 0 (.mk 0 []) []] (by simp[Tm.full,Tm.fulls,Ty.size,Ty.sizes])
 have h3:=eqFm_c (.mk 4 0 (.mk 0 []) []) (.mk 5 0 (.mk 0 []) [.mk 4 0 (.mk 0 []) []]) (by simp[Tm.full,Tm.fulls,Ty.size,Ty.sizes]) (by simp[Tm.full,Tm.fulls,Ty.size,Ty.sizes])
 refine M.F Tryz.func19 ?_
 repeat'(first|refine M.gw ?_|refine M.c2 (h1) ?_|refine M.c2 (h2) ?_|refine M.c2 (h3) ?_|fail)
 rfl
theorem sane07_c:PC E 4 [] (.bool true):=by
 have v0:=var_c 0
 have v1:=var_c 1
 have hu:=usesF_c exF (by decide) fun _=>exF_idx
 rw[exF_err,if_pos rfl,exF_uses] at hu
 have hs:=sameFm_r _ falseF (Nat.le_refl _) (by decide)
 refine M.F Tryz.func4 ?_
 repeat'(first|refine M.gw ?_|refine M.c2 (v0) ?_|refine M.c2 (v1) ?_|refine M.c2 (hu) ?_|refine M.c2 (ffalse_c) ?_|refine M.c2 (false07_c) ?_|refine M.c2 (hs) ?_|fail)
 all_goals rfl
def Fm.ixw(f:Fm):Prop:=f.err=0→∀p∈f.tms 0,∀q∈p.1.vars 0,0≤q.1∧q.1<9223372036854775808
def orFE(a b:Fm):Int:=if liftFErr a 0 1≠0 then liftFErr a 0 1 else if liftFErr b 0 1≠0 then liftFErr b 0 1 else(orA a b).err
def notE(f:Fm):Int:=if f.err≠0 then f.err else(notF f).err
def OkT(z:Tm):Prop:=z.full<1000000∧(z.err=0→∀p∈z.vars 0,0≤p.1∧p.1<9223372036854775808)
theorem fmTypedH_c(g:List Ty)(f:Fm)(hf:f.full<34359738368)(hs:(g.map Ty.size).sum<137438953472):PC E 14 [.s .ty g,.agg f.view] (.i (typedFC g f)):=by
 by_cases hg:ctxErr g=0
 case neg=>
  have h1:=context2_c g (by omega)
  unfold typedFC
  rw[if_pos hg]
  refine M.F Tryz.func14 ?_
  repeat'(first|refine M.go ?_|refine M.c2 (h1) ?_|refine M.z1 4 ?_|refine M.cs ?_ ?_<;>intro h|refine M.gk ?_|fail)
  all_goals first
   |rfl
   |(exfalso;simp at h;exact hg h)
 by_cases he:f.err=0
 case neg=>
  have h1:=context2_c g (by omega)
  have h2:=fcheck_c f (by omega)
  have e:typedFC g f=f.err:=by unfold typedFC;rw[if_neg (by simp[hg])];unfold typedF;rw[if_pos he]
  rw[e]
  rw[hg] at h1
  refine M.F Tryz.func14 ?_
  repeat'(first|refine M.go ?_|refine M.c2 (h1) ?_|refine M.c2 (h2) ?_|refine M.z1 7 ?_|refine M.cs ?_ ?_<;>intro h|refine M.gk ?_|fail)
  all_goals first
   |rfl
   |(exfalso;simp at h;exact he h)
 obtain⟨g1,g2⟩:=ctxErr_all hg
 have h:=fmTyped_c g f hf hg g2 (by omega) hs he
 have e:typedFC g f=f.tyE g:=by unfold typedFC;rw[if_neg (by simp[hg])];unfold typedF;rw[if_neg (by simp[he])]
 rw[e]
 exact h
theorem formulaSame_c(l:List Int):PC E 3 [.s .int l] (.bool true):=by
 by_cases hl:l.length≤500
 case neg=>
  have hf:=few_f l hl
  refine AC.mk Tryz.func3 rfl rfl rfl rfl rfl (Nat.le_of_ble_eq_true rfl) ?_
  repeat'(first|((with_reducible refine D.nil ?_);refine AX.nilL ?_)|((with_reducible refine D.move ?_);refine L.mv U U U ?_)|((with_reducible refine D.assign ?_);refine L.asg U U U ?_)|((with_reducible refine D.call ?_);first|refine L.c2 (sane07_c) U U U U ?_|refine L.c2 (hf) U U U U ?_)|((with_reducible refine D.not ?_);refine L.nt U U U ?_)|((with_reducible refine D.aw ?_);(fail_if_success with_reducible refine D.stopR (id:=5) ?_);(fail_if_success with_reducible refine D.stopS (id:=5) ?_);first|refine K.sq (AW.regL ?_)|refine K.sq (K.sq ?_)|refine AW.regL ?_|refine AW.condT U ?_|refine AW.condF U ?_|refine AW.skip ?_|refine AW.ret ?_)|with_reducible refine K.tN ?_|with_reducible refine K.tR ?_|with_reducible refine K.r1 (by with_unfolding_all rfl) (by with_unfolding_all rfl) ?_)
  all_goals first
   |rfl
   |(exfalso;simp at h;done)
 have hf:=few_t l hl
 have hn:=new_c l
 have d0:=deck_ok hl
 have hcx:=context_c (Dk.mk l 0) d0
 have hog:=Dk.ctx_smalls (Dk.mk l 0)
 have hogl:=Dk.ctx_len (Dk.mk l 0)
 have d1:=Dk.ctx_ok d0
 generalize (Dk.mk l 0).ctx.1=og at*
 generalize (Dk.mk l 0).ctx.2=D1 at*
 have ts:=type1_c D1 d1
 have hs:=Dk.type1 D1
 have d2:=Dk.type_ok 1 D1 d1
 generalize (D1.type 1).1=s at*
 generalize (D1.type 1).2=D2 at*
 have gs:=smalls_app hog (smalls_cons hs smalls_nil)
 have tx:=mkFm_c 2 D2 (og++[s]) 2 (by omega) rfl d2 gs (by simp;omega)
 obtain⟨gx1,gx2,gx3⟩:=Dk.fm_good 2 D2 (og++[s]) gs
 have d3:=Dk.fm_ok 2 D2 (og++[s]) d2
 have all:=fun d x hx=>same_all D2 d og s x hog hs (by omega) hx
 simp only at all
 generalize (Dk.fm 2 D2 (og++[s])).1=f at*
 generalize (Dk.fm 2 D2 (og++[s])).2=D3 at*
 have th:=reduced_c _ f D3 (Nat.le_refl _) (by omega) d3
 have fh:=redF_full f D3
 have d4:=redF_ok f D3 d3
 have all:=all D3
 generalize (redF D3 f).1=h at*
 generalize (redF D3 f).2=D4 at*
 have tt:=term_c 4 (by omega) D4 og s 2 (by omega) d4 hog hs (by omega) (by omega) (by omega)
 have mx:=Dk.tm_mk 4 D4 og s hog hs (by omega) (by omega)
 have fx:=mx.full hog hs
 have d5:=Dk.tm_ok 4 D4 og s d4
 have all:=all _ mx
 generalize (Dk.tm 4 D4 og s).1=x at*
 generalize (Dk.tm 4 D4 og s).2=D5 at*
 obtain⟨a1,a2,a3,a4,a5,a6,a7,a8,a9,a10⟩:=all
 have p1:=fput_c f 0 x (by omega) (by omega)
 have p2:=fput_c h 0 x (by omega) (by omega)
 rw[a1,if_pos rfl] at p1
 rw[a2,if_pos rfl] at p2
 have fa:=ferr_full a8
 have fb:=ferr_full (putF_err (by omega) a2)
 have fhh:=ferr_full a10
 have c1:=gfMatch_c f h (by omega) (by omega)
 have c2:=gfMatch_c h f (by omega) (by omega)
 have c3:=gfMatch_c (f.put 0 x) (h.put 0 x) (by omega) (by omega)
 have c4:=gfMatch_c f f (by omega) (by omega)
 rw[a6] at c4
 have k1:=smalls_sum hog
 have k2:=smalls_sum gs
 have c5:=fmTypedH_c og (f.put 0 x) (by omega) (by omega)
 have c6:=fmTypedH_c (og++[s]) h (by omega) (by simp at k2 ⊢;omega)
 rw[okT_typedFC a7 a8 (ctxErr_ok hog (by omega))] at c5
 rw[okT_typedFC a9 a10 (ctxErr_ok gs (by simp;omega))] at c6
 generalize mtchF f h=e1 at*
 generalize mtchF h f=e2 at*
 generalize mtchF (f.put 0 x) (h.put 0 x)=e3 at*
 generalize f.put 0 x=fa' at*
 generalize h.put 0 x=fb' at*
 refine AC.mk Tryz.func3 rfl rfl rfl rfl rfl (Nat.le_of_ble_eq_true rfl) ?_
 repeat'(first|((with_reducible refine D.nil ?_);first|refine AX.nilL ?_|refine AX.nilD (by kernel_rfl) ?_)|((with_reducible refine D.load ?_);refine L.ldb U U U U U U ?_)|((with_reducible refine D.move ?_);refine L.mv U U U ?_)|((with_reducible refine D.assign ?_);refine L.asg U U U ?_)|((with_reducible refine D.bin ?_);refine L.bn U U U U U ?_)|((with_reducible refine D.call ?_);first|refine L.apt U U U U U U (by first|exact trivial|exact⟨rfl,trivial⟩) U U (by first|omega|(simp;omega)) ?_|refine L.c2 (sane07_c) U U U U ?_|refine L.c2 (hf) U U U U ?_|(apply L.cb2 (hn) [] 1 rfl;rfl;rfl;rfl;rfl;rfl;rfl;(focus((repeat'(first|exact trivial));done));rfl;rfl;rfl;rfl)|(apply L.cb2 (hcx) [0] 0 rfl;rfl;rfl;rfl;rfl;rfl;rfl;(focus((repeat'(first|exact trivial|refine And.intro ?_ ?_|refine⟨_,U,_,U,_,U,?_⟩|exact VLe.refl _));done));rfl;rfl;rfl;rfl)|(apply L.cb2 (ts) [0] 0 rfl;rfl;rfl;rfl;rfl;rfl;rfl;(focus((repeat'(first|exact trivial|refine And.intro ?_ ?_|refine⟨_,U,_,U,_,U,?_⟩|exact VLe.refl _));done));rfl;rfl;rfl;rfl)|(apply L.cb2 (tx) [0] 0 rfl;rfl;rfl;rfl;rfl;rfl;rfl;(focus((repeat'(first|exact trivial|refine And.intro ?_ ?_|refine⟨_,U,_,U,_,U,?_⟩|exact VLe.refl _));done));rfl;rfl;rfl;rfl)|(apply L.cb2 (th) [0] 0 rfl;rfl;rfl;rfl;rfl;rfl;rfl;(focus((repeat'(first|exact trivial|refine And.intro ?_ ?_|refine⟨_,U,_,U,_,U,?_⟩|exact VLe.refl _));done));rfl;rfl;rfl;rfl)|(apply L.cb2 (tt) [0] 0 rfl;rfl;rfl;rfl;rfl;rfl;rfl;(focus((repeat'(first|exact trivial|refine And.intro ?_ ?_|refine⟨_,U,_,U,_,U,?_⟩|exact VLe.refl _));done));rfl;rfl;rfl;rfl)|refine L.c2 (p1) U U U U ?_|refine L.c2 (p2) U U U U ?_)|((with_reducible refine D.extract ?_);refine L.ex U U U U ?_)|((with_reducible refine D.alloc ?_);refine L.al U U U ?_)|((with_reducible refine D.store ?_);refine L.st U U U U U U U U U ?_)|((with_reducible refine D.not ?_);refine L.nt U U U ?_)|((with_reducible refine D.pick ?_);refine L.pk U U U U ?_)|((with_reducible refine D.ax ?_);refine L.bs1 U U U U U (EC.fold_of U) U U ?_)|((with_reducible refine D.aw ?_);(fail_if_success with_reducible refine D.stopR (id:=15) ?_);(fail_if_success with_reducible refine D.stopS (id:=15) ?_);first|refine K.sq (AW.regL ?_)|refine K.sq (AW.regD mixed (by kernel_rfl) ?_)|refine K.sq (K.sq ?_)|refine AW.regL ?_|refine AW.condF U ?_|refine AW.skip ?_)|with_reducible refine K.tN ?_)
 repeat'(first|((with_reducible refine D.nil ?_);refine AX.nilD (by kernel_rfl) ?_)|((with_reducible refine D.load ?_);refine L.ldb U U U U U U ?_)|((with_reducible refine D.move ?_);refine L.mv U U U ?_)|((with_reducible refine D.call ?_);first|refine L.lnt U U U U ?_|refine L.c2 (c1) U U U U ?_|refine L.c2 (c2) U U U U ?_|refine L.c2 (c3) U U U U ?_)|((with_reducible refine D.ax ?_);refine L.bs3 U U U U U (EC.fold_of U) U U U (EC.fold_of U) U U U (EC.fold_of U) U U ?_)|((with_reducible refine D.aw ?_);(fail_if_success with_reducible refine D.stopR (id:=16) ?_);(fail_if_success with_reducible refine D.stopS (id:=16) ?_);first|refine K.sq (K.sq ?_)|refine AW.regD mixed (by kernel_rfl) ?_)|with_reducible refine K.tN ?_)
 have oe:∀e∈[e1,e2,e3],S3 e:=by
  intro e he
  simp only[List.mem_cons,List.not_mem_nil,or_false] at he
  rcases he with rfl|rfl|rfl
  ·exact a3
  ·exact a4
  ·exact a5
 refine AW.range 3 (fun m=>True)
  (fun m=>([(4,.s .ty og),(5,.ptr 0 0),(6,.ptr 1 0),(7,.ptr 2 0),(9,.ptr 3 0),(67,.s .int [e1,e2,e3]),(68,.i 3),(69,.i m)],⟨4,[(0,.var s.view),(1,.var f.view),(2,.var h.view),(3,.var fa'.view)]⟩))
  (by omega) (fun m=>rfl) (fun m=>rfl) U trivial (Weak.mk [some 1,some 4,some 5,some 7] _ _ _ U U U U (by(repeat'(first|exact trivial|refine And.intro ?_ ?_|refine⟨_,U,_,U,?_⟩|exact VLe.refl _|exact VLe.any _ _));done) (by(repeat'(first|exact trivial|refine And.intro ?_ ?_|refine⟨_,U,_,U,_,U,?_⟩|exact VLe.refl _));done)) ?_ ?_
 ·intro m hm _
  have hwm:m<[e1,e2,e3].length:=hm
  have hwe:=oe [e1,e2,e3][m] (List.getElem_mem hwm)
  generalize hww:[e1,e2,e3][m]=e at*
  repeat'(first|((with_reducible refine D.nil ?_);refine AX.nilL ?_)|((with_reducible refine D.load ?_);refine L.lda U U U U U ?_)|((with_reducible refine D.assign ?_);refine L.asg U U U ?_)|((with_reducible refine D.indexAddr ?_);refine L.ixt _ U U U U U U U (by first|assumption|fail) ?_)|((with_reducible refine D.aw ?_);(fail_if_success with_reducible refine D.stopR (id:=18) ?_);(fail_if_success with_reducible refine D.stopS (id:=18) ?_);refine K.sq (AW.regL ?_))|with_reducible refine K.tN ?_)
  simp only[hww]
  repeat'(first|((with_reducible refine D.nil ?_);refine AX.nilL ?_)|((with_reducible refine D.move ?_);first|refine L.mv U U U ?_|refine AX.sk U U ?_|((fail_if_success refine AX.wt U ?_);refine AX.gs U U (fun _=>trivial) (fun h=> ?_) (fun h=> ?_)))|((with_reducible refine D.assign ?_);refine L.asg U U U ?_)|((with_reducible refine D.bin ?_);first|refine L.bn U U U U U ?_|refine AX.sk U U ?_)|((with_reducible refine D.pick ?_);refine L.pk U U U U ?_)|((with_reducible refine D.aw ?_);first|refine K.sq (AW.regL ?_)|refine AW.condF U ?_|refine AW.condS U (fun h=> ?_) (fun h=> ?_)|refine AW.skip ?_|refine AW.ret ?_)|with_reducible refine K.tN ?_|with_reducible refine K.bN ?_|with_reducible refine K.tR ?_|with_reducible refine K.bR ?_|with_reducible refine K.gR ?_|with_reducible refine K.r1 (by with_unfolding_all rfl) (by with_unfolding_all rfl) ?_)
  all_goals first
   |exact⟨rfl,trivial,(Weak.mk [some 0,some 1,some 2,some 3] _ _ _ U U U U (by(repeat'(first|exact trivial|refine And.intro ?_ ?_|refine⟨_,U,_,U,?_⟩|exact VLe.refl _));done) (by(repeat'(first|exact trivial|refine And.intro ?_ ?_|refine⟨_,U,_,U,_,U,?_⟩|exact VLe.refl _));done))⟩
   |(exfalso;simp only[beq_iff_eq,beq_eq_false_iff_ne,ne_eq,bne_iff_ne,bne_eq_false_iff_eq] at*;rcases hwe with hwe|hwe|hwe<;>omega)
 ·intro _
  repeat'(first|((with_reducible refine D.nil ?_);refine AX.nilD (by kernel_rfl) ?_)|((with_reducible refine D.load ?_);refine L.ldb U U U U U U ?_)|((with_reducible refine D.move ?_);refine L.mv U U U ?_)|((with_reducible refine D.assign ?_);refine L.asg U U U ?_)|((with_reducible refine D.bin ?_);refine L.bn U U U U U ?_)|((with_reducible refine D.call ?_);first|refine L.apt U U U U U U (by first|exact trivial|exact⟨rfl,trivial⟩) U U (by first|omega|(simp;omega)) ?_|refine L.c2 (c4) U U U U ?_|refine L.c2 (c5) U U U U ?_|refine L.c2 (c6) U U U U ?_)|((with_reducible refine D.pick ?_);refine L.pk U U U U ?_)|((with_reducible refine D.ax ?_);refine L.bs1 U U U U U (EC.fold_of U) U U ?_)|((with_reducible refine D.aw ?_);first|refine K.sq (AW.regD mixed (by kernel_rfl) ?_)|refine AW.ret ?_)|with_reducible refine K.tN ?_|with_reducible refine K.r1 (by with_unfolding_all rfl) (by with_unfolding_all rfl) ?_)
  all_goals rfl
end Go.Ab
