/- A part of the proofs of this seat's statements: S78, Y0, Y1, S73, S75, S77, S173, S81, S174, S193. It has no conditions of its own. -/
import Derived.Test.YtcohcngdoeadgaaGreatDoorS4
import Derived.Test.YtcohcngdoeadgaaGreatDoorAT1
import Derived.Test.YtcohcngdoeadgaaGreatDoorDT1
import Derived.Shelf.SlIterI.Sorted
import Derived.Shelf.SlIterI.Keys
import Derived.Shelf.SortM.Plain
import Derived.Shelf.SortM.SortNone
import Derived.Test.YtcohcngdoeadgaaGreatDoorRows
import Derived.Test.YtcohcngdoeadgaaGreatDoorS1
import Derived.Test.YtcohcngdoeadgaaGreatDoorA2
import Derived.Test.YtcohcngdoeadgaaGreatDoorS3
import Derived.Test.YtcohcngdoeadgaaGreatDoorD1
import Derived.Test.YtcohcngdoeadgaaGreatDoorS6
import Derived.Test.YtcohcngdoeadgaaGreatDoorS2
import Derived.Test.YtcohcngdoeadgaaGreatDoorS5
import Derived.Test.YtcohcngdoeadgaaGreatDoorS8
import Derived.Test.YtcohcngdoeadgaaGreatDoorA3
namespace Go.Ab
open Go Go.Proofs
set_option maxRecDepth 100000
set_option maxHeartbeats 4000000
set_option linter.all false
def srJ(r:Nat):List Int→AF×Sto
 |[]=>([(3,.slice .nil (.t .int [])),(7,.raw (.pointer (some ⟨r,0,none⟩)))],⟨1,[(0,.gone)]⟩)
 |x::d=>([(3,.arr 1 (d.length+1) 1),(7,.raw (.pointer (some ⟨r,0,none⟩)))],⟨2,[(1,.var ((sortI (x::d)).flatMap EC.int.view)),(0,.gone)]⟩)
def srL(r:Nat)(l:List Int)(q:Int)(i:Nat):AF×Sto:=([(3,.arr 1 (l.length+1) 1),(4,.i q),(5,.i i),(7,.raw (.pointer (some ⟨r,0,none⟩)))],⟨2,[(1,.var ((insS (sortI l) q i).flatMap EC.int.view)),(0,.gone)]⟩)
end Go.Ab
namespace Go.Proofs
open Go.Shelf
def Tryz.keysA_ren:Go.Shelf.Ren:=⟨fun|7=>41|10=>74|n=>n,fun|23=>65|26=>3|3=>4|28=>72|0=>0|27=>71|33=>95|4=>4|n=>n,fun|n=>n⟩
theorem Tryz.keysA:Go.Proofs.SlLaysZI.n7 Tryz.prog Tryz.keysA_ren:={
 mixed:=by kernel_rfl
 f7:=⟨Tryz.f41.name,by decide,Tryz.func41.trans (congrArg some (by kernel_rfl))⟩
 f10:=⟨Tryz.f74.name,by decide,Tryz.func74.trans (congrArg some (by kernel_rfl))⟩
 t0:=Tryz.underlying0
 a0:=Tryz.isAgg0
 z0:=Tryz.sizeOf0
 v0:=Tryz.zeroValue0
 t4:=Tryz.underlying4
 a4:=Tryz.isAgg4
 z4:=Tryz.sizeOf4
 v4:=Tryz.zeroValue4
 t23:=Tryz.underlying65
 a23:=Tryz.isAgg65
 z23:=Tryz.sizeOf65
 v23:=Tryz.zeroValue65
 t26:=Tryz.underlying3
 a26:=Tryz.isAgg3
 z26:=Tryz.sizeOf3
 v26:=Tryz.zeroValue3
 t27:=Tryz.underlying71
 a27:=Tryz.isAgg71
 z27:=Tryz.sizeOf71
 v27:=Tryz.zeroValue71
 t28:=Tryz.underlying72
 a28:=Tryz.isAgg72
 z28:=Tryz.sizeOf72
 v28:=Tryz.zeroValue72
 t33:=Tryz.underlying95
 a33:=Tryz.isAgg95
 z33:=Tryz.sizeOf95
 v33:=Tryz.zeroValue95}
def Tryz.sortedA_ren:Go.Shelf.Ren:=⟨fun|6=>40|8=>72|9=>73|11=>94|13=>96|12=>95|23=>121|24=>122|14=>112|15=>113|16=>114|17=>115|18=>116|19=>117|20=>118|21=>119|22=>120|25=>135|26=>136|27=>137|28=>138|29=>139|30=>140|31=>145|n=>n,fun|26=>3|28=>72|24=>22|0=>0|3=>3|37=>111|48=>132|50=>134|4=>4|40=>125|39=>124|45=>102|5=>5|9=>9|51=>145|55=>149|57=>155|58=>156|33=>95|n=>n,fun|n=>n⟩
theorem Tryz.sortedA:Go.Proofs.SlLaysZI.n6 Tryz.prog Tryz.sortedA_ren:={
 mixed:=by kernel_rfl
 f6:=⟨Tryz.f40.name,by decide,Tryz.func40.trans (congrArg some (by kernel_rfl))⟩
 f8:=⟨Tryz.f72.name,by decide,Tryz.func72.trans (congrArg some (by kernel_rfl))⟩
 f11:=⟨Tryz.f94.name,by decide,Tryz.func94.trans (congrArg some (by kernel_rfl))⟩
 t0:=Tryz.underlying0
 a0:=Tryz.isAgg0
 z0:=Tryz.sizeOf0
 v0:=Tryz.zeroValue0
 t24:=Tryz.underlying22
 a24:=Tryz.isAgg22
 z24:=Tryz.sizeOf22
 v24:=Tryz.zeroValue22
 t26:=Tryz.underlying3
 a26:=Tryz.isAgg3
 z26:=Tryz.sizeOf3
 v26:=Tryz.zeroValue3
 t28:=Tryz.underlying72
 a28:=Tryz.isAgg72
 z28:=Tryz.sizeOf72
 v28:=Tryz.zeroValue72
 i26:=by kernel_rfl}
def Tryz.sortA_ren:Go.Shelf.Ren:=⟨fun|5=>73|8=>96|7=>95|19=>121|20=>122|10=>112|11=>113|12=>114|13=>115|14=>116|15=>117|16=>118|17=>119|18=>120|30=>135|31=>136|32=>137|33=>138|34=>139|35=>140|40=>145|n=>n,fun|23=>22|25=>3|3=>3|32=>111|22=>22|0=>0|44=>132|46=>134|4=>4|36=>125|35=>124|41=>102|5=>5|9=>9|53=>145|57=>149|63=>155|64=>156|n=>n,fun|n=>n⟩
theorem Tryz.sortA:Go.Proofs.SlLaysM.n5 Tryz.prog Tryz.sortA_ren:={
 mixed:=by kernel_rfl
 f5:=⟨Tryz.f73.name,by decide,Tryz.func73.trans (congrArg some (by kernel_rfl))⟩
 f7:=⟨Tryz.f95.name,by decide,Tryz.func95.trans (congrArg some (by kernel_rfl))⟩
 f8:=Tryz.func96.trans (congrArg some (by kernel_rfl))
 f10:=⟨Tryz.f112.name,by decide,Tryz.func112.trans (congrArg some (by kernel_rfl))⟩
 f11:=⟨Tryz.f113.name,by decide,Tryz.func113.trans (congrArg some (by kernel_rfl))⟩
 f12:=⟨Tryz.f114.name,by decide,Tryz.func114.trans (congrArg some (by kernel_rfl))⟩
 f13:=⟨Tryz.f115.name,by decide,Tryz.func115.trans (congrArg some (by kernel_rfl))⟩
 f14:=⟨Tryz.f116.name,by decide,Tryz.func116.trans (congrArg some (by kernel_rfl))⟩
 f15:=⟨Tryz.f117.name,by decide,Tryz.func117.trans (congrArg some (by kernel_rfl))⟩
 f16:=⟨Tryz.f118.name,by decide,Tryz.func118.trans (congrArg some (by kernel_rfl))⟩
 f17:=⟨Tryz.f119.name,by decide,Tryz.func119.trans (congrArg some (by kernel_rfl))⟩
 f18:=⟨Tryz.f120.name,by decide,Tryz.func120.trans (congrArg some (by kernel_rfl))⟩
 f19:=Tryz.func121.trans (congrArg some (by kernel_rfl))
 f20:=Tryz.func122.trans (congrArg some (by kernel_rfl))
 f30:=⟨Tryz.f135.name,by decide,Tryz.func135.trans (congrArg some (by kernel_rfl))⟩
 f31:=Tryz.func136.trans (congrArg some (by kernel_rfl))
 f32:=Tryz.func137.trans (congrArg some (by kernel_rfl))
 f33:=⟨Tryz.f138.name,by decide,Tryz.func138.trans (congrArg some (by kernel_rfl))⟩
 f34:=⟨Tryz.f139.name,by decide,Tryz.func139.trans (congrArg some (by kernel_rfl))⟩
 f35:=⟨Tryz.f140.name,by decide,Tryz.func140.trans (congrArg some (by kernel_rfl))⟩
 f40:=⟨Tryz.f145.name,by decide,Tryz.func145.trans (congrArg some (by kernel_rfl))⟩
 t0:=Tryz.underlying0
 a0:=Tryz.isAgg0
 z0:=Tryz.sizeOf0
 v0:=Tryz.zeroValue0
 t3:=Tryz.underlying3
 a3:=Tryz.isAgg3
 z3:=Tryz.sizeOf3
 v3:=Tryz.zeroValue3
 t4:=Tryz.underlying4
 a4:=Tryz.isAgg4
 z4:=Tryz.sizeOf4
 v4:=Tryz.zeroValue4
 t5:=Tryz.underlying5
 a5:=Tryz.isAgg5
 z5:=Tryz.sizeOf5
 v5:=Tryz.zeroValue5
 t9:=Tryz.underlying9
 a9:=Tryz.isAgg9
 z9:=Tryz.sizeOf9
 v9:=Tryz.zeroValue9
 t22:=Tryz.underlying22
 a22:=Tryz.isAgg22
 z22:=Tryz.sizeOf22
 v22:=Tryz.zeroValue22
 t23:=Tryz.underlying22
 a23:=Tryz.isAgg22
 z23:=Tryz.sizeOf22
 v23:=Tryz.zeroValue22
 t25:=Tryz.underlying3
 a25:=Tryz.isAgg3
 z25:=Tryz.sizeOf3
 v25:=Tryz.zeroValue3
 t32:=Tryz.underlying111
 a32:=Tryz.isAgg111
 z32:=Tryz.sizeOf111
 v32:=Tryz.zeroValue111
 t35:=Tryz.underlying124
 a35:=Tryz.isAgg124
 z35:=Tryz.sizeOf124
 v35:=Tryz.zeroValue124
 t36:=Tryz.underlying125
 a36:=Tryz.isAgg125
 z36:=Tryz.sizeOf125
 v36:=Tryz.zeroValue125
 t41:=Tryz.underlying102
 a41:=Tryz.isAgg102
 z41:=Tryz.sizeOf102
 v41:=Tryz.zeroValue102
 t44:=Tryz.underlying132
 a44:=Tryz.isAgg132
 z44:=Tryz.sizeOf132
 v44:=Tryz.zeroValue132
 t46:=Tryz.underlying134
 a46:=Tryz.isAgg134
 z46:=Tryz.sizeOf134
 v46:=Tryz.zeroValue134
 t53:=Tryz.underlying145
 a53:=Tryz.isAgg145
 z53:=Tryz.sizeOf145
 v53:=Tryz.zeroValue145
 t57:=Tryz.underlying149
 a57:=Tryz.isAgg149
 z57:=Tryz.sizeOf149
 v57:=Tryz.zeroValue149
 t63:=Tryz.underlying155
 a63:=Tryz.isAgg155
 z63:=Tryz.sizeOf155
 v63:=Tryz.zeroValue155
 t64:=Tryz.underlying156
 a64:=Tryz.isAgg156
 z64:=Tryz.sizeOf156
 v64:=Tryz.zeroValue156}
end Go.Proofs
namespace Go.Ab
open Go Go.Proofs Go.RowKit
set_option linter.all false
set_option maxRecDepth 100000
theorem sorts_in(m:Nat):AnyZI.SortsIn E.P Tryz.sortedA_ren Fence.wide m:=
 ⟨fun blk off cap ss W hH hblk hsz=>callsIn_wide.2 (AnyM.slices_Sort_int Tryz.sortA blk off cap ss W hH hblk hsz),fun p cap W=>callsIn_wide.2 (AnyM.slices_Sort_int_none Tryz.sortA p cap W)⟩
theorem mapKeys_c{σ:Sto}{n:Nat}(h:n<σ.nx):AC E 41 [.mp n] σ (.fn (.func 74) [] [.ptr σ.nx 0]) ⟨σ.nx+1,(σ.nx,.var [.mp n])::σ.es⟩:=
 AC.mapKeys (E:=E) (ρ7:=Tryz.keysA_ren) Tryz.keysA (enters_of Tryz.func41 (by kernel_rfl) rfl) h
theorem sorted_c{σ:Sto}{n b:Nat}{c:EC}{ks:List Int}{xs:List c.sem}(hb:findE σ.es b=some (.var [.mp n]))(hn:findE σ.es n=some (.map c ks xs))
 (hnd:ks.Nodup) (hwf:∀x∈ks,(Lit.int .i64 x).wf=true) (hmax:ks.length<549755813888):
 AC E 40 [.fn (.func 74) [] [.ptr b 0]] σ (.s .int (sortI ks)) σ:=
 AC.sortedKeys (E:=E) (ρ7:=Tryz.keysA_ren) (ρ6:=Tryz.sortedA_ren) Tryz.keysA Tryz.sortedA sorts_in (enters_of Tryz.func40 (by kernel_rfl) rfl) (enters_of Tryz.func73 (by kernel_rfl) rfl)
  (enters_of Tryz.func74 (by kernel_rfl) rfl) (by kernel_rfl) hb hn hnd hwf (Nat.le_trans (Nat.le_of_lt hmax) (by decide)) (by omega)
end Go.Ab
namespace Go.Ab
open Go Go.Proofs
set_option maxRecDepth 100000
set_option maxHeartbeats 4000000
set_option linter.all false
theorem usesFCb(ks:List Int)(i bl ab:Int)(hi:0≤i∧i<9223372036854775808)(hb:0≤bl∧bl<1099511627776)(ha:0≤ab∧ab<1099511627776):AC E 39 [.i i,.i bl,.ptr 0 0,.ptr 1 0] ⟨3,[(0,.var [.i ab]),(1,.var [.mp 2]),(2,.map .bl ks (List.replicate ks.length true))]⟩ (.tup [])
 ⟨3,[(0,.var [.i ab]),(1,.var [.mp 2]),(2,.map .bl (nub ks (fre [(i,bl+ab)])) (List.replicate (nub ks (fre [(i,bl+ab)])).length true))]⟩:=by
 have e:i-bl-ab=i-(bl+ab):=by omega
 refine M.F Tryz.func39 ?_
 repeat'(first|refine M.gw ?_|refine M.cs ?_ ?_<;>intro h|fail)
 ·have h2:bl+ab≤i:=by simp at h;omega
  (exact M.n2 [some 0,some 1,some 2] (h6:=(by(repeat'(first|exact trivial|refine And.intro ?_ ?_|refine⟨_,U,_,U,_,U,?_⟩|exact VLe.refl _|refine⟨_,U,_,_,U,?_,?_⟩|(simp[Sto.upd,fre_one,nub_one,putCs_same,if_pos h2,e];done)));done)) (h8:=(by simp[tupV,V.wk,V.wks,constV,Ty.view,Tm.view,fre_one,nub_one,putCs_same,if_pos h2,e])))
 ·have h2:¬bl+ab≤i:=by simp at h;omega
  (exact M.n2 [some 0,some 1,some 2] (h6:=(by(repeat'(first|exact trivial|refine And.intro ?_ ?_|refine⟨_,U,_,U,_,U,?_⟩|exact VLe.refl _|refine⟨_,U,_,_,U,?_,?_⟩|(simp[Sto.upd,fre_one,nub_nil,if_neg h2];done)));done)) (h8:=(by simp[tupV,V.wk,V.wks,constV,Ty.view,Tm.view,fre_one,nub_nil,if_neg h2])))
theorem usesFEach1(ab:Int)(hab:0≤ab∧ab<1099511627776):∀(n:Nat) (t:Tm) (ks:List Int) (bl:Int),t.full≤n→n<1099511627776→0≤bl→bl+n<1099511627776→(∀p∈t.vars (bl+ab),0≤p.1∧p.1<9223372036854775808)→AC E 71 [.agg t.view,.i bl,.ptr 0 0,.ptr 1 0] ⟨5,[(0,.var [.fn (.func 39) [] [.ptr 2 0,.ptr 3 0]]),(1,.var [.fn (.func 71) [] [.ptr 0 0,.ptr 1 0]]),(2,.var [.i ab]),(3,.var [.mp 4]),(4,.map .bl ks (List.replicate ks.length true))]⟩ (.tup [])
 ⟨5,[(0,.var [.fn (.func 39) [] [.ptr 2 0,.ptr 3 0]]),(1,.var [.fn (.func 71) [] [.ptr 0 0,.ptr 1 0]]),(2,.var [.i ab]),(3,.var [.mp 4]),(4,.map .bl (nub ks (fre (t.vars (bl+ab)))) (List.replicate (nub ks (fre (t.vars (bl+ab)))).length true))]⟩:=by
 intro n
 induction n with
 |zero=>intro t b bl h;have:=t.full_pos;omega
 |succ n ih=>
 intro t ks bl hsz hb hbl hbn hix
 have hsz':=Tm.full_eq t
 have hlen:=lsum_len Tm.full Tm.full_pos t.args
 have hv:=Tm.vars_eq (bl+ab) t
 rw[show up t.kind (bl+ab)=up t.kind bl+ab by simp only[up];split<;>omega] at hv
 have hi:t.kind=1→0≤t.index∧t.index<9223372036854775808:=fun h=>by simpa using hix (t.index,bl+ab) (by rw[hv];simp[h])
 have hcb:t.kind=1→_:=fun h=>usesFCb ks t.index bl ab (hi h) (by omega) hab
 refine M.F Tryz.func71 ?_
 repeat'(first|refine M.gw ?_|refine M.cv (hcb (by simpa using h)) [2,3,4] 0 ?_|refine M.cs ?_ ?_<;>intro h|fail)
 all_goals
  have hup:up t.kind bl≤bl+1:=by simp only[up];split<;>omega
  have hup0:0≤up t.kind bl:=by simp only[up];split<;>omega
  refine AW.range t.args.length (fun m=>True)
   (fun m=>([(1,.i (up t.kind bl)),(3,.ptr 1 0),(22,.s .tm t.args),(23,.i t.args.length),(24,.i m)],⟨6,[(0,.var [.fn (.func 39) [] [.ptr 2 0,.ptr 3 0]]),(1,.var [.fn (.func 71) [] [.ptr 0 0,.ptr 1 0]]),(2,.var [.i ab]),(3,.var [.mp 4]),(4,.map .bl (nub ks (fre ((if t.kind=1 then [(t.index,bl+ab)] else [])++(t.args.take m).flatMap (Tm.vars (up t.kind bl+ab))))) (List.replicate (nub ks (fre ((if t.kind=1 then [(t.index,bl+ab)] else [])++(t.args.take m).flatMap (Tm.vars (up t.kind bl+ab))))).length true)),(5,.var t.view)]⟩))
   (by omega) (fun m=>rfl) (fun m=>rfl) rfl trivial ?_ ?_ ?_
  ·simp_all only[beq_iff_eq,beq_eq_false_iff_ne,ne_eq]
   exact(M.W [some 0,some 1,some 2,some 3,some 4,some 5] (hf:=(by(repeat'(first|exact trivial|refine And.intro ?_ ?_|refine⟨_,U,_,U,?_⟩|exact VLe.refl _|exact VLe.of_eq (by simp[Sto.upd,up, *,fre_app,fre_nil,nub_nil])));done)) (he:=(by(repeat'(first|exact trivial|refine And.intro ?_ ?_|refine⟨_,U,_,U,_,U,?_⟩|exact VLe.refl _|refine⟨_,U,_,_,U,?_,?_⟩|(simp[Sto.upd,up, *,fre_app,fre_nil,nub_nil];done)));done)))
  ·intro m hm hP
   have hs2:=lsum_mem Tm.full (List.getElem_mem hm)
   have hix':∀p∈(t.args[m]).vars (up t.kind bl+ab),0≤p.1∧p.1<9223372036854775808:=fun p hp=>hix p (by rw[hv];exact List.mem_append_right _ (List.mem_flatMap.2 ⟨_,List.getElem_mem hm,hp⟩))
   have hc:=ih t.args[m] (nub ks (fre ((if t.kind=1 then [(t.index,bl+ab)] else [])++(t.args.take m).flatMap (Tm.vars (up t.kind bl+ab))))) (up t.kind bl) (by omega) (by omega) hup0 (by omega) hix'
   repeat'(first|refine M.gw ?_|refine M.cv (hc) [0,1,2,3,4] 0 ?_|fail)
   refine⟨rfl,trivial,?_⟩
   exact(M.W [some 0,some 1,some 2,some 3,some 4,some 5] (he:=(by(repeat'(first|exact trivial|refine And.intro ?_ ?_|refine⟨_,U,_,U,_,U,?_⟩|exact VLe.refl _|refine⟨_,U,_,_,U,?_,?_⟩|(simp[Sto.upd,fre_app,nub_app,flat_take _ _ _ hm,←List.append_assoc];done)));done)))
  ·intro hP
   skip
   (exact M.n2 [some 0,some 1,some 2,some 3,some 4] (h6:=(by(repeat'(first|exact trivial|refine And.intro ?_ ?_|refine⟨_,U,_,U,_,U,?_⟩|exact VLe.refl _|refine⟨_,U,_,_,U,?_,?_⟩|(simp[Sto.upd,hv];done)));done)) (h8:=(by simp[tupV,V.wk,V.wks,constV,Ty.view,Tm.view,hv])))
theorem usesFEach(ab:Int)(hab:0≤ab∧ab<1099511627776)(ks:List Int)(t:Tm)(ht:t.full<549755813888)(hix:∀p∈t.vars ab,0≤p.1∧p.1<9223372036854775808):AC E 38 [.agg t.view,.fn (.func 39) [] [.ptr 0 0,.ptr 1 0]] ⟨3,[(0,.var [.i ab]),(1,.var [.mp 2]),(2,.map .bl ks (List.replicate ks.length true))]⟩ (.tup []) ⟨3,[(0,.var [.i ab]),(1,.var [.mp 2]),(2,.map .bl (nub ks (fre (t.vars ab))) (List.replicate (nub ks (fre (t.vars ab))).length true))]⟩:=by
 have hc:=usesFEach1 ab hab _ t ks 0 (Nat.le_refl _) (by omega) (by omega) (by omega) (by rw[Int.zero_add];exact hix)
 rw[Int.zero_add] at hc
 refine M.F Tryz.func38 ?_
 repeat'(first|refine M.gw ?_|refine M.cv (hc) [4,5,0,1,2] 0 ?_|fail)
 (exact M.n2 [some 0,some 1,some 2] (h8:=(by simp[tupV,V.wk,V.wks,constV,Ty.view,Tm.view,useK])))
theorem usesFFm(ab:Int)(hab:0≤ab∧ab<1099511627776)(ks:List Int)(t:Tm)(ht:t.full<549755813888)(hix:∀p∈t.vars ab,0≤p.1∧p.1<9223372036854775808):AC E 37 [.agg t.view,.i ab,.ptr 0 0] ⟨2,[(0,.var [.mp 1]),(1,.map .bl ks (List.replicate ks.length true))]⟩ (.tup []) ⟨2,[(0,.var [.mp 1]),(1,.map .bl (nub ks (fre (varsL [(t,ab)]))) (List.replicate (nub ks (fre (varsL [(t,ab)]))).length true))]⟩:=by
 have hc:=usesFEach ab hab ks t ht hix
 refine M.F Tryz.func37 ?_
 repeat'(first|refine M.gw ?_|refine M.cb (hc) [3,0,1] 0 ?_|fail)
 (exact M.n2 [some 0,some 1] (h6:=(by(repeat'(first|exact trivial|refine And.intro ?_ ?_|refine⟨_,U,_,U,_,U,?_⟩|exact VLe.refl _|refine⟨_,U,_,_,U,?_,?_⟩|(simp[Sto.upd,varsL_one];done)));done)) (h8:=(by simp[tupV,V.wk,V.wks,constV,Ty.view,Tm.view,varsL_one])))
theorem usesFEachF:∀(n:Nat) (f:Fm) (ks:List Int) (bl:Int),f.full≤n→n<549755813888→0≤bl→bl+n<549755813888→(∀p∈varsL (f.tms bl),0≤p.1∧p.1<9223372036854775808)→AC E 36 [.agg f.view,.i bl,.fn (.func 37) [] [.ptr 0 0]] ⟨2,[(0,.var [.mp 1]),(1,.map .bl ks (List.replicate ks.length true))]⟩ (.tup []) ⟨2,[(0,.var [.mp 1]),(1,.map .bl (nub ks (fre (varsL (f.tms bl)))) (List.replicate (nub ks (fre (varsL (f.tms bl)))).length true))]⟩:=by
 intro n
 induction n with
 |zero=>intro f;intros;have:=f.full_pos;omega
 |succ n ih=>
 intro f ks bl hsz hn hbl hbn hix
 have hsz':=f.full_eq
 have hlen:=lsum_len Fm.full Fm.full_pos f.args
 have hlen2:=lsum_len Tm.full Tm.full_pos f.terms
 have htm:=f.tms_eq bl
 have hq:=quantifier_c f.kind
 refine M.F Tryz.func36 ?_
 repeat'(first|refine M.gw ?_|fail)
 refine AW.range f.terms.length (fun m=>True)
  (fun m=>([(1,.i bl),(2,.fn (.func 37) [] [.ptr 0 0]),(3,.ptr 2 0),(11,.s .tm f.terms),(12,.i f.terms.length),(13,.i m)],⟨3,[(0,.var [.mp 1]),(1,.map .bl (nub ks (fre (varsL ((f.terms.take m).map (fun t=>(t,bl)))))) (List.replicate (nub ks (fre (varsL ((f.terms.take m).map (fun t=>(t,bl)))))).length true)),(2,.var f.view)]⟩))
  (by omega) (fun m=>rfl) (fun m=>rfl) rfl trivial ?_ ?_ ?_
 ·exact (M.W [some 0,some 1,some 2] (he:=(by(repeat'(first|exact trivial|refine And.intro ?_ ?_|refine⟨_,U,_,U,_,U,?_⟩|exact VLe.refl _|refine⟨_,U,_,_,U,?_,?_⟩|(simp[Sto.upd,varsL_nil,fre_nil,nub_nil];done)));done)))
 ·intro m hm _
  have hs2:=lsum_mem Tm.full (List.getElem_mem hm)
  have hc:=usesFFm bl (by omega) (nub ks (fre (varsL ((f.terms.take m).map (fun t=>(t,bl)))))) f.terms[m] (by omega) fun p hp=>hix p (by rw[htm,varsL_app];exact List.mem_append_left _ (List.mem_flatMap.2 ⟨(f.terms[m],bl),List.mem_map.2 ⟨_,List.getElem_mem hm,rfl⟩,hp⟩))
  repeat'(first|refine M.gw ?_|refine M.cv (hc) [0,1] 0 ?_|fail)
  refine⟨rfl,trivial,?_⟩
  exact(M.W [some 0,some 1,some 2] (he:=(by(repeat'(first|exact trivial|refine And.intro ?_ ?_|refine⟨_,U,_,U,_,U,?_⟩|exact VLe.refl _|refine⟨_,U,_,_,U,?_,?_⟩|(simp[Sto.upd,varsL_app,fre_app,nub_app,map_take _ _ _ hm];done)));done)))
 ·intro _
  simp only[List.take_length]
  repeat'(first|refine M.gw ?_|refine M.c2 (hq) ?_|refine M.cs ?_ ?_<;>intro h|fail)
  all_goals
   have hup:upF f.kind bl≤bl+1:=by simp only[upF];split<;>omega
   have hup0:0≤upF f.kind bl:=by simp only[upF];split<;>omega
   refine AW.range f.args.length (fun m=>True)
    (fun m=>([(1,.i (upF f.kind bl)),(2,.fn (.func 37) [] [.ptr 0 0]),(3,.ptr 2 0),(28,.s .fm f.args),(29,.i f.args.length),(30,.i m)],⟨3,[(0,.var [.mp 1]),(1,.map .bl (nub ks (fre (varsL (f.terms.map (fun t=>(t,bl))++(f.args.take m).flatMap (Fm.tms (upF f.kind bl)))))) (List.replicate (nub ks (fre (varsL (f.terms.map (fun t=>(t,bl))++(f.args.take m).flatMap (Fm.tms (upF f.kind bl)))))).length true)),(2,.var f.view)]⟩))
    (by omega) (fun m=>rfl) (fun m=>rfl) rfl trivial ?_ ?_ ?_
   ·exact (M.W [some 0,some 1,some 2] (hf:=(by(repeat'(first|exact trivial|refine And.intro ?_ ?_|refine⟨_,U,_,U,?_⟩|exact VLe.refl _|exact VLe.of_eq (by simp[Sto.upd,upF,h])));done)) (he:=(by(repeat'(first|exact trivial|refine And.intro ?_ ?_|refine⟨_,U,_,U,_,U,?_⟩|exact VLe.refl _|refine⟨_,U,_,_,U,?_,?_⟩|(simp[Sto.upd,upF,h];done)));done)))
   ·intro m hm _
    have hs2:=lsum_mem Fm.full (List.getElem_mem hm)
    have hc:=ih f.args[m] (nub ks (fre (varsL (f.terms.map (fun t=>(t,bl))++(f.args.take m).flatMap (Fm.tms (upF f.kind bl)))))) (upF f.kind bl) (by omega) (by omega) hup0 (by omega) fun p hp=>hix p (by rw[htm,varsL_app];refine List.mem_append_right _ ?_;obtain⟨q,hq1,hq2⟩:=List.mem_flatMap.1 hp;exact List.mem_flatMap.2 ⟨q,List.mem_flatMap.2 ⟨_,List.getElem_mem hm,hq1⟩,hq2⟩)
    repeat'(first|refine M.gw ?_|refine M.cv (hc) [0,1] 0 ?_|fail)
    refine⟨rfl,trivial,?_⟩
    exact(M.W [some 0,some 1,some 2] (he:=(by(repeat'(first|exact trivial|refine And.intro ?_ ?_|refine⟨_,U,_,U,_,U,?_⟩|exact VLe.refl _|refine⟨_,U,_,_,U,?_,?_⟩|(simp[Sto.upd,varsL_app,fre_app,nub_app,flat_take _ _ _ hm,←List.append_assoc];done)));done)))
   ·intro _
    skip
    (exact M.n2 [some 0,some 1] (h6:=(by(repeat'(first|exact trivial|refine And.intro ?_ ?_|refine⟨_,U,_,U,_,U,?_⟩|exact VLe.refl _|refine⟨_,U,_,_,U,?_,?_⟩|(simp[Sto.upd,htm];done)));done)) (h8:=(by simp[tupV,V.wk,V.wks,constV,Ty.view,Tm.view,htm])))
theorem useKF_wf{f:Fm}(hix:∀p∈varsL (f.tms 0),0≤p.1∧p.1<9223372036854775808)(hsn:∀p∈varsL (f.tms 0),0≤p.2):∀x∈useKF f,(Lit.int .i64 x).wf=true:=fun x hx=>by
 obtain⟨h0,p,hp,rfl⟩:=mem_useKF.1 hx
 have h2:=hix p hp
 have h3:=hsn p hp
 have h4:IntKind.i64.min≤p.1-p.2∧p.1-p.2≤IntKind.i64.max:=by
  rw[show IntKind.i64.min= -9223372036854775808 by rfl,show IntKind.i64.max=9223372036854775807 by rfl];omega
 simpa [Lit.wf] using h4
theorem usesF_c(f:Fm)(ht:f.full<137438953472)(hix:f.err=0→∀p∈varsL (f.tms 0),(0≤p.1∧p.1<9223372036854775808)∧0≤p.2):PC E 17 [.agg f.view] (.tup [.s .int (if f.err=0 then usesFI f else []),.i f.err]):=by
 have h1:=fcheck_c f (by omega)
 have hc:f.err=0→_:=fun h=>usesFEachF _ f [] 0 (Nat.le_refl _) (by omega) (by omega) (by omega) (fun p hp=>(hix h p hp).1)
 have hu:nub [] (fre (varsL (f.tms 0)))=useKF f:=rfl
 simp only[List.length_nil,List.replicate_zero,hu] at hc
 have hk:AC E 41 [.mp 0] ⟨1,[(0,.map .bl (useKF f) (List.replicate (useKF f).length true))]⟩ (.fn (.func 74) [] [.ptr 1 0]) ⟨2,[(1,.var [.mp 0]),(0,.map .bl (useKF f) (List.replicate (useKF f).length true))]⟩:=mapKeys_c (Nat.lt_succ_self 0)
 have hlen:=useKF_size f
 have hsz:=f.size_le_full
 have hs:f.err=0→AC E 40 [.fn (.func 74) [] [.ptr 0 0]] ⟨2,[(0,.var [.mp 1]),(1,.map .bl (useKF f) (List.replicate (useKF f).length true))]⟩ (.s .int (usesFI f)) ⟨2,[(0,.var [.mp 1]),(1,.map .bl (useKF f) (List.replicate (useKF f).length true))]⟩:=
  fun h=>sorted_c (c:= .bl) rfl rfl (useKF_nodup f) (useKF_wf (fun p hp=>(hix h p hp).1) (fun p hp=>(hix h p hp).2)) (by omega)
 refine M.F Tryz.func17 ?_
 repeat'(first|refine M.gw ?_|refine M.c2 (h1) ?_|refine M.cb (hc (by simpa using h)) [2,1] 0 ?_|refine M.cb (hk) [1] 1 ?_|refine M.cb (hs (by simpa using h)) [3,1] 0 ?_|refine M.cs ?_ ?_<;>intro h|fail)
 ·have e:¬f.err=0:=by simpa using h
  rw[if_neg e];simp[tupV,V.wk,V.wks];rfl
 ·have e:f.err=0:=by simpa using h
  rw[if_pos e];simp[tupV,V.wk,V.wks,e]
theorem tequation_c(a b:Tm):PC E 76 [.agg a.view,.agg b.view] (.agg (eqF a b).view):=by
 refine M.F Tryz.func76 ?_
 repeat'(first|refine M.gw ?_|fail)
 rfl
theorem tfalse_c:PC E 44 [] (.agg falseF.view):=by
 have h1:=tof_c 4 []
 have h2:=tof_c 5 [.mk 4 0 (.mk 0 []) []]
 have h3:=tequation_c (.mk 4 0 (.mk 0 []) []) (.mk 5 0 (.mk 0 []) [.mk 4 0 (.mk 0 []) []])
 refine M.F Tryz.func44 ?_
 repeat'(first|refine M.gw ?_|refine M.c2 (h1) ?_|refine M.c2 (h2) ?_|refine M.c2 (h3) ?_|fail)
 rfl
theorem ffalse_c:PC E 19 [] (.agg falseF.view):=by
 refine M.F Tryz.func19 ?_
 repeat'(first|refine M.gw ?_|refine M.c2 (tfalse_c) ?_|fail)
 rfl
theorem false07_c:PC E 20 [] (.agg falseF.view):=by
 have h1:=n_c 4 [] (by simp)
 have h2:=n_c 5 [.mk 4 0 (.mk 0 []) []] (by simp[Tm.full,Tm.fulls,Ty.size,Ty.sizes])
 have h3:=eqFm_c (.mk 4 0 (.mk 0 []) []) (.mk 5 0 (.mk 0 []) [.mk 4 0 (.mk 0 []) []]) (by simp[Tm.full,Tm.fulls,Ty.size,Ty.sizes]) (by simp[Tm.full,Tm.fulls,Ty.size,Ty.sizes])
 refine M.F Tryz.func20 ?_
 repeat'(first|refine M.gw ?_|refine M.c2 (h1) ?_|refine M.c2 (h2) ?_|refine M.c2 (h3) ?_|fail)
 rfl
theorem sane07_c:PC E 5 [] (.bool true):=by
 have v0:=var_c 0
 have v1:=var_c 1
 have hu:=usesF_c exF (by decide) fun _=>exF_idx
 rw[exF_err,if_pos rfl,exF_uses] at hu
 have hs:=sameFm_r _ falseF (Nat.le_refl _) (by decide)
 refine M.F Tryz.func5 ?_
 repeat'(first|refine M.gw ?_|refine M.c2 (v0) ?_|refine M.c2 (v1) ?_|refine M.c2 (hu) ?_|refine M.c2 (ffalse_c) ?_|refine M.c2 (false07_c) ?_|refine M.c2 (hs) ?_|fail)
 all_goals rfl
def Fm.ixw(f:Fm):Prop:=f.err=0→∀p∈f.tms 0,∀q∈p.1.vars 0,0≤q.1∧q.1<9223372036854775808
def orFE(a b:Fm):Int:=if liftFErr a 0 1≠0 then liftFErr a 0 1 else if liftFErr b 0 1≠0 then liftFErr b 0 1 else(orA a b).err
def notE(f:Fm):Int:=if f.err≠0 then f.err else(notF f).err
def OkT(z:Tm):Prop:=z.full<1000000∧(z.err=0→∀p∈z.vars 0,0≤p.1∧p.1<9223372036854775808)
theorem nodes07_c(t:Fm):PC E 7 [.agg t.view] (.i (t.cn 20000)):=by
 have h1:=cntFm_c _ t 20000 (Nat.le_refl _) (by omega)
 refine M.F Tryz.func7 ?_
 repeat'(first|refine M.gw ?_|refine M.c2 (h1) ?_|fail)
 rfl
theorem bentF_ok(d:Dk)(hd:d.ok)(t:Fm)(ht:t.full≤60000)(hx:t.ixr):(bentF d t).1.full≤130000∧(bentF d t).1.ixr∧(bentF d t).2.ok:=by
 have hs:=fmK.walk_sz t.full t.full d (fun x=>x) t (fun x=>Nat.add_comm _ _)
 have ho:=fmK.walk_ok t.full d (fun x=>x) t hd
 obtain⟨hg1,hg2⟩:=fmK.walk_all Fm.ixr fmK_ixr_set (fun x hx a ha=>Fm.ixr_args hx ha) t.full d (fun x=>x) t (fun x h=>h) hx
 unfold bentF
 generalize fmK.walk t.full d (fun x=>x) t=w at hs ho hg1 hg2
 obtain⟨F,s,D⟩:=w
 have hs:∀x:Fm,(F x).full+s.full=t.full+x.full:=hs
 have hg1:∀x:Fm,x.ixr→(F x).ixr:=hg1
 have hg2:s.ixr:=hg2
 have h5:(D.next 4).2.ok:=Dk.next_ok ho 4
 have hsf:=Fm.full_eq s
 have key:∀x:Fm,x.full≤s.full+60000→(F x).full≤130000:=fun x hx=>by have:=hs x;omega
 obtain⟨ht1,ha1⟩:=(Fm.ixr_iff s).1 hg2
 simp only[bentFmB]
 split
 ·refine ⟨key _ ?_,hg1 _ ((Fm.ixr_iff _).2 ⟨ht1,ha1⟩),Dk.next_ok h5 9⟩
  rw[Fm.full_eq];simp only[Fm.ty_mk,Fm.args_mk,Fm.terms_mk];omega
 ·split
  ·have:=(Dk.type1 (D.next 4).2).2
   refine⟨key _ ?_,hg1 _ ((Fm.ixr_iff _).2 ⟨ht1,ha1⟩),Dk.type_ok 1 _ h5⟩
   rw[Fm.full_eq];simp only[Fm.ty_mk,Fm.args_mk,Fm.terms_mk];omega
  ·split
   ·have hb:=Dk.next_bd (D.next 4).2 3 (by omega)
    refine⟨key _ ?_,hg1 _ ((Fm.ixr_iff _).2 ⟨fun t ht=> ?_,ha1⟩),Dk.next_ok h5 3⟩
    ·rw [Fm.full_eq];simp only[Fm.ty_mk,Fm.args_mk,Fm.terms_mk,List.map_append,List.sum_append,List.map_cons,List.map_nil,List.sum_cons,List.sum_nil,vT,Tm.full,Tm.fulls,Ty.size,Ty.sizes];omega
    ·rcases List.mem_append.1 ht with ht|ht
     ·exact ht1 t ht
     ·rw [List.mem_singleton.1 ht];exact vT_ixr ⟨hb.1,by omega⟩
   ·have hsm:=Dk.ctx_smalls (D.next 4).2
    have hl:=Dk.ctx_len (D.next 4).2
    have gd:=Dk.fm_good 1 (D.next 4).2.ctx.2 (D.next 4).2.ctx.1 hsm
    have ok:=Dk.fm_okT 1 (D.next 4).2.ctx.2 (D.next 4).2.ctx.1 hsm
    obtain⟨q1,q2,q3⟩:=gd
    exact⟨key _ (by omega),hg1 _ (okT_ixr ok q1 (by omega)),Dk.fm_ok 1 _ _ (Dk.ctx_ok h5)⟩
theorem Fm.eta7(f:Fm):Fm.mk f.kind f.ty f.terms f.args=f:=by obtain⟨_,_,_,_⟩:=f;rfl
theorem formulaMatches_c(l:List Int)(raw more:Fm):PC E 3 [.s .int l,.agg raw.view,.agg more.view] (.bool true):=by
 have br:=raw.cn_bd 20000
 have bm:=more.cn_bd 20000
 have hn1:=nodes07_c raw
 have hn2:=nodes07_c more
 by_cases hl:l.length≤500
 case neg=>
  have hf:=few_f l hl
  refine AC.mk Tryz.func3 rfl rfl rfl rfl rfl (Nat.le_of_ble_eq_true rfl) ?_
  repeat'(first|((with_reducible refine D.nil ?_);refine AX.nilL ?_)|((with_reducible refine D.load ?_);refine AX.sk U U ?_)|((with_reducible refine D.move ?_);refine L.mv U U U ?_)|((with_reducible refine D.assign ?_);refine L.asg U U U ?_)|((with_reducible refine D.bin ?_);refine AX.sk U U ?_)|((with_reducible refine D.call ?_);first|refine L.c2 (sane07_c) U U U U ?_|refine L.c2 (hf) U U U U ?_|refine AX.sk U U ?_)|((with_reducible refine D.box ?_);refine L.bx U U U U ?_)|((with_reducible refine D.not ?_);refine L.nt U U U ?_)|((with_reducible refine D.pick ?_);refine L.pk U U U U ?_)|((with_reducible refine D.aw ?_);(fail_if_success with_reducible refine D.stopR (id:=5) ?_);(fail_if_success with_reducible refine D.stopS (id:=5) ?_);first|refine K.sq (AW.regL ?_)|refine K.sq (K.sq ?_)|refine AW.regL ?_|refine AW.condT U ?_|refine AW.condF U ?_|refine AW.skip ?_|refine AW.ret ?_)|with_reducible refine K.tN ?_|with_reducible refine K.tR ?_|with_reducible refine K.r1 (by with_unfolding_all rfl) (by with_unfolding_all rfl) ?_)
  all_goals first
   |rfl
   |(exfalso;simp at h;done)
 have hf:=few_t l hl
 by_cases hsm:raw.cn 20000≤300∧more.cn 20000≤300
 case neg=>
  refine AC.mk Tryz.func3 rfl rfl rfl rfl rfl (Nat.le_of_ble_eq_true rfl) ?_
  repeat'(first|((with_reducible refine D.nil ?_);refine AX.nilL ?_)|((with_reducible refine D.load ?_);first|refine L.ldb U U U U U U ?_|refine AX.sk U U ?_|((fail_if_success refine AX.wt U ?_);refine AX.gs U U (fun _=>trivial) (fun h=> ?_) (fun h=> ?_)))|((with_reducible refine D.move ?_);refine L.mv U U U ?_)|((with_reducible refine D.assign ?_);refine L.asg U U U ?_)|((with_reducible refine D.bin ?_);first|refine L.bn U U U U U ?_|refine AX.sk U U ?_)|((with_reducible refine D.call ?_);first|refine L.c2 (sane07_c) U U U U ?_|refine L.c2 (hf) U U U U ?_|refine L.c2 (hn1) U U U U ?_|refine L.c2 (hn2) U U U U ?_|refine AX.sk U U ?_)|((with_reducible refine D.box ?_);refine L.bx U U U U ?_)|((with_reducible refine D.not ?_);refine L.nt U U U ?_)|((with_reducible refine D.pick ?_);refine L.pk U U U U ?_)|((with_reducible refine D.aw ?_);(fail_if_success with_reducible refine D.stopR (id:=5) ?_);(fail_if_success with_reducible refine D.stopS (id:=5) ?_);first|refine K.sq (AW.regL ?_)|refine K.sq (K.sq ?_)|refine AW.regL ?_|refine AW.condT U ?_|refine AW.condF U ?_|refine AW.condS U (fun h=> ?_) (fun h=> ?_)|refine AW.skip ?_|refine AW.ret ?_)|with_reducible refine K.tN ?_|with_reducible refine K.tR ?_|with_reducible refine K.r1 (by with_unfolding_all rfl) (by with_unfolding_all rfl) ?_)
  all_goals first
   |rfl
   |(exfalso;simp at h;done)
   |(exfalso;apply hsm;simp at*;omega)
 obtain⟨hs1,hs2⟩:=hsm
 have fraw:raw.full≤300:=by have:=br.2.2 (by omega);omega
 have fm:more.full≤300:=by have:=bm.2.2 (by omega);omega
 have h1:(raw.cn 20000>300)=False:=by simp;omega
 have h2:(more.cn 20000>300)=False:=by simp;omega
 have hn:=new_c l
 have d0:=deck_ok hl
 have hcx:=context_c (Dk.mk l 0) d0
 have hog:=Dk.ctx_smalls (Dk.mk l 0)
 have hogl:=Dk.ctx_len (Dk.mk l 0)
 have d1:=Dk.ctx_ok d0
 generalize (Dk.mk l 0).ctx.1=og at*
 generalize (Dk.mk l 0).ctx.2=D1 at*
 have tx:=mkFm_c 2 D1 og 2 (by omega) rfl d1 hog (by omega)
 obtain⟨gx1,gx2,gx3⟩:=Dk.fm_good 2 D1 og hog
 have ox:=Dk.fm_okT 2 D1 og hog
 have d2:=Dk.fm_ok 2 D1 og d1
 generalize (Dk.fm 2 D1 og).1=x at*
 generalize (Dk.fm 2 D1 og).2=D2 at*
 have ix:x.ixr:=okT_ixr ox gx1 (by omega)
 have ty:=bentFm_c D2 d2 x (by omega)
 obtain⟨fy,iy,d3⟩:=bentF_ok D2 d2 x (by omega) ix
 generalize (bentF D2 x).1=y at*
 generalize (bentF D2 x).2=D3 at*
 have tz:=reduced_c _ x D3 (Nat.le_refl _) (by omega) d3
 have fz:=redF_full x D3
 generalize (redF D3 x).1=z at*
 generalize (redF D3 x).2=D4 at*
 have oz:∀q∈[raw,x,y,z],q.full<274877906944:=by
  intro q hq
  simp only[List.mem_cons,List.not_mem_nil,or_false] at hq
  rcases hq with rfl|rfl|rfl|rfl<;>omega
 have om:∀f:Fm,f.full<274877906944→∀q∈[more,x,y,z,f],q.full<274877906944:=by
  intro f hf q hq
  simp only[List.mem_cons,List.not_mem_nil,or_false] at hq
  rcases hq with rfl|rfl|rfl|rfl|rfl<;>omega
 clear br bm
 refine AC.mk Tryz.func3 rfl rfl rfl rfl rfl (Nat.le_of_ble_eq_true rfl) ?_
 repeat'(first|((with_reducible refine D.nil ?_);refine AX.nilL ?_)|((with_reducible refine D.load ?_);first|refine L.ldb U U U U U U ?_|refine AX.sk U U ?_|((fail_if_success refine AX.wt U ?_);refine AX.gs U U (fun _=>trivial) (fun h=> ?_) (fun h=> ?_)))|((with_reducible refine D.move ?_);refine L.mv U U U ?_)|((with_reducible refine D.assign ?_);refine L.asg U U U ?_)|((with_reducible refine D.bin ?_);first|refine L.bn U U U U U ?_|refine AX.sk U U ?_)|((with_reducible refine D.call ?_);first|refine L.c2 (sane07_c) U U U U ?_|refine L.c2 (hf) U U U U ?_|refine L.c2 (hn1) U U U U ?_|refine L.c2 (hn2) U U U U ?_|(apply L.cb2 (hn) [] 1 rfl;rfl;rfl;rfl;rfl;rfl;rfl;(focus((repeat'(first|exact trivial));done));rfl;rfl;rfl;rfl)|(apply L.cb2 (hcx) [2] 0 rfl;rfl;rfl;rfl;rfl;rfl;rfl;(focus((repeat'(first|exact trivial|refine And.intro ?_ ?_|refine⟨_,U,_,U,_,U,?_⟩|exact VLe.refl _));done));rfl;rfl;rfl;rfl)|(apply L.cb2 (tx) [2] 0 rfl;rfl;rfl;rfl;rfl;rfl;rfl;(focus((repeat'(first|exact trivial|refine And.intro ?_ ?_|refine⟨_,U,_,U,_,U,?_⟩|exact VLe.refl _));done));rfl;rfl;rfl;rfl)|(apply L.cb2 (ty) [2] 0 rfl;rfl;rfl;rfl;rfl;rfl;rfl;(focus((repeat'(first|exact trivial|refine And.intro ?_ ?_|refine⟨_,U,_,U,_,U,?_⟩|exact VLe.refl _));done));rfl;rfl;rfl;rfl)|(apply L.cb2 (tz) [2] 0 rfl;rfl;rfl;rfl;rfl;rfl;rfl;(focus((repeat'(first|exact trivial|refine And.intro ?_ ?_|refine⟨_,U,_,U,_,U,?_⟩|exact VLe.refl _));done));rfl;rfl;rfl;rfl)|refine AX.sk U U ?_)|((with_reducible refine D.box ?_);refine L.bx U U U U ?_)|((with_reducible refine D.alloc ?_);refine L.al U U U ?_)|((with_reducible refine D.store ?_);refine L.st U U U U U U U U U ?_)|((with_reducible refine D.not ?_);refine L.nt U U U ?_)|((with_reducible refine D.pick ?_);refine L.pk U U U U ?_)|((with_reducible refine D.aw ?_);(fail_if_success with_reducible refine D.stopR (id:=9) ?_);(fail_if_success with_reducible refine D.stopS (id:=9) ?_);first|refine K.sq (AW.regL ?_)|refine K.sq (K.sq ?_)|refine AW.regL ?_|refine AW.condT U ?_|refine AW.condF U ?_|refine AW.condS U (fun h=> ?_) (fun h=> ?_)|refine AW.skip ?_|refine AW.ret ?_)|with_reducible refine K.tN ?_|with_reducible refine K.tR ?_|with_reducible refine K.r1 (by with_unfolding_all rfl) (by with_unfolding_all rfl) ?_)
 all_goals first
  |(exfalso;simp at h;done)
  |(exfalso;simp at h;omega)
  |skip
 clear hf hn1 hn2 h1 h2 hs1 hs2 hn hcx tx ty tz
 repeat'(first|((with_reducible refine D.nil ?_);refine AX.nilL ?_)|((with_reducible refine D.load ?_);refine L.ldb U U U U U U ?_)|((with_reducible refine D.move ?_);refine L.mv U U U ?_)|((with_reducible refine D.call ?_);refine L.lnt U U U U ?_)|((with_reducible refine D.ax ?_);refine L.bs 0 U U U U U U U U U U ?_)|((with_reducible refine D.aw ?_);(fail_if_success with_reducible refine D.stopR (id:=10) ?_);(fail_if_success with_reducible refine D.stopS (id:=10) ?_);first|refine K.sq (K.sq ?_)|refine AW.regL ?_)|with_reducible refine K.tN ?_)
 refine AW.range 4 (fun m=>True)
  (fun m=>([(4,.ptr 0 0),(5,.ptr 1 0),(8,.ptr 3 0),(9,.ptr 4 0),(10,.ptr 5 0),(46,.slice .full (.t .fm [raw,x,y,z])),(47,.i 4),(48,.i m)],⟨6,[(0,.var raw.view),(1,.var more.view),(2,.var D4.cells),(3,.var x.view),(4,.var y.view),(5,.var z.view)]⟩))
  (by omega) (fun m=>rfl) (fun m=>rfl) U trivial (Weak.mk [some 0,some 1,some 2,some 3,some 4,some 5] _ _ _ U U U U (by(repeat'(first|exact trivial|refine And.intro ?_ ?_|refine⟨_,U,_,U,?_⟩|exact VLe.refl _|exact VLe.of_eq (by simp[Sto.upd,Fm.eta7])));done) (by(repeat'(first|exact trivial|refine And.intro ?_ ?_|refine⟨_,U,_,U,_,U,?_⟩|exact VLe.refl _));done)) ?_ ?_
 ·intro m hm _
  have hzm:m<[raw,x,y,z].length:=hm
  have hzf:=oz [raw,x,y,z][m] (List.getElem_mem hzm)
  generalize hzz:[raw,x,y,z][m]=f at*
  have hom:=om f hzf
  repeat'(first|((with_reducible refine D.nil ?_);refine AX.nilL ?_)|((with_reducible refine D.load ?_);refine L.lda U U U U U ?_)|((with_reducible refine D.alloc ?_);refine L.al U U U ?_)|((with_reducible refine D.store ?_);refine L.st U U U U U U U U U ?_)|((with_reducible refine D.indexAddr ?_);refine L.ixt _ U U U U U U U (by first|assumption|fail) ?_)|((with_reducible refine D.aw ?_);(fail_if_success with_reducible refine D.stopR (id:=12) ?_);(fail_if_success with_reducible refine D.stopS (id:=12) ?_);refine K.sq (AW.regL ?_))|with_reducible refine K.tN ?_)
  simp only[hzz]
  repeat'(first|((with_reducible refine D.nil ?_);refine AX.nilL ?_)|((with_reducible refine D.load ?_);refine L.ldb U U U U U U ?_)|((with_reducible refine D.move ?_);refine L.mv U U U ?_)|((with_reducible refine D.call ?_);refine L.lnt U U U U ?_)|((with_reducible refine D.ax ?_);refine L.bs 0 U U U U U U U U U U ?_)|((with_reducible refine D.aw ?_);(fail_if_success with_reducible refine D.stopR (id:=13) ?_);(fail_if_success with_reducible refine D.stopS (id:=13) ?_);refine K.sq (AW.regL ?_))|with_reducible refine K.tN ?_)
  refine AW.range 5 (fun m=>True)
   (fun m'=>([(4,.ptr 0 0),(5,.ptr 1 0),(8,.ptr 3 0),(9,.ptr 4 0),(10,.ptr 5 0),(46,.slice .full (.t .fm [raw,x,y,z])),(47,.i 4),(48,.i m),(12,.ptr 6 0),(57,.slice .full (.t .fm [more,x,y,z,f])),(58,.i 5),(59,.i m')],⟨7,[(0,.var raw.view),(1,.var more.view),(2,.var D4.cells),(3,.var x.view),(4,.var y.view),(5,.var z.view),(6,.var f.view)]⟩))
   (by omega) (fun m=>rfl) (fun m=>rfl) U trivial (Weak.mk [some 0,some 1,some 2,some 3,some 4,some 5,some 6] _ _ _ U U U U (by(repeat'(first|exact trivial|refine And.intro ?_ ?_|refine⟨_,U,_,U,?_⟩|exact VLe.refl _|exact VLe.of_eq (by simp[Sto.upd,Fm.eta7])));done) (by(repeat'(first|exact trivial|refine And.intro ?_ ?_|refine⟨_,U,_,U,_,U,?_⟩|exact VLe.refl _));done)) ?_ ?_
  ·intro m' hm' _
   have hwm:m'<[more,x,y,z,f].length:=hm'
   have hwf:=hom [more,x,y,z,f][m'] (List.getElem_mem hwm)
   generalize hww:[more,x,y,z,f][m']=w at*
   have c1:=gfMatch_c f w (by omega) (by omega)
   have c2:=rfMatch_c f w (by omega) (by omega)
   repeat'(first|((with_reducible refine D.nil ?_);refine AX.nilL ?_)|((with_reducible refine D.load ?_);refine L.lda U U U U U ?_)|((with_reducible refine D.alloc ?_);refine L.al U U U ?_)|((with_reducible refine D.store ?_);refine L.st U U U U U U U U U ?_)|((with_reducible refine D.indexAddr ?_);refine L.ixt _ U U U U U U U (by first|assumption|fail) ?_)|((with_reducible refine D.aw ?_);(fail_if_success with_reducible refine D.stopR (id:=15) ?_);(fail_if_success with_reducible refine D.stopS (id:=15) ?_);refine K.sq (AW.regL ?_))|with_reducible refine K.tN ?_)
   simp only[hww]
   repeat'(first|((with_reducible refine D.nil ?_);first|refine AX.nilL ?_|refine AX.nilD (by kernel_rfl) ?_)|((with_reducible refine D.load ?_);refine L.ldb U U U U U U ?_)|((with_reducible refine D.assign ?_);refine L.asg U U U ?_)|((with_reducible refine D.bin ?_);refine L.bn U U U U U ?_)|((with_reducible refine D.call ?_);first|refine L.c2 (c1) U U U U ?_|refine L.c2 (c2) U U U U ?_)|((with_reducible refine D.aw ?_);first|refine K.sq (AW.regL ?_)|refine K.sq (AW.regD mixed (by kernel_rfl) ?_)|refine AW.condS U (fun h=> ?_) (fun h=> ?_)|refine AW.skip ?_|refine AW.ret ?_)|with_reducible refine K.tN ?_|with_reducible refine K.bN ?_|with_reducible refine K.tR ?_|with_reducible refine K.bR ?_|with_reducible refine K.gR ?_|with_reducible refine K.r1 (by with_unfolding_all rfl) (by with_unfolding_all rfl) ?_)
   all_goals first
    |(exfalso;simp at h;done)
    |skip
   exact⟨rfl,trivial,(Weak.mk [some 0,some 1,some 2,some 3,some 4,some 5,some 6] _ _ _ U U U U (by(repeat'(first|exact trivial|refine And.intro ?_ ?_|refine⟨_,U,_,U,?_⟩|exact VLe.refl _));done) (by(repeat'(first|exact trivial|refine And.intro ?_ ?_|refine⟨_,U,_,U,_,U,?_⟩|exact VLe.refl _));done))⟩
  ·intro _
   repeat'(first|with_reducible refine K.bN ?_)
   exact⟨rfl,trivial,(Weak.mk [some 0,some 1,some 2,some 3,some 4,some 5] _ _ _ U U U U (by(repeat'(first|exact trivial|refine And.intro ?_ ?_|refine⟨_,U,_,U,?_⟩|exact VLe.refl _));done) (by(repeat'(first|exact trivial|refine And.intro ?_ ?_|refine⟨_,U,_,U,_,U,?_⟩|exact VLe.refl _));done))⟩
 ·intro _
  repeat'(first|((with_reducible refine D.nil ?_);refine AX.nilL ?_)|((with_reducible refine D.assign ?_);refine L.asg U U U ?_)|((with_reducible refine D.aw ?_);first|refine K.sq (AW.regL ?_)|refine AW.ret ?_)|with_reducible refine K.tN ?_|with_reducible refine K.r1 (by with_unfolding_all rfl) (by with_unfolding_all rfl) ?_)
  rfl
end Go.Ab
