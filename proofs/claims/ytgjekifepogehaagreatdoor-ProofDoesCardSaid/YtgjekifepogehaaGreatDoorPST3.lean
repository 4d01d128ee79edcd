/- A part of this seat's proofs. No conditions. -/
import Derived.Shelf.SlIterI.Keys
import Derived.Shelf.SortM.Plain
import Derived.Shelf.SortM.SortNone
import Derived.Test.YtgjekifepogehaaGreatDoorPS6
import Derived.Test.YtgjekifepogehaaGreatDoorPST1
namespace Go.Proofs
open Go.Shelf
def Tryz.D4:Go.Shelf.Ren:=⟨fun|7=>209|10=>246|n=>n,fun|23=>107|26=>3|3=>4|28=>208|0=>0|27=>207|33=>163|4=>4|n=>n,fun|n=>n⟩
theorem Tryz.Kh:Go.Proofs.SlLaysZI.n7 Tryz.prog Tryz.D4:={
 mixed:=(by kernel_rfl)
 f7:=⟨Tryz.f209.name,(by decide),Tryz.func209.trans (congrArg some (by kernel_rfl))⟩
 f10:=⟨Tryz.f246.name,(by decide),Tryz.func246.trans (congrArg some (by kernel_rfl))⟩
 t0:=Tryz.underlying0
 a0:=Tryz.isAgg0
 z0:=Tryz.sizeOf0
 v0:=Tryz.zeroValue0
 t4:=Tryz.underlying4
 a4:=Tryz.isAgg4
 z4:=Tryz.sizeOf4
 v4:=Tryz.zeroValue4
 t23:=Tryz.underlying107
 a23:=Tryz.isAgg107
 z23:=Tryz.sizeOf107
 v23:=Tryz.zeroValue107
 t26:=Tryz.underlying3
 a26:=Tryz.isAgg3
 z26:=Tryz.sizeOf3
 v26:=Tryz.zeroValue3
 t27:=Tryz.underlying207
 a27:=Tryz.isAgg207
 z27:=Tryz.sizeOf207
 v27:=Tryz.zeroValue207
 t28:=Tryz.underlying208
 a28:=Tryz.isAgg208
 z28:=Tryz.sizeOf208
 v28:=Tryz.zeroValue208
 t33:=Tryz.underlying163
 a33:=Tryz.isAgg163
 z33:=Tryz.sizeOf163
 v33:=Tryz.zeroValue163}
def Tryz.Df:Go.Shelf.Ren:=⟨fun|6=>208|8=>244|9=>245|11=>260|13=>262|12=>261|23=>278|24=>279|14=>269|15=>270|16=>271|17=>272|18=>273|19=>274|20=>275|21=>276|22=>277|25=>283|26=>284|27=>285|28=>286|29=>287|30=>288|31=>293|n=>n,fun|26=>3|28=>208|24=>22|0=>0|3=>3|37=>237|48=>251|50=>253|4=>4|40=>245|39=>244|45=>187|5=>5|9=>9|51=>256|55=>260|57=>263|58=>264|33=>163|n=>n,fun|n=>n⟩
theorem Tryz.Jn:Go.Proofs.SlLaysZI.n6 Tryz.prog Tryz.Df:={
 mixed:=(by kernel_rfl)
 f6:=⟨Tryz.f208.name,(by decide),Tryz.func208.trans (congrArg some (by kernel_rfl))⟩
 f8:=⟨Tryz.f244.name,(by decide),Tryz.func244.trans (congrArg some (by kernel_rfl))⟩
 f11:=⟨Tryz.f260.name,(by decide),Tryz.func260.trans (congrArg some (by kernel_rfl))⟩
 t0:=Tryz.underlying0
 a0:=Tryz.isAgg0
 z0:=Tryz.sizeOf0
 v0:=Tryz.zeroValue0
 t24:=Tryz.underlying22
 a24:=Tryz.isAgg22
 z24:=Tryz.sizeOf22
 v24:=Tryz.zeroValue22
 t26:=Tryz.underlying3
 a26:=Tryz.isAgg3
 z26:=Tryz.sizeOf3
 v26:=Tryz.zeroValue3
 t28:=Tryz.underlying208
 a28:=Tryz.isAgg208
 z28:=Tryz.sizeOf208
 v28:=Tryz.zeroValue208
 i26:=(by kernel_rfl)}
def Tryz.Hu:Go.Shelf.Ren:=⟨fun|5=>245|8=>262|7=>261|19=>278|20=>279|10=>269|11=>270|12=>271|13=>272|14=>273|15=>274|16=>275|17=>276|18=>277|30=>283|31=>284|32=>285|33=>286|34=>287|35=>288|40=>293|n=>n,fun|23=>22|25=>3|3=>3|32=>237|22=>22|0=>0|44=>251|46=>253|4=>4|36=>245|35=>244|41=>187|5=>5|9=>9|53=>256|57=>260|63=>263|64=>264|n=>n,fun|n=>n⟩
theorem Tryz.Kq:Go.Proofs.SlLaysM.n5 Tryz.prog Tryz.Hu:={
 mixed:=(by kernel_rfl)
 f5:=⟨Tryz.f245.name,(by decide),Tryz.func245.trans (congrArg some (by kernel_rfl))⟩
 f7:=⟨Tryz.f261.name,(by decide),Tryz.func261.trans (congrArg some (by kernel_rfl))⟩
 f8:=Tryz.func262.trans (congrArg some (by kernel_rfl))
 f10:=⟨Tryz.f269.name,(by decide),Tryz.func269.trans (congrArg some (by kernel_rfl))⟩
 f11:=⟨Tryz.f270.name,(by decide),Tryz.func270.trans (congrArg some (by kernel_rfl))⟩
 f12:=⟨Tryz.f271.name,(by decide),Tryz.func271.trans (congrArg some (by kernel_rfl))⟩
 f13:=⟨Tryz.f272.name,(by decide),Tryz.func272.trans (congrArg some (by kernel_rfl))⟩
 f14:=⟨Tryz.f273.name,(by decide),Tryz.func273.trans (congrArg some (by kernel_rfl))⟩
 f15:=⟨Tryz.f274.name,(by decide),Tryz.func274.trans (congrArg some (by kernel_rfl))⟩
 f16:=⟨Tryz.f275.name,(by decide),Tryz.func275.trans (congrArg some (by kernel_rfl))⟩
 f17:=⟨Tryz.f276.name,(by decide),Tryz.func276.trans (congrArg some (by kernel_rfl))⟩
 f18:=⟨Tryz.f277.name,(by decide),Tryz.func277.trans (congrArg some (by kernel_rfl))⟩
 f19:=Tryz.func278.trans (congrArg some (by kernel_rfl))
 f20:=Tryz.func279.trans (congrArg some (by kernel_rfl))
 f30:=⟨Tryz.f283.name,(by decide),Tryz.func283.trans (congrArg some (by kernel_rfl))⟩
 f31:=Tryz.func284.trans (congrArg some (by kernel_rfl))
 f32:=Tryz.func285.trans (congrArg some (by kernel_rfl))
 f33:=⟨Tryz.f286.name,(by decide),Tryz.func286.trans (congrArg some (by kernel_rfl))⟩
 f34:=⟨Tryz.f287.name,(by decide),Tryz.func287.trans (congrArg some (by kernel_rfl))⟩
 f35:=⟨Tryz.f288.name,(by decide),Tryz.func288.trans (congrArg some (by kernel_rfl))⟩
 f40:=⟨Tryz.f293.name,(by decide),Tryz.func293.trans (congrArg some (by kernel_rfl))⟩
 t0:=Tryz.underlying0
 a0:=Tryz.isAgg0
 z0:=Tryz.sizeOf0
 v0:=Tryz.zeroValue0
 t3:=Tryz.underlying3
 a3:=Tryz.isAgg3
 z3:=Tryz.sizeOf3
 v3:=Tryz.zeroValue3
 t4:=Tryz.underlying4
 a4:=Tryz.isAgg4
 z4:=Tryz.sizeOf4
 v4:=Tryz.zeroValue4
 t5:=Tryz.underlying5
 a5:=Tryz.isAgg5
 z5:=Tryz.sizeOf5
 v5:=Tryz.zeroValue5
 t9:=Tryz.underlying9
 a9:=Tryz.isAgg9
 z9:=Tryz.sizeOf9
 v9:=Tryz.zeroValue9
 t22:=Tryz.underlying22
 a22:=Tryz.isAgg22
 z22:=Tryz.sizeOf22
 v22:=Tryz.zeroValue22
 t23:=Tryz.underlying22
 a23:=Tryz.isAgg22
 z23:=Tryz.sizeOf22
 v23:=Tryz.zeroValue22
 t25:=Tryz.underlying3
 a25:=Tryz.isAgg3
 z25:=Tryz.sizeOf3
 v25:=Tryz.zeroValue3
 t32:=Tryz.underlying237
 a32:=Tryz.isAgg237
 z32:=Tryz.sizeOf237
 v32:=Tryz.zeroValue237
 t35:=Tryz.underlying244
 a35:=Tryz.isAgg244
 z35:=Tryz.sizeOf244
 v35:=Tryz.zeroValue244
 t36:=Tryz.underlying245
 a36:=Tryz.isAgg245
 z36:=Tryz.sizeOf245
 v36:=Tryz.zeroValue245
 t41:=Tryz.underlying187
 a41:=Tryz.isAgg187
 z41:=Tryz.sizeOf187
 v41:=Tryz.zeroValue187
 t44:=Tryz.underlying251
 a44:=Tryz.isAgg251
 z44:=Tryz.sizeOf251
 v44:=Tryz.zeroValue251
 t46:=Tryz.underlying253
 a46:=Tryz.isAgg253
 z46:=Tryz.sizeOf253
 v46:=Tryz.zeroValue253
 t53:=Tryz.underlying256
 a53:=Tryz.isAgg256
 z53:=Tryz.sizeOf256
 v53:=Tryz.zeroValue256
 t57:=Tryz.underlying260
 a57:=Tryz.isAgg260
 z57:=Tryz.sizeOf260
 v57:=Tryz.zeroValue260
 t63:=Tryz.underlying263
 a63:=Tryz.isAgg263
 z63:=Tryz.sizeOf263
 v63:=Tryz.zeroValue263
 t64:=Tryz.underlying264
 a64:=Tryz.isAgg264
 z64:=Tryz.sizeOf264
 v64:=Tryz.zeroValue264}
end Go.Proofs
namespace Go.Ab
open Go Go.Proofs Go.RowKit
set_option linter.all false
set_option maxRecDepth 100000
theorem Yby(m:Nat):AnyZI.SortsIn E.P Tryz.Df Fence.wide m:=
 ⟨fun blk off cap ss W hH hblk hsz=>callsIn_wide.2 (AnyM.slices_Sort_int Tryz.Kq blk off cap ss W hH hblk hsz),fun p cap W=>callsIn_wide.2 (AnyM.slices_Sort_int_none Tryz.Kq p cap W)⟩
end Go.Ab
namespace Go.Ab
open Go Go.Proofs
set_option maxRecDepth 100000
set_option maxHeartbeats 4000000
set_option linter.all false
theorem Zf:PC E 38 [] (.agg A3.view):=by
 have h1:=Dh 4 [] dZ;have h2:=Dh 5 [.mk 4 0 (.mk 0 []) []] iW;have h3:=HW (.mk 4 0 (.mk 0 []) []) (.mk 5 0 (.mk 0 []) [.mk 4 0 (.mk 0 []) []]) iW iW;refine M.F Tryz.func38 ?_;refine M.w3 @h1 @h2 @h3 ?_
 rfl
theorem Fm.Nq(G:Int->Tm->Tm)(c:Int)(f:Fm):∀b,f.re (fun b t=>G (c+b) t) b=f.re G (c+b):=by
 induction f using Fm.ind with
 |h f ih=>
  intro b;rw[Fm.BJ,Fm.BJ];congr 1;refine aF fun x hx=> ?_;have e:AR f.kind (c+b)=c+AR f.kind b:=fM
  rw[e];exact ih x hx _
theorem Yhv(f:Fm)(fr by_:Int):f.Bi fr by_=f.re (fun b t=>t.re (z8 b by_) 0) fr:=by
 have:=Fm.Nq (fun b t=>t.re (z8 b by_) 0) fr f 0;rw[bD] at this;exact this
theorem Va(by_:Int)(hby: -549755813888<=by_/\by_<=549755813888):∀(n:Nat) (f:Fm) (fr:Int),f.full<=n->n<274877906944->-274877906944<=fr->fr+n<549755813888->f.shape=true->(∀p∈f.AZ 0,∀q∈p.1.vars 0,0<=q.1/\q.1<549755813888)->
 PC E 58 [.agg f.view,.i fr,.i by_] (.agg (f.re (fun b t=>t.re (z8 b by_) 0) fr).view):=by
 intro n;induction n with
 |zero=>intro f dp h;have:=f.Ac;omega
 |succ n ih=>
 intro f fr hsz hn h1 h2 hf hix;have hsz':=f.Af;have hlen:=zd Fm.full Fm.Ac f.args;have hlen2:=zd Tm.full Tm.Ac f.terms;have hup:=Mh f.kind fr;have hpl:=Oo f.kind fr;have hb:=Nz f;have he:=Fm.BJ (fun b t=>t.re (z8 b by_) 0) fr f;have htm:=f.AY 0;refine M.F Tryz.func58 ?_;refine M.w0 ?_;refine M.rt f.terms.length (fun m=>([(1,.i fr),(2,.i by_),(3,.ptr 0 0),(6,.ptr 1 0),(7,.ptr 2 0),(18,.s .tm f.terms),(19,.i f.terms.length),(20,.i m)],⟨4,[(0,.var f.view),(1,.var [.i 0,.i 0,.slice .nil (.t .ty []),.slice .nil (.t .tm []),.slice .nil (.t .fm [])]),(2,.var [.i f.kind,.i f.ty.kind,.s .ty f.ty.args,.slice (.own 3) (.t .tm ((f.terms.take m).map fun t=>t.re (z8 fr by_) 0)),.slice .nil (.t .fm [])]),(3,.row)]⟩))
  (M.W HU) ?_ ?_
 .intro m hm _;have hs2:=zc Tm.full (ZA hm);have hc:=O6 by_ hby _ f.terms[m] fr (ZB _) dY dY dY (yh hf (ZA hm)) (fun p hp=>hix (f.terms[m],0) gQ p hp);refine M.w1 @hc ?_;exact⟨rfl,trivial,(M.W [some 0,some 1,some 2,some 5] (he:=(by(repeat'(first|exact trivial|exact Or.inr ⟨_,U,rfl⟩|refine And.intro ?_ ?_|refine⟨_,U,_,U,_,U,?_⟩|exact Ai.refl _|exact Ai.of_eq eL));done)))⟩
 .intro _;simp only[ZF];refine M.w0 ?_;refine M.rt f.args.length (fun m=>([(1,.i fr),(2,.i by_),(3,.ptr 0 0),(6,.ptr 1 0),(7,.ptr 2 0),(35,.s .fm f.args),(36,.i f.args.length),(37,.i m)],⟨5,[(0,.var f.view),(1,.var [.i 0,.i 0,.slice .nil (.t .ty []),.slice .nil (.t .tm []),.slice .nil (.t .fm [])]),(2,.var [.i f.kind,.i f.ty.kind,.s .ty f.ty.args,.slice (.own 3) (.t .tm (f.terms.map fun t=>t.re (z8 fr by_) 0)),.slice (.own 4) (.t .fm ((f.args.take m).map fun x=>x.re (fun b t=>t.re (z8 b by_) 0) (AR f.kind fr)))]),(3,.row),(4,.row)]⟩))
   (M.W HR) ?_ ?_
  .intro m hm _;have hs2:=zc Fm.full (ZA hm);have hc:=ih f.args[m] (AR f.kind fr) dY dY dY dY (zv hf (ZA hm)) (fun p hp q hq=>by
    obtain⟨p',hp',hpe⟩:=O7 (b':=AR f.kind 0) p hp;rw[<-hpe] at hq;exact hix p' jG q hq)
   rw[<-hpl] at hc;simp only[<-hpl];refine M.w2 @hb @hc ?_;exact⟨rfl,trivial,(M.W [some 0,some 1,some 2,some 3,some 6] (he:=(by(repeat'(first|exact trivial|exact Or.inr ⟨_,U,rfl⟩|refine And.intro ?_ ?_|refine⟨_,U,_,U,_,U,?_⟩|exact Ai.refl _|exact Ai.of_eq eL));done)))⟩
  .exact mK
theorem GZ{f:Fm}{g:List Ty}(hok:f.BF g)(hs:f.shape=true)(hz:f.size<=20000000)(hg:g.length<=100)(fr by_:Int)(h1:0<=fr/\fr<=100)(h2: -100<=by_/\by_<=100):
 PC E 58 [.agg f.view,.i fr,.i by_] (.agg (f.Bi fr by_).view):=by
 have hfl:=JK f hs;rw[Yhv];exact Va by_ dY _ f fr (ZB _) dY dY dY hs (fun p hp q hq=>by
  have a1:=TG hok hs p hp q hq;have a2:=Tm.AJ p.1 (LC f hs 0 p hp) 0 q hq;omega)
theorem Zt6:∀(n:Nat) (f:Fm),f.size<=n->f.shape=true->PC E 241 [.agg f.view] (.bool (E2 f)):=by
 intro n;induction n with
 |zero=>intro f h;have:=f.size_pos;omega
 |succ n ih=>
 intro f hz hs;rcases TL hs with⟨k,_⟩|⟨k,_⟩|⟨k,_⟩
 .obtain ⟨a,b,rfl⟩:=RH hs k;exact Ya7 a b
 .obtain ⟨a,b,e⟩:=MJ hs k;rw[e] at hz hs;rw[Oz] at hz;have ha:=ih a dY (zv hs fZ);have hb:=ih b dY (zv hs fZ);rcases k with k|k
  .rw[k] at e;subst e;have e:E2 (CU 2 a b)=(E2 a||E2 b):=by rw[SC];rfl
   rw[e];clear e hz hs k;unfold CU;cases h0:E2 a with
   |true=>
    rw[h0] at ha;refine M.F Tryz.func241 ?_;refine M.v1 @ha ?_
    rfl
   |false=>
    rw[h0] at ha;refine M.F Tryz.func241 ?_;refine M.v2 @ha @hb ?_
    rfl
  .rw[k] at e;subst e;have e:E2 (CU 3 a b)=E2 b:=by rw[SC];rfl
   rw[e];clear e hz hs k;unfold CU;refine M.F Tryz.func241 ?_;refine M.v1 @hb ?_
   rfl
 .obtain ⟨a,e⟩:=Ja hs dY;rw[e] at hz hs;rw[LZ] at hz;have ha:=ih a dY (zv hs (by simp[BK]));have e2:E2 (BK f.kind f.ty a)=if f.kind=5 then true else E2 a:=by
   rw[SC];show(if f.kind=1 then false else if f.kind=2 then _ else if f.kind=5 then true else E2 a)=_;rw[if_neg dY,if_neg dY]
  rw[<-e] at e2;rw[e2,e];clear e2 hz hs;generalize f.ty=s at*;rcases k with k|k|k|k;all_goals(rw[k])
  all_goals(clear e k)
  all_goals(unfold BK)
  all_goals(refine M.F Tryz.func241 ?_)
  all_goals(refine M.v1 @ha ?_)
  all_goals rfl
theorem Ztb(f:Fm)(he:f.err=0):PC E 198 [.agg f.view] (.AM [.bool (E2 f),.i 0]):=by
 have s:=(Fm.Ad f).1 he;have h1:=LX f (by have:=JK f s.1;omega);have h2:=Zt6 _ f (ZB _) s.1;rw[he] at h1;refine M.F Tryz.func198 ?_;refine M.w2 @h1 @h2 ?_
 rfl
theorem Ym(l:List Int):PC E 253 [.s .int l] (.bool (LR l)):=by
 cases l with
 |nil=>
  refine M.F Tryz.func253 ?_;refine M.w0 ?_
  rfl
 |cons x l=>
  refine M.F Tryz.func253 ?_;(repeat' first|refine M.o0 ?_|refine M.gs ?_ ?_<;>intro h|refine M.z1 9 ?_|refine M.gk ?_|fail);all_goals first
   |rfl
   |(exfalso;simp at h;done)
   |(exfalso;simp at h;omega)
theorem PD(t:Tm){g:List Ty}{T:Ty}(ht:t.err=0)(hi:t.inf g=(T,0))(hg:g.length<=100):PC E 255 [.agg t.view] (.s .int (F9 t)):=by
 have s:=(Tm.Ad t).1 ht;have hfl:=yd ht;have h1:=Yfk t dY (fun _ p hp=>by
  have a1:=MX t g 0 (g.length+t.size) (by rw[hi]) s.1 dY p hp;have a2:=Tm.AJ t s.1 0 p hp;omega)
 unfold F9;refine M.F Tryz.func255 ?_;refine M.w1 @h1 ?_;simp[zh,V.wk,V.An]
theorem L8(f:Fm)(t:Tm)(hf:f.full<549755813888)(ht:t.full<549755813888):PC E 256 [.agg f.view,.agg t.view] (.AM [.agg (D7 f t).1.view,.i (D7 f t).2]):=by
 have h1:=Yfw f 0 t hf ht;refine M.F Tryz.func256 ?_;refine M.w1 @h1 ?_
 rfl
theorem Og(c:Ck)(v h:Nat)(h1:c.tys.length<=1000/\v<=1000)(h2:c.hyps.length<=1000/\h<=1000):PC E 229 [.agg c.view,.i v,.i h] (.i (c.room v h)):=by
 unfold Ck.room;by_cases a1:c.tys.length+v>16
 .rw[if_pos (.inl a1)];have b1:decide (((c.tys.length:Nat):Int)+v>16)=true:=eB
  refine M.F Tryz.func229 ?_;(repeat' first|refine M.w0 ?_|refine M.gs ?_ ?_<;>intro h|refine M.cs ?_ ?_<;>intro h|fail);all_goals first
   |rfl
   |(exfalso;simp at*;omega)
 .by_cases a2:c.hyps.length+h>16
  .rw[if_pos (.inr a2)];refine M.F Tryz.func229 ?_;(repeat' first|refine M.w0 ?_|refine M.gs ?_ ?_<;>intro h|refine M.cs ?_ ?_<;>intro h|fail);all_goals first
    |rfl
    |(exfalso;simp at*;omega)
  .rw[if_neg dY];refine M.F Tryz.func229 ?_;(repeat' first|refine M.w0 ?_|refine M.gs ?_ ?_<;>intro h|refine M.cs ?_ ?_<;>intro h|fail);all_goals first
    |rfl
    |(exfalso;simp at*;omega)
theorem Pj(c:Ck)(f:Fm)(h:c.hyps.length<=1000):PC E 230 [.agg c.view,.agg f.view] (.agg (c.AH f).view):=by
 unfold Ck.AH;refine M.F Tryz.func230 ?_;refine M.w0 ?_
 rfl
theorem TU(c:Ck)(t:Tm)(k:Int)(ht:t.full<137438953000)(hg:(c.tys.map Ty.size).sum<1099511627776):PC E 238 [.agg c.view,.agg t.view,.i k] (.i (F8 c t k)):=by
 have h1:=Sx c.tys t dY hg;unfold F8;by_cases e:(xm c.tys t).2=0
 .rw[if_neg gM];rw[e] at h1;by_cases e2:(xm c.tys t).1.kind=k
  .rw[if_neg (by simp[e2])];refine M.F Tryz.func238 ?_;(repeat' first|refine M.w1 @h1 ?_|refine M.cs ?_ ?_<;>intro h|fail);all_goals first
    |rfl
    |(exfalso;simp at h;exact h e2)
  .rw[if_pos e2];refine M.F Tryz.func238 ?_;(repeat' first|refine M.w1 @h1 ?_|refine M.cs ?_ ?_<;>intro h|fail);all_goals first
    |rfl
    |(exfalso;simp at h;exact e2 h)
 .rw[if_pos e];refine M.F Tryz.func238 ?_;(repeat' first|refine M.w1 @h1 ?_|refine M.cs ?_ ?_<;>intro h|fail);all_goals first
   |rfl
   |(exfalso;simp_all;done)
theorem YP{acc l:List Int}{m:Nat}(hm:m<l.length):Az acc (l.take (m+1))=w9 l[m] (Az acc (l.take m)):=by
 rw[aT hm,xr,KR]
theorem Jw(a b:List Int)(ha:a.length<=100000)(hb:b.length<=100000):PC E 228 [.s .int a,.s .int b] (.s .int (ur a b)):=by
 have hl1:=IE a [];have hl2:=IE b (Az [] a);have hs:=NO (ks:=Az (Az [] a) b) (wh (wh bp)) (by simp at hl1;omega);refine M.F Tryz.func228 ?_;refine M.w0 ?_;refine M.rt a.length
  (fun m=>([(1,.s .int b),(5,.mp 0),(11,.s .int a),(12,.i a.length),(13,.i m)],⟨1,[(0,.map .bl (Az [] (a.take m)) (List.replicate (Az [] (a.take m)).length true))]⟩))
  ?_ ?_ ?_
 .simp only[ZX,xl,Z7,bf];exact(M.W Ay)
 .exact mA
 .intro _;simp only[ZF];refine M.w0 ?_;refine M.rt b.length
   (fun m=>([(5,.mp 0),(20,.s .int b),(21,.i b.length),(22,.i m)],⟨1,[(0,.map .bl (Az (Az [] a) (b.take m)) (List.replicate (Az (Az [] a) (b.take m)).length true))]⟩))
   ?_ ?_ ?_
  .simp only[ZX,xl];exact(M.W Ay)
  .exact mA
  .intro _;simp only[ZF];refine M.w1 @hs ?_
   rfl
theorem Zv3{l:List Int}{n:Int}{m:Nat}(hm:m<l.length):EH (l.take (m+1)) n=if l[m]>=n then EH (l.take m) n++[l[m]-n] else EH (l.take m) n:=by
 unfold EH;rw[aT hm,List.filter_append,aZ];by_cases h:l[m]>=n
 .rw[if_pos h];simp[List.filter,h]
 .rw[if_neg h];simp[List.filter,h]
theorem PJ(l:List Int)(n:Int):(EH l n).length<=l.length:=by unfold EH;rw[aI];exact cl _ _
theorem Pk(l:List Int)(n:Int)(hl:l.length<=100000)(hn:0<=n/\n<=100)(hx:∀x∈l,0<=x/\x<=1000000):PC E 252 [.s .int l,.i n] (.s .int (EH l n)):=by
 refine M.F Tryz.func252 ?_;refine M.w0 ?_;refine M.rt l.length
  (fun m=>([(1,.i n),(5,.slice (.own 0) (.t .int (EH (l.take m) n))),(8,.s .int l),(9,.i l.length),(10,.i m)],⟨1,[(0,.row)]⟩))
  (M.W [none]) ?_ ?_
 .intro m hm _;have hol:=PJ (l.take m) n;have hol2:(EH (l.take m) n).length<=l.length:=by rw[cA] at hol;omega
  have hv:=hx l[m] (ZA hm);have he:=Zv3 (n:=n) hm;(repeat' first|refine M.w0 ?_|refine M.cs ?_ ?_<;>intro h|fail)
  .have h':l[m]>=n:=ek
   rw[if_pos h'] at he;refine⟨rfl,trivial,?_⟩;simp only[he];exact(M.W [some 1])
  .have h':¬l[m]>=n:=ek
   rw[if_neg h'] at he;refine⟨rfl,trivial,?_⟩;simp only[he];exact(M.W Ay)
 .exact kW
theorem PI(c:Ck)(hc:c.ok)(l:List Ty)(hl:0<l.length)(hl2:l.length<=2):PC E 251 [.agg c.view,.s .ty l] (.agg (c.below l).view):=by
 have hlen:=hc.len;have hnh:=hc.nh;refine M.F Tryz.func251 ?_;refine M.w0 ?_;refine M.rt c.hyps.length
  (fun m=>([(1,.s .ty l),(2,.ptr 0 0),(4,.ptr 1 0),(5,.ptr 3 0),(23,.s .fm c.hyps),(24,.i c.hyps.length),(25,.i m)],⟨5,[(0,.var c.view),(1,.var [.slice .nil (.t .fm []),.slice .nil (.t .ty []),.slice .nil (.t .fm [])]),(2,.row),(3,.var [.s .fm c.lems,.slice (.own 2) (.t .ty (c.tys++l)),.slice (.own 4) (.t .fm ((c.hyps.take m).map fun f=>f.Bi 0 l.length))]),(4,.row)]⟩))
  (M.W HR) ?_ ?_
 .intro m hm _;obtain⟨h1,h2⟩:=hc.hyps c.hyps[m] (ZA hm);have s:=(Fm.Ad _).1 h1;have hcall:=GZ h2 s.1 dY dY 0 l.length dY dY;refine M.w1 @hcall ?_;exact⟨rfl,trivial,(M.W [some 0,some 1,some 2,some 3,some 6] (he:=(by(repeat'(first|exact trivial|exact Or.inr ⟨_,U,rfl⟩|refine And.intro ?_ ?_|refine⟨_,U,_,U,_,U,?_⟩|exact Ai.refl _|exact Ai.of_eq eL));done)))⟩
 .exact kW
theorem XK:∀{l:List Tm} {m:Nat} (hm:m<l.length),(∀j (hj:j<l.length),j<m->(wa l[j] 1000).2.2=0)->(wa l[m] 1000).2.2≠0->Ef l=([],(wa l[m] 1000).2.2)
 |[],m,hm,_,_=>by simp at hm
 |x::l,0,hm,_,h=>by simp only[Ef,ZN] at h ⊢;rw[if_pos h]
 |x::l,m+1,hm,h0,h=>by
  have h1:=h0 0 dZ dY;simp only[ZN] at h1;simp only[Z0] at h ⊢;have h2:=XK (l:=l) (m:=m) (by simpa using hm) (fun j hj hjm=>by have:=h0 (j+1) fG dY;simpa using this) h;simp only[Ef];rw[if_neg (by simp[h1]),h2,if_pos h]
theorem XC:∀{l:List Tm},(∀j (hj:j<l.length),j<l.length->(wa l[j] 1000).2.2=0)->Ef l=(l.map fun t=>(wa t 1000).1,0)
 |[],_=>rfl
 |x::l,h0=>by
  have h1:=h0 0 dZ dZ;simp only[ZN] at h1;have h2:=XC (l:=l) fun j hj _=>by have:=h0 (j+1) fG fG;simpa using this
  simp only[Ef];rw[if_neg (by simp[h1]),h2];rfl
theorem US:∀{l:List Fm} {m:Nat} (hm:m<l.length),(∀j (hj:j<l.length),j<m->(wo l[j]).2=0)->(wo l[m]).2≠0->xw l=([],(wo l[m]).2)
 |[],m,hm,_,_=>by simp at hm
 |x::l,0,hm,_,h=>by simp only[xw,ZN] at h ⊢;rw[if_pos h]
 |x::l,m+1,hm,h0,h=>by
  have h1:=h0 0 dZ dY;simp only[ZN] at h1;simp only[Z0] at h ⊢;have h2:=US (l:=l) (m:=m) (by simpa using hm) (fun j hj hjm=>by have:=h0 (j+1) fG dY;simpa using this) h;simp only[xw];rw[if_neg (by simp[h1]),h2,if_pos h]
theorem WC:∀{l:List Fm},(∀j (hj:j<l.length),j<l.length->(wo l[j]).2=0)->xw l=(l.map fun t=>(wo t).1,0)
 |[],_=>rfl
 |x::l,h0=>by
  have h1:=h0 0 dZ dZ;simp only[ZN] at h1;have h2:=WC (l:=l) fun j hj _=>by have:=h0 (j+1) fG fG;simpa using this
  simp only[xw];rw[if_neg (by simp[h1]),h2];rfl
theorem Zwv:∀(n:Nat) (f:Fm),f.full<=n->n<274877906944->PC E 259 [.agg f.view] (.AM [.agg (wo f).1.view,.i (wo f).2]):=by
 intro n;induction n with
 |zero=>intro f h;have:=f.Ac;omega
 |succ n ih=>
 intro f hsz hn;have hsz':=f.Af;have hlen:=zd Fm.full Fm.Ac f.args;have hlen2:=zd Tm.full Tm.Ac f.terms;have he:=Yb f;refine M.F Tryz.func259 ?_;refine M.w0 ?_;refine M.rp f.terms.length (fun m=>∀j (hj:j<f.terms.length),j<m->(wa f.terms[j] 1000).2.2=0)
  (fun m=>([(1,.ptr 0 0),(2,.ptr 1 0),(4,.ptr 2 0),(20,.s .tm f.terms),(21,.i f.terms.length),(22,.i m)],⟨4,[(0,.var f.view),(1,.var [.i 0,.i 0,.slice .nil (.t .ty []),.slice .nil (.t .tm []),.slice .nil (.t .fm [])]),(2,.var [.i f.kind,.i f.ty.kind,.s .ty f.ty.args,.slice (.own 3) (.t .tm ((f.terms.take m).map fun t=>(wa t 1000).1)),.slice .nil (.t .fm [])]),(3,.row)]⟩))
  (fun j hj h=>dY) (M.W HU) ?_ ?_
 .intro m hm hP;have hs2:=zc Tm.full (ZA hm);have hc:=To f.terms[m] 1000 dY;by_cases hx:(wa f.terms[m] 1000).2.2=0
  .rw[hx] at hc;refine M.w1 @hc ?_;exact⟨rfl,ya (p:=fun t=>(wa t 1000).2.2=0) hm hP hx,(M.W [some 0,some 1,some 2,some 6] (he:=(by(repeat'(first|exact trivial|exact Or.inr ⟨_,U,rfl⟩|refine And.intro ?_ ?_|refine⟨_,U,_,U,_,U,?_⟩|exact Ai.refl _|exact Ai.of_eq eL));done)))⟩
  .have e1:=XK hm hP hx;rw[e1,if_pos hx] at he;rw[he];(repeat' first|refine M.w1 @hc ?_|refine M.cs ?_ ?_<;>intro h|fail);all_goals first
    |rfl
    |(exfalso;simp at h;exact hx h)
 .intro hP;have e1:=XC (l:=f.terms) fun j hj _=>hP j hj hj;rw[e1,if_neg dZ] at he;simp only[ZF];refine M.w0 ?_;refine M.rp f.args.length (fun m=>∀j (hj:j<f.args.length),j<m->(wo f.args[j]).2=0)
   (fun m=>([(1,.ptr 0 0),(2,.ptr 1 0),(4,.ptr 2 0),(44,.s .fm f.args),(45,.i f.args.length),(46,.i m)],⟨5,[(0,.var f.view),(1,.var [.i 0,.i 0,.slice .nil (.t .ty []),.slice .nil (.t .tm []),.slice .nil (.t .fm [])]),(2,.var [.i f.kind,.i f.ty.kind,.s .ty f.ty.args,.slice (.own 3) (.t .tm (f.terms.map fun t=>(wa t 1000).1)),.slice (.own 4) (.t .fm ((f.args.take m).map fun x=>(wo x).1))]),(3,.row),(4,.row)]⟩))
   (fun j hj h=>dY) (M.W HR) ?_ ?_
  .intro m hm hP2;have hs2:=zc Fm.full (ZA hm);have hc:=ih f.args[m] dY dY;by_cases hx:(wo f.args[m]).2=0
   .rw[hx] at hc;refine M.w1 @hc ?_;exact⟨rfl,ya (p:=fun t=>(wo t).2=0) hm hP2 hx,(M.W [some 0,some 1,some 2,some 3,some 7] (he:=(by(repeat'(first|exact trivial|exact Or.inr ⟨_,U,rfl⟩|refine And.intro ?_ ?_|refine⟨_,U,_,U,_,U,?_⟩|exact Ai.refl _|exact Ai.of_eq eL));done)))⟩
   .have e2:=US hm hP2 hx;rw[e2,if_pos hx] at he;rw[he];(repeat' first|refine M.w1 @hc ?_|refine M.cs ?_ ?_<;>intro h|fail);all_goals first
     |rfl
     |(exfalso;simp at h;exact hx h)
  .intro hP2;have e2:=WC (l:=f.args) fun j hj _=>hP2 j hj hj;rw[e2,if_neg dZ] at he;simp only[ZF];rw[he];refine M.w0 ?_
   rfl
abbrev FD(f:Fm)(u:List Int)(e:Int):V:= .AM [.agg (f.view++[.s .int u]),.i e]
abbrev CY(r:C8):V:= .AM [.agg r.1.view,.s .int r.2.1,.i r.2.2]
theorem Ck.ok.sum{c:Ck}(hc:c.ok):(c.tys.map Ty.size).sum<=1024:=by
 have h1:=hc.len;have h2:=Rr (f:=Ty.size) (C:=64) c.tys fun x hx=>((Ty.Ad x).1 (hc.all x hx)).2;omega
theorem HI{c:Ck}(hc:c.ok){f:Fm}{u:List Int}{e:Int}(h:GV c (f,u,e)):f.full<=266240/\u.length<=16/\∀x∈u,0<=x/\x<=1000000:=by
 have hl:=hc.len;by_cases he:e=0
 .obtain ⟨h1,_,h3⟩:=h.1 he;have h4:=h3.len;refine⟨yw h1,by simp only at h4;omega,fun x hx=> ?_⟩;have:=h3.2 x hx;omega
 .have h1:=h.2 he;simp only[ye,Prod.mk.injEq] at h1;rw[h1.1,h1.2.1];exact⟨ej,dZ,fun x hx=>by cases hx⟩
theorem Yfn{c:Ck}(hc:c.ok)(i:Int)(hi:0<=i):PC E 196 [.agg c.view,.agg (Pf.mk 1 i (.mk 0 []) [] [] []).view] (CY (MG c i)):=by
 have hn:=hc.nh;unfold MG;by_cases h1:i>=c.hyps.length
 .exact lN
 .rw[if_neg h1];have hlt:c.hyps.length-1-i.toNat<c.hyps.length:=dY
  rw[N8 hlt];simp only[Pf.view,Pf.kind,Pf.index,Pf.ty,Pf.terms,Pf.Aa,Pf.args];refine M.F Tryz.func196 ?_;(repeat' first|refine M.v0 ?_|refine M.cs ?_ ?_<;>intro h|fail)
  .exact kX
  .refine L.F3 (c.hyps.length-1-i.toNat) rfl rfl rfl rfl dY rfl rfl dY ?_;refine M.w0 ?_
   rfl
theorem Ygz{c:Ck}(hc:c.ok)(i:Int)(hi:0<=i):PC E 196 [.agg c.view,.agg (Pf.mk 2 i (.mk 0 []) [] [] []).view] (CY (N7 c i)):=by
 have hn:=hc.nl;unfold N7;by_cases h1:i>=c.lems.length
 .exact lN
 .rw[if_neg h1];have hlt:i.toNat<c.lems.length:=dY
  rw[N8 hlt];simp only[Pf.view,Pf.kind,Pf.index,Pf.ty,Pf.terms,Pf.Aa,Pf.args];refine M.F Tryz.func196 ?_;(repeat' first|refine M.v0 ?_|refine M.cs ?_ ?_<;>intro h|fail)
  .exact kX
  .refine L.F3 i.toNat rfl rfl rfl rfl dY rfl rfl dY ?_;refine M.w0 ?_
   rfl
section
variable {c:Ck} (hc:c.ok) {p q:Pf} {f0 f1:Fm} {u0 u1:List Int} {e0 e1:Int}
include hc
theorem Ygx(hp:PC E 135 [.agg c.view,.agg p.view] (FD f0 u0 e0))(hq:PC E 135 [.agg c.view,.agg q.view] (FD f1 u1 e1))(o0:GV c (f0,u0,e0))(o1:GV c (f1,u1,e1)):
 PC E 196 [.agg c.view,.agg (Pf.mk 3 0 (.mk 0 []) [] [] [p,q]).view] (CY (Mw (fun _=>(f0,u0,e0)) (fun _=>(f1,u1,e1)) c)):=by
 have b0:=HI hc o0;have b1:=HI hc o1;have h2:=Oa 2 f0 f1 dY dY;have h3:=Jw u0 u1 dY dY;unfold Mw;by_cases he:e0=0
 .subst he;rw[if_neg dZ];refine M.F Tryz.func196 ?_;refine M.v4 @hp @hq @h2 @h3 ?_
  rfl
 .rw[if_pos he];refine M.F Tryz.func196 ?_;(repeat' first|refine M.v4 @hp @hq @h2 @h3 ?_|refine M.cs ?_ ?_<;>intro h|fail);all_goals first
   |rfl
   |(exfalso;simp at h;exact he h)
theorem Zv(j:Nat)(hj:j<2)(hp:PC E 135 [.agg c.view,.agg p.view] (FD f0 u0 e0))(o0:GV c (f0,u0,e0)):
 PC E 196 [.agg c.view,.agg (Pf.mk (4+j) 0 (.mk 0 []) [] [] [p]).view] (CY (MS j (fun _=>(f0,u0,e0)) c)):=by
 unfold MS;by_cases he:e0=0
 .subst he;rw[if_neg dZ];by_cases hk:f0.kind=2
  .rw[if_neg (by simp[hk])];obtain⟨x,y,e⟩:=MJ ((Fm.Ad _).1 (o0.1 rfl).1).1 (.inl hk);simp only at e;rw[hk] at e;subst e;rcases j with _|_|j
   .refine M.F Tryz.func196 ?_;refine M.v1 @hp ?_
    rfl
   .refine M.F Tryz.func196 ?_;refine M.v1 @hp ?_
    rfl
   .omega
  .rw[if_pos hk];rcases j with _|_|j
   .exact kU
   .exact kU
   .omega
 .rw[if_pos he];rcases j with _|_|j
  .exact kV
  .exact kV
  .omega
theorem Zzx{f:Fm}(hf:f.full<=300000)(hp:y9 c.tys f=0->c.room 0 1=0->PC E 135 [.agg (c.AH f).view,.agg p.view] (FD f0 u0 e0))(b0:y9 c.tys f=0->c.room 0 1=0->f0.full<=266240):
 PC E 196 [.agg c.view,.agg (Pf.mk 6 0 (.mk 0 []) [] [f] [p]).view] (CY (NS f (fun _=>(f0,u0,e0)) c)):=by
 have hl:=hc.len;have hn:=hc.nh;have h1:=OY c.tys f dY (by have:=hc.sum;omega);have h2:=Og c 0 1 dY dY;have h3:=Pj c f dY;unfold NS;by_cases t0:y9 c.tys f=0
 .rw[if_neg gL];rw[t0] at h1;by_cases r0:c.room 0 1=0
  .rw[if_neg (by simp[r0])];rw[r0] at h2;have h5:=hp t0 r0;have b1:=b0 t0 r0;have h4:=Oa 3 f f0 dY dY;refine M.F Tryz.func196 ?_;refine M.v5 @h1 @h2 @h3 @h4 @h5 ?_
   rfl
  .rw[if_pos r0];rw[MQ r0] at h2;refine M.F Tryz.func196 ?_;refine M.v2 @h1 @h2 ?_
   rfl
 .rw[if_pos t0];refine M.F Tryz.func196 ?_;(repeat' first|refine M.o1 @h1 ?_|refine M.z1 29 ?_|refine M.bl ?_|refine M.cs ?_ ?_<;>intro h|refine M.gk ?_|fail);all_goals first
   |rfl
   |(exfalso;simp at h;exact t0 h)
theorem Yah(hp:PC E 135 [.agg c.view,.agg p.view] (FD f0 u0 e0))(hq:PC E 135 [.agg c.view,.agg q.view] (FD f1 u1 e1))(o0:GV c (f0,u0,e0))(o1:GV c (f1,u1,e1)):
 PC E 196 [.agg c.view,.agg (Pf.mk 7 0 (.mk 0 []) [] [] [p,q]).view] (CY (NH (fun _=>(f0,u0,e0)) (fun _=>(f1,u1,e1)) c)):=by
 have b0:=HI hc o0;have b1:=HI hc o1;have h3:=Jw u0 u1 dY dY;unfold NH;by_cases he:e0=0;case neg=>
  rw[if_pos he];refine M.F Tryz.func196 ?_;(repeat' first|refine M.o1 @hp ?_|refine M.z1 38 ?_|refine M.bl ?_|refine M.cs ?_ ?_<;>intro h|refine M.gk ?_|fail);all_goals first
   |rfl
   |(exfalso;simp at h;exact he h)
 subst he;rw[if_neg dZ];by_cases hk:f0.kind=3;case neg=>
  rw[if_pos hk];refine M.F Tryz.func196 ?_;(repeat' first|refine M.v1 @hp ?_|refine M.cs ?_ ?_<;>intro h|fail);all_goals first
   |rfl
   |(exfalso;simp at h;exact hk h)
   |trace_state
 rw[if_neg (by simp[hk])];obtain⟨x,y,e⟩:=MJ ((Fm.Ad _).1 (o0.1 rfl).1).1 (.inr hk);simp only at e;rw[hk] at e;subst e;by_cases he1:e1=0;case neg=>
  rw[if_pos he1];refine M.F Tryz.func196 ?_;(repeat' first|refine M.v2 @hp @hq ?_|refine M.cs ?_ ?_<;>intro h|fail);all_goals first
   |rfl
   |(exfalso;simp at h;exact he1 h)
   |trace_state
 subst he1;rw[if_neg dZ];have ex:=uk (o0.1 rfl).1 (x:=x) fZ;have h4:=Yk x f1 (by have:=yw ex;omega) dY;refine M.F Tryz.func196 ?_;refine M.v4 @hp @hq @h3 @h4 ?_
 rfl
end
theorem XD(f:Fm)(t:Tm):(D7 f t).1.full<=1200000000:=by
 unfold D7;by_cases h:xi f 0 t=0
 .rw[if_pos h];exact Xe h
 .rw[if_neg h];exact ay (by decide:Bf.full<=2) ej
section
variable {c:Ck} (hc:c.ok) {p q:Pf} {f0 f1:Fm} {u0 u1:List Int} {e0 e1:Int}
include hc
theorem KT{f:Fm}{t:Tm}(hf:f.full<=1200000000)(ht:t.full<=300000)(hp:PC E 135 [.agg c.view,.agg p.view] (FD f0 u0 e0))(o0:GV c (f0,u0,e0)):
 PC E 257 [.agg c.view,.agg p.view,.agg f.view,.agg t.view] (.AM [.s .int (xo (fun _=>(f0,u0,e0)) c f t).1,.i (xo (fun _=>(f0,u0,e0)) c f t).2]):=by
 have b0:=HI hc o0;have h1:=L8 f t dY dY;have hb:=XD f t;have h2:=Yk (D7 f t).1 f0 dY dY;unfold xo;by_cases he:e0=0;case neg=>
  rw[if_pos he];refine M.F Tryz.func257 ?_;(repeat' first|refine M.o1 @hp ?_|refine M.z1 4 ?_|refine M.cs ?_ ?_<;>intro h|refine M.gk ?_|fail);all_goals first
   |rfl
   |(exfalso;simp at h;exact he h)
 subst he;rw[if_neg dZ];by_cases h0:(D7 f t).2=0;case neg=>
  rw[if_pos h0];refine M.F Tryz.func257 ?_;(repeat' first|refine M.o2 @hp @h1 ?_|refine M.z1 7 ?_|refine M.cs ?_ ?_<;>intro h|refine M.gk ?_|fail);all_goals first
   |rfl
   |(exfalso;simp at h;exact h0 h)
 rw[if_neg (by simp[h0])];rw[h0] at h1;refine M.F Tryz.func257 ?_;refine M.w3 @hp @h1 @h2 ?_
 rfl
theorem Xc{k:Int}(hk:k=8\/k=12){s:Ty}(hs:s.err=0)(hp:c.room 1 0=0->PC E 135 [.agg (c.below [s]).view,.agg p.view] (FD f0 u0 e0))(b0:c.room 1 0=0->f0.full<=266240/\u0.length<=16/\∀x∈u0,0<=x/\x<=1000000):
 PC E 232 [.agg c.view,.agg (Pf.mk k 0 s [] [] [p]).view] (CY (Nw k s (fun _=>(f0,u0,e0)) c)):=by
 have hl:=hc.len;have hn:=hc.nh;have h1:=Og c 1 0 dY dY;have hsz:=((Ty.Ad s).1 hs).2;unfold Nw;by_cases r0:c.room 1 0=0;case neg=>
  rw[if_pos r0];rw[MQ r0] at h1;refine M.F Tryz.func232 ?_;refine M.w1 @h1 ?_
  rfl
 rw[if_neg (by simp[r0])];rw[r0] at h1;have b:=b0 r0;have h2:=PI c hc [s] dZ dZ;have h3:=hp r0;have h4:=Ym u0;have h5:=Pk u0 1 dY dY b.2.2;have h6:=G9 4 s f0 dY dY;have h7:=G9 6 s f0 dY dY;by_cases he:e0=0;case neg=>
  rw[if_pos he];refine M.F Tryz.func232 ?_;(repeat' first|refine M.o3 @h1 @h2 @h3 ?_|refine M.z1 7 ?_|refine M.cs ?_ ?_<;>intro h|refine M.gk ?_|fail);all_goals first
   |rfl
   |(exfalso;simp at h;exact he h)
   |trace_state
 subst he;rw[if_neg dZ];rcases hk with rfl|rfl
 .rw[if_pos rfl];refine M.F Tryz.func232 ?_;refine M.w5 @h1 @h2 @h3 @h5 @h6 ?_
  rfl
 .rw[if_neg ej];cases hh:LR u0 with
  |true=>
   rw[hh] at h4;rw[if_pos rfl];refine M.F Tryz.func232 ?_;refine M.w4 @h1 @h2 @h3 @h4 ?_
   rfl
  |false=>
   rw[hh] at h4;rw[if_neg dZ];refine M.F Tryz.func232 ?_;refine M.w6 @h1 @h2 @h3 @h4 @h5 @h7 ?_
   rfl
theorem XO{k:Int}(hk:k=9\/k=13){t:Tm}(ht:t.full<=300000)(hp:PC E 135 [.agg c.view,.agg p.view] (FD f0 u0 e0))(o0:GV c (f0,u0,e0)):
 PC E 233 [.agg c.view,.agg (Pf.mk k 0 (.mk 0 []) [t] [] [p]).view] (CY (atR k t (fun _=>(f0,u0,e0)) c)):=by
 have hl:=hc.len;have hsum:=hc.sum;have b0:=HI hc o0;have h1:=Sx c.tys t dY dY;unfold atR;by_cases t0:(xm c.tys t).2=0;case neg=>
  rw[if_pos t0];refine M.F Tryz.func233 ?_;(repeat' first|refine M.o1 @h1 ?_|refine M.z1 5 ?_|refine M.cs ?_ ?_<;>intro h|refine M.gk ?_|fail);all_goals first
   |rfl
   |(exfalso;simp at h;exact t0 h)
 rw[if_neg gL];rw[t0] at h1;obtain⟨_,t1,t2,_⟩:=Nk t0;by_cases he:e0=0;case neg=>
  rw[if_pos he];refine M.F Tryz.func233 ?_;(repeat' first|refine M.o2 @h1 @hp ?_|refine M.z1 8 ?_|refine M.cs ?_ ?_<;>intro h|refine M.gk ?_|fail);all_goals first
   |rfl
   |(exfalso;simp at h;exact he h)
   |(exfalso;simp at h;done)
 subst he;rw[if_neg dZ];have hfr:=PD t t1 t2 dY;have hfl:=(I0 t2).len;have hun:=Jw u0 (F9 t) dY dY;by_cases hkd:f0.kind=kI k 13 6 4;case neg=>
  rw[if_pos hkd];rcases hk with rfl|rfl;all_goals
   refine M.F Tryz.func233 ?_;(repeat' first|refine M.o4 @h1 @hp @hfr @hun ?_|refine M.z1 13 ?_|refine M.cs ?_ ?_<;>intro h|refine M.gk ?_|fail);all_goals first
    |rfl
    |(exfalso;simp at h;exact hkd h)
    |trace_state
 rw[if_neg (by simp[hkd])];have hkk:4<=f0.kind/\f0.kind<=7:=iY
 have s0:=(Fm.Ad _).1 (o0.1 rfl).1;obtain⟨x,e⟩:=Ja s0.1 hkk;simp only at e;have ex:=uk (o0.1 rfl).1 (x:=x) jx;have hte:=J1 s0.1 hkk;have hsame:=xp _ f0.ty (xm c.tys t).1 (ZB _) (by have:=((Ty.Ad _).1 hte).2;simp only at this;omega);have hput:=L8 x t (by have:=yw ex;omega) dY;have hx:f0.args.getD 0 Bf=x:=fH
 rw[hx];generalize hty:f0.ty=s at*;by_cases hts:s=(xm c.tys t).1;case neg=>
  rw[if_pos hts];rw[decide_eq_false hts] at hsame;rw[hkd] at e;subst e;rcases hk with rfl|rfl;all_goals
   simp only[kI] at*;refine M.F Tryz.func233 ?_;refine M.w5 @h1 @hp @hfr @hun @hsame ?_;all_goals first
    |rfl
    |trace_state
 rw[if_neg (by simp[hts])];rw[decide_eq_true hts] at hsame;rw[hkd] at e;subst e;rcases hk with rfl|rfl;all_goals
  simp only[kI] at*;refine M.F Tryz.func233 ?_;refine M.w6 @h1 @hp @hfr @hun @hsame @hput ?_;all_goals first
   |rfl
   |trace_state
end
section
variable {c:Ck} (hc:c.ok) {p q:Pf} {r0 r1:Rs}
include hc
theorem YF{k:Int}(hk:k=10\/k=14){f:Fm}{t:Tm}(hf:f.full<=300000)(ht:t.full<=300000)
 (hpa:PC E 257 [.agg c.view,.agg p.view,.agg (f.args.getD 0 Bf).view,.agg t.view] (.AM [.s .int (xo r0 c (f.args.getD 0 Bf) t).1,.i (xo r0 c (f.args.getD 0 Bf) t).2]))
 (hua:Be c.tys.length (xo r0 c (f.args.getD 0 Bf) t).1):
 PC E 234 [.agg c.view,.agg (Pf.mk k 0 (.mk 0 []) [t] [f] [p]).view] (CY (Nm k f t r0 c)):=by
 have hl:=hc.len;have hsum:=hc.sum;have hul:=hua.len;have h1:=OY c.tys f dY dY;have h2:=Sx c.tys t dY dY;unfold Nm;generalize xo r0 c (f.args.getD 0 Bf) t=pr at*;by_cases t0:y9 c.tys f=0;case neg=>
  rw[if_pos t0];refine M.F Tryz.func234 ?_;(repeat' first|refine M.o1 @h1 ?_|refine M.z1 5 ?_|refine M.cs ?_ ?_<;>intro h|refine M.gk ?_|fail);all_goals first
   |rfl
   |(exfalso;simp at h;exact t0 h)
 rw[if_neg gL];rw[t0] at h1;obtain⟨fe,fo⟩:=wd t0;have s0:=(Fm.Ad _).1 fe;by_cases hkd:f.kind=kI k 14 7 5;case neg=>
  rw[if_pos hkd];rcases hk with rfl|rfl;all_goals
   refine M.F Tryz.func234 ?_;(repeat' first|refine M.o1 @h1 ?_|refine M.z1 10 ?_|refine M.cs ?_ ?_<;>intro h|refine M.gk ?_|fail);all_goals first
    |rfl
    |(exfalso;simp at h;exact hkd h)
    |trace_state
 rw[if_neg (by simp[hkd])];have hkk:4<=f.kind/\f.kind<=7:=iY
 obtain⟨x,e⟩:=Ja s0.1 hkk;have hx:f.args.getD 0 Bf=x:=fH
 have hte:=J1 s0.1 hkk;have hsame:=xp _ f.ty (xm c.tys t).1 (ZB _) (by have:=((Ty.Ad _).1 hte).2;omega);rw[hx] at hpa;by_cases t1:(xm c.tys t).2=0;case neg=>
  rw[if_pos t1];clear hsame hte;generalize f.ty=s at*;rw[hkd] at e;subst e;rcases hk with rfl|rfl;all_goals
   simp only[kI] at*;refine M.F Tryz.func234 ?_;(repeat' first|refine M.o2 @h1 @h2 ?_|refine M.z1 13 ?_|refine M.cs ?_ ?_<;>intro h|refine M.gk ?_|fail);all_goals first
    |rfl
    |(exfalso;simp at h;exact t1 h)
    |trace_state
 rw[if_neg (by simp[t1])];rw[t1] at h2;obtain⟨_,te,ti,_⟩:=Nk t1;have hfr:=PD t te ti dY;have hfl:=(I0 ti).len;have hun:=Jw pr.1 (F9 t) dY dY;by_cases hts:f.ty=(xm c.tys t).1;case neg=>
  rw[if_pos hts];rw[decide_eq_false hts] at hsame;clear hte;generalize f.ty=s at*;rw[hkd] at e;subst e;rcases hk with rfl|rfl;all_goals
   simp only[kI] at*;refine M.F Tryz.func234 ?_;refine M.w3 @h1 @h2 @hsame ?_;all_goals first
    |rfl
    |trace_state
 rw[if_neg (by simp[hts])];rw[decide_eq_true hts] at hsame;clear hte;generalize f.ty=s at*;rw[hkd] at e;subst e;rcases hk with rfl|rfl;all_goals
  simp only[kI] at*;refine M.F Tryz.func234 ?_;refine M.w6 @h1 @h2 @hsame @hpa @hfr @hun ?_;all_goals first
   |rfl
   |trace_state
theorem Yi9{f:Fm}{t:Tm}(hf:f.full<=300000)(ht:t.full<=300000)
 (hpa:PC E 257 [.agg c.view,.agg p.view,.agg f.view,.agg zT.view] (.AM [.s .int (xo r0 c f zT).1,.i (xo r0 c f zT).2]))
 (hpb:((c.below [Ae]).AH f).ok->PC E 257 [.agg ((c.below [Ae]).AH f).view,.agg q.view,.agg (f.Bi 1 1).view,.agg (sT (vT 0)).view] (.AM [.s .int (xo r1 ((c.below [Ae]).AH f) (f.Bi 1 1) (sT (vT 0))).1,.i (xo r1 ((c.below [Ae]).AH f) (f.Bi 1 1) (sT (vT 0))).2]))
 (hua:Be c.tys.length (xo r0 c f zT).1) (hub:((c.below [Ae]).AH f).ok->Be (c.tys.length+1) (xo r1 ((c.below [Ae]).AH f) (f.Bi 1 1) (sT (vT 0))).1):
 PC E 236 [.agg c.view,.agg (Pf.mk 16 0 (.mk 0 []) [t] [f] [p,q]).view] (CY (M4 f t r0 r1 c)):=by
 have hl:=hc.len;have hn:=hc.nh;have hsum:=hc.sum;have hul:=hua.len;have h1:=OU (c.tys++[Ae]) f dY (hc.one Jg) eB;have h2:=TU c t 1 dY dY;have h3:=Dh 4 [] dZ;have h4:=Og c 1 1 dY dY;have h5:=uq;have h6:=PI c hc [Ae] dZ dZ;have h7:=Pj (c.below [Ae]) f gZ;have h9:=E7 0;have h10:=Dh 5 [vT 0] iV;have h11:=L8 f t dY dY;unfold M4;generalize hA:xo r0 c f zT=a at*;generalize hB:xo r1 ((c.below [Ae]).AH f) (f.Bi 1 1) (sT (vT 0))=b at*;by_cases e0:um (c.tys++[Ae]) f=0;case neg=>
  rw[if_pos e0];refine M.F Tryz.func236 ?_;(repeat' first|refine M.o2 @h5 @h1 ?_|refine M.z1 5 ?_|refine M.cs ?_ ?_<;>intro h|refine M.gk ?_|fail);all_goals first
   |rfl
   |(exfalso;simp at h;exact e0 h)
   |trace_state
 rw[if_neg (by simp[e0])];rw[e0] at h1;obtain⟨f1,f2⟩:=L3 (hc.one Jg) e0;have s0:=(Fm.Ad _).1 f1;by_cases e1:F8 c t 1=0;case neg=>
  rw[if_pos e1];refine M.F Tryz.func236 ?_;(repeat' first|refine M.o3 @h5 @h1 @h2 ?_|refine M.z1 8 ?_|refine M.cs ?_ ?_<;>intro h|refine M.gk ?_|fail);all_goals first
   |rfl
   |(exfalso;simp at h;exact e1 h)
   |trace_state
 rw[if_neg (by simp[e1])];rw[e1] at h2;obtain⟨te,ti⟩:=R6 e1;by_cases e2:a.2=0;case neg=>
  rw[if_pos e2];refine M.F Tryz.func236 ?_;(repeat' first|refine M.o5 @h5 @h1 @h2 @h3 @hpa ?_|refine M.z1 11 ?_|refine M.cs ?_ ?_<;>intro h|refine M.gk ?_|fail);all_goals first
   |rfl
   |(exfalso;simp at h;exact e2 h)
   |trace_state
 rw[if_neg (by simp[e2])];rw[e2] at hpa;by_cases e3:c.room 1 1=0;case neg=>
  rw[if_pos e3];rw[MQ e3] at h4;refine M.F Tryz.func236 ?_;refine M.w6 @h5 @h1 @h2 @h3 @hpa @h4 ?_;all_goals first
   |rfl
   |trace_state
 rw[if_neg (by simp[e3])];rw[e3] at h4;have hr:=va e3;have hb:((c.below [Ae]).AH f).ok:=(hc.below (l:=[Ae]) hr.1 (by simp[Jg])).AH gG f1 f2;have h8:=GZ f2 s0.1 dY eB 1 1 dY dY;have h12:=hpb hb;have hub':=hub hb;by_cases e4:b.2=0;case neg=>
  rw[if_pos e4];refine M.F Tryz.func236 ?_;(repeat' first|refine M.o6 @h5 @h1 @h2 @h3 @hpa @h4 ?_|refine M.c2 (h6) ?_|refine M.c2 (h7) ?_|refine M.c2 (h8) ?_|refine M.c2 (h9) ?_|refine M.c2 (h10) ?_|refine M.c2 (h12) ?_|refine M.z1 17 ?_|refine M.cs ?_ ?_<;>intro h|refine M.gk ?_|fail);all_goals first
   |rfl
   |(exfalso;simp at h;exact e4 h)
   |trace_state
 rw[if_neg (by simp[e4])];rw[e4] at h12;have hfr:=PD t te ti dY;have hfl:=(I0 ti).len;have hun:=Jw (F9 t) a.1 dY dY;have hlu:Be c.tys.length (ur (F9 t) a.1):= .union (I0 ti).2 hua.2;have hll:=hlu.len;have hbl:=hub'.len;have hou:=Pk b.1 1 dY dY (fun x hx=>by have:=hub'.2 x hx;omega);have hol:=PJ b.1 1;have hun2:=Jw (ur (F9 t) a.1) (EH b.1 1) dY dY;refine M.F Tryz.func236 ?_;(repeat' first|refine M.w6 @h5 @h1 @h2 @h3 @hpa @h4 ?_|refine M.c2 (h6) ?_|refine M.c2 (h7) ?_|refine M.c2 (h8) ?_|refine M.c2 (h9) ?_|refine M.c2 (h10) ?_|refine M.c2 (h12) ?_|refine M.c2 (h11) ?_|refine M.c2 (hfr) ?_|refine M.c2 (hun) ?_|refine M.c2 (hou) ?_|refine M.c2 (hun2) ?_|fail);all_goals first
  |rfl
  |trace_state
end
end Go.Ab
