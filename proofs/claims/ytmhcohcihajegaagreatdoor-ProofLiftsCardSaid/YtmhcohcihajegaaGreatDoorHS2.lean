/- A part of this seat's proofs. No conditions. -/
import Derived.Shelf.SlIterI.Keys
import Derived.Shelf.SlIterI.Sorted
import Derived.Shelf.SortM.Plain
import Derived.Shelf.SortM.SortNone
import Derived.Test.YtmhcohcihajegaaGreatDoorHS3
import Derived.Test.YtmhcohcihajegaaGreatDoorHS4
namespace Go.Proofs
open Go.Shelf
def Tryz.keysB_ren:Go.Shelf.Ren:=⟨fun|7=>176|10=>215|n=>n,fun|23=>105|26=>3|3=>4|28=>187|0=>0|27=>186|33=>156|4=>4|n=>n,fun|n=>n⟩
theorem Tryz.keysB:Go.Proofs.SlLaysZI.n7 Tryz.prog Tryz.keysB_ren:={
 mixed:=by kernel_rfl
 f7:=⟨Tryz.f176.name,by decide,Tryz.func176.trans (congrArg some (by kernel_rfl))⟩
 f10:=⟨Tryz.f215.name,by decide,Tryz.func215.trans (congrArg some (by kernel_rfl))⟩
 t0:=Tryz.underlying0
 a0:=Tryz.isAgg0
 z0:=Tryz.sizeOf0
 v0:=Tryz.zeroValue0
 t4:=Tryz.underlying4
 a4:=Tryz.isAgg4
 z4:=Tryz.sizeOf4
 v4:=Tryz.zeroValue4
 t23:=Tryz.underlying105
 a23:=Tryz.isAgg105
 z23:=Tryz.sizeOf105
 v23:=Tryz.zeroValue105
 t26:=Tryz.underlying3
 a26:=Tryz.isAgg3
 z26:=Tryz.sizeOf3
 v26:=Tryz.zeroValue3
 t27:=Tryz.underlying186
 a27:=Tryz.isAgg186
 z27:=Tryz.sizeOf186
 v27:=Tryz.zeroValue186
 t28:=Tryz.underlying187
 a28:=Tryz.isAgg187
 z28:=Tryz.sizeOf187
 v28:=Tryz.zeroValue187
 t33:=Tryz.underlying156
 a33:=Tryz.isAgg156
 z33:=Tryz.sizeOf156
 v33:=Tryz.zeroValue156}
def Tryz.sortedA_ren:Go.Shelf.Ren:=⟨fun|6=>175|8=>213|9=>214|11=>236|13=>238|12=>237|23=>264|24=>265|14=>255|15=>256|16=>257|17=>258|18=>259|19=>260|20=>261|21=>262|22=>263|25=>269|26=>270|27=>271|28=>272|29=>273|30=>274|31=>275|n=>n,fun|26=>3|28=>187|24=>22|0=>0|3=>3|37=>239|48=>254|50=>256|4=>4|40=>248|39=>247|45=>225|5=>5|9=>9|51=>259|55=>263|57=>265|58=>266|33=>156|n=>n,fun|n=>n⟩
theorem Tryz.sortedA:Go.Proofs.SlLaysZI.n6 Tryz.prog Tryz.sortedA_ren:={
 mixed:=by kernel_rfl
 f6:=⟨Tryz.f175.name,by decide,Tryz.func175.trans (congrArg some (by kernel_rfl))⟩
 f8:=⟨Tryz.f213.name,by decide,Tryz.func213.trans (congrArg some (by kernel_rfl))⟩
 f11:=⟨Tryz.f236.name,by decide,Tryz.func236.trans (congrArg some (by kernel_rfl))⟩
 t0:=Tryz.underlying0
 a0:=Tryz.isAgg0
 z0:=Tryz.sizeOf0
 v0:=Tryz.zeroValue0
 t24:=Tryz.underlying22
 a24:=Tryz.isAgg22
 z24:=Tryz.sizeOf22
 v24:=Tryz.zeroValue22
 t26:=Tryz.underlying3
 a26:=Tryz.isAgg3
 z26:=Tryz.sizeOf3
 v26:=Tryz.zeroValue3
 t28:=Tryz.underlying187
 a28:=Tryz.isAgg187
 z28:=Tryz.sizeOf187
 v28:=Tryz.zeroValue187
 i26:=by kernel_rfl}
def Tryz.sortA_ren:Go.Shelf.Ren:=⟨fun|5=>214|8=>238|7=>237|19=>264|20=>265|10=>255|11=>256|12=>257|13=>258|14=>259|15=>260|16=>261|17=>262|18=>263|30=>269|31=>270|32=>271|33=>272|34=>273|35=>274|40=>275|n=>n,fun|23=>22|25=>3|3=>3|32=>239|22=>22|0=>0|44=>254|46=>256|4=>4|36=>248|35=>247|41=>225|5=>5|9=>9|53=>259|57=>263|63=>265|64=>266|n=>n,fun|n=>n⟩
theorem Tryz.sortA:Go.Proofs.SlLaysM.n5 Tryz.prog Tryz.sortA_ren:={
 mixed:=by kernel_rfl
 f5:=⟨Tryz.f214.name,by decide,Tryz.func214.trans (congrArg some (by kernel_rfl))⟩
 f7:=⟨Tryz.f237.name,by decide,Tryz.func237.trans (congrArg some (by kernel_rfl))⟩
 f8:=Tryz.func238.trans (congrArg some (by kernel_rfl))
 f10:=⟨Tryz.f255.name,by decide,Tryz.func255.trans (congrArg some (by kernel_rfl))⟩
 f11:=⟨Tryz.f256.name,by decide,Tryz.func256.trans (congrArg some (by kernel_rfl))⟩
 f12:=⟨Tryz.f257.name,by decide,Tryz.func257.trans (congrArg some (by kernel_rfl))⟩
 f13:=⟨Tryz.f258.name,by decide,Tryz.func258.trans (congrArg some (by kernel_rfl))⟩
 f14:=⟨Tryz.f259.name,by decide,Tryz.func259.trans (congrArg some (by kernel_rfl))⟩
 f15:=⟨Tryz.f260.name,by decide,Tryz.func260.trans (congrArg some (by kernel_rfl))⟩
 f16:=⟨Tryz.f261.name,by decide,Tryz.func261.trans (congrArg some (by kernel_rfl))⟩
 f17:=⟨Tryz.f262.name,by decide,Tryz.func262.trans (congrArg some (by kernel_rfl))⟩
 f18:=⟨Tryz.f263.name,by decide,Tryz.func263.trans (congrArg some (by kernel_rfl))⟩
 f19:=Tryz.func264.trans (congrArg some (by kernel_rfl))
 f20:=Tryz.func265.trans (congrArg some (by kernel_rfl))
 f30:=⟨Tryz.f269.name,by decide,Tryz.func269.trans (congrArg some (by kernel_rfl))⟩
 f31:=Tryz.func270.trans (congrArg some (by kernel_rfl))
 f32:=Tryz.func271.trans (congrArg some (by kernel_rfl))
 f33:=⟨Tryz.f272.name,by decide,Tryz.func272.trans (congrArg some (by kernel_rfl))⟩
 f34:=⟨Tryz.f273.name,by decide,Tryz.func273.trans (congrArg some (by kernel_rfl))⟩
 f35:=⟨Tryz.f274.name,by decide,Tryz.func274.trans (congrArg some (by kernel_rfl))⟩
 f40:=⟨Tryz.f275.name,by decide,Tryz.func275.trans (congrArg some (by kernel_rfl))⟩
 t0:=Tryz.underlying0
 a0:=Tryz.isAgg0
 z0:=Tryz.sizeOf0
 v0:=Tryz.zeroValue0
 t3:=Tryz.underlying3
 a3:=Tryz.isAgg3
 z3:=Tryz.sizeOf3
 v3:=Tryz.zeroValue3
 t4:=Tryz.underlying4
 a4:=Tryz.isAgg4
 z4:=Tryz.sizeOf4
 v4:=Tryz.zeroValue4
 t5:=Tryz.underlying5
 a5:=Tryz.isAgg5
 z5:=Tryz.sizeOf5
 v5:=Tryz.zeroValue5
 t9:=Tryz.underlying9
 a9:=Tryz.isAgg9
 z9:=Tryz.sizeOf9
 v9:=Tryz.zeroValue9
 t22:=Tryz.underlying22
 a22:=Tryz.isAgg22
 z22:=Tryz.sizeOf22
 v22:=Tryz.zeroValue22
 t23:=Tryz.underlying22
 a23:=Tryz.isAgg22
 z23:=Tryz.sizeOf22
 v23:=Tryz.zeroValue22
 t25:=Tryz.underlying3
 a25:=Tryz.isAgg3
 z25:=Tryz.sizeOf3
 v25:=Tryz.zeroValue3
 t32:=Tryz.underlying239
 a32:=Tryz.isAgg239
 z32:=Tryz.sizeOf239
 v32:=Tryz.zeroValue239
 t35:=Tryz.underlying247
 a35:=Tryz.isAgg247
 z35:=Tryz.sizeOf247
 v35:=Tryz.zeroValue247
 t36:=Tryz.underlying248
 a36:=Tryz.isAgg248
 z36:=Tryz.sizeOf248
 v36:=Tryz.zeroValue248
 t41:=Tryz.underlying225
 a41:=Tryz.isAgg225
 z41:=Tryz.sizeOf225
 v41:=Tryz.zeroValue225
 t44:=Tryz.underlying254
 a44:=Tryz.isAgg254
 z44:=Tryz.sizeOf254
 v44:=Tryz.zeroValue254
 t46:=Tryz.underlying256
 a46:=Tryz.isAgg256
 z46:=Tryz.sizeOf256
 v46:=Tryz.zeroValue256
 t53:=Tryz.underlying259
 a53:=Tryz.isAgg259
 z53:=Tryz.sizeOf259
 v53:=Tryz.zeroValue259
 t57:=Tryz.underlying263
 a57:=Tryz.isAgg263
 z57:=Tryz.sizeOf263
 v57:=Tryz.zeroValue263
 t63:=Tryz.underlying265
 a63:=Tryz.isAgg265
 z63:=Tryz.sizeOf265
 v63:=Tryz.zeroValue265
 t64:=Tryz.underlying266
 a64:=Tryz.isAgg266
 z64:=Tryz.sizeOf266
 v64:=Tryz.zeroValue266}
end Go.Proofs
namespace Go.Ab
open Go Go.Proofs
set_option maxRecDepth 100000
set_option maxHeartbeats 4000000
set_option linter.all false
theorem Zf5(t:Tm):PC E 136 [.agg t.view] (.i (up t.kind 0)):=by
 refine M.F Tryz.func136 ?_;(repeat' first|refine M.w0 ?_|refine M.cs ?_ ?_<;>intro h|fail)
 ·have e:up t.kind 0=1:=by simp only[beq_iff_eq] at h;rw[h];rfl
  rw[e];rfl
 ·have e:up t.kind 0=0:=by simp only[beq_eq_false_iff_ne,ne_eq] at h;exact if_neg h
  rw[e];rfl
theorem Zyw(k b:Int):b<=up k b/\up k b<=b+1:=by simp only[up];split<;>omega
theorem Zim(k b:Int):b+up k 0=up k b:=by simp only[up];split<;>omega
theorem Zl1(most:Int)(h0:0<=most):∀(n:Nat) (t:Tm),t.full<=n->n<549755813888->t.shape=true->PC E 211 [.agg t.view,.i most] (.bool (vd most t)):=by
 intro n;induction n with
 |zero=>intro t h;have:=t.full_pos;omega
 |succ n ih=>
 intro t hsz hn hs;have hsz':=Tm.full_eq t;have hlen:=zg Tm.full Tm.full_pos t.args;have he:=Zyj h0 hs;refine M.F Tryz.func211 ?_;(repeat' first|refine M.w0 ?_|refine M.cs ?_ ?_<;>intro h|fail)
 ·have h1:¬t.index<=most:=by simp at h;omega
  rw[he,decide_eq_false h1];rfl
 have h1:t.index<=most:=by simp at h;omega
 rw[decide_eq_true h1,Bool.true_and] at he;refine M.rp t.args.length (fun m=>∀j (hj:j<t.args.length),j<m->vd most t.args[j]=true)
  (fun m=>([(1,.i most),(2,.ptr 0 0),(12,.s .tm t.args),(13,.i t.args.length),(14,.i m)],⟨1,[(0,.var t.view)]⟩))
  (fun j hj h=>by omega) (M.W rh1) ?_ ?_
 ·intro m hm hP;have hs2:=zc Tm.full (List.getElem_mem hm);have hc:=ih t.args[m] (by omega) (by omega) (zd hs _ (List.getElem_mem hm));(repeat' first|refine M.w1 @hc ?_|refine M.cs ?_ ?_<;>intro h|fail)
  ·have hx:vd most t.args[m]=false:=by simpa using h
   rw[he,ul (vd most) hm hx];rfl
  ·have hx:vd most t.args[m]=true:=by simpa using h
   exact⟨rfl,yj (p:=fun t=>vd most t=true) hm hP hx,(M.W rh1)⟩
 ·intro hP;rw[he,Zbu (vd most) t.args fun j hj=>hP j hj hj];refine M.w0 ?_
  rfl
theorem Yi3:∀(n:Nat) (t:Tm) (at_:Int),t.full<=n->n<274877906944->-274877906944<=at_->at_+n<549755813888->t.shape=true->PC E 220 [.agg t.view,.i at_] (.bool (decide (y9 at_ t≠0))):=by
 intro n;induction n with
 |zero=>intro t at_ h;have:=t.full_pos;omega
 |succ n ih=>
 intro t at_ hsz hn h1 h2 hs;have hsz':=Tm.full_eq t;have hlen:=zg Tm.full Tm.full_pos t.args;have he:=Zf3 at_ t;have hup:=Zyw t.kind at_;have hpl:=Zim t.kind at_;have hb:=Zf5 t;by_cases hv:t.kind=1/\t.index=at_
 ·rw[if_pos hv] at he;rw[he];refine M.F Tryz.func220 ?_;(repeat' first|refine M.o0 ?_|refine M.gs ?_ ?_<;>intro h|refine M.z1 4 ?_|refine M.cs ?_ ?_<;>intro h|refine M.gk ?_|fail);all_goals first
   |rfl
   |(exfalso;simp[hv.1,hv.2] at*;done)
   |(exfalso;simp_all;done)
 rw[if_neg hv] at he;refine M.F Tryz.func220 ?_;(repeat' first|refine M.w0 ?_|refine M.gs ?_ ?_<;>intro h|refine M.cs ?_ ?_<;>intro h|fail);all_goals first
  |(exfalso;simp_all;done)
  |skip
 all_goals
  refine M.rp t.args.length (fun m=>∀j (hj:j<t.args.length),j<m->y9 (up t.kind at_) t.args[j]=0)
   (fun m=>([(1,.i at_),(2,.ptr 0 0),(17,.s .tm t.args),(18,.i t.args.length),(19,.i m)],⟨1,[(0,.var t.view)]⟩))
   (fun j hj h=>by omega) (M.W rh1) ?_ ?_
  ·intro m hm hP;have hs2:=zc Tm.full (List.getElem_mem hm);have hc:=ih t.args[m] (up t.kind at_) (by omega) (by omega) (by omega) (by omega) (zd hs _ (List.getElem_mem hm));rw[<-hpl] at hc;rw[<-hpl] at hP he;(repeat' first|refine M.w2 @hb @hc ?_|refine M.cs ?_ ?_<;>intro h|fail)
   ·have hx:y9 (at_+up t.kind 0) t.args[m]≠0:=by simpa using h
    rw[he,decide_eq_true (Zqr hm hx)];rfl
   ·have hx:y9 (at_+up t.kind 0) t.args[m]=0:=by simpa using h
    exact⟨rfl,by rw[<-hpl];exact yj (p:=fun t'=>y9 (at_+up t.kind 0) t'=0) hm hP hx,(M.W rh1)⟩
  ·intro hP;rw[he,Znd fun j hj=>hP j hj hj];refine M.w0 ?_
   rfl
theorem Zuc:∀(n:Nat) (t:Tm) (at_:Int),t.full<=n->n<274877906944->-274877906944<=at_->at_+n<549755813888->t.shape=true->PC E 253 [.agg t.view,.i at_] (.i (y9 at_ t)):=by
 intro n;induction n with
 |zero=>intro t at_ h;have:=t.full_pos;omega
 |succ n ih=>
 intro t at_ hsz hn h1 h2 hs;have hsz':=Tm.full_eq t;have hlen:=zg Tm.full Tm.full_pos t.args;have he:=Zf3 at_ t;have hup:=Zyw t.kind at_;have hpl:=Zim t.kind at_;have hb:=Zf5 t;by_cases hv:t.kind=1/\t.index=at_
 ·rw[if_pos hv] at he;rw[he];have ha:=Zbc hs hv.1;obtain⟨k,i,th,xs⟩:=t;simp only[Tm.args_mk] at ha;subst ha;obtain⟨hv1,hv2⟩:=hv;simp only[Tm.kind_mk,Tm.index_mk] at hv1 hv2;subst hv1;subst hv2;refine M.F Tryz.func253 ?_;(repeat' first|refine M.w0 ?_|refine M.cs ?_ ?_<;>intro h|fail);all_goals first
   |(exfalso;simp at h;done)
   |skip
  all_goals
   refine M.rt 0 (fun m=>([(1,.i i),(2,.ptr 0 0),(5,.i 1),(20,.s .tm []),(21,.i 0),(22,.i m)],⟨1,[(0,.var (Tm.mk 1 i th []).view)]⟩))
    (M.W rh1) ?_ ?_
   ·intro m hm;omega
   ·intro _;refine M.w0 ?_
    rfl
 rw[if_neg hv] at he;refine M.F Tryz.func253 ?_;(repeat' first|refine M.w0 ?_|refine M.gs ?_ ?_<;>intro h|refine M.cs ?_ ?_<;>intro h|fail);all_goals first
  |(exfalso;simp_all;done)
  |skip
 all_goals
  refine M.rt t.args.length
   (fun m=>([(1,.i at_),(2,.ptr 0 0),(5,.i (((t.args.take m).map (y9 (up t.kind at_))).sum:Nat)),(20,.s .tm t.args),(21,.i t.args.length),(22,.i m)],⟨1,[(0,.var t.view)]⟩))
   (M.W rh1) ?_ ?_
  ·intro m hm _;have hs1:=xd (y9 (up t.kind at_)) t.args m hm;have hs2:=zc Tm.full (List.getElem_mem hm);have hs3:((t.args.take m).map (y9 (up t.kind at_))).sum<=(t.args.map Tm.full).sum:=by
    have a1:=ya Tm.full t.args m;have a2:=xv (f:=y9 (up t.kind at_)) (g:=Tm.full) (t.args.take m) fun x _=>Nat.le_trans (Zdy x _) x.size_le_full;omega
   have hs4:=Zdy t.args[m] (up t.kind at_);have hs5:=t.args[m].size_le_full;have hc:=ih t.args[m] (up t.kind at_) (by omega) (by omega) (by omega) (by omega) (zd hs _ (List.getElem_mem hm));rw[<-hpl] at hc hs1 hs3 hs4;simp only[<-hpl];refine M.w2 @hb @hc ?_;refine⟨rfl,trivial,?_⟩;simp only[hs1];exact(M.W rh1)
  ·intro _;refine M.w0 ?_;rw[he];simp[zn,V.wk,V.wks,za]
theorem Yml(by_:Int)(hby: -549755813888<=by_/\by_<=549755813888):∀(n:Nat) (t:Tm) (fr:Int),t.full<=n->n<274877906944->-274877906944<=fr->fr+n<549755813888->t.shape=true->(∀p∈t.vars 0,0<=p.1/\p.1<9223372036854775808/\p.1+by_<9223372036854775808)->
 PC E 91 [.agg t.view,.i fr,.i by_] (.agg (t.re (zk fr by_) 0).view):=by
 intro n;induction n with
 |zero=>intro t fr h;have:=t.full_pos;omega
 |succ n ih=>
 intro t fr hsz hn h1 h2 hs hix;have hsz':=Tm.full_eq t;have hlen:=zg Tm.full Tm.full_pos t.args;have hup:=Zyw t.kind fr;have hpl:=Zim t.kind fr;have hb:=Zf5 t;by_cases hv:t.kind=1
 ·have ht:=Zkl hs hv;have hi:=hix (t.index,0) (by rw[Zaj hs hv];simp);rw[ht];generalize t.index=i at hi;simp only at hi;rw[Zb0,yw];have hvi:(vT i).index=i:=rfl;refine M.F Tryz.func91 ?_;(repeat' first|refine M.w0 ?_|refine M.cs ?_ ?_<;>intro h|fail);all_goals first
   |(exfalso;simp at h;done)
   |skip
  ·have h3:i-0>=fr:=by simp at h;omega
   rw[if_pos h3];refine M.rt 0 (fun m=>([(1,.i fr),(2,.i by_),(3,.ptr 0 0),(6,.ptr 1 0),(7,.ptr 2 0),(32,.s .tm []),(33,.i 0),(34,.i m)],⟨3,[(0,.var (vT i).view),(1,.var [.i 0,.i 0,.i 0,.slice .nil (.t .ty []),.slice .nil (.t .tm [])]),(2,.var [.i 1,.i (i+by_),.i 0,.s .ty [],.slice .nil (.t .tm [])])]⟩))
    (M.W rh3) ?_ ?_
   ·intro m hm;omega
   ·intro _;refine M.w0 ?_
    rfl
  ·have h3:¬i-0>=fr:=by simp at h;omega
   rw[if_neg h3];refine M.rt 0 (fun m=>([(1,.i fr),(2,.i by_),(3,.ptr 0 0),(6,.ptr 1 0),(7,.ptr 2 0),(32,.s .tm []),(33,.i 0),(34,.i m)],⟨3,[(0,.var (vT i).view),(1,.var [.i 0,.i 0,.i 0,.slice .nil (.t .ty []),.slice .nil (.t .tm [])]),(2,.var [.i 1,.i i,.i 0,.s .ty [],.slice .nil (.t .tm [])])]⟩))
    (M.W rh3) ?_ ?_
   ·intro m hm;omega
   ·intro _;refine M.w0 ?_
    rfl
 have he:=Zyz (fr:=fr) (by_:=by_) hv;refine M.F Tryz.func91 ?_;(repeat' first|refine M.w0 ?_|refine M.gs ?_ ?_<;>intro h|refine M.cs ?_ ?_<;>intro h|fail);all_goals first
  |(exfalso;simp_all;done)
  |skip
 all_goals
  refine M.rt t.args.length (fun m=>([(1,.i fr),(2,.i by_),(3,.ptr 0 0),(6,.ptr 1 0),(7,.ptr 2 0),(32,.s .tm t.args),(33,.i t.args.length),(34,.i m)],⟨4,[(0,.var t.view),(1,.var [.i 0,.i 0,.i 0,.slice .nil (.t .ty []),.slice .nil (.t .tm [])]),(2,.var [.i t.kind,.i t.index,.i t.ty.kind,.s .ty t.ty.args,.slice (.own 3) (.t .tm ((t.args.take m).map fun x=>x.re (zk (up t.kind fr) by_) 0))]),(3,.row)]⟩))
   (M.W rn3) ?_ ?_
  ·intro m hm _;have hs2:=zc Tm.full (List.getElem_mem hm);have hc:=ih t.args[m] (up t.kind fr) (by omega) (by omega) (by omega) (by omega) (zd hs _ (List.getElem_mem hm)) (fun p hp=>by
    obtain⟨q,hq,hqe⟩:=Zmi (b':=up t.kind 0) p hp;have:=hix q (Zgc hv (List.getElem_mem hm) hq);rw[<-hqe];exact this)
   rw[<-hpl] at hc;simp only[<-hpl];refine M.w2 @hb @hc ?_;exact⟨rfl,trivial,(M.W [some 0,some 1,some 2,some 5] (he:=(by(repeat'(first|exact trivial|exact Or.inr ⟨_,U,rfl⟩|refine And.intro ?_ ?_|refine⟨_,U,_,U,_,U,?_⟩|exact VLe.refl _|exact VLe.of_eq (by simp[Sto.upd,ym _ _ _ hm])));done)))⟩
  ·intro _;simp only[List.take_length];refine M.w0 ?_;rw[he];simp[zn,V.wk,V.wks,za,Ty.view,Tm.view]
theorem Ygp(by_:Int)(hby: -549755813888<=by_/\by_<=549755813888):∀(n:Nat) (t:Tm) (fr:Int),t.full<=n->n<274877906944->-274877906944<=fr->fr+n<549755813888->t.shape=true->(∀p∈t.vars 0,0<=p.1/\p.1<549755813888)->
 PC E 91 [.agg t.view,.i fr,.i by_] (.agg (t.re (zk fr by_) 0).view):=
 fun n t fr h1 h2 h3 h4 h5 h6=>Yml by_ hby n t fr h1 h2 h3 h4 h5 fun p hp=>by have:=h6 p hp;omega
end Go.Ab
namespace Go.Ab
open Go Go.Proofs
set_option maxRecDepth 100000
set_option linter.all false
theorem Zlg:∀(n:Nat) (k:Int) (d:Dk),k<=n->n<=20->-100<=k->d.ok->AC E 54 [.ptr 0 0,.i k] ⟨1,[(0,.var d.cells)]⟩ (.agg (d.type k.toNat).1.view) ⟨1,[(0,.var (d.type k.toNat).2.cells)]⟩:=by
 intro n;induction n with
 |zero=>
  intro k d hk hn hk' hd;have h1:=Za2 d 7 hd (by omega);have e:=Dk.type_eq k d;refine AC.mk Tryz.func54 rfl rfl rfl rfl rfl (Nat.le_of_ble_eq_true rfl) ?_;repeat'(first|((with_reducible refine D.nil ?_);refine AX.nilL ?_)|((with_reducible refine D.move ?_);refine L.mv U U U ?_)|((with_reducible refine D.assign ?_);refine L.asg U U U ?_)|((with_reducible refine D.bin ?_);first|refine L.sb U U U U (by omega) ?_|refine L.bn U U U U U ?_)|((with_reducible refine D.call ?_);first|(apply L.cb2 (h1) [0] 0 rfl;rfl;rfl;rfl;rfl;rfl;rfl;(focus((repeat'(first|exact trivial|refine And.intro ?_ ?_|refine⟨_,U,_,U,_,U,?_⟩|exact VLe.refl _));done));rfl;rfl;rfl;rfl)|refine L.c2 (u6) U U U U ?_|refine L.c2 (Za3) U U U U ?_|refine L.c2 (Zxb) U U U U ?_)|((with_reducible refine D.alloc ?_);refine L.al U U U ?_)|((with_reducible refine D.store ?_);refine L.st U U U U U U U U U ?_)|((with_reducible refine D.aw ?_);first|((with_reducible refine D.blk ?_);refine AW.block ?_)|refine K.sq (AW.regL ?_)|refine K.sq (K.sq ?_)|refine AW.regL ?_|refine AW.condT U ?_|refine AW.condS U (fun h=> ?_) (fun h=> ?_)|refine AW.skip ?_|refine AW.ret ?_)|with_reducible refine K.tN ?_|with_reducible refine K.bN ?_|with_reducible refine K.tR ?_|with_reducible refine K.bR ?_)
  all_goals first
   |(exfalso;simp at*;omega)
   |(simp only[beq_iff_eq,beq_eq_false_iff_ne,ne_eq,decide_eq_true_eq,decide_eq_false_iff_not,gt_iff_lt] at*
     simp[*] at e
     (exact K.n2 [some 0] U U U U U (by(repeat'(first|exact trivial|refine And.intro ?_ ?_|refine⟨_,U,_,U,_,U,?_⟩|exact VLe.of_eq (by simp[Sto.upd,e])));done) U (by simp[zn,V.wk,V.wks,za,Ty.view,Tm.view,e])))
 |succ n ih=>
  intro k d hk hn hk' hd;have h1:=Za2 d 7 hd (by omega);have e:=Dk.type_eq k d;have i1:k>0->_:=fun h=>ih (k-1) (d.next 7).2 (by omega) (by omega) (by omega) (Dk.next_ok hd 7);have i2:k>0->_:=fun h=>ih (k-1) ((d.next 7).2.type (k-1).toNat).2 (by omega) (by omega) (by omega) (Dk.type_ok _ _ (Dk.next_ok hd 7));have i3:=Ykl ((d.next 7).2.type (k-1).toNat).1 ((((d.next 7).2.type (k-1).toNat).2).type (k-1).toNat).1 (Dk.type_small _ _ (by omega)) (Dk.type_small _ _ (by omega));have i4:=Zrj ((d.next 7).2.type (k-1).toNat).1 ((((d.next 7).2.type (k-1).toNat).2).type (k-1).toNat).1 (Dk.type_small _ _ (by omega)) (Dk.type_small _ _ (by omega));refine AC.mk Tryz.func54 rfl rfl rfl rfl rfl (Nat.le_of_ble_eq_true rfl) ?_;repeat'(first|((with_reducible refine D.nil ?_);refine AX.nilL ?_)|((with_reducible refine D.move ?_);refine L.mv U U U ?_)|((with_reducible refine D.assign ?_);refine L.asg U U U ?_)|((with_reducible refine D.bin ?_);first|refine L.sb U U U U (by omega) ?_|refine L.bn U U U U U ?_)|((with_reducible refine D.call ?_);first|(apply L.cb2 (h1) [0] 0 rfl;rfl;rfl;rfl;rfl;rfl;rfl;(focus((repeat'(first|exact trivial|refine And.intro ?_ ?_|refine⟨_,U,_,U,_,U,?_⟩|exact VLe.refl _));done));rfl;rfl;rfl;rfl)|refine L.c2 (u6) U U U U ?_|refine L.c2 (Za3) U U U U ?_|refine L.c2 (Zxb) U U U U ?_|(apply L.cb2 (i1 (by simp_all)) [0] 0 rfl;rfl;rfl;rfl;rfl;rfl;rfl;(focus((repeat'(first|exact trivial|refine And.intro ?_ ?_|refine⟨_,U,_,U,_,U,?_⟩|exact VLe.refl _));done));rfl;rfl;rfl;rfl)|(apply L.cb2 (i2 (by simp_all)) [0] 0 rfl;rfl;rfl;rfl;rfl;rfl;rfl;(focus((repeat'(first|exact trivial|refine And.intro ?_ ?_|refine⟨_,U,_,U,_,U,?_⟩|exact VLe.refl _));done));rfl;rfl;rfl;rfl)|refine L.c2 (i3) U U U U ?_|refine L.c2 (i4) U U U U ?_)|((with_reducible refine D.alloc ?_);refine L.al U U U ?_)|((with_reducible refine D.store ?_);refine L.st U U U U U U U U U ?_)|((with_reducible refine D.aw ?_);first|((with_reducible refine D.blk ?_);refine AW.block ?_)|refine K.sq (AW.regL ?_)|refine K.sq (K.sq ?_)|refine AW.regL ?_|refine AW.condT U ?_|refine AW.condS U (fun h=> ?_) (fun h=> ?_)|refine AW.skip ?_|refine AW.ret ?_)|with_reducible refine K.tN ?_|with_reducible refine K.bN ?_|with_reducible refine K.tR ?_|with_reducible refine K.bR ?_)
  all_goals
   simp only[beq_iff_eq,beq_eq_false_iff_ne,ne_eq,decide_eq_true_eq,decide_eq_false_iff_not,gt_iff_lt] at*;simp[*] at e
   (exact K.n2 [some 0] U U U U U (by(repeat'(first|exact trivial|refine And.intro ?_ ?_|refine⟨_,U,_,U,_,U,?_⟩|exact VLe.of_eq (by simp[Sto.upd,e])));done) U (by simp[zn,V.wk,V.wks,za,Ty.view,Tm.view,e]))
end Go.Ab
namespace Go.Ab
open Go Go.Proofs
set_option maxRecDepth 100000
set_option maxHeartbeats 4000000
set_option linter.all false
theorem Zrx:∀(b:Nat) (t:Tm),t.full<=b->b<1099511627776->PC E 169 [.agg t.view] (.agg t.view):=by
 intro b;induction b with
 |zero=>intro t h;have:=t.full_pos;omega
 |succ b ih=>
 intro t hsz hb;have hsz':=Tm.full_eq t;have hlen:=zg Tm.full Tm.full_pos t.args;have hty:=Zfa _ t.ty (Nat.le_refl _) (by omega);refine M.F Tryz.func169 ?_;refine M.w1 @hty ?_;refine M.rt t.args.length
  (fun m=>([(1,.ptr 0 0),(2,.ptr 1 0),(3,.ptr 2 0),(15,.s .tm t.args),(16,.i t.args.length),(17,.i m)],⟨4,[(0,.var t.view),(1,.var [.i 0,.i 0,.i 0,.slice .nil (.t .ty []),.slice .nil (.t .tm [])]),(2,.var [.i t.kind,.i t.index,.i t.ty.kind,.s .ty t.ty.args,.slice (.own 3) (.t .tm (t.args.take m))]),(3,.row)]⟩))
  (M.W rn3) ?_ ?_
 ·intro m hm hP;have hs2:=zc Tm.full (List.getElem_mem hm);(repeat' first|refine M.w0 ?_|refine M.c2 (ih _ ?_ ?_) ?_|exact M.le|exact M.lt|fail);exact⟨rfl,trivial,(M.W [some 0,some 1,some 2,some 5] (he:=(by(repeat'(first|exact trivial|exact Or.inr ⟨_,U,rfl⟩|refine And.intro ?_ ?_|refine⟨_,U,_,U,_,U,?_⟩|exact VLe.refl _|exact VLe.of_eq (by simp[Sto.upd,List.take_append_getElem])));done)))⟩
 ·intro hP;refine M.w0 ?_;simp[zn,V.wk,V.wks,za,Ty.view,Tm.view]
theorem Zb7(k:Int):PC E 130 [.i k] (.bool (x9 k)):=by
 refine M.F Tryz.func130 ?_;(repeat' first|refine M.w0 ?_|refine M.gs ?_ ?_<;>intro h|fail);all_goals(simp_all[zn,V.wk,V.wks,za,x9];try omega)
theorem Ydq(f:Fm)(ht:f.ty.size<1099511627776):PC E 246 [.agg f.view] (.bool f.head):=by
 have h1:=Zma f.ty;have h2:=Zi9 f.ty ht;have hok:=Ty.ok_err f.ty;obtain⟨k,h,ts,fs⟩:=f;simp only[Fm.ty_mk] at*;have hk:k=1\/k=2\/k=3\/k=4\/k=5\/k=6\/k=7\/(k≠1/\k≠2/\k≠3/\k≠4/\k≠5/\k≠6/\k≠7):=by omega
 rcases hk with rfl|rfl|rfl|rfl|rfl|rfl|rfl|hk
 ·cases hn:h.isNo with
  |false=>
   rw[hn] at h1;refine M.F Tryz.func246 ?_;refine M.v1 @h1 ?_;simp[zn,V.wk,V.wks,za,Fm.head,hn]
  |true=>
   rw[hn] at h1;refine M.F Tryz.func246 ?_;(repeat' first|refine M.w1 @h1 ?_|refine M.gs ?_ ?_<;>intro h|refine M.bl ?_|fail)
   ·have h':ts.length=2:=by simp at h;omega
    have e:((fs.length:Int)==0)=(fs.length==0):=by rw[Bool.eq_iff_iff];simp
    simp[zn,V.wk,V.wks,za,Fm.head,hn,h',e]
   ·have h':¬ts.length=2:=by simp at h;omega
    simp[zn,V.wk,V.wks,za,Fm.head,hn,h']
 all_goals first
  |(cases hn:h.isNo with
    |false=>
     rw[hn] at h1;refine M.F Tryz.func246 ?_;(repeat' first|refine M.v1 @h1 ?_|refine M.cs ?_ ?_<;>intro h|fail);simp[zn,V.wk,V.wks,za,Fm.head,hn];done
    |true=>
     rw[hn] at h1;refine M.F Tryz.func246 ?_;(repeat' first|refine M.w1 @h1 ?_|refine M.gs ?_ ?_<;>intro h|refine M.bl ?_|fail)
     ·have h':ts.length=0:=by simp at h;simp[h]
      have e:((fs.length:Int)==2)=(fs.length==2):=by rw[Bool.eq_iff_iff];simp;omega
      simp[zn,V.wk,V.wks,za,Fm.head,hn,h',e]
     ·have h':¬ts.length=0:=by simp at h;simpa using h
      simp[zn,V.wk,V.wks,za,Fm.head,hn,h'];done)
  |(by_cases hn:h.err=0
    ·rw[hn] at h2;refine M.F Tryz.func246 ?_;(repeat' first|refine M.w1 @h2 ?_|refine M.gs ?_ ?_<;>intro h|refine M.bl ?_|refine M.cs ?_ ?_<;>intro h|fail)
     ·have h':ts.length=0:=by simp at h;simp[h]
      have e:((fs.length:Int)==1)=(fs.length==1):=by rw[Bool.eq_iff_iff];simp;omega
      simp[zn,V.wk,V.wks,za,Fm.head,hok,hn,h',e]
     ·have h':¬ts.length=0:=by simp at h;simpa using h
      simp[zn,V.wk,V.wks,za,Fm.head,hok,hn,h'];done
    ·have hb:(h.err !=0)=true:=by simpa using hn
     refine M.F Tryz.func246 ?_;(repeat' first|refine M.w1 @h2 ?_|refine M.gs ?_ ?_<;>intro h|refine M.bl ?_|refine M.cs ?_ ?_<;>intro h|fail)
     ·simp[zn,V.wk,V.wks,za,Fm.head,hok,hn]
     all_goals(exfalso;simp_all;done))
  |(refine M.F Tryz.func246 ?_
    (repeat' first|refine M.v0 ?_|refine M.cs ?_ ?_<;>intro h|fail);all_goals first
     |(exfalso;simp_all;done)
     |(simp[zn,V.wk,V.wks,za,Fm.head,hk];done))
end Go.Ab
