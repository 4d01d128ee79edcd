/- A part of this seat's proofs. No conditions. -/
import Derived.Test.YtmhcohcihajegaaGreatDoorHS24
namespace Go.Ab
open Go Go.Proofs
set_option maxRecDepth 100000
set_option maxHeartbeats 4000000
set_option linter.all false
theorem Zeb(i:Int):PC E 35 [.i i] (.agg (va i).view):=by
 refine M.F Tryz.func35 ?_;refine M.w0 ?_
 rfl
theorem Zv3(t:Tm)(he:t.shape=true)(hf:t.full<100000000000)(hix:∀p∈t.vars 0,0<=p.1/\p.1<549755813888):PC E 184 [.agg t.view,.i 1] (.agg (t.re (zk 0 1) 0).view):=by
 have h:=Ygp 1 (by omega) _ t 0 (Nat.le_refl _) (by omega) (by omega) (by omega) he hix;generalize t.re (zk 0 1) 0=u at*;refine M.F Tryz.func184 ?_;refine M.w1 @h ?_;simp[zn,V.wk,V.wks,za,Ty.view,Tm.view]
theorem Zzf(g s:Tm)(p:Pf)(hg:TmI g)(hs:TmI s)(hp:p.full<100000000000):PC E 141 [.agg g.view,.agg s.view,.agg p.view] (.agg (Zkj g s p).view):=by
 have f1:=hg.2.2;have f2:=hs.2.2;have l1:=Zbn 0 1 g 0 hg.1;have l2:=Zbn 0 1 s 0 hs.1;have h1:=Zv3 g hg.1 (by omega) (fun q hq=>by have:=hg.2.1 q hq;omega);have h2:=Zv3 s hs.1 (by omega) (fun q hq=>by have:=hs.2.1 q hq;omega);have h3:=Zdf 0;have h4:=n_c 3 [g,s] (by simp;omega);unfold Zkj Yeq y8;generalize g.re (zk 0 1) 0=g1 at*;generalize s.re (zk 0 1) 0=s1 at*;have h5:=n_c 3 [g1,s1] (by simp;omega);have h6:=n_c 3 [g1,vT 0] (by simp[Zhk];omega);have h7:=Zdw (apT g1 s1) (apT g1 (vT 0)) (by rw[Zg1];omega) (by rw[Zg1,Zhk];omega);have h8:=Zab (apT g s) (by rw[Zg1];omega);have h9:=Zk9 (eqF (apT g1 s1) (apT g1 (vT 0))) p (.mk 18 0 (.mk 0 []) [apT g s] [] []) (by rw[eqf_fl,Zg1,Zg1,Zhk];omega) (by omega) (by rw[vp,Zay];simp[Zg1];omega);refine M.F Tryz.func141 ?_;(repeat' first|refine M.w6 @h1 @h2 @h3 @h4 @h5 @h6 ?_|refine M.c2 (h7) ?_|refine M.c2 (h8) ?_|refine M.c2 (h9) ?_|fail);all_goals first
  |rfl
  |trace_state
theorem Zri(ts:List Tm)(p:Pf)(ht:∀t∈ts,t.err=0)(hp:p.err=0)(hpf:p.full<500000000000)(hl:ts.length<=1000):PC E 142 [.s .tm ts,.s .fm [],.s .pf [p]] (.i 0):=by
 have hk:=Zoc p (by omega);rw[hp] at hk;refine M.F Tryz.func142 ?_;refine M.w0 ?_;refine M.rt ts.length (fun m=>([(1,.s .fm []),(2,.s .pf [p]),(16,.s .tm ts),(17,.i ts.length),(18,.i m)],⟨0,[]⟩))
  (M.W []) ?_ ?_
 ·intro m hm _;have hc:=Zah ts[m] (by have:=yt (ht _ (List.getElem_mem hm));omega);rw[ht _ (List.getElem_mem hm)] at hc;refine M.w1 @hc ?_;exact⟨rfl,trivial,(M.W [])⟩
 intro _;refine M.w0 ?_;refine AW.range ([]:List Fm).length (fun m=>True) (fun m=>([(2,.s .pf [p]),(28,.s .fm []),(29,.i ([]:List Fm).length),(30,.i m)],⟨0,[]⟩))
  (by simp) (fun m=>rfl) (fun m=>rfl) rfl trivial (M.W []) ?_ ?_
 ·intro m hm _;exact absurd hm (by simp)
 intro _;refine M.w0 ?_;refine AW.range ([p]:List Pf).length (fun m=>True) (fun m=>([(40,.s .pf [p]),(41,.i ([p]:List Pf).length),(42,.i m)],⟨0,[]⟩))
  (by simp) (fun m=>rfl) (fun m=>rfl) rfl trivial (M.W []) ?_ ?_
 ·intro m hm _;obtain rfl:m=0:=by simpa using hm
  refine M.w1 @hk ?_;exact⟨rfl,trivial,(M.W [])⟩
 intro _;refine M.w0 ?_
 rfl
theorem Zvd(p:Pf)(hp:p.err=0)(hpf:p.full<500000000000):PC E 140 [.agg p.view,.i 0] (.tup [.agg p.view,.i 0]):=by
 have h1:=Zyd p (by omega);have h2:=(Pf.err_iff p).1 hp;have e:(p.small&&decide (p.size<=16384))=true:=by simp[h2.2.1,h2.2.2]
 rw[e] at h1;have h3:=Zsh _ p (Nat.le_refl _) (by omega);refine M.F Tryz.func140 ?_;refine M.w2 @h1 @h3 ?_
 rfl
theorem Zx8(g s t:Tm)(p:Pf)(hg:TmI g)(hs:TmI s)(eg:g.err=0)(es:s.err=0)(et:t.err=0)(ep:p.err=0)(hp:p.full<100000000000)(ec:(Zkj g s p).err=0):
 PC E 95 [.agg g.view,.agg s.view,.agg t.view,.agg p.view] (.tup [.agg (Zkj g s p).view,.i 0]):=by
 have f1:=hg.2.2;have f2:=hs.2.2;have h1:=Zzf g s p hg hs hp;have h2:=Zri [g,s,t] p (by simp[eg,es,et]) ep (by omega) (by simp);have h3:=Zvd (Zkj g s p) ec (by have:=Zel _ ((Pf.err_iff _).1 ec).1;have:=((Pf.err_iff _).1 ec).2.2;omega);generalize Zkj g s p=P at*;refine M.F Tryz.func95 ?_;refine M.w3 @h1 @h2 @h3 ?_;all_goals first
  |rfl
  |trace_state
def plus0:Tm:=apT (apT plusT zT) (vT 0)
def zeroStep:Pf:=Zkj sucT plus0 (va 0)
def Zoe(t:Tm):Pf:= .mk 16 0 (.mk 0 []) [t] [eqF plus0 (vT 0)] [y8 zT,zeroStep]
theorem Zpw(t:Tm)(h1:t.shape=true)(h2:(t.vars 0).all (fun q=>decide (0<=q.1/\q.1<10000))=true)(h3:t.full<=300000):TmI t:=
 ⟨h1,fun q hq=>by simpa using List.all_eq_true.1 h2 q hq,h3⟩
theorem Ygq(t:Tm)(ht:t.full<100000000000):PC E 36 [.agg t.view] (.agg (Zoe t).view):=by
 have h1:=Yer;have h2:=Ybk 0;have e0:Zhy 0=zT:=by decide
 rw[e0] at h2;have h3:=Zdf 0;have h4:=Zjx plusT [zT,vT 0] (by decide);have h5:=Zdw plus0 (vT 0) (by decide) (by decide);have h6:=u6;have h7:=n_c 5 [vT 0] (by decide);have h8:=t_c 2 natT [sT (vT 0)] (by decide) (by decide);have h9:=Zeb 0;have h10:=Zx8 sucT plus0 (vT 0) (va 0) (Zpw _ (by decide+kernel) (by decide+kernel) (by decide+kernel)) (Zpw _ (by decide+kernel) (by decide+kernel) (by decide+kernel)) (by decide+kernel) (by decide+kernel) (by decide+kernel) (by decide+kernel) (by decide+kernel) (by decide+kernel);have hz:zeroStep.full<1000:=by decide+kernel
 have h11:=Zab zT (by decide);have h12:=Zl8 16 (eqF plus0 (vT 0)) t (.mk 18 0 (.mk 0 []) [zT] [] []) zeroStep (by decide+kernel) (by omega) (by decide+kernel) (by omega);have e1:Zkj sucT plus0 (va 0)=zeroStep:=rfl;rw[e1] at h10;have e2:List.foldl apT plusT [zT,vT 0]=plus0:=rfl;rw[e2] at h4;unfold Zoe;generalize zeroStep=Z at*;generalize va 0=H at*;generalize plus0=P0 at*;refine M.F Tryz.func36 ?_;(repeat' first|refine M.w6 @h1 @h2 @h3 @h4 @h5 @h6 ?_|refine M.c2 (h7) ?_|refine M.c2 (h8) ?_|refine M.c2 (h9) ?_|refine M.c2 (h10) ?_|refine M.c2 (h11) ?_|refine M.c2 (h12) ?_|fail);all_goals first
  |rfl
  |trace_state
def Zos(t:Tm):Fm:=quF 5 natT (eqF (t.re (zk 0 1) 0) (vT 0))
theorem Zwn(d:Dk)(hd:d.ok)(g:List Ty)(hyps:List Fm)(hg:smalls g)(hl:g.length<=16):
 AC E 67 [.ptr 0 0,.agg [.s .ty g,.s .fm hyps]] ⟨1,[(0,.var d.cells)]⟩ (.agg [.i 10,.i 0,.i 0,.s .ty [],.s .tm [(Dk.tm 3 d g natT).1],.arr 1 1 5,.s .pf [y8 (Dk.tm 3 d g natT).1]])
  ⟨2,[(0,.var (Dk.tm 3 d g natT).2.cells),(1,.var (Zos (Dk.tm 3 d g natT).1).view)]⟩/\
 AC E 67 [.ptr 0 0,.agg [.s .ty g,.s .fm hyps]] ⟨1,[(0,.var d.cells)]⟩ (.agg (Yaq (Zos (Dk.tm 3 d g natT).1) (Dk.tm 3 d g natT).1 (y8 (Dk.tm 3 d g natT).1)).view)
  ⟨1,[(0,.var (Dk.tm 3 d g natT).2.cells)]⟩:=by
 have h1:=u6;have h2:=Zja 3 (by omega) d g natT 1 (by omega) hd hg zh (by omega) (by omega) (by omega);have hm:=(Zak d hg).1;have hf:=yt hm.err;generalize Dk.tm 3 d g natT=T at*;obtain⟨t,d2⟩:=T;simp only at hm hf;have h3:=Zyt (g:=g) hm.err hm.inf (by omega);have h4:=Zdf 0;have l1:=Zbn 0 1 t 0 hm.shape;have h7:=Zab t (by omega);unfold Zos Yaq y8;generalize t.re (zk 0 1) 0=u at*;have h5:=Zdw u (vT 0) (by omega) (by rw[Zhk];omega);have h6:=Zhl 5 natT (eqF u (vT 0)) (by decide) (by rw[eqf_fl,Zhk];omega);have fq:(quF 5 natT (eqF u (vT 0))).full<1000000:=by have e:natT.size=1:=rfl;simp only[quF,Fm.full,Fm.fulls,List.map_nil,List.sum_nil];rw[eqf_fl,Zhk,e];omega
 have fr:(Pf.mk 18 0 (.mk 0 []) [t] [] []).full<1000000:=by rw[vp,Zay];simp;omega
 have h8:=Yc5 10 (quF 5 natT (eqF u (vT 0))) t (.mk 18 0 (.mk 0 []) [t] [] []) (by omega) (by omega) (by omega);have h9:=Ze3 10 (quF 5 natT (eqF u (vT 0))) t (.mk 18 0 (.mk 0 []) [t] [] []) (by omega) (by omega) (by omega);constructor
 ·refine M.F Tryz.func67 ?_;(repeat' first|refine M.w6 @h1 @h2 @h3 @h4 @h5 @h6 ?_|refine M.c2 (h7) ?_|refine M.cb (h8) [] 1 ?_|fail);refine K.rt [some 0,some 5] rfl rfl rfl rfl rfl ?_ rfl ?_
  ·exact ⟨⟨_,rfl,_,rfl,_,rfl,VsLe.refl _⟩,⟨_,rfl,_,rfl,_,rfl,VsLe.refl _⟩,trivial⟩
  ·first
    |exact VLe.refl _
    |(refine VLe.of_eq ?_;simp[zn,Ty.view,Tm.view];rfl)
 ·refine M.F Tryz.func67 ?_;(repeat' first|refine M.w6 @h1 @h2 @h3 @h4 @h5 @h6 ?_|refine M.c2 (h7) ?_|refine M.c2 (h9) ?_|fail)
  (exact M.n2 rh1 (h8:=(by simp[zn,V.wk,V.wks,za,Ty.view,Tm.view,Pf.view])))
def Dk.lmN(d:Dk):Nat:=(d.next 3).1.toNat
def Dk.lm(d:Dk):List Fm×Dk:=Dk.fms d.lmN (d.next 3).2 []
theorem Dk.lm_len(d:Dk):d.lm.1.length<=2:=by
 have:=Dk.next_bd d 3 (by omega);unfold Dk.lm Dk.lmN;rw[Dk.fms_len];omega
theorem Dk.lm_ok{d:Dk}(h:d.ok):d.lm.2.ok:=Dk.fms_ok _ _ _ (Dk.next_ok h 3)
theorem Zsb(d:Dk)(hd:d.ok):AC E 9 [.ptr 0 0] ⟨1,[(0,.var d.cells)]⟩ (.s .fm d.lm.1) ⟨1,[(0,.var d.lm.2.cells)]⟩:=by
 have h1:=Za2 d 3 hd (by omega);have hb:=Dk.next_bd d 3 (by omega);obtain⟨c,hc⟩:∃c:Nat,(d.next 3).1=c:=⟨(d.next 3).1.toNat,by omega⟩;have hx:d.lm=Dk.fms c (d.next 3).2 []:=by unfold Dk.lm Dk.lmN;rw[hc];rfl
 rw[hc] at h1 hb;rw[hx];have hdo:=Dk.next_ok hd 3;generalize (d.next 3).2=d2 at*;refine M.F Tryz.func9 ?_;refine M.w1 @h1 ?_;refine AW.down c (fun m=>m<=c)
  (fun m=>([(0,.ptr 0 0),(3,.slice (.own 1) (.t .fm (Dk.fms (c-m) d2 []).1)),(4,.i m)],⟨2,[(0,.var (Dk.fms (c-m) d2 []).2.cells),(1,.row)]⟩))
  (by omega) (fun m=>rfl) rfl (Nat.le_refl _) ?_ ?_ ?_
 ·simp only[Nat.sub_self];exact(M.W rn1)
 ·intro m hm hP;have e:=Dk.fms_snoc (c-(m+1)) d2 [];rw[show c-(m+1)+1=c-m by omega] at e;have h3:=Zx4 2 (Dk.fms (c-(m+1)) d2 []).2 [] 2 (by omega) rfl (Dk.fms_ok _ _ _ hdo) zi (by simp);have hl:=Dk.fms_len (c-(m+1)) d2 [];refine M.w1 @h3 ?_;refine⟨rfl,by omega,?_⟩;simp only[e];exact(M.W [some 0,some 2])
 ·intro _;simp only[Nat.sub_zero];refine M.w0 ?_
  (exact M.n2 rh1 (h8:=(by simp[zn,V.wk,V.wks,za,Ty.view,Tm.view,V.frz])))
theorem Yh2(b:Bool)(t:Tm)(bl:Int)(ht:t.full<1099511627776):AC E 178 [.agg t.view,.i bl,.ptr 0 0] ⟨1,[(0,.var [.bool b])]⟩ (.tup []) ⟨1,[(0,.var [.bool (Zqp Tm.near b [(t,bl)])])]⟩:=by
 have hc:=Yfb t ht;refine M.F Tryz.func178 ?_;(repeat' first|refine M.w1 @hc ?_|refine M.gs ?_ ?_<;>intro h|fail)
 ·(exact M.n2 rh1 (h6:=(by(repeat'(first|exact trivial|refine And.intro ?_ ?_|refine⟨_,U,_,U,_,U,?_⟩|exact VLe.of_eq (by simp[Sto.upd,Zh5,h])));done)) (h8:=(by simp[zn,V.wk,V.wks,za,Ty.view,Tm.view,Zh5,h])))
 ·(exact M.n2 rh1 (h6:=(by(repeat'(first|exact trivial|refine And.intro ?_ ?_|refine⟨_,U,_,U,_,U,?_⟩|exact VLe.of_eq (by simp[Sto.upd,Zh5,h])));done)) (h8:=(by simp[zn,V.wk,V.wks,za,Ty.view,Tm.view,Zh5,h])))
theorem Zuv:∀(n:Nat) (f:Fm) (b:Bool) (bl:Int),f.full<=n->n<549755813888->0<=bl->bl+n<549755813888->AC E 84 [.agg f.view,.i bl,.fn (.func 178) [] [.ptr 0 0]] ⟨1,[(0,.var [.bool b])]⟩ (.tup []) ⟨1,[(0,.var [.bool (Zqp Tm.near b (f.tms bl))])]⟩:=by
 intro n;induction n with
 |zero=>intro f;intros;have:=f.full_pos;omega
 |succ n ih=>
 intro f b bl hsz hn hbl hbn;have hsz':=f.full_eq;have hlen:=zg Fm.full Fm.full_pos f.args;have hlen2:=zg Tm.full Tm.full_pos f.terms;have htm:=f.tms_eq bl;have hq:=Zb7 f.kind;refine M.F Tryz.func84 ?_;refine M.w0 ?_;refine M.rt f.terms.length
  (fun m=>([(1,.i bl),(2,.fn (.func 178) [] [.ptr 0 0]),(3,.ptr 1 0),(11,.s .tm f.terms),(12,.i f.terms.length),(13,.i m)],⟨2,[(0,.var [.bool (Zqp Tm.near b ((f.terms.take m).map (fun t=>(t,bl))))]),(1,.var f.view)]⟩))
  ?_ ?_ ?_
 ·exact (M.W rh2 (he:=(by(repeat'(first|exact trivial|refine And.intro ?_ ?_|refine⟨_,U,_,U,_,U,?_⟩|exact VLe.refl _|exact VLe.of_eq (by simp[Sto.upd,Zmr])));done)))
 ·intro m hm _;have hs2:=zc Tm.full (List.getElem_mem hm);have hc:=Yh2 (Zqp Tm.near b ((f.terms.take m).map (fun t=>(t,bl)))) f.terms[m] bl (by omega);(repeat' first|refine M.w0 ?_|refine M.cv (hc) [0] 0 ?_|fail);refine⟨rfl,trivial,?_⟩;exact(M.W rh2 (he:=(by(repeat'(first|exact trivial|refine And.intro ?_ ?_|refine⟨_,U,_,U,_,U,?_⟩|exact VLe.refl _|exact VLe.of_eq (by simp[Sto.upd,Zi6,ym _ _ _ hm])));done)))
 ·intro _;simp only[List.take_length];(repeat' first|refine M.w1 @hq ?_|refine M.cs ?_ ?_<;>intro h|fail);all_goals
   have hup:upF f.kind bl<=bl+1:=by simp only[upF];split<;>omega
   have hup0:0<=upF f.kind bl:=by simp only[upF];split<;>omega
   refine M.rt f.args.length
    (fun m=>([(1,.i (upF f.kind bl)),(2,.fn (.func 178) [] [.ptr 0 0]),(3,.ptr 1 0),(28,.s .fm f.args),(29,.i f.args.length),(30,.i m)],⟨2,[(0,.var [.bool (Zqp Tm.near b (f.terms.map (fun t=>(t,bl))++(f.args.take m).flatMap (Fm.tms (upF f.kind bl))))]),(1,.var f.view)]⟩))
    ?_ ?_ ?_
   ·exact (M.W rh2 (hf:=(by(repeat'(first|exact trivial|refine And.intro ?_ ?_|refine⟨_,U,_,U,?_⟩|exact VLe.refl _|exact VLe.of_eq (by simp[Sto.upd,upF,h,Zmr])));done)) (he:=(by(repeat'(first|exact trivial|refine And.intro ?_ ?_|refine⟨_,U,_,U,_,U,?_⟩|exact VLe.refl _|exact VLe.of_eq (by simp[Sto.upd,upF,h,Zmr])));done)))
   ·intro m hm _;have hs2:=zc Fm.full (List.getElem_mem hm);have hc:=ih f.args[m] (Zqp Tm.near b (f.terms.map (fun t=>(t,bl))++(f.args.take m).flatMap (Fm.tms (upF f.kind bl)))) (upF f.kind bl) (by omega) (by omega) hup0 (by omega);(repeat' first|refine M.w0 ?_|refine M.cv (hc) [0] 0 ?_|fail);refine⟨rfl,trivial,?_⟩;exact(M.W rh2 (he:=(by(repeat'(first|exact trivial|refine And.intro ?_ ?_|refine⟨_,U,_,U,_,U,?_⟩|exact VLe.refl _|exact VLe.of_eq (by simp[Sto.upd,Zi6,Zcx _ _ _ hm])));done)))
   ·intro _;skip
    (exact M.n2 rh1 (h6:=(by(repeat'(first|exact trivial|refine And.intro ?_ ?_|refine⟨_,U,_,U,_,U,?_⟩|exact VLe.of_eq (by simp[Sto.upd,htm])));done)) (h8:=(by simp[zn,V.wk,V.wks,za,Ty.view,Tm.view,htm])))
theorem Yc4(f:Fm)(hf:f.full<274877906944):PC E 124 [.agg f.view] (.bool f.near):=by
 have hc:=Zuv _ f true 0 (Nat.le_refl _) (by omega) (by omega) (by omega);refine M.F Tryz.func124 ?_;(repeat' first|refine M.w0 ?_|refine M.cv (hc) [1] 0 ?_|fail);simp[zn,V.wk,V.wks,Zqp,Fm.near]
end Go.Ab
