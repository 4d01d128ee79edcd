/- A part of this seat's proofs. No conditions. -/
import Derived.Test.YtmhcohcihajegaaGreatDoorHAqDT1
import Derived.Test.YtmhcohcihajegaaGreatDoorHS36
import Derived.Test.YtmhcohcihajegaaGreatDoorHS37
namespace Go.Ab
open Go Go.Proofs
set_option maxRecDepth 100000
set_option maxHeartbeats 4000000
set_option linter.all false
theorem Zr2(l:List Int):PC E 4 [.s .int l] (.bool true):=by
 have hsane:=Ztv;have hfew:=Yjz l;by_cases hl:l.length<=500;case neg=>
  rw[decide_eq_false hl] at hfew;refine M.F Tryz.func4 ?_;refine M.w2 @hsane @hfew ?_
  rfl
 rw[decide_eq_true hl] at hfew;have hnew:=Yki l;have hd:(Dk.mk l 0).ok:=⟨Nat.zero_le _,by simp only;omega⟩;obtain⟨d,hde⟩:∃d,d=Dk.mk l 0:=⟨_,rfl⟩;rw[<-hde] at hnew hd;have hlm:=Zsb d hd;have hsq:=Zy8 d.lm.2 (Dk.lm_ok hd);have hd2:=Dk.sqD_ok (Dk.lm_ok hd);have hc:=Ye2 d;have hg:=d.lm.2.ctx_smalls;have ht:HTp ⟨d.lm.1,d.lm.2.ctx.1,d.lm.2.sqH⟩:=Yep hg rfl rfl;generalize d.lm.2.sqD=d2 at*;generalize d.lm.2.sqH=hyps at*;generalize d.lm.2.ctx.1=tys at*;generalize d.lm.1=lems at*;generalize d.lm.2=d1 at*;obtain⟨p,d3,⟨hp,qp⟩,ok3,hA⟩:=Zjd 3 (by omega) lems tys hyps d2 3 rfl hd2 hc hg;obtain⟨r,d4,⟨hr,qr⟩,ok4,hB⟩:=Zjd 2 (by omega) lems tys hyps d3 2 rfl ok3 hc hg;have ep:=top3 qp ht hp.shape;have er:=top2 qr ht hr.shape;have fp:=vh ep.1;have fr:=vh er.1;have sp:=hp.shape;have c1:=Zee ep.1 hp.hx (by omega);have ci:=Zfm falseF p (by decide) (by omega);have ei:(Zp7 falseF p).err=0:=Yh5 (by decide+kernel) ep.1 (by have:falseF.size<=100:=(by decide);omega);have c2:=Zee ei (Yi2 hp.hx) (by omega);have c3:=Zee er.1 hr.hx (by omega);have c4:=Zx9 p 0 r (by omega) (by omega);have hf:=Zo7;rcases Ygh hp hr ep.1 er.1 with he|he;case inr=>
  rw[he,if_neg (by decide)] at c4;unfold Zp7 at c2;generalize xp p=a at*;generalize xp r=c at*;generalize xp (.mk 6 0 (.mk 0 []) [] [falseF] [p])=b at*;generalize falseF=F at*;refine M.F Tryz.func4 ?_;(repeat' first|refine M.w2 @hsane @hfew ?_|refine M.cb (hnew) [] 1 ?_|refine M.cb (hlm) [0] 0 ?_|refine M.cb (hsq) [0] 0 ?_|refine M.cb (hA) [0] 0 ?_|refine M.cb (hB) [0] 0 ?_|refine M.c2 (c1) ?_|refine M.c2 (hf) ?_|refine M.c2 (ci) ?_|refine M.c2 (c2) ?_|refine M.c2 (c3) ?_|refine M.c2 (c4) ?_|fail)
  rfl
 have hput:=Zy4 hp.ib hr.ib he;have c5:=Zee hput.1 hput.2.1 (by omega);have wb:∀x∈xp (Zp7 falseF p),x∈wM (xp p) (xp p).length:=fun x hx=>by
  rw[wM,List.take_length];exact(Zwx sp).1 hx
 have wl:(xp (Zp7 falseF p)).length=(wM (xp p) (xp p).length).length:=by rw[wM,List.take_length];exact Yge sp
 have wo:∀x∈xp (Zcp p 0 r),x∈Zfh (xp p) (xp r):=fun x hx=>(Zxg hr.ib he).1 hx;have wol:(xp (Zcp p 0 r)).length=(Zfh (xp p) (xp r)).length:=Yhb hr.ib he;have la:=Zgl p (by omega);have lc:=Zgl r (by omega);have lo:=Zgl (Zcp p 0 r) (by have:=hput.2.2;omega);have fi:=vh ei;have lb:=Zgl (Zp7 falseF p) (by omega);have e4:(if Za1 p 0 r=0 then Pf.ph 0 r 0 0 p else Zvu)=Zcp p 0 r:=rfl;rw[e4,he] at c4;have pa:=Zyq hp.hx sp;unfold Zp7 at c2 wb wl lb;clear ei fi hput e4;generalize Zcp p 0 r=x at*;generalize xp p=a at*;generalize xp r=c at*;generalize xp (.mk 6 0 (.mk 0 []) [] [falseF] [p])=b at*;generalize xp x=o at*;generalize falseF=F at*;refine M.F Tryz.func4 ?_;(repeat' first|refine M.w2 @hsane @hfew ?_|refine M.cb (hnew) [] 1 ?_|refine M.cb (hlm) [0] 0 ?_|refine M.cb (hsq) [0] 0 ?_|refine M.cb (hA) [0] 0 ?_|refine M.cb (hB) [0] 0 ?_|refine M.c2 (c1) ?_|refine M.c2 (hf) ?_|refine M.c2 (ci) ?_|refine M.c2 (c2) ?_|refine M.c2 (c3) ?_|refine M.c2 (c4) ?_|refine M.c2 (c5) ?_|fail);refine M.rt a.length
  (fun m=>([(10,.s .int b),(12,.s .int c),(16,.s .int o),(18,.mp 0),(19,.mp 1),(20,.bool (Zvt a m)),(98,.s .int a),(99,.i a.length),(100,.i m)],⟨2,[(0,.map .bl (wM a m) (List.replicate (wM a m).length true)),(1,.map .bl (wM a m) (List.replicate (wM a m).length true))]⟩))
  ?_ ?_ ?_
 ·exact (M.W [some 5,some 6] (he:=(by(repeat'(first|exact trivial|refine And.intro ?_ ?_|refine⟨_,U,_,_,U,?_,?_⟩|(simp[Sto.upd,Zxe,Yg0];done)));done)))
 ·intro m hm hP;have hp:=pa a[m] (List.getElem_mem hm);(repeat' first|refine M.w0 ?_|refine M.cs ?_ ?_<;>intro h|fail)
  ·have h0:a[m]=0:=by simpa using h
   exact⟨rfl,trivial,(M.W rh2 (hf:=(by(repeat'(first|exact trivial|refine And.intro ?_ ?_|refine⟨_,U,_,U,?_⟩|exact VLe.refl _|exact VLe.of_eq (by simp[Sto.upd,Yfc hm h0,wM_z hm h0])));done)) (he:=(by(repeat'(first|exact trivial|refine And.intro ?_ ?_|refine⟨_,U,_,_,U,?_,?_⟩|(simp[Sto.upd,Yfc hm h0,wM_z hm h0];done)));done)))⟩
  ·have h0:a[m]≠0:=by simpa using h
   exact⟨rfl,trivial,(M.W rh2 (hf:=(by(repeat'(first|exact trivial|refine And.intro ?_ ?_|refine⟨_,U,_,U,?_⟩|exact VLe.refl _|exact VLe.of_eq (by simp[Sto.upd,Yfj hm h0,wM_n hm h0,vx])));done)) (he:=(by(repeat'(first|exact trivial|refine And.intro ?_ ?_|refine⟨_,U,_,_,U,?_,?_⟩|(simp[Sto.upd,Yfj hm h0,wM_n hm h0,vx];done)));done)))⟩
 intro _;clear hsane hfew hnew hlm hsq hA hB c1 hf ci c2 c3 c4 c5;refine M.w0 ?_;refine M.rt c.length
  (fun m=>([(10,.s .int b),(16,.s .int o),(18,.mp 0),(19,.mp 1),(20,.bool (Zvt a a.length)),(113,.s .int c),(114,.i c.length),(115,.i m)],⟨2,[(0,.map .bl (wM a a.length) (List.replicate (wM a a.length).length true)),(1,.map .bl (wN a c (Zvt a a.length) m) (List.replicate (wN a c (Zvt a a.length) m).length true))]⟩))
  ?_ ?_ ?_
 ·exact (M.W rh2 (he:=(by(repeat'(first|exact trivial|refine And.intro ?_ ?_|refine⟨_,U,_,_,U,?_,?_⟩|with_reducible exact rfl|(simp[Sto.upd,Yg4];done)));done)))
 ·intro m hm hP;(repeat' first|refine M.w0 ?_|refine M.cs ?_ ?_<;>intro h|fail)
  ·exact ⟨rfl,trivial,(M.W rh2 (he:=(by(repeat'(first|exact trivial|refine And.intro ?_ ?_|refine⟨_,U,_,_,U,?_,?_⟩|with_reducible exact rfl|(simp[Sto.upd,wN_t hm h,vx];done)));done)))⟩
  ·exact ⟨rfl,trivial,(M.W rh2 (he:=(by(repeat'(first|exact trivial|refine And.intro ?_ ?_|refine⟨_,U,_,_,U,?_,?_⟩|with_reducible exact rfl|(simp[Sto.upd,wN_f h];done)));done)))⟩
 intro _;refine M.w0 ?_;refine M.rt b.length
  (fun m=>([(10,.s .int b),(16,.s .int o),(18,.mp 0),(19,.mp 1),(123,.s .int b),(124,.i b.length),(125,.i m)],⟨2,[(0,.map .bl (wM a a.length) (List.replicate (wM a a.length).length true)),(1,.map .bl (Zfh a c) (List.replicate (Zfh a c).length true))]⟩))
  ?_ ?_ ?_
 ·exact (M.W rh2 (he:=(by(repeat'(first|exact trivial|refine And.intro ?_ ?_|refine⟨_,U,_,_,U,?_,?_⟩|with_reducible exact rfl|(simp[Sto.upd,Yjm];done)));done)))
 ·intro m hm hP;have hq:lkB b[m] (wM a a.length) (List.replicate (wM a a.length).length true)=true:=by rw[Zw7];exact decide_eq_true (wb _ (List.getElem_mem hm))
  (repeat' first|refine M.w0 ?_|refine L.lkb U U U U U U U U U U ?_|refine M.cs ?_ ?_<;>intro h|fail)
  ·exfalso;simp[hq] at h
  ·exact ⟨rfl,trivial,(M.W rh2)⟩
 intro _;refine M.w0 ?_;refine M.rt o.length
  (fun m=>([(10,.s .int b),(16,.s .int o),(18,.mp 0),(19,.mp 1),(134,.s .int o),(135,.i o.length),(136,.i m)],⟨2,[(0,.map .bl (wM a a.length) (List.replicate (wM a a.length).length true)),(1,.map .bl (Zfh a c) (List.replicate (Zfh a c).length true))]⟩))
  ?_ ?_ ?_
 ·exact (M.W rh2)
 ·intro m hm hP;have hq:lkB o[m] (Zfh a c) (List.replicate (Zfh a c).length true)=true:=by rw[Zw7];exact decide_eq_true (wo _ (List.getElem_mem hm))
  (repeat' first|refine M.w0 ?_|refine L.lkb U U U U U U U U U U ?_|refine M.cs ?_ ?_<;>intro h|fail)
  ·exfalso;simp[hq] at h
  ·exact ⟨rfl,trivial,(M.W rh2)⟩
 intro _;have e1:((b.length:Int)==((List.replicate (wM a a.length).length true).length:Nat))=true:=by simp[wl]
 have e2:((o.length:Int)==((List.replicate (Zfh a c).length true).length:Nat))=true:=by simp[wol]
 (repeat' first|refine M.w0 ?_|refine M.gs ?_ ?_<;>intro h|fail)
 ·rw[e2];rfl
 ·exfalso;rw[e1] at h;cases h
end Go.Ab
