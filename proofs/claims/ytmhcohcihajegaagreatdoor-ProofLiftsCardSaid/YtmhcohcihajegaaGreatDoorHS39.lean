/- A part of this seat's proofs. No conditions. -/
import Derived.Test.YtmhcohcihajegaaGreatDoorHS34
import Derived.Test.YtmhcohcihajegaaGreatDoorHS35
import Derived.Test.YtmhcohcihajegaaGreatDoorHS36
import Derived.Test.YtmhcohcihajegaaGreatDoorHS37
namespace Go.Ab
open Go Go.Proofs
set_option maxRecDepth 100000
set_option maxHeartbeats 4000000
set_option linter.all false
theorem Zt7{p:Pf}(he:p.err=0)(hx:p.ixr):PC E 26 [.agg p.view] (.tup [.s .int (Zho p),.i 0]):=by
 have f:=vh he;have h:=Yf2 p (by omega) (fun _=>hx);rw[he,if_pos rfl] at h;exact h
theorem Zpd(l:List Int)(a:Int)(ha:0<=a/\a<256):PC E 5 [.s .int l,.int .u8 a] (.bool true):=by
 have hsane:=Ztv;have hfew:=Yjz l;by_cases hl:l.length<=500;case neg=>
  rw[decide_eq_false hl] at hfew;refine M.F Tryz.func5 ?_;refine M.w2 @hsane @hfew ?_
  rfl
 rw[decide_eq_true hl] at hfew;have hnew:=Yki l;have hd:(Dk.mk l 0).ok:=⟨Nat.zero_le _,by simp only;omega⟩;obtain⟨d,hde⟩:∃d,d=Dk.mk l 0:=⟨_,rfl⟩;rw[<-hde] at hnew hd;have hlm:=Zsb d hd;have hsq:=Zy8 d.lm.2 (Dk.lm_ok hd);have hd2:=Dk.sqD_ok (Dk.lm_ok hd);have hc:=Ye2 d;have hg:=d.lm.2.ctx_smalls;have ht:HTp ⟨d.lm.1,d.lm.2.ctx.1,d.lm.2.sqH⟩:=Yep hg rfl rfl;generalize d.lm.2.sqD=d2 at*;generalize d.lm.2.sqH=hyps at*;generalize d.lm.2.ctx.1=tys at*;generalize d.lm.1=lems at*;generalize d.lm.2=d1 at*;obtain⟨p,d3,⟨hp,qp⟩,ok3,hA⟩:=Zjd 3 (by omega) lems tys hyps d2 3 rfl hd2 hc hg;obtain⟨r,d4,⟨hr,qr⟩,ok4,hB⟩:=Zjd 1 (by omega) lems tys hyps d3 1 rfl ok3 hc hg;have ep:=(top3 qp ht hp.shape).1;have er:=(top1 qr ht hr.shape).1;have fp:=vh ep;have fr:=vh er;have sp:=hp.shape;have hk:0<=a.tmod 6/\a.tmod 6<6:=⟨Int.tmod_nonneg 6 ha.1,Int.tmod_lt_of_pos a (by omega)⟩;generalize hn:a.tmod 6=n at*;obtain⟨x1,x2,x3,x4,x5⟩:=Zmb (k:=n) hp hr ep er (by omega);obtain⟨z1,z2,z3,z4,z5⟩:=Zmb (k:=1) hp hr ep er (by omega);obtain⟨y1,y2,y3,y4,y5⟩:=Yjk (k:=n) hp ep (by omega);obtain⟨w1,w2⟩:=Ygg hp hr ep er;have c1:=Zee ep hp.hx (by omega);have c2:=Zsg p 0 n (by omega);rw[if_pos x1,x1,x2] at c2;have c3:=Zee x3 x4 (by omega);have c4:=Zt7 ep (Yeo sp hp.ib (by omega));have c5:=Yiq p 0 n (by omega);rw[if_pos y1,y1,y2] at c5;have c6:=Zt7 y3 y4;have c7:=Zsg p 0 1 (by omega);rw[if_pos z1,z1,z2] at c7;have c8:=Zx9 (p.lh 0 1 0) 0 r (by omega) (by omega);rw[if_pos w1,w1,w2] at c8;have c9:=Yb8 _ p (Nat.le_refl _) (by omega);have e1:=Yf6 sp (n:=n) (by omega);have e2:=Yif sp (n:=n) (by omega);have la:=Zgl p (by omega);have pa:=Zyq hp.hx sp;have lu:=Yag p (by omega);have pu:=Ybc hp.ix;rw[e1] at c3;rw[e2] at c6;clear e1 e2 x1 x2 x3 x4 z1 z2 z3 z4 y1 y2 y3 y4 w1 w2;generalize p.lh 0 1 0=Z at*;generalize p.lh 0 n 0=X at*;generalize p.up 0 n 0=Y at*;generalize xp p=A at*;generalize Zho p=U at*;subst hn;refine M.F Tryz.func5 ?_;(repeat' first|refine M.w2 @hsane @hfew ?_|refine M.cb (hnew) [] 1 ?_|refine M.cb (hlm) [0] 0 ?_|refine M.cb (hsq) [0] 0 ?_|refine M.cb (hA) [0] 0 ?_|refine M.c2 (c1) ?_|refine M.c2 (c2) ?_|refine M.c2 (c3) ?_|refine M.c2 (c4) ?_|refine M.c2 (c5) ?_|refine M.c2 (c6) ?_|refine M.c2 (c7) ?_|refine M.cb (hB) [0] 0 ?_|refine M.c2 (c8) ?_|refine M.c2 (c9) ?_|refine M.gs ?_ ?_<;>intro h|fail);all_goals first
  |(exfalso;simp at h;done)
  |skip
 refine M.rt A.length
  (fun m=>([(9,.i (a.tmod 6)),(10,.s .int A),(14,.s .int (A.map (·+a.tmod 6))),(16,.s .int U),(20,.s .int (U.map (·+a.tmod 6))),(142,.i A.length),(143,.i m)],⟨0,[]⟩))
  (M.W []) ?_ ?_
 ·intro m hm _;have hp:=pa A[m] (List.getElem_mem hm);(repeat' first|refine M.w0 ?_|refine M.cs ?_ ?_<;>intro h|fail)
  ·exfalso;simp at h
  ·exact ⟨rfl,trivial,(M.W [])⟩
 intro _;refine M.w0 ?_;refine M.rt U.length
  (fun m=>([(9,.i (a.tmod 6)),(10,.s .int A),(14,.s .int (A.map (·+a.tmod 6))),(16,.s .int U),(20,.s .int (U.map (·+a.tmod 6))),(159,.i U.length),(160,.i m)],⟨0,[]⟩))
  (M.W []) ?_ ?_
 ·intro m hm _;have hp:=pu U[m] (List.getElem_mem hm);(repeat' first|refine M.w0 ?_|refine M.cs ?_ ?_<;>intro h|fail)
  ·exfalso;simp at h
  ·exact ⟨rfl,trivial,(M.W [])⟩
 intro _;refine M.w0 ?_
 rfl
end Go.Ab
