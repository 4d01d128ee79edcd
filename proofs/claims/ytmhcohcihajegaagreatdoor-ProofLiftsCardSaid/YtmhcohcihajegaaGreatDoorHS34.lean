/- A part of this seat's proofs. No conditions. -/
import Derived.Test.YtmhcohcihajegaaGreatDoorHBqDT1
import Derived.Test.YtmhcohcihajegaaGreatDoorHS26
import Derived.Test.YtmhcohcihajegaaGreatDoorHS30
import Derived.Test.YtmhcohcihajegaaGreatDoorHS31
namespace Go.Ab
open Go Go.Proofs
set_option maxRecDepth 100000
set_option maxHeartbeats 4000000
set_option linter.all false
theorem Yiq(p:Pf)(fr by_:Int)(hp:p.full<274877906944):PC E 27 [.agg p.view,.i fr,.i by_] (.tup [.agg (if Zft p fr by_=0 then p.uw fr by_ 0 else Zvu).view,.i (Zft p fr by_)]):=by
 have h1:=Zca p hp;by_cases he:p.err=0;case neg=>
  rw[Zu3 he,if_neg he];refine M.F Tryz.func27 ?_;(repeat' first|refine M.o1 @h1 ?_|refine M.z1 4 ?_|refine M.cs ?_ ?_<;>intro h|refine M.gk ?_|fail);all_goals first
   |rfl
   |(exfalso;simp at h;exact he h)
   |trace_state
 obtain⟨g1,g2,g3,g4,g5,g6⟩:=Zgz he;rw[he] at h1;have h2:=Zd8 fr 4096;have h3:=Zd8 by_ 4096;have h4:=Zv2 p (by omega) g4;by_cases hg:¬(0<=fr/\fr<=4096)\/¬(0<=by_/\by_<=4096)\/p.nearP=false
 ·rw[Zvb he hg,if_neg (by decide)];by_cases a1:0<=fr/\fr<=4096
  ·rw[decide_eq_true a1] at h2;by_cases a2:0<=by_/\by_<=4096
   ·rw[decide_eq_true a2] at h3;have a3:p.nearP=false:=(hg.resolve_left (fun h=>h a1)).resolve_left (fun h=>h a2);rw[a3] at h4;refine M.F Tryz.func27 ?_;refine M.w4 @h1 @h2 @h3 @h4 ?_
    rfl
   ·rw[decide_eq_false a2] at h3;refine M.F Tryz.func27 ?_;refine M.w3 @h1 @h2 @h3 ?_
    rfl
  ·rw[decide_eq_false a1] at h2;refine M.F Tryz.func27 ?_;refine M.w2 @h1 @h2 ?_
   rfl
 ·rw[Zn6 he hg,if_pos rfl];obtain⟨a1,a2,a3⟩:=(show(0<=fr/\fr<=4096)/\(0<=by_/\by_<=4096)/\p.nearP=true from⟨Decidable.not_not.1 fun h=>hg (.inl h),Decidable.not_not.1 fun h=>hg (.inr (.inl h)),by cases h:p.nearP with|true=>rfl|false=>exact absurd (.inr (.inr h)) hg⟩);rw[decide_eq_true a1] at h2;rw[decide_eq_true a2] at h3;rw[a3] at h4;have h5:=Yfe p fr by_ (by omega) (by omega) g4;generalize p.uw fr by_ 0=P at*;refine M.F Tryz.func27 ?_;refine M.w5 @h1 @h2 @h3 @h4 @h5 ?_
  rfl
theorem Zsg(p:Pf)(fr by_:Int)(hp:p.full<274877906944):PC E 25 [.agg p.view,.i fr,.i by_] (.tup [.agg (if Zf2 p fr by_=0 then p.hw fr by_ 0 else Zvu).view,.i (Zf2 p fr by_)]):=by
 have h1:=Zca p hp;by_cases he:p.err=0;case neg=>
  rw[Zvo he,if_neg he];refine M.F Tryz.func25 ?_;(repeat' first|refine M.o1 @h1 ?_|refine M.z1 4 ?_|refine M.cs ?_ ?_<;>intro h|refine M.gk ?_|fail);all_goals first
   |rfl
   |(exfalso;simp at h;exact he h)
   |trace_state
 obtain⟨g1,g2,g3,g4,g5,g6⟩:=Zgz he;rw[he] at h1;have h2:=Zd8 fr 16384;have h3:=Zd8 by_ 16384;have h4:=Zq2 p (by omega) g4;by_cases hg:¬(0<=fr/\fr<=16384)\/¬(0<=by_/\by_<=16384)\/p.nearH=false
 ·rw[Zuy he hg,if_neg (by decide)];by_cases a1:0<=fr/\fr<=16384
  ·rw[decide_eq_true a1] at h2;by_cases a2:0<=by_/\by_<=16384
   ·rw[decide_eq_true a2] at h3;have a3:p.nearH=false:=(hg.resolve_left (fun h=>h a1)).resolve_left (fun h=>h a2);rw[a3] at h4;refine M.F Tryz.func25 ?_;refine M.w4 @h1 @h2 @h3 @h4 ?_
    rfl
   ·rw[decide_eq_false a2] at h3;refine M.F Tryz.func25 ?_;refine M.w3 @h1 @h2 @h3 ?_
    rfl
  ·rw[decide_eq_false a1] at h2;refine M.F Tryz.func25 ?_;refine M.w2 @h1 @h2 ?_
   rfl
 ·rw[Zp5 he hg,if_pos rfl];obtain⟨a1,a2,a3⟩:=(show(0<=fr/\fr<=16384)/\(0<=by_/\by_<=16384)/\p.nearH=true from⟨Decidable.not_not.1 fun h=>hg (.inl h),Decidable.not_not.1 fun h=>hg (.inr (.inl h)),by cases h:p.nearH with|true=>rfl|false=>exact absurd (.inr (.inr h)) hg⟩);rw[decide_eq_true a1] at h2;rw[decide_eq_true a2] at h3;rw[a3] at h4;have h5:=Yes p fr by_ (by omega) g4;generalize p.hw fr by_ 0=P at*;refine M.F Tryz.func25 ?_;refine M.w5 @h1 @h2 @h3 @h4 @h5 ?_
  rfl
theorem Zqk(l:List Fm)(h:(l.map Fm.full).sum<1099511627776):PC E 49 [.s .fm l,.s .fm l] (.bool true):=by
 have hlen:=zg Fm.full Fm.full_pos l;refine M.F Tryz.func49 ?_;(repeat' first|refine M.w0 ?_|refine M.cs ?_ ?_<;>intro h|fail)
 ·exfalso;simp at h
 refine M.rt l.length (fun m=>([(0,.s .fm l),(1,.s .fm l),(11,.s .fm l),(12,.i l.length),(13,.i m)],⟨0,[]⟩))
  (M.W []) ?_ ?_
 ·intro m hm _;have hs2:=zc Fm.full (List.getElem_mem hm);have hc:=Ydo _ l[m] (Nat.le_refl _) (by omega);refine M.w1 @hc ?_;exact⟨rfl,trivial,(M.W [])⟩
 ·intro _;refine M.w0 ?_
  rfl
theorem Yb8:∀(n:Nat) (p:Pf),p.full<=n->n<1099511627776->PC E 16 [.agg p.view,.agg p.view] (.bool true):=by
 intro n;induction n with
 |zero=>intro p h;have:=p.full_pos;omega
 |succ n ih=>
 intro p hsz hn;have hsz':=p.full_eq;have hlen:=zg Pf.full Pf.full_pos p.args;have h1:=Ztc p.ty (by omega);have h2:=Zi5 p.terms (by omega);have h3:=Zqk p.forms (by omega);refine M.F Tryz.func16 ?_;(repeat' first|refine M.w3 @h1 @h2 @h3 ?_|refine M.gs ?_ ?_<;>intro h|refine M.cs ?_ ?_<;>intro h|fail);all_goals first
  |(exfalso;simp at h;done)
  |skip
 refine M.rt p.args.length (fun m=>([(2,.ptr 0 0),(3,.ptr 1 0),(52,.s .pf p.args),(53,.i p.args.length),(54,.i m)],⟨2,[(0,.var p.view),(1,.var p.view)]⟩))
  (M.W rh2) ?_ ?_
 ·intro m hm _;have hs2:=zc Pf.full (List.getElem_mem hm);have hc:=ih p.args[m] (by omega) (by omega);refine M.w1 @hc ?_;exact⟨rfl,trivial,(M.W rh2)⟩
 ·intro _;refine M.w0 ?_
  rfl
end Go.Ab
