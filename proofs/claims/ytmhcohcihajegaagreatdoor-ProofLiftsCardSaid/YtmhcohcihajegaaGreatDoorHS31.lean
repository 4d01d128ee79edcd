/- A part of this seat's proofs. No conditions. -/
import Derived.Test.YtmhcohcihajegaaGreatDoorHS3
namespace Go.Ab
open Go Go.Proofs
set_option maxRecDepth 100000
set_option maxHeartbeats 4000000
set_option linter.all false
theorem Ztc(x:Ty)(h:x.size<1099511627776):PC E 47 [.agg x.view,.agg x.view] (.bool true):=by
 have:=wh _ x x (Nat.le_refl _) h;simpa using this
theorem Ydh(x:Tm)(h:x.full<1099511627776):PC E 109 [.agg x.view,.agg x.view] (.bool true):=by
 have:=Zm3 _ x x (Nat.le_refl _) h;simpa using this
theorem Zi5(l:List Tm)(h:(l.map Tm.full).sum<1099511627776):PC E 48 [.s .tm l,.s .tm l] (.bool true):=by
 have hlen:=zg Tm.full Tm.full_pos l;refine M.F Tryz.func48 ?_;(repeat' first|refine M.w0 ?_|refine M.cs ?_ ?_<;>intro h|fail)
 ·exfalso;simp at h
 refine M.rt l.length (fun m=>([(0,.s .tm l),(1,.s .tm l),(11,.s .tm l),(12,.i l.length),(13,.i m)],⟨0,[]⟩))
  (M.W []) ?_ ?_
 ·intro m hm _;have hs2:=zc Tm.full (List.getElem_mem hm);have hc:=Ydh l[m] (by omega);refine M.w1 @hc ?_;exact⟨rfl,trivial,(M.W [])⟩
 ·intro _;refine M.w0 ?_
  rfl
theorem Ydo:∀(n:Nat) (f:Fm),f.full<=n->n<1099511627776->PC E 110 [.agg f.view,.agg f.view] (.bool true):=by
 intro n;induction n with
 |zero=>intro f h;have:=f.full_pos;omega
 |succ n ih=>
 intro f hsz hn;have hsz':=f.full_eq;have hlen:=zg Fm.full Fm.full_pos f.args;have h1:=Ztc f.ty (by omega);have h2:=Zi5 f.terms (by omega);refine M.F Tryz.func110 ?_;(repeat' first|refine M.w2 @h1 @h2 ?_|refine M.gs ?_ ?_<;>intro h|refine M.cs ?_ ?_<;>intro h|fail);all_goals first
  |(exfalso;simp at h;done)
  |skip
 refine M.rt f.args.length (fun m=>([(2,.ptr 0 0),(3,.ptr 1 0),(37,.s .fm f.args),(38,.i f.args.length),(39,.i m)],⟨2,[(0,.var f.view),(1,.var f.view)]⟩))
  (M.W rh2) ?_ ?_
 ·intro m hm _;have hs2:=zc Fm.full (List.getElem_mem hm);have hc:=ih f.args[m] (by omega) (by omega);refine M.w1 @hc ?_;exact⟨rfl,trivial,(M.W rh2)⟩
 ·intro _;refine M.w0 ?_
  rfl
end Go.Ab
