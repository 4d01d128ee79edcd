/- A part of this seat's proofs. No conditions. -/
import Derived.Test.YtmhcohcihajegaaGreatDoorCS17
namespace Go.Ab
open Go Go.Proofs
set_option maxRecDepth 100000
set_option maxHeartbeats 4000000
set_option linter.all false
theorem Ym2(b:Bool)(t:Tm)(bl:Int)(ht:t.full<1099511627776):AC E 178 [.agg t.view,.i bl,.ptr 0 0] ⟨1,[(0,.var [.bool b])]⟩ (.AP []) ⟨1,[(0,.var [.bool (GN Tm.near b [(t,bl)])])]⟩:=by
 have hc:=QY t ht;refine M.F Tryz.func178 ?_;(repeat' first|refine M.w1 @hc ?_|refine M.gs ?_ ?_<;>intro h|fail)
 ·exact qP
 ·exact qP
theorem Yf1(at_ c:Int)(t:Tm)(bl:Int)(ht:t.full<549755813888)(hc0:0<=c/\c<549755813888)(ha:0<=at_/\at_<549755813888)(hb:0<=bl/\bl<549755813888)(hix:∀p∈t.vars 0,0<=p.1/\p.1<1099511627776):
 AC E 248 [.agg t.view,.i bl,.ptr 0 0,.ptr 1 0] ⟨2,[(0,.var [.i c]),(1,.var [.i at_])]⟩ (.AP []) ⟨2,[(0,.var [.i (c+ud at_ [(t,bl)])]),(1,.var [.i at_])]⟩:=by
 have hc:=ZL t (at_+bl) ht hix;have h1:=Qj (at_+bl) (t.vars 0);have h2:=t.Db 0;have h3:=t.An;refine M.F Tryz.func248 ?_;refine M.w1 @hc ?_
 (exact M.n2 Bo (h8:=(by simp[zn,V.wk,V.Ar,za,Ty.view,Tm.view,ud])))
theorem Zyz:∀(n:Nat) (f:Fm) (b:Bool) (bl:Int),f.full<=n->n<549755813888->0<=bl->bl+n<549755813888->AC E 84 [.agg f.view,.i bl,.fn (.func 178) [] [.ptr 0 0]] ⟨1,[(0,.var [.bool b])]⟩ (.AP []) ⟨1,[(0,.var [.bool (GN Tm.near b (f.A6 bl))])]⟩:=by
 intro n;induction n with
 |zero=>intro f;intros;have:=f.Ad;omega
 |succ n ih=>
 intro f b bl hsz hn hbl hbn;have hsz':=f.Ag;have hlen:=ze Fm.full Fm.Ad f.args;have hlen2:=ze Tm.full Tm.Ad f.terms;have htm:=f.A0 bl;have hq:=OZ f.kind;refine M.F Tryz.func84 ?_;refine M.w0 ?_;refine M.rt f.terms.length
  (fun m=>([(1,.i bl),(2,.fn (.func 178) [] [.ptr 0 0]),(3,.ptr 1 0),(11,.s .tm f.terms),(12,.i f.terms.length),(13,.i m)],⟨2,[(0,.var [.bool (GN Tm.near b ((f.terms.take m).map (fun t=>(t,bl))))]),(1,.var f.view)]⟩))
  ?_ ?_ ?_
 .exact (M.W Bo (he:=(by(repeat'(first|exact trivial|refine And.intro ?_ ?_|refine⟨_,U,_,U,_,U,?_⟩|exact Ap.refl _|exact Ap.of_eq (by simp[Ao.AH,S7])));done)))
 .intro m hm _;have hs2:=zc Tm.full (fA hm);have hc:=Ym2 (GN Tm.near b ((f.terms.take m).map (fun t=>(t,bl)))) f.terms[m] bl kn;(repeat' first|refine M.w0 ?_|refine M.cv (hc) [0] 0 ?_|fail);refine⟨rfl,trivial,?_⟩;exact(M.W Bo (he:=(by(repeat'(first|exact trivial|refine And.intro ?_ ?_|refine⟨_,U,_,U,_,U,?_⟩|exact Ap.refl _|exact Ap.of_eq (by simp[Ao.AH,bK,yc _ _ _ hm])));done)))
 .intro _;simp only[fH];(repeat' first|refine M.w1 @hq ?_|refine M.cs ?_ ?_<;>intro h|fail);all_goals
   have hup:A3 f.kind bl<=bl+1:=l5
   have hup0:0<=A3 f.kind bl:=l5
   refine M.rt f.args.length
    (fun m=>([(1,.i (A3 f.kind bl)),(2,.fn (.func 178) [] [.ptr 0 0]),(3,.ptr 1 0),(28,.s .fm f.args),(29,.i f.args.length),(30,.i m)],⟨2,[(0,.var [.bool (GN Tm.near b (f.terms.map (fun t=>(t,bl))++(f.args.take m).flatMap (Fm.A6 (A3 f.kind bl))))]),(1,.var f.view)]⟩))
    ?_ ?_ ?_
   .exact (M.W Bo (hf:=(by(repeat'(first|exact trivial|refine And.intro ?_ ?_|refine⟨_,U,_,U,?_⟩|exact Ap.refl _|exact Ap.of_eq (by simp[Ao.AH,A3,h,S7])));done)) (he:=(by(repeat'(first|exact trivial|refine And.intro ?_ ?_|refine⟨_,U,_,U,_,U,?_⟩|exact Ap.refl _|exact Ap.of_eq (by simp[Ao.AH,A3,h,S7])));done)))
   .intro m hm _;have hs2:=zc Fm.full (fA hm);have hc:=ih f.args[m] (GN Tm.near b (f.terms.map (fun t=>(t,bl))++(f.args.take m).flatMap (Fm.A6 (A3 f.kind bl)))) (A3 f.kind bl) kn kn hup0 kn;(repeat' first|refine M.w0 ?_|refine M.cv (hc) [0] 0 ?_|fail);refine⟨rfl,trivial,?_⟩;exact(M.W Bo (he:=(by(repeat'(first|exact trivial|refine And.intro ?_ ?_|refine⟨_,U,_,U,_,U,?_⟩|exact Ap.refl _|exact Ap.of_eq (by simp[Ao.AH,bK,M6 _ _ _ hm])));done)))
   .intro _;skip
    (exact M.n2 AJ (h6:=(by(repeat'(first|exact trivial|refine And.intro ?_ ?_|refine⟨_,U,_,U,_,U,?_⟩|exact Ap.of_eq (by simp[Ao.AH,htm])));done)) (h8:=pH))
theorem Ztr(at_ C:Int)(ha:0<=at_/\at_<549755813888)(hC:C<549755813888):∀(n:Nat) (f:Fm) (c:Int) (bl:Int),f.full<=n->n<549755813888->0<=bl->bl+n<549755813888->0<=c->c+f.size<=C->(∀p∈f.A6 bl,∀q∈p.1.vars 0,0<=q.1/\q.1<1099511627776)->AC E 84 [.agg f.view,.i bl,.fn (.func 248) [] [.ptr 0 0,.ptr 1 0]] ⟨2,[(0,.var [.i c]),(1,.var [.i at_])]⟩ (.AP []) ⟨2,[(0,.var [.i (c+ud at_ (f.A6 bl))]),(1,.var [.i at_])]⟩:=by
 intro n;induction n with
 |zero=>intro f;intros;have:=f.Ad;omega
 |succ n ih=>
 intro f c bl hsz hn hbl hbn hc0 hcC hix;have hsz':=f.Ag;have hlen:=ze Fm.full Fm.Ad f.args;have hlen2:=ze Tm.full Tm.Ad f.terms;have htm:=f.A0 bl;have hq:=OZ f.kind;refine M.F Tryz.func84 ?_;refine M.w0 ?_;refine M.rt f.terms.length
  (fun m=>([(1,.i bl),(2,.fn (.func 248) [] [.ptr 0 0,.ptr 1 0]),(3,.ptr 2 0),(11,.s .tm f.terms),(12,.i f.terms.length),(13,.i m)],⟨3,[(0,.var [.i (c+ud at_ ((f.terms.take m).map (fun t=>(t,bl))))]),(1,.var [.i at_]),(2,.var f.view)]⟩))
  ?_ ?_ ?_
 .exact (M.W F8 (he:=(by(repeat'(first|exact trivial|refine And.intro ?_ ?_|refine⟨_,U,_,U,_,U,?_⟩|exact Ap.refl _|exact Ap.of_eq (by simp[Ao.AH,ud])));done)))
 .intro m hm _;have hs2:=zc Tm.full (fA hm);have hle1:=MP at_ ((f.terms.take m).map (fun t=>(t,bl)));have hle2:(((f.terms.take m).map (fun t=>(t,bl))).map fun p:Tm×Int=>p.1.size).sum<=f.size:=Ym5 f bl m;have hc:=Yf1 at_ (c+ud at_ ((f.terms.take m).map (fun t=>(t,bl)))) f.terms[m] bl kn kn ha kn (fun p hp=>hix _ mI p hp);refine M.w1 @hc ?_;refine⟨rfl,trivial,?_⟩;exact(M.W F8 (he:=(by(repeat'(first|exact trivial|refine And.intro ?_ ?_|refine⟨_,U,_,U,_,U,?_⟩|exact Ap.refl _|exact Ap.of_eq (by simp[Ao.AH,xg,ij,iF,yc _ _ _ hm])));done)))
 .intro _;simp only[fH];(repeat' first|refine M.w1 @hq ?_|refine M.cs ?_ ?_<;>intro h|fail);all_goals
   have hup:A3 f.kind bl<=bl+1:=l5
   have hup0:0<=A3 f.kind bl:=l5
   refine M.rt f.args.length
    (fun m=>([(1,.i (A3 f.kind bl)),(2,.fn (.func 248) [] [.ptr 0 0,.ptr 1 0]),(3,.ptr 2 0),(28,.s .fm f.args),(29,.i f.args.length),(30,.i m)],⟨3,[(0,.var [.i (c+ud at_ (f.terms.map (fun t=>(t,bl))++(f.args.take m).flatMap (Fm.A6 (A3 f.kind bl))))]),(1,.var [.i at_]),(2,.var f.view)]⟩))
    ?_ ?_ ?_
   .exact (M.W F8 (hf:=(by(repeat'(first|exact trivial|refine And.intro ?_ ?_|refine⟨_,U,_,U,?_⟩|exact Ap.refl _|exact Ap.of_eq (by simp[Ao.AH,A3,h,ud])));done)) (he:=(by(repeat'(first|exact trivial|refine And.intro ?_ ?_|refine⟨_,U,_,U,_,U,?_⟩|exact Ap.refl _|exact Ap.of_eq (by simp[Ao.AH,A3,h,ud])));done)))
   .intro m hm _;have hs2:=zc Fm.full (fA hm);have hle1:=MP at_ (f.terms.map (fun t=>(t,bl))++(f.args.take m).flatMap (Fm.A6 (A3 f.kind bl)));have hle2:((f.terms.map (fun t=>(t,bl))++(f.args.take m).flatMap (Fm.A6 (A3 f.kind bl))).map fun p:Tm×Int=>p.1.size).sum+(f.args[m]).size<=f.size:=Ymi f bl m hm;have hc:=ih f.args[m] (c+ud at_ (f.terms.map (fun t=>(t,bl))++(f.args.take m).flatMap (Fm.A6 (A3 f.kind bl)))) (A3 f.kind bl) kn kn hup0 kn kn kn (fun p hp=>hix p nQ);refine M.w1 @hc ?_;refine⟨rfl,trivial,?_⟩;exact(M.W F8 (he:=(by(repeat'(first|exact trivial|refine And.intro ?_ ?_|refine⟨_,U,_,U,_,U,?_⟩|exact Ap.refl _|exact Ap.of_eq (by simp[Ao.AH,xg,ij,iF,M6 _ _ _ hm])));done)))
   .intro _;skip
    (exact M.n2 Bo (h6:=(by(repeat'(first|exact trivial|refine And.intro ?_ ?_|refine⟨_,U,_,U,_,U,?_⟩|exact Ap.refl _|exact Ap.of_eq (by simp[Ao.AH,htm])));done)) (h8:=pH))
theorem Ygl(f:Fm)(hf:f.full<274877906944):PC E 124 [.agg f.view] (.bool f.near):=by
 have hc:=Zyz _ f true 0 (fB _) kn kn kn;refine M.F Tryz.func124 ?_;(repeat' first|refine M.w0 ?_|refine M.cv (hc) [1] 0 ?_|fail);simp[zn,V.wk,V.Ar,GN,Fm.near]
theorem Zzm(f:Fm)(at_:Int)(ha:0<=at_/\at_<549755813888)(hf:f.full<274877906944)(hix:∀p∈f.A6 0,∀q∈p.1.vars 0,0<=q.1/\q.1<1099511627776):PC E 229 [.agg f.view,.i at_] (.i (ud at_ (f.A6 0))):=by
 have hle:=f.An;have hc:=Ztr at_ (f.size) ha kn _ f 0 0 (fB _) kn kn kn kn kn hix;refine M.F Tryz.func229 ?_;(repeat' first|refine M.w0 ?_|refine M.cv (hc) [2,1] 0 ?_|fail);simp[zn,V.wk,V.Ar]
end Go.Ab
