/- A part of this seat's proofs. No conditions. -/
import Derived.Test.YtknjfffhfolkcaaGreatDoorHS5
namespace Go.Ab
open Go Go.Proofs
set_option maxRecDepth 100000
set_option maxHeartbeats 4000000
set_option linter.all false
theorem Ydr(b:Bool)(t:Tm)(bl:Int)(ht:t.full<1099511627776):AC E 169 [.agg t.view,.i bl,.ptr 0 0] ⟨1,[(0,.var [.bool b])]⟩ (.AD []) ⟨1,[(0,.var [.bool (E8 Tm.near b [(t,bl)])])]⟩:=by
 have hc:=Mb t ht;refine M.F Tryz.func169 ?_;(repeat' first|refine M.gw ?_|refine M.c2 (hc) ?_|refine M.gs ?_ ?_<;>intro h|fail)
 ·(exact M.n2 [some 0] (h6:=(by(repeat'(first|exact trivial|refine And.intro ?_ ?_|refine⟨_,U,_,U,_,U,?_⟩|exact Ao.of_eq (by simp[Aq.Ay,MG,h])));done)) (h8:=(by simp[zk,V.wk,V.Ap,zc,Ty.view,Tm.view,MG,h])))
 ·(exact M.n2 [some 0] (h6:=(by(repeat'(first|exact trivial|refine And.intro ?_ ?_|refine⟨_,U,_,U,_,U,?_⟩|exact Ao.of_eq (by simp[Aq.Ay,MG,h])));done)) (h8:=(by simp[zk,V.wk,V.Ap,zc,Ty.view,Tm.view,MG,h])))
theorem Zzv(at_ c:Int)(t:Tm)(bl:Int)(ht:t.full<549755813888)(hc0:0<=c/\c<549755813888)(ha:0<=at_/\at_<549755813888)(hb:0<=bl/\bl<549755813888)(hix:∀p∈t.vars 0,0<=p.1/\p.1<1099511627776):
 AC E 229 [.agg t.view,.i bl,.ptr 0 0,.ptr 1 0] ⟨2,[(0,.var [.i c]),(1,.var [.i at_])]⟩ (.AD []) ⟨2,[(0,.var [.i (c+wr at_ [(t,bl)])]),(1,.var [.i at_])]⟩:=by
 have hc:=SF t (at_+bl) ht hix;have h1:=JK (at_+bl) (t.vars 0);have h2:=t.Ce 0;have h3:=t.Aj;refine M.F Tryz.func229 ?_;(repeat' first|refine M.gw ?_|refine M.c2 (hc) ?_|fail)
 (exact M.n2 [some 0,some 1] (h8:=(by simp[zk,V.wk,V.Ap,zc,Ty.view,Tm.view,wr])))
theorem Zs5:∀(n:Nat) (f:Fm) (b:Bool) (bl:Int),f.full<=n->n<549755813888->0<=bl->bl+n<549755813888->AC E 168 [.agg f.view,.i bl,.fn (.func 169) [] [.ptr 0 0]] ⟨1,[(0,.var [.bool b])]⟩ (.AD []) ⟨1,[(0,.var [.bool (E8 Tm.near b (f.AZ bl))])]⟩:=by
 intro n;induction n with
 |zero=>intro f;intros;have:=f.Aa;omega
 |succ n ih=>
 intro f b bl hsz hn hbl hbn;have hsz':=f.Af;have hlen:=zd Fm.full Fm.Aa f.args;have hlen2:=zd Tm.full Tm.Aa f.terms;have htm:=f.Ba bl;have hq:=ue f.kind;refine M.F Tryz.func168 ?_;(repeat' first|refine M.gw ?_|fail);refine AW.range f.terms.length (fun m=>True)
  (fun m=>([(1,.i bl),(2,.fn (.func 169) [] [.ptr 0 0]),(3,.ptr 1 0),(11,.s .tm f.terms),(12,.i f.terms.length),(13,.i m)],⟨2,[(0,.var [.bool (E8 Tm.near b ((f.terms.take m).map (fun t=>(t,bl))))]),(1,.var f.view)]⟩))
  (by omega) (fun m=>rfl) (fun m=>rfl) rfl trivial ?_ ?_ ?_
 .exact (M.W [some 0,some 1] (he:=(by(repeat'(first|exact trivial|refine And.intro ?_ ?_|refine⟨_,U,_,U,_,U,?_⟩|exact Ao.refl _|exact Ao.of_eq (by simp[Aq.Ay,PS])));done)))
 .intro m hm _;have hs2:=za Tm.full (Wi hm);have hc:=Ydr (E8 Tm.near b ((f.terms.take m).map (fun t=>(t,bl)))) f.terms[m] bl (by omega);(repeat' first|refine M.gw ?_|refine M.cv (hc) [0] 0 ?_|fail);refine⟨rfl,trivial,?_⟩;exact(M.W [some 0,some 1] (he:=(by(repeat'(first|exact trivial|refine And.intro ?_ ?_|refine⟨_,U,_,U,_,U,?_⟩|exact Ao.refl _|exact Ao.of_eq (by simp[Aq.Ay,VY,zy _ _ _ hm])));done)))
 .intro _;simp only[Wp];(repeat' first|refine M.gw ?_|refine M.c2 (hq) ?_|refine M.cs ?_ ?_<;>intro h|fail);all_goals
   have hup:A3 f.kind bl<=bl+1:=by simp only[A3];split<;>omega
   have hup0:0<=A3 f.kind bl:=by simp only[A3];split<;>omega
   refine AW.range f.args.length (fun m=>True)
    (fun m=>([(1,.i (A3 f.kind bl)),(2,.fn (.func 169) [] [.ptr 0 0]),(3,.ptr 1 0),(28,.s .fm f.args),(29,.i f.args.length),(30,.i m)],⟨2,[(0,.var [.bool (E8 Tm.near b (f.terms.map (fun t=>(t,bl))++(f.args.take m).flatMap (Fm.AZ (A3 f.kind bl))))]),(1,.var f.view)]⟩))
    (by omega) (fun m=>rfl) (fun m=>rfl) rfl trivial ?_ ?_ ?_
   .exact (M.W [some 0,some 1] (hf:=(by(repeat'(first|exact trivial|refine And.intro ?_ ?_|refine⟨_,U,_,U,?_⟩|exact Ao.refl _|exact Ao.of_eq (by simp[Aq.Ay,A3,h,PS])));done)) (he:=(by(repeat'(first|exact trivial|refine And.intro ?_ ?_|refine⟨_,U,_,U,_,U,?_⟩|exact Ao.refl _|exact Ao.of_eq (by simp[Aq.Ay,A3,h,PS])));done)))
   .intro m hm _;have hs2:=za Fm.full (Wi hm);have hc:=ih f.args[m] (E8 Tm.near b (f.terms.map (fun t=>(t,bl))++(f.args.take m).flatMap (Fm.AZ (A3 f.kind bl)))) (A3 f.kind bl) (by omega) (by omega) hup0 (by omega);(repeat' first|refine M.gw ?_|refine M.cv (hc) [0] 0 ?_|fail);refine⟨rfl,trivial,?_⟩;exact(M.W [some 0,some 1] (he:=(by(repeat'(first|exact trivial|refine And.intro ?_ ?_|refine⟨_,U,_,U,_,U,?_⟩|exact Ao.refl _|exact Ao.of_eq (by simp[Aq.Ay,VY,JN _ _ _ hm])));done)))
   .intro _;skip
    (exact M.n2 [some 0] (h6:=(by(repeat'(first|exact trivial|refine And.intro ?_ ?_|refine⟨_,U,_,U,_,U,?_⟩|exact Ao.of_eq (by simp[Aq.Ay,htm])));done)) (h8:=(by simp[zk,V.wk,V.Ap,zc,Ty.view,Tm.view,htm])))
theorem Zo6(at_ C:Int)(ha:0<=at_/\at_<549755813888)(hC:C<549755813888):∀(n:Nat) (f:Fm) (c:Int) (bl:Int),f.full<=n->n<549755813888->0<=bl->bl+n<549755813888->0<=c->c+f.size<=C->(∀p∈f.AZ bl,∀q∈p.1.vars 0,0<=q.1/\q.1<1099511627776)->AC E 168 [.agg f.view,.i bl,.fn (.func 229) [] [.ptr 0 0,.ptr 1 0]] ⟨2,[(0,.var [.i c]),(1,.var [.i at_])]⟩ (.AD []) ⟨2,[(0,.var [.i (c+wr at_ (f.AZ bl))]),(1,.var [.i at_])]⟩:=by
 intro n;induction n with
 |zero=>intro f;intros;have:=f.Aa;omega
 |succ n ih=>
 intro f c bl hsz hn hbl hbn hc0 hcC hix;have hsz':=f.Af;have hlen:=zd Fm.full Fm.Aa f.args;have hlen2:=zd Tm.full Tm.Aa f.terms;have htm:=f.Ba bl;have hq:=ue f.kind;refine M.F Tryz.func168 ?_;(repeat' first|refine M.gw ?_|fail);refine AW.range f.terms.length (fun m=>True)
  (fun m=>([(1,.i bl),(2,.fn (.func 229) [] [.ptr 0 0,.ptr 1 0]),(3,.ptr 2 0),(11,.s .tm f.terms),(12,.i f.terms.length),(13,.i m)],⟨3,[(0,.var [.i (c+wr at_ ((f.terms.take m).map (fun t=>(t,bl))))]),(1,.var [.i at_]),(2,.var f.view)]⟩))
  (by omega) (fun m=>rfl) (fun m=>rfl) rfl trivial ?_ ?_ ?_
 .exact (M.W [some 0,some 1,some 2] (he:=(by(repeat'(first|exact trivial|refine And.intro ?_ ?_|refine⟨_,U,_,U,_,U,?_⟩|exact Ao.refl _|exact Ao.of_eq (by simp[Aq.Ay,wr])));done)))
 .intro m hm _;have hs2:=za Tm.full (Wi hm);have hle1:=JZ at_ ((f.terms.take m).map (fun t=>(t,bl)));have hle2:(((f.terms.take m).map (fun t=>(t,bl))).map fun p:Tm×Int=>p.1.size).sum<=f.size:=Yc0 f bl m;have hc:=Zzv at_ (c+wr at_ ((f.terms.take m).map (fun t=>(t,bl)))) f.terms[m] bl (by omega) (by omega) ha (by omega) (fun p hp=>hix _ (by rw[htm];exact XB _ (WA.2 ⟨_,Wi hm,rfl⟩)) p hp);(repeat' first|refine M.gw ?_|refine M.cv (hc) [0,1] 0 ?_|fail);refine⟨rfl,trivial,?_⟩;exact(M.W [some 0,some 1,some 2] (he:=(by(repeat'(first|exact trivial|refine And.intro ?_ ?_|refine⟨_,U,_,U,_,U,?_⟩|exact Ao.refl _|exact Ao.of_eq (by simp[Aq.Ay,yr,W5,Xy,zy _ _ _ hm])));done)))
 .intro _;simp only[Wp];(repeat' first|refine M.gw ?_|refine M.c2 (hq) ?_|refine M.cs ?_ ?_<;>intro h|fail);all_goals
   have hup:A3 f.kind bl<=bl+1:=by simp only[A3];split<;>omega
   have hup0:0<=A3 f.kind bl:=by simp only[A3];split<;>omega
   refine AW.range f.args.length (fun m=>True)
    (fun m=>([(1,.i (A3 f.kind bl)),(2,.fn (.func 229) [] [.ptr 0 0,.ptr 1 0]),(3,.ptr 2 0),(28,.s .fm f.args),(29,.i f.args.length),(30,.i m)],⟨3,[(0,.var [.i (c+wr at_ (f.terms.map (fun t=>(t,bl))++(f.args.take m).flatMap (Fm.AZ (A3 f.kind bl))))]),(1,.var [.i at_]),(2,.var f.view)]⟩))
    (by omega) (fun m=>rfl) (fun m=>rfl) rfl trivial ?_ ?_ ?_
   .exact (M.W [some 0,some 1,some 2] (hf:=(by(repeat'(first|exact trivial|refine And.intro ?_ ?_|refine⟨_,U,_,U,?_⟩|exact Ao.refl _|exact Ao.of_eq (by simp[Aq.Ay,A3,h,wr])));done)) (he:=(by(repeat'(first|exact trivial|refine And.intro ?_ ?_|refine⟨_,U,_,U,_,U,?_⟩|exact Ao.refl _|exact Ao.of_eq (by simp[Aq.Ay,A3,h,wr])));done)))
   .intro m hm _;have hs2:=za Fm.full (Wi hm);have hle1:=JZ at_ (f.terms.map (fun t=>(t,bl))++(f.args.take m).flatMap (Fm.AZ (A3 f.kind bl)));have hle2:((f.terms.map (fun t=>(t,bl))++(f.args.take m).flatMap (Fm.AZ (A3 f.kind bl))).map fun p:Tm×Int=>p.1.size).sum+(f.args[m]).size<=f.size:=Yc9 f bl m hm;have hc:=ih f.args[m] (c+wr at_ (f.terms.map (fun t=>(t,bl))++(f.args.take m).flatMap (Fm.AZ (A3 f.kind bl)))) (A3 f.kind bl) (by omega) (by omega) hup0 (by omega) (by omega) (by omega) (fun p hp=>hix p (by rw[htm];exact W7 _ (WL.2 ⟨_,Wi hm,hp⟩)));(repeat' first|refine M.gw ?_|refine M.cv (hc) [0,1] 0 ?_|fail);refine⟨rfl,trivial,?_⟩;exact(M.W [some 0,some 1,some 2] (he:=(by(repeat'(first|exact trivial|refine And.intro ?_ ?_|refine⟨_,U,_,U,_,U,?_⟩|exact Ao.refl _|exact Ao.of_eq (by simp[Aq.Ay,yr,W5,Xy,JN _ _ _ hm])));done)))
   .intro _;skip
    (exact M.n2 [some 0,some 1] (h6:=(by(repeat'(first|exact trivial|refine And.intro ?_ ?_|refine⟨_,U,_,U,_,U,?_⟩|exact Ao.refl _|exact Ao.of_eq (by simp[Aq.Ay,htm])));done)) (h8:=(by simp[zk,V.wk,V.Ap,zc,Ty.view,Tm.view,htm])))
theorem Yaf(f:Fm)(hf:f.full<274877906944):PC E 128 [.agg f.view] (.bool f.near):=by
 have hc:=Zs5 _ f true 0 (Wj _) (by omega) (by omega) (by omega);refine M.F Tryz.func128 ?_;(repeat' first|refine M.gw ?_|refine M.cv (hc) [1] 0 ?_|fail);simp[zk,V.wk,V.Ap,E8,Fm.near]
theorem Zvl(f:Fm)(at_:Int)(ha:0<=at_/\at_<549755813888)(hf:f.full<274877906944)(hix:∀p∈f.AZ 0,∀q∈p.1.vars 0,0<=q.1/\q.1<1099511627776):PC E 205 [.agg f.view,.i at_] (.i (wr at_ (f.AZ 0))):=by
 have hle:=f.Aj;have hc:=Zo6 at_ (f.size) ha (by omega) _ f 0 0 (Wj _) (by omega) (by omega) (by omega) (by omega) (by omega) hix;refine M.F Tryz.func205 ?_;(repeat' first|refine M.gw ?_|refine M.cv (hc) [2,1] 0 ?_|fail);simp[zk,V.wk,V.Ap]
theorem Yev(at_:Int)(s:Tm)(hat:0<=at_/\at_<274877906944)(hs:s.full<274877906944)(hsi:∀p∈s.vars 0,0<=p.1/\p.1<549755813888)(t:Tm)(bl:Int)(ht:t.full<274877906944)(hb:0<=bl/\bl<274877906944)(hix:∀p∈t.vars 0,0<=p.1/\p.1<549755813888):
 AC E 254 [.agg t.view,.i bl,.ptr 0 0,.ptr 1 0] ⟨2,[(0,.var [.i at_]),(1,.var s.view)]⟩ (.agg (t.re (y9 (at_+bl) s) 0).view) ⟨2,[(0,.var [.i at_]),(1,.var s.view)]⟩:=by
 have hc:=SM t (at_+bl) s (by omega) hs hsi ht hix;refine M.F Tryz.func254 ?_;(repeat' first|refine M.gw ?_|refine M.c2 (hc) ?_|fail)
 (exact M.n2 [some 0,some 1] (h8:=(by simp[zk,V.wk,V.Ap,zc,Ty.view,Tm.view,hc])))
theorem Yc8(at_:Int)(s:Tm)(hat:0<=at_/\at_<274877906944)(hs:s.full<274877906944)(hsi:∀p∈s.vars 0,0<=p.1/\p.1<549755813888):∀(n:Nat) (f:Fm) (bl:Int),f.full<=n->n<274877906944->0<=bl->bl+n<274877906944->(∀p∈f.AZ bl,∀q∈p.1.vars 0,0<=q.1/\q.1<549755813888)->
 AC E 175 [.agg f.view,.i bl,.fn (.func 254) [] [.ptr 0 0,.ptr 1 0]] ⟨2,[(0,.var [.i at_]),(1,.var s.view)]⟩ (.agg (f.re (fun b t=>t.re (y9 (at_+b) s) 0) bl).view) ⟨2,[(0,.var [.i at_]),(1,.var s.view)]⟩:=by
 intro n;induction n with
 |zero=>intro f bl h;intros;have:=f.Aa;omega
 |succ n ih=>
 intro f bl hsz hb hbl hbn hix;have hsz':=f.Af;have hlen:=zd Fm.full Fm.Aa f.args;have hlen2:=zd Tm.full Tm.Aa f.terms;have hty:=uk _ f.ty (Wj _) (by omega);have hq:=ue f.kind;have hre:=Fm.Bt (fun b t=>t.re (y9 (at_+b) s) 0) bl f;have htm:=f.Ba bl;refine M.F Tryz.func175 ?_;(repeat' first|refine M.gw ?_|refine M.c2 (hty) ?_|fail);refine AW.range f.terms.length (fun m=>True)
  (fun m=>([(1,.i bl),(2,.fn (.func 254) [] [.ptr 0 0,.ptr 1 0]),(3,.ptr 2 0),(6,.ptr 3 0),(7,.ptr 4 0),(19,.s .tm f.terms),(20,.i f.terms.length),(21,.i m)],⟨6,[(0,.var [.i at_]),(1,.var s.view),(2,.var f.view),(3,.var [.i 0,.i 0,.slice .nil (.t .ty []),.slice .nil (.t .tm []),.slice .nil (.t .fm [])]),(4,.var [.i f.kind,.i f.ty.kind,.s .ty f.ty.args,.slice (.own 5) (.t .tm ((f.terms.take m).map ((fun b t=>t.re (y9 (at_+b) s) 0) bl))),.slice .nil (.t .fm [])]),(5,.row)]⟩))
  (by omega) (fun m=>rfl) (fun m=>rfl) rfl trivial (M.W [some 0,some 1,some 2,some 3,some 4,none]) ?_ ?_
 .intro m hm _;have hs2:=za Tm.full (Wi hm);have hc:=Yev at_ s hat hs hsi f.terms[m] bl (by omega) (by omega) (fun p hp=>hix _ (by rw[htm];exact XB _ (WA.2 ⟨_,Wi hm,rfl⟩)) p hp);(repeat' first|refine M.gw ?_|refine M.cv (hc) [0,1] 0 ?_|fail);exact⟨rfl,trivial,(M.W [some 0,some 1,some 2,some 3,some 4,some 7] (he:=(by(repeat'(first|exact trivial|exact Or.inr ⟨_,U,rfl⟩|refine And.intro ?_ ?_|refine⟨_,U,_,U,_,U,?_⟩|exact Ao.refl _|exact Ao.of_eq (by simp[Aq.Ay,zy _ _ _ hm])));done)))⟩
 .intro _;simp only[Wp];cases hqk:xg f.kind with
  |true=>
   rw[hqk] at hq;have hu:A3 f.kind bl=bl+1:=by simp[A3,hqk]
   rw[hu] at hre htm;(repeat' first|refine M.gw ?_|refine M.c2 (hq) ?_|fail);refine AW.range f.args.length (fun m=>True)
    (fun m=>([(1,.i (bl+1)),(2,.fn (.func 254) [] [.ptr 0 0,.ptr 1 0]),(3,.ptr 2 0),(6,.ptr 3 0),(7,.ptr 4 0),(41,.s .fm f.args),(42,.i f.args.length),(43,.i m)],⟨7,[(0,.var [.i at_]),(1,.var s.view),(2,.var f.view),(3,.var [.i 0,.i 0,.slice .nil (.t .ty []),.slice .nil (.t .tm []),.slice .nil (.t .fm [])]),(4,.var [.i f.kind,.i f.ty.kind,.s .ty f.ty.args,.slice (.own 5) (.t .tm (f.terms.map ((fun b t=>t.re (y9 (at_+b) s) 0) bl))),.slice (.own 6) (.t .fm ((f.args.take m).map (Fm.re (fun b t=>t.re (y9 (at_+b) s) 0) (bl+1))))]),(5,.row),(6,.row)]⟩))
    (by omega) (fun m=>rfl) (fun m=>rfl) rfl trivial (M.W [some 0,some 1,some 2,some 3,some 4,some 5,none]) ?_ ?_
   .intro m hm _;have hs2:=za Fm.full (Wi hm);have hc:=ih f.args[m] (bl+1) (by omega) (by omega) (by omega) (by omega) (fun p hp=>hix p (by rw[htm];exact W7 _ (WL.2 ⟨_,Wi hm,hp⟩)));(repeat' first|refine M.gw ?_|refine M.cv (hc) [0,1] 0 ?_|fail);exact⟨rfl,trivial,(M.W [some 0,some 1,some 2,some 3,some 4,some 5,some 8] (he:=(by(repeat'(first|exact trivial|exact Or.inr ⟨_,U,rfl⟩|refine And.intro ?_ ?_|refine⟨_,U,_,U,_,U,?_⟩|exact Ao.refl _|exact Ao.of_eq (by simp[Aq.Ay,zy _ _ _ hm])));done)))⟩
   .intro _;simp only[Wp];(repeat' first|refine M.gw ?_|fail)
    (exact M.n2 [some 0,some 1] (h8:=(by simp[zk,V.wk,V.Ap,zc,Ty.view,Tm.view,hre])))
  |false=>
   rw[hqk] at hq;have hu:A3 f.kind bl=bl:=by simp[A3,hqk]
   rw[hu] at hre htm;(repeat' first|refine M.gw ?_|refine M.c2 (hq) ?_|fail);refine AW.range f.args.length (fun m=>True)
    (fun m=>([(1,.i bl),(2,.fn (.func 254) [] [.ptr 0 0,.ptr 1 0]),(3,.ptr 2 0),(6,.ptr 3 0),(7,.ptr 4 0),(41,.s .fm f.args),(42,.i f.args.length),(43,.i m)],⟨7,[(0,.var [.i at_]),(1,.var s.view),(2,.var f.view),(3,.var [.i 0,.i 0,.slice .nil (.t .ty []),.slice .nil (.t .tm []),.slice .nil (.t .fm [])]),(4,.var [.i f.kind,.i f.ty.kind,.s .ty f.ty.args,.slice (.own 5) (.t .tm (f.terms.map ((fun b t=>t.re (y9 (at_+b) s) 0) bl))),.slice (.own 6) (.t .fm ((f.args.take m).map (Fm.re (fun b t=>t.re (y9 (at_+b) s) 0) bl)))]),(5,.row),(6,.row)]⟩))
    (by omega) (fun m=>rfl) (fun m=>rfl) rfl trivial (M.W [some 0,some 1,some 2,some 3,some 4,some 5,none]) ?_ ?_
   .intro m hm _;have hs2:=za Fm.full (Wi hm);have hc:=ih f.args[m] bl (by omega) (by omega) (by omega) (by omega) (fun p hp=>hix p (by rw[htm];exact W7 _ (WL.2 ⟨_,Wi hm,hp⟩)));(repeat' first|refine M.gw ?_|refine M.cv (hc) [0,1] 0 ?_|fail);exact⟨rfl,trivial,(M.W [some 0,some 1,some 2,some 3,some 4,some 5,some 8] (he:=(by(repeat'(first|exact trivial|exact Or.inr ⟨_,U,rfl⟩|refine And.intro ?_ ?_|refine⟨_,U,_,U,_,U,?_⟩|exact Ao.refl _|exact Ao.of_eq (by simp[Aq.Ay,zy _ _ _ hm])));done)))⟩
   .intro _;simp only[Wp];(repeat' first|refine M.gw ?_|fail)
    (exact M.n2 [some 0,some 1] (h8:=(by simp[zk,V.wk,V.Ap,zc,Ty.view,Tm.view,hre])))
theorem Yem(f:Fm)(at_:Int)(s:Tm)(hat:0<=at_/\at_<274877906944)(hs:s.full<274877906944)(hsi:∀p∈s.vars 0,0<=p.1/\p.1<549755813888)(hf:f.full<137438953472)(hix:∀p∈f.AZ 0,∀q∈p.1.vars 0,0<=q.1/\q.1<549755813888):PC E 233 [.agg f.view,.i at_,.agg s.view] (.agg (f.put at_ s).view):=by
 have hc:=Yc8 at_ s hat hs hsi _ f 0 (Wj _) (by omega) (by omega) (by omega) hix;refine M.F Tryz.func233 ?_;(repeat' first|refine M.gw ?_|refine M.cv (hc) [1,2] 0 ?_|fail)
 rfl
theorem Kh(t:Tm):PC E 112 [.agg t.view] (.i (up t.kind 0)):=by
 refine M.F Tryz.func112 ?_;(repeat' first|refine M.gw ?_|refine M.cs ?_ ?_<;>intro h|fail)
 .have e:up t.kind 0=1:=by simp only[beq_iff_eq] at h;rw[h];rfl
  rw[e];rfl
 .have e:up t.kind 0=0:=by simp only[beq_eq_false_iff_ne,ne_eq] at h;exact if_neg h
  rw[e];rfl
theorem LP(k b:Int):b<=up k b/\up k b<=b+1:=by simp only[up];split<;>omega
theorem KE(k b:Int):b+up k 0=up k b:=by simp only[up];split<;>omega
theorem KA(most:Int)(h0:0<=most):∀(n:Nat) (t:Tm),t.full<=n->n<549755813888->t.shape=true->PC E 136 [.agg t.view,.i most] (.bool (xm most t)):=by
 intro n;induction n with
 |zero=>intro t h;have:=t.Aa;omega
 |succ n ih=>
 intro t hsz hn hs;have hsz':=Tm.Af t;have hlen:=zd Tm.full Tm.Aa t.args;have he:=Zv4 h0 hs;refine M.F Tryz.func136 ?_;(repeat' first|refine M.gw ?_|refine M.cs ?_ ?_<;>intro h|fail)
 .have h1:¬t.index<=most:=by simp at h;omega
  rw[he,decide_eq_false h1];rfl
 have h1:t.index<=most:=by simp at h;omega
 rw[decide_eq_true h1,WZ] at he;refine AW.range t.args.length (fun m=>∀j (hj:j<t.args.length),j<m->xm most t.args[j]=true)
  (fun m=>([(1,.i most),(2,.ptr 0 0),(12,.s .tm t.args),(13,.i t.args.length),(14,.i m)],⟨1,[(0,.var t.view)]⟩))
  (by omega) (fun m=>rfl) (fun m=>rfl) rfl (fun j hj h=>by omega) (M.W [some 0]) ?_ ?_
 .intro m hm hP;have hs2:=za Tm.full (Wi hm);have hc:=ih t.args[m] (by omega) (by omega) (zg hs _ (Wi hm));(repeat' first|refine M.gw ?_|refine M.c2 (hc) ?_|refine M.cs ?_ ?_<;>intro h|fail)
  .have hx:xm most t.args[m]=false:=by simpa using h
   rw[he,xn (xm most) hm hx];rfl
  .have hx:xm most t.args[m]=true:=by simpa using h
   exact⟨rfl,ya (p:=fun t=>xm most t=true) hm hP hx,(M.W [some 0])⟩
 .intro hP;rw[he,w4 (xm most) t.args fun j hj=>hP j hj hj];(repeat' first|refine M.gw ?_|fail)
  rfl
theorem Yf5:∀(n:Nat) (t:Tm) (at_:Int),t.full<=n->n<274877906944->-274877906944<=at_->at_+n<549755813888->t.shape=true->PC E 218 [.agg t.view,.i at_] (.bool (decide (yt at_ t≠0))):=by
 intro n;induction n with
 |zero=>intro t at_ h;have:=t.Aa;omega
 |succ n ih=>
 intro t at_ hsz hn h1 h2 hs;have hsz':=Tm.Af t;have hlen:=zd Tm.full Tm.Aa t.args;have he:=MC at_ t;have hup:=LP t.kind at_;have hpl:=KE t.kind at_;have hb:=Kh t;by_cases hv:t.kind=1/\t.index=at_
 .rw[if_pos hv] at he;rw[he];refine M.F Tryz.func218 ?_;(repeat' first|refine M.go ?_|refine M.gs ?_ ?_<;>intro h|refine M.z1 4 ?_|refine M.cs ?_ ?_<;>intro h|refine M.gk ?_|fail);all_goals first
   |rfl
   |(exfalso;simp[hv.1,hv.2] at*;done)
   |(exfalso;simp_all;done)
 rw[if_neg hv] at he;refine M.F Tryz.func218 ?_;(repeat' first|refine M.gw ?_|refine M.gs ?_ ?_<;>intro h|refine M.cs ?_ ?_<;>intro h|fail);all_goals first
  |(exfalso;simp_all;done)
  |skip
 all_goals
  refine AW.range t.args.length (fun m=>∀j (hj:j<t.args.length),j<m->yt (up t.kind at_) t.args[j]=0)
   (fun m=>([(1,.i at_),(2,.ptr 0 0),(17,.s .tm t.args),(18,.i t.args.length),(19,.i m)],⟨1,[(0,.var t.view)]⟩))
   (by omega) (fun m=>rfl) (fun m=>rfl) rfl (fun j hj h=>by omega) (M.W [some 0]) ?_ ?_
  .intro m hm hP;have hs2:=za Tm.full (Wi hm);have hc:=ih t.args[m] (up t.kind at_) (by omega) (by omega) (by omega) (by omega) (zg hs _ (Wi hm));rw[<-hpl] at hc;rw[<-hpl] at hP he;(repeat' first|refine M.gw ?_|refine M.c2 (hb) ?_|refine M.c2 (hc) ?_|refine M.cs ?_ ?_<;>intro h|fail)
   .have hx:yt (at_+up t.kind 0) t.args[m]≠0:=by simpa using h
    rw[he,decide_eq_true (N8 hm hx)];rfl
   .have hx:yt (at_+up t.kind 0) t.args[m]=0:=by simpa using h
    exact⟨rfl,by rw[<-hpl];exact ya (p:=fun t'=>yt (at_+up t.kind 0) t'=0) hm hP hx,(M.W [some 0])⟩
  .intro hP;rw[he,PN fun j hj=>hP j hj hj];(repeat' first|refine M.gw ?_|fail)
   rfl
theorem N4:∀(n:Nat) (t:Tm) (at_:Int),t.full<=n->n<274877906944->-274877906944<=at_->at_+n<549755813888->t.shape=true->PC E 241 [.agg t.view,.i at_] (.i (yt at_ t)):=by
 intro n;induction n with
 |zero=>intro t at_ h;have:=t.Aa;omega
 |succ n ih=>
 intro t at_ hsz hn h1 h2 hs;have hsz':=Tm.Af t;have hlen:=zd Tm.full Tm.Aa t.args;have he:=MC at_ t;have hup:=LP t.kind at_;have hpl:=KE t.kind at_;have hb:=Kh t;by_cases hv:t.kind=1/\t.index=at_
 .rw[if_pos hv] at he;rw[he];have ha:=HS hs hv.1;obtain⟨k,i,th,xs⟩:=t;simp only[Tm.Ae] at ha;subst ha;obtain⟨hv1,hv2⟩:=hv;simp only[Tm.Ai,Tm.AJ] at hv1 hv2;subst hv1;subst hv2;refine M.F Tryz.func241 ?_;(repeat' first|refine M.gw ?_|refine M.cs ?_ ?_<;>intro h|fail);all_goals first
   |(exfalso;simp at h;done)
   |skip
  all_goals
   refine AW.range 0 (fun m=>True) (fun m=>([(1,.i i),(2,.ptr 0 0),(5,.i 1),(20,.s .tm []),(21,.i 0),(22,.i m)],⟨1,[(0,.var (Tm.mk 1 i th []).view)]⟩))
    (by omega) (fun m=>rfl) (fun m=>rfl) rfl trivial (M.W [some 0]) ?_ ?_
   .intro m hm;omega
   .intro _;(repeat' first|refine M.gw ?_|fail)
    rfl
 rw[if_neg hv] at he;refine M.F Tryz.func241 ?_;(repeat' first|refine M.gw ?_|refine M.gs ?_ ?_<;>intro h|refine M.cs ?_ ?_<;>intro h|fail);all_goals first
  |(exfalso;simp_all;done)
  |skip
 all_goals
  refine AW.range t.args.length (fun m=>True)
   (fun m=>([(1,.i at_),(2,.ptr 0 0),(5,.i (((t.args.take m).map (yt (up t.kind at_))).sum:Nat)),(20,.s .tm t.args),(21,.i t.args.length),(22,.i m)],⟨1,[(0,.var t.view)]⟩))
   (by omega) (fun m=>rfl) (fun m=>rfl) rfl trivial (M.W [some 0]) ?_ ?_
  .intro m hm _;have hs1:=yk (yt (up t.kind at_)) t.args m hm;have hs2:=za Tm.full (Wi hm);have hs3:((t.args.take m).map (yt (up t.kind at_))).sum<=(t.args.map Tm.full).sum:=by
    have a1:=zm Tm.full t.args m;have a2:=yw (f:=yt (up t.kind at_)) (g:=Tm.full) (t.args.take m) fun x _=>W8 (Ka x _) x.Aj;omega
   have hs4:=Ka t.args[m] (up t.kind at_);have hs5:=t.args[m].Aj;have hc:=ih t.args[m] (up t.kind at_) (by omega) (by omega) (by omega) (by omega) (zg hs _ (Wi hm));rw[<-hpl] at hc hs1 hs3 hs4;simp only[<-hpl];(repeat' first|refine M.gw ?_|refine M.c2 (hb) ?_|refine M.c2 (hc) ?_|fail);refine⟨rfl,trivial,?_⟩;simp only[hs1];exact(M.W [some 0])
  .intro _;(repeat' first|refine M.gw ?_|fail);rw[he];simp[zk,V.wk,V.Ap,zc]
theorem Yi0(by_:Int)(hby: -549755813888<=by_/\by_<=549755813888):∀(n:Nat) (t:Tm) (fr:Int),t.full<=n->n<274877906944->-274877906944<=fr->fr+n<549755813888->t.shape=true->(∀p∈t.vars 0,0<=p.1/\p.1<9223372036854775808/\p.1+by_<9223372036854775808)->
 PC E 84 [.agg t.view,.i fr,.i by_] (.agg (t.re (zx fr by_) 0).view):=by
 intro n;induction n with
 |zero=>intro t fr h;have:=t.Aa;omega
 |succ n ih=>
 intro t fr hsz hn h1 h2 hs hix;have hsz':=Tm.Af t;have hlen:=zd Tm.full Tm.Aa t.args;have hup:=LP t.kind fr;have hpl:=KE t.kind fr;have hb:=Kh t;by_cases hv:t.kind=1
 .have ht:=JB hs hv;have hi:=hix (t.index,0) (by rw[vy hs hv];simp);rw[ht];generalize t.index=i at hi;simp only at hi;rw[Uc,Kg];have hvi:(vT i).index=i:=rfl;refine M.F Tryz.func84 ?_;(repeat' first|refine M.gw ?_|refine M.cs ?_ ?_<;>intro h|fail);all_goals first
   |(exfalso;simp at h;done)
   |skip
  .have h3:i-0>=fr:=by simp at h;omega
   rw[if_pos h3];refine AW.range 0 (fun m=>True) (fun m=>([(1,.i fr),(2,.i by_),(3,.ptr 0 0),(6,.ptr 1 0),(7,.ptr 2 0),(32,.s .tm []),(33,.i 0),(34,.i m)],⟨3,[(0,.var (vT i).view),(1,.var [.i 0,.i 0,.i 0,.slice .nil (.t .ty []),.slice .nil (.t .tm [])]),(2,.var [.i 1,.i (i+by_),.i 0,.s .ty [],.slice .nil (.t .tm [])])]⟩))
    (by omega) (fun m=>rfl) (fun m=>rfl) rfl trivial (M.W [some 0,some 1,some 2]) ?_ ?_
   .intro m hm;omega
   .intro _;(repeat' first|refine M.gw ?_|fail)
    rfl
  .have h3:¬i-0>=fr:=by simp at h;omega
   rw[if_neg h3];refine AW.range 0 (fun m=>True) (fun m=>([(1,.i fr),(2,.i by_),(3,.ptr 0 0),(6,.ptr 1 0),(7,.ptr 2 0),(32,.s .tm []),(33,.i 0),(34,.i m)],⟨3,[(0,.var (vT i).view),(1,.var [.i 0,.i 0,.i 0,.slice .nil (.t .ty []),.slice .nil (.t .tm [])]),(2,.var [.i 1,.i i,.i 0,.s .ty [],.slice .nil (.t .tm [])])]⟩))
    (by omega) (fun m=>rfl) (fun m=>rfl) rfl trivial (M.W [some 0,some 1,some 2]) ?_ ?_
   .intro m hm;omega
   .intro _;(repeat' first|refine M.gw ?_|fail)
    rfl
 have he:=Zxv (fr:=fr) (by_:=by_) hv;refine M.F Tryz.func84 ?_;(repeat' first|refine M.gw ?_|refine M.gs ?_ ?_<;>intro h|refine M.cs ?_ ?_<;>intro h|fail);all_goals first
  |(exfalso;simp_all;done)
  |skip
 all_goals
  refine AW.range t.args.length (fun m=>True) (fun m=>([(1,.i fr),(2,.i by_),(3,.ptr 0 0),(6,.ptr 1 0),(7,.ptr 2 0),(32,.s .tm t.args),(33,.i t.args.length),(34,.i m)],⟨4,[(0,.var t.view),(1,.var [.i 0,.i 0,.i 0,.slice .nil (.t .ty []),.slice .nil (.t .tm [])]),(2,.var [.i t.kind,.i t.index,.i t.ty.kind,.s .ty t.ty.args,.slice (.own 3) (.t .tm ((t.args.take m).map fun x=>x.re (zx (up t.kind fr) by_) 0))]),(3,.row)]⟩))
   (by omega) (fun m=>rfl) (fun m=>rfl) rfl trivial (M.W [some 0,some 1,some 2,none]) ?_ ?_
  .intro m hm _;have hs2:=za Tm.full (Wi hm);have hc:=ih t.args[m] (up t.kind fr) (by omega) (by omega) (by omega) (by omega) (zg hs _ (Wi hm)) (fun p hp=>by
    obtain⟨q,hq,hqe⟩:=MQ (b':=up t.kind 0) p hp;have:=hix q (LG hv (Wi hm) hq);rw[<-hqe];exact this)
   rw[<-hpl] at hc;simp only[<-hpl];(repeat' first|refine M.gw ?_|refine M.c2 (hb) ?_|refine M.c2 (hc) ?_|fail);exact⟨rfl,trivial,(M.W [some 0,some 1,some 2,some 5] (he:=(by(repeat'(first|exact trivial|exact Or.inr ⟨_,U,rfl⟩|refine And.intro ?_ ?_|refine⟨_,U,_,U,_,U,?_⟩|exact Ao.refl _|exact Ao.of_eq (by simp[Aq.Ay,zy _ _ _ hm])));done)))⟩
  .intro _;simp only[Wp];(repeat' first|refine M.gw ?_|fail);rw[he];simp[zk,V.wk,V.Ap,zc,Ty.view,Tm.view]
theorem J2(by_:Int)(hby: -549755813888<=by_/\by_<=549755813888):∀(n:Nat) (t:Tm) (fr:Int),t.full<=n->n<274877906944->-274877906944<=fr->fr+n<549755813888->t.shape=true->(∀p∈t.vars 0,0<=p.1/\p.1<549755813888)->
 PC E 84 [.agg t.view,.i fr,.i by_] (.agg (t.re (zx fr by_) 0).view):=
 fun n t fr h1 h2 h3 h4 h5 h6=>Yi0 by_ hby n t fr h1 h2 h3 h4 h5 fun p hp=>by have:=h6 p hp;omega
end Go.Ab
