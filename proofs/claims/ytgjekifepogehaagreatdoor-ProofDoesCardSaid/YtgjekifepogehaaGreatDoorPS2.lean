/- A part of this seat's proofs. No conditions. -/
import Derived.Test.YtgjekifepogehaaGreatDoorPS1
namespace Go.Ab
open Go Go.Proofs
set_option maxRecDepth 100000
set_option maxHeartbeats 4000000
set_option linter.all false
theorem QX(n k:Int)(hk:0<k/\k<1099511627776):PC E 28 [.i n,.i k] (.i (Fx n k)):=by
 have hb1:=Int.tmod_lt_of_pos n hk.1;have hb2:=Vb n k hk.1;refine M.F Tryz.func28 ?_;refine M.w0 ?_
 rfl
theorem vd(d:Dk)(n:Int)(hd:d.ok)(hn:n<1099511627776):AC E 42 [.ptr 0 0,.i n] ⟨1,[(0,.var d.cells)]⟩ (.i (d.next n).1) ⟨1,[(0,.var (d.next n).2.cells)]⟩:=by
 obtain⟨hd1,hd2⟩:=hd;have hm:¬n<1->∀x,PC E 28 [.i x,.i n] (.i (Fx x n)):=fun h x=>QX x n ⟨dY,hn⟩;refine M.F Tryz.func42 ?_;(repeat' first|refine M.w0 ?_|refine M.c2 (hm eS _) ?_|refine M.gs ?_ ?_<;>intro h|refine M.cs ?_ ?_<;>intro h|fail)
 .have h':n<1:=ek
  have e:d.next n=(0,d):=dif_pos (.inl h')
  (exact M.n2 Ay (h6:=(by(repeat'(first|exact trivial|refine And.intro ?_ ?_|refine⟨_,U,_,U,_,U,?_⟩|exact Ai.of_eq iZ));done)) (h8:=iK))
 .have h':d.l.length<=d.at_:=eU
  have e:d.next n=(0,d):=dif_pos (.inr h')
  (exact M.n2 Ay (h6:=(by(repeat'(first|exact trivial|refine And.intro ?_ ?_|refine⟨_,U,_,U,_,U,?_⟩|exact Ai.of_eq iZ));done)) (h8:=iK))
 .rename_i h0;have h':¬(n<1\/d.l.length<=d.at_):=by simp at h h0;omega
  have e:d.next n=(Fx (d.l[d.at_]' dY) n,⟨d.l,d.at_+1⟩):=dif_neg h'
  (exact M.n2 Ay (h6:=(by(repeat'(first|exact trivial|refine And.intro ?_ ?_|refine⟨_,U,_,U,_,U,?_⟩|exact Ai.of_eq iZ));done)) (h8:=iK))
theorem V6(l:List Int):PC E 5 [.s .int l] (.bool (decide (l.length<=500))):=by
 refine M.F Tryz.func5 ?_;refine M.w0 ?_;simp[zh,V.wk,V.An];omega
theorem Ykv(l:List Int):AC E 8 [.s .int l] ⟨0,[]⟩ (.ptr 0 0) ⟨1,[(0,.var (Dk.mk l 0).cells)]⟩:=by
 refine M.F Tryz.func8 ?_;refine M.w0 ?_
 (exact M.n2 Ay (h8:=(by simp[zh,V.wk,V.An,za,Ty.view,Tm.view,Dk.cells])))
end Go.Ab
namespace Go.Ab
open Go Go.Proofs
set_option maxRecDepth 100000
set_option linter.all false
theorem LO:∀(n:Nat) (k:Int) (d:Dk),k<=n->n<=20->-100<=k->d.ok->AC E 13 [.ptr 0 0,.i k] ⟨1,[(0,.var d.cells)]⟩ (.agg (d.type k.toNat).1.view) ⟨1,[(0,.var (d.type k.toNat).2.cells)]⟩:=by
 intro n;induction n with
 |zero=>
  intro k d hk hn hk' hd;have h1:=vd d 7 hd dY;have e:=Dk.Fj k d;refine AC.mk Tryz.func13 rfl rfl rfl rfl rfl (ZP rfl) ?_;repeat'(first|((with_reducible refine D.nil ?_);refine AX.BO ?_)|((with_reducible refine D.move ?_);refine L.mv U U U ?_)|((with_reducible refine D.assign ?_);refine L.EW U U U ?_)|((with_reducible refine D.bin ?_);first|refine L.sb U U U U dY ?_|refine L.bn U U U U U ?_)|((with_reducible refine D.call ?_);first|(apply L.Mt (h1) [0] 0 rfl;rfl;rfl;rfl;rfl;rfl;rfl;(focus((repeat'(first|exact trivial|refine And.intro ?_ ?_|refine⟨_,U,_,U,_,U,?_⟩|exact Ai.refl _));done));rfl;rfl;rfl;rfl)|refine L.c2 (uq) U U U U ?_|refine L.c2 (Ga) U U U U ?_|refine L.c2 (QZ) U U U U ?_)|((with_reducible refine D.alloc ?_);refine L.al U U U ?_)|((with_reducible refine D.store ?_);refine L.st U U U U U U U U U ?_)|((with_reducible refine D.aw ?_);first|((with_reducible refine D.blk ?_);refine AW.block ?_)|refine K.sq (AW.AP ?_)|refine K.sq (K.sq ?_)|refine AW.AP ?_|refine AW.Ct U ?_|refine AW.E6 U (fun h=> ?_) (fun h=> ?_)|refine AW.skip ?_|refine AW.ret ?_)|with_reducible refine K.tN ?_|with_reducible refine K.bN ?_|with_reducible refine K.tR ?_|with_reducible refine K.bR ?_)
  all_goals first
   |(exfalso;simp at*;omega)
   |(simp only[beq_iff_eq,beq_eq_false_iff_ne,ne_eq,decide_eq_true_eq,decide_eq_false_iff_not,gt_iff_lt] at*
     simp[*] at e
     (exact K.n2 [some 0] U U U U U (by(repeat'(first|exact trivial|refine And.intro ?_ ?_|refine⟨_,U,_,U,_,U,?_⟩|exact Ai.of_eq iE));done) U gU))
 |succ n ih=>
  intro k d hk hn hk' hd;have h1:=vd d 7 hd dY;have e:=Dk.Fj k d;have i1:k>0->_:=fun h=>ih (k-1) (d.next 7).2 dY dY dY (Dk.AG hd 7);have i2:k>0->_:=fun h=>ih (k-1) ((d.next 7).2.type (k-1).toNat).2 dY dY dY (Dk.BC _ _ (Dk.AG hd 7));have i3:=V1 ((d.next 7).2.type (k-1).toNat).1 ((((d.next 7).2.type (k-1).toNat).2).type (k-1).toNat).1 (Dk.C2 _ _ dY) (Dk.C2 _ _ dY);have i4:=KY ((d.next 7).2.type (k-1).toNat).1 ((((d.next 7).2.type (k-1).toNat).2).type (k-1).toNat).1 (Dk.C2 _ _ dY) (Dk.C2 _ _ dY);refine AC.mk Tryz.func13 rfl rfl rfl rfl rfl (ZP rfl) ?_;repeat'(first|((with_reducible refine D.nil ?_);refine AX.BO ?_)|((with_reducible refine D.move ?_);refine L.mv U U U ?_)|((with_reducible refine D.assign ?_);refine L.EW U U U ?_)|((with_reducible refine D.bin ?_);first|refine L.sb U U U U dY ?_|refine L.bn U U U U U ?_)|((with_reducible refine D.call ?_);first|(apply L.Mt (h1) [0] 0 rfl;rfl;rfl;rfl;rfl;rfl;rfl;(focus((repeat'(first|exact trivial|refine And.intro ?_ ?_|refine⟨_,U,_,U,_,U,?_⟩|exact Ai.refl _));done));rfl;rfl;rfl;rfl)|refine L.c2 (uq) U U U U ?_|refine L.c2 (Ga) U U U U ?_|refine L.c2 (QZ) U U U U ?_|(apply L.Mt (i1 eS) [0] 0 rfl;rfl;rfl;rfl;rfl;rfl;rfl;(focus((repeat'(first|exact trivial|refine And.intro ?_ ?_|refine⟨_,U,_,U,_,U,?_⟩|exact Ai.refl _));done));rfl;rfl;rfl;rfl)|(apply L.Mt (i2 eS) [0] 0 rfl;rfl;rfl;rfl;rfl;rfl;rfl;(focus((repeat'(first|exact trivial|refine And.intro ?_ ?_|refine⟨_,U,_,U,_,U,?_⟩|exact Ai.refl _));done));rfl;rfl;rfl;rfl)|refine L.c2 (i3) U U U U ?_|refine L.c2 (i4) U U U U ?_)|((with_reducible refine D.alloc ?_);refine L.al U U U ?_)|((with_reducible refine D.store ?_);refine L.st U U U U U U U U U ?_)|((with_reducible refine D.aw ?_);first|((with_reducible refine D.blk ?_);refine AW.block ?_)|refine K.sq (AW.AP ?_)|refine K.sq (K.sq ?_)|refine AW.AP ?_|refine AW.Ct U ?_|refine AW.E6 U (fun h=> ?_) (fun h=> ?_)|refine AW.skip ?_|refine AW.ret ?_)|with_reducible refine K.tN ?_|with_reducible refine K.bN ?_|with_reducible refine K.tR ?_|with_reducible refine K.bR ?_)
  all_goals
   simp only[beq_iff_eq,beq_eq_false_iff_ne,ne_eq,decide_eq_true_eq,decide_eq_false_iff_not,gt_iff_lt] at*;simp[*] at e
   (exact K.n2 [some 0] U U U U U (by(repeat'(first|exact trivial|refine And.intro ?_ ?_|refine⟨_,U,_,U,_,U,?_⟩|exact Ai.of_eq iE));done) U gU)
theorem Zyt(n:Nat)(hn:n<100000):PC E 204 [.i n] (.agg (Fl n).view):=by
 have h1:=Dh 4 [] dZ;refine M.F Tryz.func204 ?_;refine M.w1 @h1 ?_;refine K.sq (AW.down n (fun m=>m<=n)
  (fun m=>([(0,.i m),(2,.ptr 0 0),(3,.ptr 1 0)],⟨2,[(0,.var [.i 0,.i 0,.i 0,.slice .nil (.t .ty []),.slice .nil (.t .tm [])]),(1,.var (Fl (n-m)).view)]⟩))
  dY (fun m=>rfl) rfl (ZB _) ?_ ?_ ?_)
 .simp only[cw];exact(M.W AQ)
 .intro m hm hP;have e:Fl (n-m)= .mk 5 0 (.mk 0 []) [Fl (n-(m+1))]:=by rw[show n-m=(n-(m+1))+1 by omega];rfl
  refine M.w0 ?_;refine⟨rfl,dY,?_⟩;simp only[e];exact(M.W AQ)
 .intro _;refine M.w0 ?_;simp[zh,V.wk,V.An,za,Ty.view,Tm.view]
theorem Yb7(n:Int):PC E 141 [.i n] (.AM [.agg (if 0<=n/\n<4096 then Fl n.toNat else Da).view,.i (if n<0 then 1 else if n>=4096 then 4 else 0)]):=by
 have h1:¬n<0->¬n>=4096->PC E 204 [.i n] _:=fun h h'=>by
  have:=Zyt n.toNat dY;rw[show((n.toNat:Nat):Int)=n by omega] at this;exact this
 refine M.F Tryz.func141 ?_;(repeat' first|refine M.w0 ?_|refine M.c2 (h1 eS eS) ?_|refine M.cs ?_ ?_<;>intro h|fail)
 .have h':n<0:=ek
  have h2:¬(0<=n/\n<4096):=dY
  simp[zh,V.wk,V.An,za,Ty.view,Tm.view,Da,h',h2]
 .rename_i h0;have h':¬n<0:=fV
  have h'':n>=4096:=ek
  have h2:¬(0<=n/\n<4096):=dY
  simp[zh,V.wk,V.An,za,Ty.view,Tm.view,Da,h',h'',h2]
 .rename_i h0;have h':¬n<0:=fV
  have h'':¬n>=4096:=ek
  have h2:0<=n/\n<4096:=dY
  simp[zh,V.wk,V.An,za,Ty.view,Tm.view,Da,h',h'',h2]
theorem JI(g l:List Ty)(h:g.length+l.length<1000000):PC E 68 [.s .ty g,.s .ty l] (.s .ty (g++l)):=by
 refine M.F Tryz.func68 ?_;refine M.w0 ?_;simp[zh,V.wk,V.An,za,Ty.view,Tm.view]
theorem ID(t:Tm)(ht:t.full<549755813888):PC E 142 [.agg t.view] (.agg (Tm.mk 2 0 (.mk 1 []) [t]).view):=by
 have h1:=GX 2 (.mk 1 []) [t] eB (by simp[Ty.size_eq]);refine M.F Tryz.func142 ?_;refine M.w2 @uq @h1 ?_;simp[zh,V.wk,V.An,za,Ty.view,Tm.view]
theorem Pb(n:Int):PC E 69 [.i n] (.agg (HG n).view):=by
 have h1:=Yb7 n;refine M.F Tryz.func69 ?_;refine M.w1 @h1 ?_;simp[zh,V.wk,V.An,za,Ty.view,Tm.view,HG]
theorem Zzi(d:Dk)(hd:d.ok):AC E 44 [.ptr 0 0] ⟨1,[(0,.var d.cells)]⟩ (.s .ty d.ctx.1) ⟨1,[(0,.var d.ctx.2.cells)]⟩:=by
 have h1:=vd d 4 hd dY;have hb:=Dk.Bh d 4 dY;obtain⟨c,hc⟩:∃c:Nat,(d.next 4).1=c:=⟨(d.next 4).1.toNat,dY⟩;rw[hc] at h1 hb;have hx:d.ctx=(d.next 4).2.types c:=by simp only[Dk.ctx,hc];rfl
 refine M.F Tryz.func44 ?_;refine M.w1 @h1 ?_;refine AW.down c (fun m=>m<=c)
  (fun m=>([(0,.ptr 0 0),(3,.slice (.own 1) (.t .ty ((d.next 4).2.types (c-m)).1)),(4,.i m)],⟨2,[(0,.var ((d.next 4).2.types (c-m)).2.cells),(1,.row)]⟩))
  dY (fun m=>rfl) rfl (ZB _) ?_ ?_ ?_
 .simp only[cw];exact(M.W PM)
 .intro m hm hP;have e:=Dk.EA (c-(m+1)) (d.next 4).2;rw[show c-(m+1)+1=c-m by omega] at e;have h2:=LO 1 1 ((d.next 4).2.types (c-(m+1))).2 dY dY dY (Dk.Em _ _ (Dk.AG hd 4));have hl:=Dk.DW (c-(m+1)) (d.next 4).2;refine M.w1 @h2 ?_;refine⟨rfl,dY,?_⟩;simp only[e];exact(M.W [some 0,some 2])
 .intro _;refine M.w0 ?_
  (exact M.n2 Ay (h6:=(by(repeat'(first|exact trivial|refine And.intro ?_ ?_|refine⟨_,U,_,U,_,U,?_⟩|exact Ai.of_eq (by simp[Aj.Aw,hx])));done)) (h8:=(by simp[zh,V.wk,V.An,za,Ty.view,Tm.view,hx])))
theorem QL(b f n:Tm)(h:b.full+f.full+n.full<549755813888):PC E 143 [.agg b.view,.agg f.view,.agg n.view] (.agg (Tm.mk 6 0 (.mk 1 []) [b,f,n]).view):=by
 have h1:=GX 6 (.mk 1 []) [b,f,n] eB (by simp[Ty.size_eq]);refine M.F Tryz.func143 ?_;refine M.w2 @uq @h1 ?_;simp[zh,V.wk,V.An,za,Ty.view,Tm.view]
theorem X5:PC E 72 [] (.agg CV.view):=by
 have h0:=E7 0;have h1:=E7 1;have h2:=Dh 5 [vT 0] (by simp[Tm.full,Tm.Av,Ty.size,Ty.sizes,vT]);have h3:=ID (sT (vT 0)) jM;have h4:=ID (Dy (sT (vT 0))) jC;have h5:=QL (vT 1) Jo (vT 0) (by simp[Tm.full,Tm.Av,Ty.size,Ty.sizes,vT,sT,Dy,Jo]);have h6:=ID (FW (vT 1) Jo (vT 0)) jt;have h7:=ID (Dy (FW (vT 1) Jo (vT 0))) jt;refine M.F Tryz.func72 ?_;(repeat' first|refine M.w6 @h0 @h1 @h2 @h3 @h4 @h5 ?_|refine M.c2 (h6) ?_|refine M.c2 (h7) ?_|fail)
 rfl
theorem Yia:PC E 144 [] (.agg C6.view):=by
 have h0:=E7 0;have h1:=E7 1;have h2:=Dh 4 [] dZ;have h3:=ID (vT 1) jM;have h4:=ID (Dy (vT 1)) jC;have h5:=QL zT (Dy (Dy (vT 1))) (vT 0) (by simp[Tm.full,Tm.Av,Ty.size,Ty.sizes,vT,zT,Dy,Jo]);have h6:=ID (FW zT (Dy (Dy (vT 1))) (vT 0)) (by simp[Tm.full,Tm.Av,Ty.size,Ty.sizes,vT,zT,Dy,Jo,FW]);refine M.F Tryz.func144 ?_;(repeat' first|refine M.w6 @h0 @h1 @h2 @h3 @h4 @h5 ?_|refine M.c2 (h6) ?_|fail)
 rfl
theorem Yli:PC E 73 [] (.agg ET.view):=by
 have h0:=E7 0;have h1:=E7 1;have hp:=Yia;have h2:=Dh 3 [C6,vT 0] (by simp[Tm.full,Tm.Av,Ty.size,Ty.sizes,vT,zT,Dy,C6,FW]);have h3:=ID (Bd C6 (vT 0)) js;have h4:=ID (Dy (Bd C6 (vT 0))) js;have h5:=QL (vT 1) Lj (vT 0) iJ;have h6:=ID (FW (vT 1) Lj (vT 0)) iJ;have h7:=ID (Dy (FW (vT 1) Lj (vT 0))) iJ;refine M.F Tryz.func73 ?_;(repeat' first|refine M.w6 @h0 @h1 @hp @h2 @h3 @h4 ?_|refine M.c2 (h5) ?_|refine M.c2 (h6) ?_|refine M.c2 (h7) ?_|fail)
 rfl
theorem Q5:∀(f:Tm) (l:List Tm),f.full+2*l.length+(l.map Tm.full).sum<274877906944->PC E 71 [.agg f.view,.s .tm l] (.agg (l.foldl Bd f).view):=by
 intro f l hl;have hlen:=zd Tm.full Tm.Ac l;have hfull:∀m,m<=l.length->((l.take m).foldl Bd f).full<=f.full+2*m+((l.take m).map Tm.full).sum:=by
  intro m;induction m with
  |zero=>intro _;simp
  |succ m ih=>
   intro hm;have h1:=ih dY;have h2:=yq Tm.full l m dY;rw[<-ZM (by omega:m<l.length),dn,ZM (by omega:m<l.length),h2];simp only[dO,List.foldl_nil,Bd,Tm.full,Tm.Av,Ty.size,Ty.sizes];omega
 refine M.F Tryz.func71 ?_;refine M.w0 ?_;refine M.rt l.length
  (fun m=>([(2,.ptr 0 0),(4,.ptr 1 0),(7,.s .tm l),(8,.i l.length),(9,.i m)],⟨2,[(0,.var ((l.take m).foldl Bd f).view),(1,.var [.i 0,.i 0,.i 0,.slice .nil (.t .ty []),.slice .nil (.t .tm [])])]⟩))
  (M.W AQ) ?_ ?_
 .intro m hm hP;have e:(l.take (m+1)).foldl Bd f=Bd ((l.take m).foldl Bd f) l[m]:=by rw[<-ZM hm,dn];rfl
  have h2:=zl Tm.full l (m+1);have h3:=yq Tm.full l m hm;have h4:=hfull m dY;have h1:=Dh 3 [(l.take m).foldl Bd f,l[m]] (by simp only[ZJ,Z2,ZW,aN];omega);refine M.w1 @h1 ?_;refine⟨rfl,trivial,?_⟩;exact(M.W AQ (he:=(by(repeat'(first|exact trivial|refine And.intro ?_ ?_|refine⟨_,U,_,U,_,U,?_⟩|exact Ai.refl _|exact Ai.of_eq jf));done)))
 .intro _;refine M.w0 ?_;simp[zh,V.wk,V.An,za,Ty.view,Tm.view]
theorem Yhx(g:List Ty)(t:Ty)(hg:(g.map Ty.size).sum<1099511627776):PC E 65 [.s .ty g,.agg t.view] (.s .int (wu g t)):=by
 have hlen:=zd Ty.size Ty.size_pos g;refine M.F Tryz.func65 ?_;refine M.w0 ?_;refine M.rt g.length
  (fun m=>([(0,.s .ty g),(3,.ptr 0 0),(5,.slice (.own 1) (.t .int (((List.range m).filter fun i=>decide (g[g.length-1-i]? =some t)).map Int.ofNat))),(8,.i g.length),(9,.i m)],⟨2,[(0,.var t.view),(1,.row)]⟩))
  (M.W PM) ?_ ?_
 .intro m hm hP;have hm2:g.length-1-m<g.length:=dY
  have hs2:=zc Ty.size (ZA hm2);have hsame:=xp _ g[g.length-1-m] t (ZB _) dY;have hg:g[g.length-1-m]? =some g[g.length-1-m]:=ZD hm2;have hfl:(List.filter (fun i=>decide (g[g.length-1-i]? =some t)) (List.range m)).length<=m:=by have:=cl (fun i=>decide (g[g.length-1-i]? =some t)) (List.range m);simpa using this
  refine M.w0 ?_;refine L.F3 (g.length-1-m) rfl rfl rfl rfl dY rfl rfl dY ?_;(repeat' first|refine M.w1 @hsame ?_|refine M.cs ?_ ?_<;>intro h|fail)
  .exact ⟨rfl,trivial,(M.W [some 0,some 2] (hf:=(by(repeat'(first|exact trivial|refine And.intro ?_ ?_|refine⟨_,U,_,U,?_⟩|exact Ai.refl _|exact Ai.of_eq (by simp[Aj.Aw,List.range_succ,hg,of_decide_eq_true h])));done)))⟩
  .exact ⟨rfl,trivial,(M.W AQ (hf:=(by(repeat'(first|exact trivial|refine And.intro ?_ ?_|refine⟨_,U,_,U,?_⟩|exact Ai.refl _|exact Ai.of_eq (by simp[Aj.Aw,List.range_succ,hg,of_decide_eq_false h])));done)))⟩
 .intro _;refine M.w0 ?_;simp[zh,V.wk,V.An]
  rfl
theorem Zx6:∀(b:Nat) (t:Ty),t.size<=b->b<1099511627776->PC E 210 [.agg t.view] (.bool t.shape):=by
 intro b;induction b with
 |zero=>intro t h;have:=t.size_pos;omega
 |succ b ih=>
 intro t hsz hb;have hsz':=Ty.size_eq t;have hlen:=zd Ty.size Ty.size_pos t.args;have hsh:=Ty.Ak t;refine M.F Tryz.func210 ?_;refine M.w0 ?_;refine AW.GA (ι:={n:Nat // Ex t.kind=some n}) (fun n=>([(1,.ptr 0 0),(3,.i n.1)],⟨1,[(0,.var t.view)]⟩)) ?_ ?_
 .refine AW.block ?_;(repeat' first|refine M.w0 ?_|refine M.cs ?_ ?_<;>intro h|fail)
  .exact lX
  .exact lX
  .exact lX
  .exact mX
  .exact mX
  .have:t.shape=false:=by simp at*;simp[hsh,Ex, *]
   simp[this,zh,za,V.wk,V.An]
 rintro⟨n,hn⟩;(repeat' first|refine M.w0 ?_|refine M.cs ?_ ?_<;>intro h|fail)
 .have h1:¬t.args.length=n:=eU
  have:t.shape=false:=by simp[hsh,hn,h1]
  simp[this,zh,za,V.wk,V.An]
 have hn':t.args.length=n:=eU
 refine M.rp t.args.length (fun m=>∀j (hj:j<t.args.length),j<m->(t.args[j]).shape=true)
  (fun m=>([(1,.ptr 0 0),(21,.s .ty t.args),(22,.i t.args.length),(23,.i m)],⟨1,[(0,.var t.view)]⟩))
  eR (M.W Ay) ?_ ?_
 .intro m hm hP;have hs2:=zc Ty.size (ZA hm);(repeat' first|refine M.w0 ?_|refine M.c2 (ih _ ?_ ?_) ?_|refine M.cs ?_ ?_<;>intro h|exact M.le|exact M.lt|fail)
  .have h1:(t.args[m]).shape=false:=ek
   have:t.shape=false:=by rw[hsh,wb Ty.shape hm h1,cY]
   simp[this,zh,za,V.wk,V.An]
  .have hh:(t.args[m]).shape=true:=ek
   exact⟨rfl,ya (p:=fun t=>Ty.shape t=true) hm hP hh,(M.W Ay)⟩
 .intro hP;have:t.shape=true:=jo
  refine M.w0 ?_;simp[this,zh,za,V.wk,V.An]
theorem Zz3:∀(b:Nat) (t:Ty),t.size<=b->b<1099511627776->PC E 211 [.agg t.view] (.i t.size):=by
 intro b;induction b with
 |zero=>intro t h;have:=t.size_pos;omega
 |succ b ih=>
 intro t hsz hb;have hsz':=Ty.size_eq t;have hlen:=zd Ty.size Ty.size_pos t.args;refine M.F Tryz.func211 ?_;refine M.w0 ?_;refine M.rt t.args.length
  (fun m=>([(3,.i (1+((t.args.take m).map Ty.size).sum)),(7,.s .ty t.args),(8,.i t.args.length),(9,.i m)],⟨1,[(0,.var t.view)]⟩))
  (M.W Ay) ?_ ?_
 .intro m hm hP;have hs1:=yq Ty.size t.args m hm;have hs2:=zc Ty.size (ZA hm);have hs3:=zl Ty.size t.args (m+1);have e:(1+((((t.args.take (m+1)).map Ty.size).sum:Nat):Int))=1+(((t.args.take m).map Ty.size).sum:Nat)+t.args[m].size:=by rw[hs1];omega
  (repeat' first|refine M.w0 ?_|refine M.c2 (ih _ ?_ ?_) ?_|exact M.le|exact M.lt|fail);refine⟨rfl,trivial,?_⟩;simp only[e];exact(M.W Ay)
 .intro hP;refine M.w0 ?_;simp[zh,za,hsz',V.wk,V.An]
theorem L9(t:Ty)(ht:t.size<1099511627776):PC E 156 [.agg t.view] (.i t.err):=by
 have h1:=Zx6 _ t (ZB _) ht;have h2:=Zz3 _ t (ZB _) ht;refine M.F Tryz.func156 ?_;(repeat' first|refine M.w2 @h1 @h2 ?_|refine M.cs ?_ ?_<;>intro h|fail);all_goals simp_all[zh,V.wk,V.An,za,Ty.err]
 all_goals(first|omega|(split<;>first|omega|simp_all))
theorem Rg(t:Ty):PC E 157 [.agg t.view] (.bool t.B3):=by
 refine M.F Tryz.func157 ?_;(repeat' first|refine M.w0 ?_|refine M.gs ?_ ?_<;>intro h|fail);all_goals simp_all[zh,V.wk,V.An,za,Ty.B3]
 rw[aS];simp
theorem Wo(t:Ty)(ht:t.size<1099511627776):PC E 289 [.agg t.view] (.AM [.agg (if t.err=0 then t else BV).view,.i (if t.err=0 then 0 else 4)]):=by
 have h1:=L9 t ht;refine M.F Tryz.func289 ?_;(repeat' first|refine M.w1 @h1 ?_|refine M.cs ?_ ?_<;>intro h|fail);all_goals simp_all[zh,V.wk,V.An,za,BV,Ty.view]
theorem Rt(l:List Ty)(hl:(l.map Ty.size).sum<1099511627776):PC E 195 [.s .ty l] (.i (xz l)):=by
 have hlen:=zd Ty.size Ty.size_pos l;refine M.F Tryz.func195 ?_;(repeat' first|refine M.w0 ?_|refine M.cs ?_ ?_<;>intro h|fail)
 .have h':l.length>16:=eU
  simp[zh,V.wk,V.An,za,xz,h']
 have h':¬l.length>16:=eU
 refine M.rp l.length (fun m=>∀j (hj:j<l.length),j<m->l[j].err=0)
  (fun m=>([(9,.s .ty l),(10,.i l.length),(11,.i m)],⟨0,[]⟩))
  eR (M.W []) ?_ ?_
 .intro m hm hP;have hs2:=zc Ty.size (ZA hm);(repeat' first|refine M.w0 ?_|refine M.c2 (L9 _ ?_) ?_|refine M.cs ?_ ?_<;>intro h|exact M.lt|fail)
  .have h1:¬l[m].err=0:=ek
   simp[zh,V.wk,V.An,za,xz,h',Zpc l m hm hP h1]
  .exact ⟨rfl,ya (p:=fun t=>Ty.err t=0) hm hP ek,(M.W [])⟩
 .intro hP;refine M.w0 ?_;simp[zh,V.wk,V.An,za,xz,h',Vv l hP]
theorem Yj4(k:Int):PC E 212 [.i k] (.i (Oh k)):=by
 refine M.F Tryz.func212 ?_;(repeat' first|refine M.v0 ?_|refine M.cs ?_ ?_<;>intro h|fail);all_goals
  simp only[beq_iff_eq,beq_eq_false_iff_ne,ne_eq] at*;simp[zh,V.wk,V.An,za,Oh, *]
theorem yu:∀(b:Nat) (t:Tm),t.full<=b->b<1099511627776->PC E 124 [.agg t.view] (.i t.size):=by
 intro b;induction b with
 |zero=>intro t h;have:=t.Ac;omega
 |succ b ih=>
 intro t hsz hb;have hsz':=Tm.Af t;have hszz:=Tm.size_eq t;have hle:=Tm.Ah t;have hlen:=zd Tm.full Tm.Ac t.args;refine M.F Tryz.func124 ?_;refine M.w0 ?_;refine M.rt t.args.length
  (fun m=>([(3,.i (1+((t.args.take m).map Tm.size).sum)),(7,.s .tm t.args),(8,.i t.args.length),(9,.i m)],⟨1,[(0,.var t.view)]⟩))
  (M.W Ay) ?_ ?_
 .intro m hm hP;have hs1:=yq Tm.size t.args m hm;have hs2:=zc Tm.full (ZA hm);have hs3:=zl Tm.size t.args (m+1);have e:(1+((((t.args.take (m+1)).map Tm.size).sum:Nat):Int))=1+(((t.args.take m).map Tm.size).sum:Nat)+t.args[m].size:=by rw[hs1];omega
  (repeat' first|refine M.w0 ?_|refine M.c2 (ih _ ?_ ?_) ?_|exact M.le|exact M.lt|fail);refine⟨rfl,trivial,?_⟩;simp only[e];exact(M.W Ay)
 .intro hP;refine M.w0 ?_;simp[zh,za,hszz,V.wk,V.An]
end Go.Ab
namespace Go.Ab
open Go Go.Proofs
set_option maxRecDepth 100000
set_option maxHeartbeats 4000000
set_option linter.all false
theorem Ycl(k:Int):Oh k=match DL k with|some n=>(n:Int)|none=> -1:=by
 simp only[Oh,DL];(repeat' split)<;>simp_all<;>omega
theorem Tm.FH(t:Tm):t.head=(!((t.args.length:Int) !=Oh t.kind)&& !decide (t.index<0)&&(!(t.kind !=1)|| !(t.index !=0))&&(bif wl t.kind then !(t.ty.err !=0) else !(!t.ty.B3))):=by
 simp only[Tm.head,Ty.Fo,Ycl];cases hk:DL t.kind with
 |none=>
  have:((t.args.length:Int) != -1)=true:=dZ
  simp[this]
 |some n=>
  have h1:(t.args.length==n)= !((t.args.length:Int) !=((n:Nat):Int)):=iq
  have h2:decide (0<=t.index)= !decide (t.index<0):=by rw[aS];simp
  simp only[h1,h2,bne];cases(t.index==0)<;>cases(t.kind==1)<;>simp
theorem Ub:∀(b:Nat) (t:Tm),t.full<=b->b<1099511627776->PC E 158 [.agg t.view] (.bool t.shape):=by
 intro b;induction b with
 |zero=>intro t h;have:=t.Ac;omega
 |succ b ih=>
 intro t hsz hb;have hsz':=Tm.Af t;have hlen:=zd Tm.full Tm.Ac t.args;have hsh:=Tm.Ak t;have h1:=Yj4 t.kind;have h3:=Rg t.ty;have h4:=L9 t.ty dY;refine M.F Tryz.func158 ?_;(repeat' first|refine M.w3 @h1 @h3 @h4 ?_|refine M.gs ?_ ?_<;>intro h|refine M.bl ?_|refine M.cs ?_ ?_<;>intro h|fail);all_goals first
  |(have hd:t.head=false:=by rw[t.FH];simp_all[wl]
    have:t.shape=false:=by rw[hsh,hd,bE]
    simp[this,zh,za,V.wk,V.An];done)
  |(have hd:t.head=true:=by rw[t.FH];simp_all[wl]
    refine M.rp t.args.length (fun m=>∀j (hj:j<t.args.length),j<m->(t.args[j]).shape=true)
     (fun m=>([(1,.ptr 0 0),(42,.s .tm t.args),(43,.i t.args.length),(44,.i m)],⟨1,[(0,.var t.view)]⟩))
     eR (M.W Ay) ?_ ?_
    .intro m hm hP;have hs2:=zc Tm.full (ZA hm);(repeat' first|refine M.w0 ?_|refine M.c2 (ih _ ?_ ?_) ?_|refine M.cs ?_ ?_<;>intro h|exact M.le|exact M.lt|fail)
     .have h1:(t.args[m]).shape=false:=ek
      have:t.shape=false:=by rw[hsh,wb Tm.shape hm h1,cY]
      simp[this,zh,za,V.wk,V.An]
     .have hh:(t.args[m]).shape=true:=ek
      exact⟨rfl,ya (p:=fun t=>Tm.shape t=true) hm hP hh,(M.W Ay)⟩
    .intro hP;have:t.shape=true:=jq
     refine M.w0 ?_;simp[this,zh,za,V.wk,V.An])
theorem ua(t:Tm)(ht:t.full<1099511627776):PC E 121 [.agg t.view] (.i t.err):=by
 have h1:=Ub _ t (ZB _) ht;have h2:=yu _ t (ZB _) ht;refine M.F Tryz.func121 ?_;(repeat' first|refine M.w2 @h1 @h2 ?_|refine M.cs ?_ ?_<;>intro h|fail);all_goals simp_all[zh,V.wk,V.An,za,Tm.err]
 all_goals(first|omega|(split<;>first|omega|simp_all))
end Go.Ab
namespace Go.Ab
open Go Go.Proofs
set_option maxRecDepth 100000
set_option maxHeartbeats 40000000
set_option linter.all false
theorem Yej:∀(n:Nat) (t:Tm) (g:List Ty),t.full<=n->n<274877906944->t.shape=true->(∀x∈g,x.err=0)->g.length+n<274877906944->PC E 280 [.s .ty g,.agg t.view] (.AM [.agg (t.inf g).1.view,.i (t.inf g).2]):=by
 intro n;induction n with
 |zero=>intro t g h;have:=t.Ac;omega
 |succ n ih=>
 intro t g hsz hb hsh hg hgn;have hsz':=Tm.Af t;have hlen:=zd Tm.full Tm.Ac t.args;have hix:=Qp hsh;have hak:=KG hsh;have hargs:=ze hsh;have hinf:=Tm.Bp g t;have e64:∀{x:Ty},x.err=0->x.size<=64:=fun h=>((Ty.Ad _).1 h).2;by_cases k1:t.kind=1
 .rw[if_pos k1] at hinf;have hk:(t.kind==1)=true:=by simp[k1]
  refine M.F Tryz.func280 ?_;by_cases hlt:t.index>=g.length
  .rw[if_pos hlt] at hinf;(repeat' first|refine M.w0 ?_|refine M.cs ?_ ?_<;>intro h|fail);all_goals first|exfalso;simp_all;done|simp[zh,V.wk,V.An,za,Ty.view,hinf,BV];done|exfalso;simp at*;omega
  .rw[if_neg hlt] at hinf;have h0:g.length-1-t.index.toNat<g.length:=dY
   have hcp:=wn _ (g[g.length-1-t.index.toNat]) (ZB _) (by have:=e64 (hg _ (ZA h0));omega);rw[M1 h0] at hinf;(repeat' first|refine M.w0 ?_|refine M.cs ?_ ?_<;>intro h|fail);all_goals first
    |(exfalso;simp_all;done)
    |(exfalso;simp at*;omega)
    |skip
   refine L.F3 (g.length-1-t.index.toNat) rfl rfl rfl rfl dY rfl rfl h0 ?_;refine M.w1 @hcp ?_;simp[zh,V.wk,V.An,za,Ty.view,hinf]
 rw[if_neg k1] at hinf;by_cases k2:t.kind=2
 .rw[if_pos k2] at hinf;have hl1:t.args.length=1:=by rw[k2] at hak;exact(aW hak).symm
  have h0:0<t.args.length:=dY
  have hte:t.ty.err=0:=Th hsh (by rw[k2];rfl);have hs2:=zc Tm.full (ZA h0);have hg':∀x∈g++[t.ty],x.err=0:=fun x hx=>by
   rcases ZU.1 hx with hx|hx
   .exact hg x hx
   .simp at hx;subst hx;exact hte
  have hc:=ih t.args[0] (g++[t.ty]) dY dY (hargs _ (ZA h0)) hg' eB;have hgood:=Tm.Eu t.args[0] (g++[t.ty]) (hargs _ (ZA h0)) hg';have hinfs:Tm.AV (g++[t.ty]) t.args=if(t.args[0].inf (g++[t.ty])).2≠0 then([],(t.args[0].inf (g++[t.ty])).2) else([(t.args[0].inf (g++[t.ty])).1],0):=
   (congrArg (Tm.AV (g++[t.ty])) (Nc hl1)).trans (by simp only[Tm.AV,ne_eq,not_true_eq_false,if_false])
  have hf:(t.args[0].inf (g++[t.ty])).2=0->_:=fun h=>KY t.ty (t.args[0].inf (g++[t.ty])).1 (by have:=e64 hte;omega) (by have:=e64 (hgood h);omega);have ho:(t.args[0].inf (g++[t.ty])).2=0->_:=fun h=>Wo (xn t.ty (t.args[0].inf (g++[t.ty])).1) (by have:=e64 (hgood h);have:=e64 hte;simp only[xn,Ty.size,Ty.sizes];omega);refine M.F Tryz.func280 ?_;(repeat' first|refine M.w1 @hc ?_|refine M.c2 (hf eS) ?_|refine M.c2 (ho eS) ?_|refine M.cs ?_ ?_<;>intro h|fail);all_goals first
   |(exfalso;simp_all;done)
   |skip
  .have h':(t.args[0].inf (g++[t.ty])).2≠0:=ek
   rw[if_pos h'] at hinfs;rw[hinfs,if_pos h'] at hinf;simp[zh,V.wk,V.An,za,Ty.view,hinf,BV]
  .have h':¬(t.args[0].inf (g++[t.ty])).2≠0:=ek
   rw[if_neg h'] at hinfs;rw[hinfs] at hinf;have hinf':t.inf g=BF (xn t.ty (t.args[0].inf (g++[t.ty])).1):=by rw[hinf];rfl
   rw[hinf'];by_cases he:(xn t.ty (t.args[0].inf (g++[t.ty])).1).err=0
   .simp[zh,V.wk,V.An,za,Ty.view,BF,he]
   .simp[zh,V.wk,V.An,za,Ty.view,BF,he]
 rw[if_neg k2] at hinf;refine M.F Tryz.func280 ?_;(repeat' first|refine M.w0 ?_|refine M.cs ?_ ?_<;>intro h|fail);all_goals first
  |(exfalso;simp_all;done)
  |skip
 refine M.rp t.args.length (fun m=>∀j (hj:j<t.args.length),j<m->(t.args[j].inf g).2=0)
  (fun m=>([(0,.s .ty g),(3,.ptr 0 0),(4,.ptr 1 0),(8,.slice (.own 2) (.t .ty ((t.args.take m).map fun x=>(x.inf g).1))),(67,.s .tm t.args),(68,.i t.args.length),(69,.i m)],⟨3,[(0,.var t.view),(1,.var [.i 0,.slice .nil (.t .ty [])]),(2,.row)]⟩))
  eR (M.W OP) ?_ ?_
 .intro m hm hP;have hs2:=zc Tm.full (ZA hm);have hc:=ih t.args[m] g dY dY (hargs _ (ZA hm)) hg dY;(repeat' first|refine M.w1 @hc ?_|refine M.cs ?_ ?_<;>intro h|fail)
  .have h':(t.args[m].inf g).2≠0:=ek
   have h2:=Tm.Il g t.args m hm hP h';rw[h2,if_pos h'] at hinf;simp[zh,V.wk,V.An,za,Ty.view,hinf,BV]
  .have h':(t.args[m].inf g).2=0:=ek
   refine⟨rfl,ya (p:=fun x:Tm=>(x.inf g).2=0) hm hP h',?_⟩;exact(M.W [some 0,some 1,some 5] (hf:=(by(repeat'(first|exact trivial|refine And.intro ?_ ?_|refine⟨_,U,_,U,?_⟩|exact Ai.refl _|exact Ai.of_eq eL));done)))
 .intro hP;have hall:∀x∈t.args,(x.inf g).2=0:=fun x hx=>by
   obtain⟨j,hj,rfl⟩:=cr.1 hx;exact hP j hj hj
  have h5:=Tm.Fa g t.args hall;have hgood:∀x∈t.args.map (fun x=>(x.inf g).1),x.err=0:=fun x hx=>by
   obtain⟨y,hy,rfl⟩:=ZQ.1 hx;exact Tm.Eu y g (hargs y hy) hg (hall y hy)
  rw[h5] at hinf;simp only[ne_eq,not_true_eq_false,if_false] at hinf;have hLl:(t.args.map fun x=>(x.inf g).1).length=t.args.length:=dZ
  rw[show t.args.take t.args.length=t.args from ZF];generalize hL:t.args.map (fun x=>(x.inf g).1)=L at*;have hty:=Th hsh;have hcpT:wl t.kind=true->_:=fun h=>wn _ t.ty (ZB _) (by have:=e64 (hty h);omega);clear hP hall h5 hargs hlen ih hsz' hix hsz;rw[<-hLl] at hak;rcases Wk hak with⟨hn,hk⟩|⟨hn,hk⟩|⟨hn,hk⟩|⟨hn,hk⟩
  .have hLL:=ZS hn;subst hLL;obtain⟨k,i,th,xs⟩:=t;simp only[Tm.AA,Tm.Bk] at hk hinf;rcases hk with rfl|rfl|rfl|rfl
   .exact absurd rfl k1
   all_goals
    refine M.v3 @uq @Ga @QZ ?_;simp[zh,V.wk,V.An,za,Ty.view,hinf,Cy,Ae,Ao,Kt]
  .obtain ⟨x,hLL⟩:=RR hn;subst hLL;have hx:=hgood x dZ;have hxn:=xp _ x Ae (ZB _) (by have:=e64 hx;omega);have hx2:x.kind=3->∃y z,x.args=[y,z]:=fun h=>Ty.CT ((Ty.Ad _).1 hx).1 (.inl h);obtain⟨k,i,th,xs⟩:=t;simp only[Tm.AA,Tm.Bk] at hk hinf;rcases hk with rfl|rfl|rfl|rfl
   .exact absurd rfl k2
   .repeat' (first|refine M.v3 @uq @Ga @hxn ?_|refine M.cs ?_ ?_<;>intro h|fail)
    .have h':¬x=Ae:=ek
     simp[zh,V.wk,V.An,za,Ty.view,hinf,Cy,h',BV]
    .have h':x=Ae:=ek
     simp[zh,V.wk,V.An,za,Ty.view,hinf,Cy,h',Ae]
   all_goals
    by_cases hx3:x.kind=3
    .obtain ⟨y,z,hyz⟩:=hx2 hx3;obtain⟨xk,xa⟩:=x;simp only[Ty.AA,Ty.Ag] at hx3 hyz;subst hx3;subst hyz;refine M.v2 @uq @Ga ?_;simp[zh,V.wk,V.An,za,Ty.view,EC.view,hinf,Cy]
    .repeat' (first|refine M.v2 @uq @Ga ?_|refine M.cs ?_ ?_<;>intro h|fail)
     .simp[zh,V.wk,V.An,za,Ty.view,hinf,Cy,hx3,BV]
     all_goals exact absurd ek hx3
  .obtain ⟨x,y,hLL⟩:=PF hn;subst hLL;have hx:=hgood x dZ;have hy:=hgood y dZ;have ex:=e64 hx;have ey:=e64 hy;have hxn:=xp _ x Ae (ZB _) dY;have D9:=xp _ y Ao (ZB _) dY;have hx2:x.kind=4->∃y z,x.args=[y,z]:=fun h=>Ty.CT ((Ty.Ad _).1 hx).1 (.inr h);obtain⟨k,i,th,xs⟩:=t;simp only[Tm.AA,Tm.Bk] at hk hinf;rcases hk with rfl|rfl|rfl
   .by_cases hx3:x.kind=4
    .obtain ⟨a,b,hab⟩:=hx2 hx3;obtain⟨xk,xa⟩:=x;simp only[Ty.AA,Ty.Ag] at hx3 hab;subst hx3;subst hab;simp only[Ty.size,Ty.sizes] at ex;have hay:=xp _ a y (ZB _) dY;(repeat' first|refine M.v3 @uq @Ga @hay ?_|refine M.cs ?_ ?_<;>intro h|fail)
     .have h':¬a=y:=ek
      simp[zh,V.wk,V.An,za,Ty.view,hinf,Cy,h',BV]
     .have h':a=y:=ek
      simp[zh,V.wk,V.An,za,Ty.view,EC.view,hinf,Cy,h']
    .repeat' (first|refine M.w2 @uq @Ga ?_|refine M.gs ?_ ?_<;>intro h|refine M.bl ?_|fail)
     .simp[zh,V.wk,V.An,za,Ty.view,hinf,Cy,hx3,BV]
     .exact absurd ek hx3
   .clear hgood hLl hL hak hn hsh hcpT hty e64 hg hx2;(repeat' first|refine M.w4 @uq @Ga @hxn @D9 ?_|refine M.gs ?_ ?_<;>intro h|refine M.bl ?_|refine M.cs ?_ ?_<;>intro h|fail);all_goals
     clear hxn D9;by_cases p1:x=Ae<;>by_cases p2:y=Ao<;>first|exfalso;simp[p1,p2] at*;done|simp[zh,V.wk,V.An,za,Ty.view,EC.view,hinf,Cy,p1,p2,BV];done|(simp[zh,V.wk,V.An,za,Ty.view,EC.view,hinf,Cy,p1,p2];rfl)|simp[zh,V.wk,V.An,za,Ty.view,EC.view,hinf,Cy,p1,p2,Ao];done
   .have htw:=V1 x y dY dY;have hok:=Wo (Dj x y) (by simp only[Dj,Ty.size,Ty.sizes];omega);refine M.v4 @uq @Ga @htw @hok ?_;by_cases he:(Dj x y).err=0
    .simp[zh,V.wk,V.An,za,Ty.view,hinf,Cy,BF,he]
    .simp[zh,V.wk,V.An,za,Ty.view,hinf,Cy,BF,he]
  .obtain ⟨x,y,z,hLL⟩:=Xz hn;subst hLL;have hx:=e64 (hgood x dZ);have hy:=e64 (hgood y dZ);have hz:=e64 (hgood z dZ);have ht:t.ty.size<=64:=e64 (hty (by rcases hk with hk|hk<;>rw[hk]<;>rfl));have hcp:=wn _ t.ty (ZB _) dY;have hs1:=xp _ x t.ty (ZB _) dY;have hf1:=KY t.ty t.ty dY dY;obtain⟨k,i,th,xs⟩:=t;simp only[Tm.AA,Tm.Bk] at hk hinf ht hs1 hf1 hcp;rcases hk with rfl|rfl
   .have hf2:=KY Ae (xn th th) ej gV;have hs2:=xp _ y (xn Ae (xn th th)) (ZB _) dY;have hs3:=xp _ z Ae (ZB _) dY;clear hgood hLl hL hak hn hsh hcpT hty e64 hg;(repeat' first|refine M.w6 @uq @Ga @hs1 @hf1 @hf2 @hs2 ?_|refine M.c2 (hs3) ?_|refine M.c2 (hcp) ?_|refine M.gs ?_ ?_<;>intro h|refine M.bl ?_|refine M.cs ?_ ?_<;>intro h|fail);all_goals
     clear hs1 hf1 hcp hf2 hs2 hs3;by_cases p1:x=th<;>by_cases p2:y=xn Ae (xn th th)<;>by_cases p3:z=Ae<;>first|exfalso;simp[p1,p2,p3] at*;done|simp[zh,V.wk,V.An,za,Ty.view,EC.view,hinf,Cy,p1,p2,p3,BV];done
   .have hf2:=KY Ao (xn th th) ej gV;have hf3:=KY Ae (xn Ao (xn th th)) ej (by simp only[xn,Ao,Ty.size,Ty.sizes];omega);have hs2:=xp _ y (xn Ae (xn Ao (xn th th))) (ZB _) dY;have hs3:=xp _ z Ao (ZB _) dY;clear hgood hLl hL hak hn hsh hcpT hty e64 hg;(repeat' first|refine M.w6 @uq @Ga @hs1 @hf1 @hf2 @hf3 ?_|refine M.c2 (hs2) ?_|refine M.c2 (hs3) ?_|refine M.c2 (hcp) ?_|refine M.gs ?_ ?_<;>intro h|refine M.bl ?_|refine M.cs ?_ ?_<;>intro h|fail);all_goals
     clear hs1 hf1 hcp hf2 hs2 hs3;by_cases p1:x=th<;>by_cases p2:y=xn Ae (xn Ao (xn th th))<;>by_cases p3:z=Ao<;>first|exfalso;simp[p1,p2,p3] at*;done|simp[zh,V.wk,V.An,za,Ty.view,EC.view,hinf,Cy,p1,p2,p3,BV];done
end Go.Ab
namespace Go.Ab
open Go Go.Proofs
set_option maxRecDepth 100000
set_option maxHeartbeats 4000000
set_option linter.all false
def HT(n:Nat):Prop:=∀(d:Dk) (g:List Ty) (t:Ty) (k:Int),k=(n:Int)-2->d.ok->Am g->t.small->1<=n->(n=1->t.size=1)->g.length+3*n<=10000->
 AC E 12 [.ptr 0 0,.s .ty g,.agg t.view,.i k] ⟨1,[(0,.var d.cells)]⟩ (.agg (Dk.tm n d g t).1.view) ⟨1,[(0,.var (Dk.tm n d g t).2.cells)]⟩
theorem QK{n:Nat}(hn:n<=7)(d:Dk){g:List Ty}{t:Ty}(hg:Am g)(ht:t.small)(h1:1<=n)(h2:n=1->t.size=1):(Dk.tm n d g t).1.full<=50000:=by
 have:=(Dk.De n d g t hg ht h1 h2).full hg ht;have:3^n<=3^7:=ct dY hn;omega
theorem QY(n:Nat)(H:HT n)(hn:n<=7)(depth:Int)(hdep:depth=(n:Int)-1)(d:Dk)(hd:d.ok)(g:List Ty)(t:Ty)(hg:Am g)(ht:t.small)(h0:n=0->t.size=1)(hl:g.length+3*(n+1)<=10000):
 AW E Tryz.f12.ntmps 1 (HE [1,1,1,1] (Of Tryz.f12)) [(0,.ptr 0 0),(1,.s .ty g),(3,.i depth),(6,.ptr 1 0),(8,.ptr 2 0)]
  ⟨3,[(0,.var d.cells),(1,.var t.view),(2,.var [.i 0,.i 0,.i 0,.slice .nil (.t .ty []),.slice .nil (.t .tm [])])]⟩
  (FV E 1 Tryz.f12.results.toList (.agg (d.fin (Dk.tm n) (decide (2<=n)) g t).1.view) ⟨1,[(0,.var (d.fin (Dk.tm n) (decide (2<=n)) g t).2.cells)]⟩):=by
 have hF:1<=n->∀d,∀t,t.small->(n=1->t.size=1)->(Dk.tm n d g t).1.full<=50000:=fun h1 d t ht h2=>QK hn d hg ht h1 h2;have hok:∀d g t,d.ok->(Dk.tm n d g t).2.ok:=fun d g t h=>Dk.C5 n d g t h;rcases R8 ht with rfl|rfl|rfl|⟨a,b,ha,hb,h1,h2,rfl|rfl⟩
 .show AW _ _ _ (Code.seq _ _) _ _ _;by_cases hp:2<=n
  .have hp':depth>0:=dY
   have e:d.fin (Dk.tm n) (decide (2<=n)) g Ae=if(d.next 5).1=0 then(sT (Dk.tm n (d.next 5).2 g Ae).1,(Dk.tm n (d.next 5).2 g Ae).2)
    else if(d.next 5).1=1 then(Bd (Bd CV (Dk.tm n (d.next 5).2 g Ae).1) (Dk.tm n (Dk.tm n (d.next 5).2 g Ae).2 g Ae).1,(Dk.tm n (Dk.tm n (d.next 5).2 g Ae).2 g Ae).2)
    else if(d.next 5).1=2 then(Bd (Bd ET (Dk.tm n (d.next 5).2 g Ae).1) (Dk.tm n (Dk.tm n (d.next 5).2 g Ae).2 g Ae).1,(Dk.tm n (Dk.tm n (d.next 5).2 g Ae).2 g Ae).2)
    else(HG ((d.next 5).2.next 3).1,((d.next 5).2.next 3).2):=by simp[Dk.fin,Ae,hp]
   have hd5:=Dk.AG hd 5;have hx5:=vd d 5 hd dY;have hx3:=vd (d.next 5).2 3 hd5 dY;have a1:=H (d.next 5).2 g Ae (depth-1) dY hd5 hg zi dY dY dY;have a2:=H (Dk.tm n (d.next 5).2 g Ae).2 g Ae (depth-1) dY (hok _ _ _ hd5) hg zi dY dY dY;have f1:=hF dY (d.next 5).2 Ae zi dY;have f2:=hF dY (Dk.tm n (d.next 5).2 g Ae).2 Ae zi dY;have hs:=Dh 5 [(Dk.tm n (d.next 5).2 g Ae).1] eB;have p1:CV.full<=18:=ej
   have p2:ET.full<=36:=ej
   have ap:=Q5 CV [(Dk.tm n (d.next 5).2 g Ae).1,(Dk.tm n (Dk.tm n (d.next 5).2 g Ae).2 g Ae).1] eB;have asb:=Q5 ET [(Dk.tm n (d.next 5).2 g Ae).1,(Dk.tm n (Dk.tm n (d.next 5).2 g Ae).2 g Ae).1] eB;have hnum:=Pb ((d.next 5).2.next 3).1;(repeat' first|refine M.w6 @hx5 @hx3 @a1 @a2 @X5 @Yli ?_|refine M.c2 (ap) ?_|refine M.c2 (asb) ?_|refine M.c2 (hnum) ?_|refine M.c2 (hs) ?_|refine M.bl ?_|refine M.cs ?_ ?_<;>intro h|fail);all_goals first
    |exact absurd hp' ek
    |skip
   .have e:=e.trans (if_pos ek)
    (exact M.n2 Ay (h6:=(by(repeat'(first|exact trivial|refine And.intro ?_ ?_|refine⟨_,U,_,U,_,U,?_⟩|exact Ai.of_eq (by simp[Aj.Aw,e,sT])));done)) (h8:=(by simp[zh,V.wk,V.An,za,Ty.view,Tm.view,e,sT])))
   .rename_i h0;have e:=e.trans ((if_neg fV).trans (if_pos ek))
    (exact M.n2 Ay (h6:=(by(repeat'(first|exact trivial|refine And.intro ?_ ?_|refine⟨_,U,_,U,_,U,?_⟩|exact Ai.of_eq jf));done)) (h8:=jN))
   .rename_i h0 h1;have e:=e.trans ((if_neg fV).trans ((if_neg gI).trans (if_pos ek)))
    (exact M.n2 Ay (h6:=(by(repeat'(first|exact trivial|refine And.intro ?_ ?_|refine⟨_,U,_,U,_,U,?_⟩|exact Ai.of_eq jf));done)) (h8:=jN))
   .rename_i h0 h1;have e:=e.trans ((if_neg fV).trans ((if_neg gI).trans (if_neg ek)))
    (exact M.n2 Ay (h6:=(by(repeat'(first|exact trivial|refine And.intro ?_ ?_|refine⟨_,U,_,U,_,U,?_⟩|exact Ai.of_eq iE));done)) (h8:=gU))
  .have hp':¬depth>0:=dY
   have e:d.fin (Dk.tm n) (decide (2<=n)) g Ae=(HG (d.next 3).1,(d.next 3).2):=by simp[Dk.fin,Ae,hp]
   have hx3:=vd d 3 hd dY;have hnum:=Pb (d.next 3).1;(repeat' first|refine M.v2 @hx3 @hnum ?_|refine M.cs ?_ ?_<;>intro h|fail);all_goals first
    |exact absurd hp' ek
    |skip
   (exact M.n2 Ay (h6:=(by(repeat'(first|exact trivial|refine And.intro ?_ ?_|refine⟨_,U,_,U,_,U,?_⟩|exact Ai.of_eq iE));done)) (h8:=gU))
 .show AW _ _ _ (Code.seq _ _) _ _ _;have hN:=Dh 7 [] dZ;by_cases hp:2<=n
  .have hp':depth>0:=dY
   have e:d.fin (Dk.tm n) (decide (2<=n)) g Ao=if(d.next 2).1=0 then(nT 8 [(Dk.tm n (d.next 2).2 g Ae).1,(Dk.tm n (Dk.tm n (d.next 2).2 g Ae).2 g Ao).1],(Dk.tm n (Dk.tm n (d.next 2).2 g Ae).2 g Ao).2) else(nT 7 [],(d.next 2).2):=by simp[Dk.fin,Ao,hp]
   have hd2:=Dk.AG hd 2;have hx2:=vd d 2 hd dY;have a1:=H (d.next 2).2 g Ae (depth-1) dY hd2 hg zi dY dY dY;have a2:=H (Dk.tm n (d.next 2).2 g Ae).2 g Ao (depth-1) dY (hok _ _ _ hd2) hg y8 dY dY dY;have f1:=hF dY (d.next 2).2 Ae zi dY;have f2:=hF dY (Dk.tm n (d.next 2).2 g Ae).2 Ao y8 dY;have hs:=Dh 8 [(Dk.tm n (d.next 2).2 g Ae).1,(Dk.tm n (Dk.tm n (d.next 2).2 g Ae).2 g Ao).1] eB;(repeat' first|refine M.w6 @hx2 @a1 @a2 @uq @hs @hN ?_|refine M.gs ?_ ?_<;>intro h|refine M.bl ?_|refine M.cs ?_ ?_<;>intro h|fail);all_goals first
    |exact absurd hp' ek
    |skip
   .have e:=e.trans (if_pos ek)
    (exact M.n2 Ay (h6:=(by(repeat'(first|exact trivial|refine And.intro ?_ ?_|refine⟨_,U,_,U,_,U,?_⟩|exact Ai.of_eq jg));done)) (h8:=gC))
   .have e:=e.trans (if_neg ek)
    (exact M.n2 Ay (h6:=(by(repeat'(first|exact trivial|refine And.intro ?_ ?_|refine⟨_,U,_,U,_,U,?_⟩|exact Ai.of_eq jg));done)) (h8:=gC))
  .have hp':¬depth>0:=dY
   have e:d.fin (Dk.tm n) (decide (2<=n)) g Ao=(nT 7 [],d):=by simp[Dk.fin,Ao,hp]
   (repeat' first|refine M.w1 @hN ?_|refine M.gs ?_ ?_<;>intro h|refine M.bl ?_|fail);all_goals first
    |exact absurd hp' ek
    |skip
   (exact M.n2 Ay (h6:=(by(repeat'(first|exact trivial|refine And.intro ?_ ?_|refine⟨_,U,_,U,_,U,?_⟩|exact Ai.of_eq jg));done)) (h8:=gC))
 .show AW _ _ _ (Code.seq _ _) _ _ _;have hN:=Dh 13 [] dZ;have e:d.fin (Dk.tm n) (decide (2<=n)) g Kt=(nT 13 [],d):=by simp[Dk.fin,Kt]
  refine M.v1 @hN ?_
  (exact M.n2 Ay (h8:=gC))
 .have hn0:n≠0:=fun h=>by have:=h0 h;rw[J9] at this;omega
  have sa:=zx ha h1;have sb:=zx hb h2;have e:d.fin (Dk.tm n) (decide (2<=n)) g (Dj a b)=(nT 10 [(Dk.tm n d g a).1,(Dk.tm n (Dk.tm n d g a).2 g b).1],(Dk.tm n (Dk.tm n d g a).2 g b).2):=by simp[Dk.fin,Dj]
  have a1:=H d g a (depth-1) dY hd hg sa dY (fun _=>h1) dY;have a2:=H (Dk.tm n d g a).2 g b (depth-1) dY (hok _ _ _ hd) hg sb dY (fun _=>h2) dY;have f1:=hF dY d a sa (fun _=>h1);have f2:=hF dY (Dk.tm n d g a).2 b sb (fun _=>h2);have hs:=Dh 10 [(Dk.tm n d g a).1,(Dk.tm n (Dk.tm n d g a).2 g b).1] eB;have l0:0<(Dj a b).args.length:=fX
  have l1:1<(Dj a b).args.length:=fX
  show AW _ _ _ (Code.seq _ _) _ _ _;refine M.v3 @a1 @a2 @hs ?_
  (exact M.n2 Ay (h8:=gC))
 .have hn0:n≠0:=fun h=>by have:=h0 h;rw[vf] at this;omega
  have sa:=zx ha h1;have sb:=zx hb h2;have hga:=zo hg (zj sa zn);have e:d.fin (Dk.tm n) (decide (2<=n)) g (xn a b)=(Cf a (Dk.tm n d (g++[a]) b).1,(Dk.tm n d (g++[a]) b).2):=by simp[Dk.fin,xn]
  have a1:=H d (g++[a]) b (depth-1) dY hd hga sb dY (fun _=>h2) eB;have f1:=QK hn d hga sb dY (fun _=>h2);have hlo:=JI g [a] eB;have hs:=GX 2 a [(Dk.tm n d (g++[a]) b).1] eB dY;have l0:0<(xn a b).args.length:=fQ
  have l1:1<(xn a b).args.length:=fQ
  show AW _ _ _ (Code.seq _ _) _ _ _;refine M.v3 @a1 @hlo @hs ?_
  (exact M.n2 Ay (h8:=(by simp[zh,V.wk,V.An,za,Ty.view,Tm.view,e,Cf])))
end Go.Ab
