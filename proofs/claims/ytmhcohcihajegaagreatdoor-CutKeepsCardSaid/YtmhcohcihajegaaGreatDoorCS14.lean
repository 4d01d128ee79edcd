/- A part of this seat's proofs. No conditions. -/
import Derived.Test.YtmhcohcihajegaaGreatDoorCS12
import Derived.Test.YtmhcohcihajegaaGreatDoorCS15
namespace Go.Ab
open Go Go.Proofs
set_option maxRecDepth 100000
set_option maxHeartbeats 4000000
set_option linter.all false
theorem Ymp:∀(n:Nat) (t:Tm) (ks:List Int) (bl:Int),t.full<=n->n<1099511627776->0<=bl->bl+n<1099511627776->(∀p∈t.vars bl,0<=p.1/\p.1<9223372036854775808)->
 AC E 240 [.agg t.view,.i bl,.mp 0] ⟨1,[(0,.map .bl ks (List.replicate ks.length true))]⟩ (.AP []) ⟨1,[(0,.map .bl (CZ ks (D4 (t.vars bl))) (List.replicate (CZ ks (D4 (t.vars bl))).length true))]⟩:=by
 intro n;induction n with
 |zero=>intro t b bl h;have:=t.Ad;omega
 |succ n ih=>
 intro t ks bl hsz hb hbl hbn hix;have hsz':=Tm.Ag t;have hlen:=ze Tm.full Tm.Ad t.args;have hv:=Tm.AY bl t;have hbe:=N5 t;have hup:=OQ t.kind bl;have hpl:=OX t.kind bl;have hi:t.kind=1->0<=t.index/\t.index<9223372036854775808:=fun h=>mG
 have loopE:∀m (hm:m<t.args.length) ks',AC E 240 [.agg (t.args[m]).view,.i (bl+up t.kind 0),.mp 0] ⟨1,[(0,.map .bl ks' (List.replicate ks'.length true))]⟩ (.AP []) ⟨1,[(0,.map .bl (CZ ks' (D4 ((t.args[m]).vars (up t.kind bl)))) (List.replicate (CZ ks' (D4 ((t.args[m]).vars (up t.kind bl)))).length true))]⟩:=fun m hm ks'=>by
  have hs2:=zc Tm.full (fA hm);have:=ih t.args[m] ks' (up t.kind bl) kn kn kn kn (fun p hp=>hix p mJ);rw[<-hpl] at this ⊢;exact this
 obtain⟨k0,hk0⟩:∃k0,k0=CZ ks (D4 (if t.kind=1 then [(t.index,bl)] else [])):=⟨_,rfl⟩;have hk1:t.kind=1->t.index>=bl->k0=El (t.index-bl) ks:=fun h1 h2=>by rw[hk0,if_pos h1,aA,if_pos h2];exact Zz _ _
 have hk2:¬(t.kind=1/\t.index>=bl)->k0=ks:=fun h1=>by
  rw[hk0];by_cases h2:t.kind=1
  .rw[if_pos h2,aA,if_neg (fun h3=>h1 ⟨h2,h3⟩)];rfl
  .rw[if_neg h2];rfl
 have hend:CZ ks (D4 (t.vars bl))=CZ k0 (D4 (t.args.flatMap (Tm.vars (up t.kind bl)))):=by rw[hv,W8,R1,hk0]
 rw[hend];by_cases hv1:t.kind=1/\t.index>=bl
 .have e:=hk1 hv1.1 hv1.2;have hi':=hi hv1.1;refine M.F Tryz.func240 ?_;(repeat' first|refine M.w0 ?_|refine M.gs ?_ ?_<;>intro h|refine M.cs ?_ ?_<;>intro h|fail)
  rotate_left
  .exact qW
  .exfalso;simp at h;exact h hv1.1
  refine M.rt t.args.length
   (fun m=>([(1,.i bl),(2,.mp 0),(3,.ptr 1 0),(23,.s .tm t.args),(24,.i t.args.length),(25,.i m)],⟨2,[(0,.map .bl (CZ k0 (D4 ((t.args.take m).flatMap (Tm.vars (up t.kind bl))))) (List.replicate (CZ k0 (D4 ((t.args.take m).flatMap (Tm.vars (up t.kind bl))))).length true)),(1,.var t.view)]⟩))
   ?_ ?_ ?_
  .simp only[gF,je,Zt,Rz];rw[e];rw[<-Vy];exact(M.W Bo)
  .exact qj
  .intro hP;simp only[fH];skip
   (exact M.n2 AJ (h8:=kR))
 .have e:=hk2 hv1;refine M.F Tryz.func240 ?_;(repeat' first|refine M.w0 ?_|refine M.gs ?_ ?_<;>intro h|refine M.cs ?_ ?_<;>intro h|fail)
  .rename_i h1';exfalso;exact hv1 ⟨by simpa using h1',ku⟩
  all_goals
   refine M.rt t.args.length
    (fun m=>([(1,.i bl),(2,.mp 0),(3,.ptr 1 0),(23,.s .tm t.args),(24,.i t.args.length),(25,.i m)],⟨2,[(0,.map .bl (CZ k0 (D4 ((t.args.take m).flatMap (Tm.vars (up t.kind bl))))) (List.replicate (CZ k0 (D4 ((t.args.take m).flatMap (Tm.vars (up t.kind bl))))).length true)),(1,.var t.view)]⟩))
    ?_ ?_ ?_
   .simp only[gF,je,Zt,Rz];rw[e];exact(M.W Bo)
   .exact qj
   .intro hP;simp only[fH];skip
    (exact M.n2 AJ (h8:=kR))
theorem Yk6(t:Tm)(ht:t.full<549755813888)(hix:t.err=0->∀p∈t.vars 0,0<=p.1/\p.1<9223372036854775808):PC E 218 [.agg t.view] (.AP [.s .int (if t.err=0 then JO t else []),.i t.err]):=by
 have h1:=LS t kn;have hc:t.err=0->_:=fun h=>Ymp _ t [] 0 (fB _) kn kn kn (hix h);have hu:CZ [] (D4 (t.vars 0))=K1 t:=rfl;simp only[gB,List.replicate_zero,hu] at hc;have hlen:=Ye5 t;have hsz:=t.An;have hs:=cV (dw t) kn;have e0:x8 (K1 t)=JO t:=rfl;rw[e0] at hs;refine M.F Tryz.func218 ?_;(repeat' first|refine M.w1 @h1 ?_|refine M.cb (hc ku) [1] 0 ?_|refine M.cb (hs) [1] 0 ?_|refine M.cs ?_ ?_<;>intro h|fail)
 .have e:¬t.err=0:=ku
  rw[if_neg e];simp[zn,V.wk,V.Ar];rfl
 .have e:t.err=0:=ku
  rw[if_pos e];simp[zn,V.wk,V.Ar,e]
theorem QI(f g:Fm)(hf:f.full<274877906944)(hg:g.full<274877906944):PC E 17 [.agg f.view,.agg g.view] (.i (Gr f g)):=by
 have h1:=MU f kn;have h2:=MU g kn;unfold Gr;by_cases ef:f.err=0;case neg=>
  rw[if_pos ef];refine M.F Tryz.func17 ?_;(repeat' first|refine M.w1 @h1 ?_|refine M.cs ?_ ?_<;>intro h|fail);all_goals first
   |rfl
   |(exfalso;simp at h;exact ef h)
 rw[ef] at h1;rw[if_neg (by simp[ef])];by_cases eg:g.err=0;case neg=>
  rw[if_pos eg];refine M.F Tryz.func17 ?_;(repeat' first|refine M.w2 @h1 @h2 ?_|refine M.cs ?_ ?_<;>intro h|fail);all_goals first
   |rfl
   |(exfalso;simp at h;exact eg h)
 rw[eg] at h2;rw[if_neg (by simp[eg])];have h3:=Ydr _ f g (fB _) hf hg ((Fm.Aa f).1 ef).1 ((Fm.Aa g).1 eg).1;refine M.F Tryz.func17 ?_;refine M.w3 @h1 @h2 @h3 ?_
 rfl
theorem Ygq(a b:Tm):PC E 162 [.agg (AV a b).view] (.bool false):=by
 unfold AV;refine M.F Tryz.func162 ?_;refine M.v0 ?_
 rfl
theorem Fm.OY(G:Int->Tm->Tm)(c:Int)(f:Fm):∀b,f.re (fun b t=>G (c+b) t) b=f.re G (c+b):=by
 induction f using Fm.ind with
 |h f ih=>
  intro b;rw[Fm.A4,Fm.A4];congr 1;refine fY fun x hx=> ?_;have e:A3 f.kind (c+b)=c+A3 f.kind b:=l5
  rw[e];exact ih x hx _
theorem Yoz(f:Fm)(fr by_:Int):f.As fr by_=f.re (fun b t=>t.re (zi b by_) 0) fr:=by
 have:=Fm.OY (fun b t=>t.re (zi b by_) 0) fr f 0;rw[Int.add_zero] at this;exact this
theorem Yqz(by_:Int)(hby: -549755813888<=by_/\by_<=549755813888):∀(n:Nat) (f:Fm) (fr:Int),f.full<=n->n<274877906944->-274877906944<=fr->fr+n<549755813888->f.shape=true->(∀p∈f.A6 0,∀q∈p.1.vars 0,0<=q.1/\q.1<549755813888)->
 PC E 34 [.agg f.view,.i fr,.i by_] (.agg (f.re (fun b t=>t.re (zi b by_) 0) fr).view):=by
 intro n;induction n with
 |zero=>intro f dp h;have:=f.Ad;omega
 |succ n ih=>
 intro f fr hsz hn h1 h2 hf hix;have hsz':=f.Ag;have hlen:=ze Fm.full Fm.Ad f.args;have hlen2:=ze Tm.full Tm.Ad f.terms;have hup:=Nk f.kind fr;have hpl:=QE f.kind fr;have hb:=SJ f;have he:=Fm.A4 (fun b t=>t.re (zi b by_) 0) fr f;have htm:=f.A0 0;refine M.F Tryz.func34 ?_;refine M.w0 ?_;refine M.rt f.terms.length (fun m=>([(1,.i fr),(2,.i by_),(3,.ptr 0 0),(6,.ptr 1 0),(7,.ptr 2 0),(18,.s .tm f.terms),(19,.i f.terms.length),(20,.i m)],⟨4,[(0,.var f.view),(1,.var [.i 0,.i 0,.slice .nil (.t .ty []),.slice .nil (.t .tm []),.slice .nil (.t .fm [])]),(2,.var [.i f.kind,.i f.ty.kind,.s .ty f.ty.args,.slice (.own 3) (.t .tm ((f.terms.take m).map fun t=>t.re (zi fr by_) 0)),.slice .nil (.t .fm [])]),(3,.row)]⟩))
  (M.W JU) ?_ ?_
 .intro m hm _;have hs2:=zc Tm.full (fA hm);have hc:=SU by_ hby _ f.terms[m] fr (fB _) kn kn kn (yi hf (fA hm)) (fun p hp=>hix (f.terms[m],0) mI p hp);refine M.w1 @hc ?_;exact⟨rfl,trivial,(M.W [some 0,some 1,some 2,some 5] (he:=(by(repeat'(first|exact trivial|exact Or.inr ⟨_,U,rfl⟩|refine And.intro ?_ ?_|refine⟨_,U,_,U,_,U,?_⟩|exact Ap.refl _|exact Ap.of_eq kO));done)))⟩
 .intro _;simp only[fH];refine M.w0 ?_;refine M.rt f.args.length (fun m=>([(1,.i fr),(2,.i by_),(3,.ptr 0 0),(6,.ptr 1 0),(7,.ptr 2 0),(35,.s .fm f.args),(36,.i f.args.length),(37,.i m)],⟨5,[(0,.var f.view),(1,.var [.i 0,.i 0,.slice .nil (.t .ty []),.slice .nil (.t .tm []),.slice .nil (.t .fm [])]),(2,.var [.i f.kind,.i f.ty.kind,.s .ty f.ty.args,.slice (.own 3) (.t .tm (f.terms.map fun t=>t.re (zi fr by_) 0)),.slice (.own 4) (.t .fm ((f.args.take m).map fun x=>x.re (fun b t=>t.re (zi b by_) 0) (A3 f.kind fr)))]),(3,.row),(4,.row)]⟩))
   (M.W Ke) ?_ ?_
  .intro m hm _;have hs2:=zc Fm.full (fA hm);have hc:=ih f.args[m] (A3 f.kind fr) kn kn kn kn (zp hf (fA hm)) (fun p hp q hq=>by
    obtain⟨p',hp',hpe⟩:=aq (b':=A3 f.kind 0) p hp;rw[<-hpe] at hq;exact hix p' o8 q hq)
   rw[<-hpl] at hc;simp only[<-hpl];refine M.w2 @hb @hc ?_;exact⟨rfl,trivial,(M.W [some 0,some 1,some 2,some 3,some 6] (he:=(by(repeat'(first|exact trivial|exact Or.inr ⟨_,U,rfl⟩|refine And.intro ?_ ?_|refine⟨_,U,_,U,_,U,?_⟩|exact Ap.refl _|exact Ap.of_eq kO));done)))⟩
  .exact sC
theorem Gx{f:Fm}{g:List Ty}(hok:f.A9 g)(hs:f.shape=true)(hz:f.size<=20000000)(hg:g.length<=100)(fr by_:Int)(h1:0<=fr/\fr<=100)(h2: -100<=by_/\by_<=100):
 PC E 34 [.agg f.view,.i fr,.i by_] (.agg (f.As fr by_).view):=by
 have hfl:=K4 f hs;rw[Yoz];exact Yqz by_ kn _ f fr (fB _) kn kn kn hs (fun p hp q hq=>by
  have a1:=TT hok hs p hp q hq;have a2:=Tm.AR p.1 (xj f hs 0 p hp) 0 q hq;omega)
theorem Zxk:∀(n:Nat) (f:Fm),f.size<=n->f.shape=true->PC E 162 [.agg f.view] (.bool (wi f)):=by
 intro n;induction n with
 |zero=>intro f h;have:=f.size_pos;omega
 |succ n ih=>
 intro f hz hs;rcases Ut hs with⟨k,_⟩|⟨k,_⟩|⟨k,_⟩
 .obtain ⟨a,b,rfl⟩:=QL hs k;exact Ygq a b
 .obtain ⟨a,b,e⟩:=MA hs k;rw[e] at hz hs;rw[R5] at hz;have ha:=ih a kn (zp hs kV);have hb:=ih b kn (zp hs kV);rcases k with k|k
  .rw[k] at e;subst e;have e:wi (vm 2 a b)=(wi a||wi b):=by rw[Mu];rfl
   rw[e];clear e hz hs k;unfold vm;cases h0:wi a with
   |true=>
    rw[h0] at ha;refine M.F Tryz.func162 ?_;refine M.v1 @ha ?_
    rfl
   |false=>
    rw[h0] at ha;refine M.F Tryz.func162 ?_;refine M.v2 @ha @hb ?_
    rfl
  .rw[k] at e;subst e;have e:wi (vm 3 a b)=wi b:=by rw[Mu];rfl
   rw[e];clear e hz hs k;unfold vm;refine M.F Tryz.func162 ?_;refine M.v1 @hb ?_
   rfl
 .obtain ⟨a,e⟩:=GM hs kn;rw[e] at hz hs;rw[NR] at hz;have ha:=ih a kn (zp hs k7);have e2:wi (AL f.kind f.ty a)=if f.kind=5 then true else wi a:=by
   rw[Mu];show(if f.kind=1 then false else if f.kind=2 then _ else if f.kind=5 then true else wi a)=_;rw[if_neg kn,if_neg kn]
  rw[<-e] at e2;rw[e2,e];clear e2 hz hs;generalize f.ty=s at*;rcases k with k|k|k|k;all_goals(rw[k])
  all_goals(clear e k)
  all_goals(unfold AL)
  all_goals(refine M.F Tryz.func162 ?_)
  all_goals(refine M.v1 @ha ?_)
  all_goals rfl
theorem Zyc(f:Fm)(he:f.err=0):PC E 102 [.agg f.view] (.AP [.bool (wi f),.i 0]):=by
 have s:=(Fm.Aa f).1 he;have h1:=MU f (by have:=K4 f s.1;omega);have h2:=Zxk _ f (fB _) s.1;rw[he] at h1;refine M.F Tryz.func102 ?_;refine M.w2 @h1 @h2 ?_
 rfl
theorem ZZ(l:List Int):PC E 192 [.s .int l] (.bool (GV l)):=by
 cases l with
 |nil=>
  refine M.F Tryz.func192 ?_;refine M.w0 ?_
  rfl
 |cons x l=>
  refine M.F Tryz.func192 ?_;(repeat' first|refine M.o0 ?_|refine M.gs ?_ ?_<;>intro h|refine M.z1 9 ?_|refine M.gk ?_|fail);all_goals first
   |rfl
   |(exfalso;simp at h;done)
   |(exfalso;simp at h;omega)
theorem Qf(t:Tm){g:List Ty}{T:Ty}(ht:t.err=0)(hi:t.inf g=(T,0))(hg:g.length<=100):PC E 194 [.agg t.view] (.s .int (FH t)):=by
 have s:=(Tm.Aa t).1 ht;have hfl:=ye ht;have h1:=Yk6 t kn (fun _ p hp=>by
  have a1:=Ot t g 0 (g.length+t.size) (by rw[hi]) s.1 kn p hp;have a2:=Tm.AR t s.1 0 p hp;omega)
 unfold FH;refine M.F Tryz.func194 ?_;refine M.w1 @h1 ?_;simp[zn,V.wk,V.Ar]
theorem NO(f:Fm)(t:Tm)(hf:f.full<549755813888)(ht:t.full<549755813888):PC E 195 [.agg f.view,.agg t.view] (.AP [.agg (Cr f t).1.view,.i (Cr f t).2]):=by
 have h1:=Ykj f 0 t hf ht;refine M.F Tryz.func195 ?_;refine M.w1 @h1 ?_
 rfl
theorem N2(c:Ck)(v h:Nat)(h1:c.tys.length<=1000/\v<=1000)(h2:c.hyps.length<=1000/\h<=1000):PC E 151 [.agg c.view,.i v,.i h] (.i (c.room v h)):=by
 unfold Ck.room;by_cases a1:c.tys.length+v>16
 .rw[if_pos (.inl a1)];have b1:decide (((c.tys.length:Nat):Int)+v>16)=true:=kC
  refine M.F Tryz.func151 ?_;(repeat' first|refine M.w0 ?_|refine M.gs ?_ ?_<;>intro h|refine M.cs ?_ ?_<;>intro h|fail);all_goals first
   |rfl
   |(exfalso;simp at*;omega)
 .by_cases a2:c.hyps.length+h>16
  .rw[if_pos (.inr a2)];refine M.F Tryz.func151 ?_;(repeat' first|refine M.w0 ?_|refine M.gs ?_ ?_<;>intro h|refine M.cs ?_ ?_<;>intro h|fail);all_goals first
    |rfl
    |(exfalso;simp at*;omega)
  .rw[if_neg kn];refine M.F Tryz.func151 ?_;(repeat' first|refine M.w0 ?_|refine M.gs ?_ ?_<;>intro h|refine M.cs ?_ ?_<;>intro h|fail);all_goals first
    |rfl
    |(exfalso;simp at*;omega)
theorem Sk(c:Ck)(f:Fm)(h:c.hyps.length<=1000):PC E 152 [.agg c.view,.agg f.view] (.agg (c.Ah f).view):=by
 unfold Ck.Ah;refine M.F Tryz.func152 ?_;refine M.w0 ?_
 rfl
theorem Wk(c:Ck)(t:Tm)(k:Int)(ht:t.full<137438953000)(hg:(c.tys.map Ty.size).sum<1099511627776):PC E 159 [.agg c.view,.agg t.view,.i k] (.i (E7 c t k)):=by
 have h1:=Vo c.tys t kn hg;unfold E7;by_cases e:(yx c.tys t).2=0
 .rw[if_neg (by simp[e])];rw[e] at h1;by_cases e2:(yx c.tys t).1.kind=k
  .rw[if_neg (by simp[e2])];refine M.F Tryz.func159 ?_;(repeat' first|refine M.w1 @h1 ?_|refine M.cs ?_ ?_<;>intro h|fail);all_goals first
    |rfl
    |(exfalso;simp at h;exact h e2)
  .rw[if_pos e2];refine M.F Tryz.func159 ?_;(repeat' first|refine M.w1 @h1 ?_|refine M.cs ?_ ?_<;>intro h|fail);all_goals first
    |rfl
    |(exfalso;simp at h;exact e2 h)
 .rw[if_pos e];refine M.F Tryz.func159 ?_;(repeat' first|refine M.w1 @h1 ?_|refine M.cs ?_ ?_<;>intro h|fail);all_goals first
   |rfl
   |(exfalso;simp_all;done)
theorem XD{acc l:List Int}{m:Nat}(hm:m<l.length):CZ acc (l.take (m+1))=El l[m] (CZ acc (l.take m)):=by
 rw[gQ hm,R1,Zz]
theorem KJ(a b:List Int)(ha:a.length<=100000)(hb:b.length<=100000):PC E 150 [.s .int a,.s .int b] (.s .int (Fl a b)):=by
 have hl1:=R4 a [];have hl2:=R4 b (CZ [] a);have hs:=cV (ks:=CZ (CZ [] a) b) (Ng (Ng jm)) (by simp at hl1;omega);refine M.F Tryz.func150 ?_;refine M.w0 ?_;refine M.rt a.length
  (fun m=>([(1,.s .int b),(5,.mp 0),(11,.s .int a),(12,.i a.length),(13,.i m)],⟨1,[(0,.map .bl (CZ [] (a.take m)) (List.replicate (CZ [] (a.take m)).length true))]⟩))
  ?_ ?_ ?_
 .simp only[gF,Rz,gB,List.replicate_zero];exact(M.W AJ)
 .exact rV
 .intro _;simp only[fH];refine M.w0 ?_;refine M.rt b.length
   (fun m=>([(5,.mp 0),(20,.s .int b),(21,.i b.length),(22,.i m)],⟨1,[(0,.map .bl (CZ (CZ [] a) (b.take m)) (List.replicate (CZ (CZ [] a) (b.take m)).length true))]⟩))
   ?_ ?_ ?_
  .simp only[gF,Rz];exact(M.W AJ)
  .exact rV
  .intro _;simp only[fH];refine M.w1 @hs ?_
   rfl
theorem Yem{l:List Int}{n:Int}{m:Nat}(hm:m<l.length):Eg (l.take (m+1)) n=if l[m]>=n then Eg (l.take m) n++[l[m]-n] else Eg (l.take m) n:=by
 unfold Eg;rw[gQ hm,List.filter_append,iE];by_cases h:l[m]>=n
 .rw[if_pos h];simp[List.filter,h]
 .rw[if_neg h];simp[List.filter,h]
theorem QK(l:List Int)(n:Int):(Eg l n).length<=l.length:=by unfold Eg;rw[gH];exact i6 _ _
theorem Sm(l:List Int)(n:Int)(hl:l.length<=100000)(hn:0<=n/\n<=100)(hx:∀x∈l,0<=x/\x<=1000000):PC E 191 [.s .int l,.i n] (.s .int (Eg l n)):=by
 refine M.F Tryz.func191 ?_;refine M.w0 ?_;refine M.rt l.length
  (fun m=>([(1,.i n),(5,.slice (.own 0) (.t .int (Eg (l.take m) n))),(8,.s .int l),(9,.i l.length),(10,.i m)],⟨1,[(0,.row)]⟩))
  (M.W [none]) ?_ ?_
 .intro m hm _;have hol:=QK (l.take m) n;have hol2:(Eg (l.take m) n).length<=l.length:=by rw[List.length_take] at hol;omega
  have hv:=hx l[m] (fA hm);have he:=Yem (n:=n) hm;(repeat' first|refine M.w0 ?_|refine M.cs ?_ ?_<;>intro h|fail)
  .have h':l[m]>=n:=ku
   rw[if_pos h'] at he;refine⟨rfl,trivial,?_⟩;simp only[he];exact(M.W [some 1])
  .have h':¬l[m]>=n:=ku
   rw[if_neg h'] at he;refine⟨rfl,trivial,?_⟩;simp only[he];exact(M.W AJ)
 .exact qt
abbrev En(f:Fm)(u:List Int)(e:Int):V:= .AP [.agg (f.view++[.s .int u]),.i e]
abbrev CX(r:Cj):V:= .AP [.agg r.1.view,.s .int r.2.1,.i r.2.2]
theorem Ck.ok.sum{c:Ck}(hc:c.ok):(c.tys.map Ty.size).sum<=1024:=by
 have h1:=hc.len;have h2:=SY (f:=Ty.size) (C:=64) c.tys fun x hx=>((Ty.Aa x).1 (hc.all x hx)).2;omega
theorem Ij{c:Ck}(hc:c.ok){f:Fm}{u:List Int}{e:Int}(h:GI c (f,u,e)):f.full<=266240/\u.length<=16/\∀x∈u,0<=x/\x<=1000000:=by
 have hl:=hc.len;by_cases he:e=0
 .obtain ⟨h1,_,h3⟩:=h.1 he;have h4:=h3.len;refine⟨yh h1,by simp only at h4;omega,fun x hx=> ?_⟩;have:=h3.2 x hx;omega
 .have h1:=h.2 he;simp only[yf,kB] at h1;rw[h1.1,h1.2.1];exact⟨kq,ko,fun x hx=>by cases hx⟩
theorem Ylz{c:Ck}(hc:c.ok)(i:Int)(hi:0<=i):PC E 101 [.agg c.view,.agg (Pf.mk 1 i (.mk 0 []) [] [] []).view] (CX (G6 c i)):=by
 have hn:=hc.nh;unfold G6;by_cases h1:i>=c.hyps.length
 .exact qV
 .rw[if_neg h1];have hlt:c.hyps.length-1-i.toNat<c.hyps.length:=kn
  rw[vg hlt];simp only[Pf.view,Pf.kind,Pf.index,Pf.ty,Pf.terms,Pf.Ae,Pf.args];refine M.F Tryz.func101 ?_;(repeat' first|refine M.v0 ?_|refine M.cs ?_ ?_<;>intro h|fail)
  .exact qW
  .refine L.Fc (c.hyps.length-1-i.toNat) rfl rfl rfl rfl kn rfl rfl kn ?_;refine M.w0 ?_
   rfl
theorem Yns{c:Ck}(hc:c.ok)(i:Int)(hi:0<=i):PC E 101 [.agg c.view,.agg (Pf.mk 2 i (.mk 0 []) [] [] []).view] (CX (G5 c i)):=by
 have hn:=hc.nl;unfold G5;by_cases h1:i>=c.lems.length
 .exact qV
 .rw[if_neg h1];have hlt:i.toNat<c.lems.length:=kn
  rw[vg hlt];simp only[Pf.view,Pf.kind,Pf.index,Pf.ty,Pf.terms,Pf.Ae,Pf.args];refine M.F Tryz.func101 ?_;(repeat' first|refine M.v0 ?_|refine M.cs ?_ ?_<;>intro h|fail)
  .exact qW
  .refine L.Fc i.toNat rfl rfl rfl rfl kn rfl rfl kn ?_;refine M.w0 ?_
   rfl
section
variable {c:Ck} (hc:c.ok) {p q:Pf} {f0 f1:Fm} {u0 u1:List Int} {e0 e1:Int}
include hc
theorem Yno(hp:PC E 41 [.agg c.view,.agg p.view] (En f0 u0 e0))(hq:PC E 41 [.agg c.view,.agg q.view] (En f1 u1 e1))(o0:GI c (f0,u0,e0))(o1:GI c (f1,u1,e1)):
 PC E 101 [.agg c.view,.agg (Pf.mk 3 0 (.mk 0 []) [] [] [p,q]).view] (CX (Hx (fun _=>(f0,u0,e0)) (fun _=>(f1,u1,e1)) c)):=by
 have b0:=Ij hc o0;have b1:=Ij hc o1;have h2:=Pm 2 f0 f1 kn kn;have h3:=KJ u0 u1 kn kn;unfold Hx;by_cases he:e0=0
 .subst he;rw[if_neg ko];refine M.F Tryz.func101 ?_;refine M.v4 @hp @hq @h2 @h3 ?_
  rfl
 .rw[if_pos he];refine M.F Tryz.func101 ?_;(repeat' first|refine M.v4 @hp @hq @h2 @h3 ?_|refine M.cs ?_ ?_<;>intro h|fail);all_goals first
   |rfl
   |(exfalso;simp at h;exact he h)
theorem bT(j:Nat)(hj:j<2)(hp:PC E 41 [.agg c.view,.agg p.view] (En f0 u0 e0))(o0:GI c (f0,u0,e0)):
 PC E 101 [.agg c.view,.agg (Pf.mk (4+j) 0 (.mk 0 []) [] [] [p]).view] (CX (G4 j (fun _=>(f0,u0,e0)) c)):=by
 unfold G4;by_cases he:e0=0
 .subst he;rw[if_neg ko];by_cases hk:f0.kind=2
  .rw[if_neg (by simp[hk])];obtain⟨x,y,e⟩:=MA ((Fm.Aa _).1 (o0.1 rfl).1).1 (.inl hk);simp only at e;rw[hk] at e;subst e;rcases j with _|_|j
   .refine M.F Tryz.func101 ?_;refine M.v1 @hp ?_
    rfl
   .refine M.F Tryz.func101 ?_;refine M.v1 @hp ?_
    rfl
   .omega
  .rw[if_pos hk];rcases j with _|_|j
   .exact qz
   .exact qz
   .omega
 .rw[if_pos he];rcases j with _|_|j
  .exact qA
  .exact qA
  .omega
theorem Yfo{f:Fm}(hf:f.full<=300000)(hp:y8 c.tys f=0->c.room 0 1=0->PC E 41 [.agg (c.Ah f).view,.agg p.view] (En f0 u0 e0))(b0:y8 c.tys f=0->c.room 0 1=0->f0.full<=266240):
 PC E 101 [.agg c.view,.agg (Pf.mk 6 0 (.mk 0 []) [] [f] [p]).view] (CX (Hr f (fun _=>(f0,u0,e0)) c)):=by
 have hl:=hc.len;have hn:=hc.nh;have h1:=SD c.tys f kn (by have:=hc.sum;omega);have h2:=N2 c 0 1 kn kn;have h3:=Sk c f kn;unfold Hr;by_cases t0:y8 c.tys f=0
 .rw[if_neg mF];rw[t0] at h1;by_cases r0:c.room 0 1=0
  .rw[if_neg (by simp[r0])];rw[r0] at h2;have h5:=hp t0 r0;have b1:=b0 t0 r0;have h4:=Pm 3 f f0 kn kn;refine M.F Tryz.func101 ?_;refine M.v5 @h1 @h2 @h3 @h4 @h5 ?_
   rfl
  .rw[if_pos r0];rw[Oz r0] at h2;refine M.F Tryz.func101 ?_;refine M.v2 @h1 @h2 ?_
   rfl
 .rw[if_pos t0];refine M.F Tryz.func101 ?_;(repeat' first|refine M.o1 @h1 ?_|refine M.z1 29 ?_|refine M.bl ?_|refine M.cs ?_ ?_<;>intro h|refine M.gk ?_|fail);all_goals first
   |rfl
   |(exfalso;simp at h;exact t0 h)
theorem Ygm(hp:PC E 41 [.agg c.view,.agg p.view] (En f0 u0 e0))(hq:PC E 41 [.agg c.view,.agg q.view] (En f1 u1 e1))(o0:GI c (f0,u0,e0))(o1:GI c (f1,u1,e1)):
 PC E 101 [.agg c.view,.agg (Pf.mk 7 0 (.mk 0 []) [] [] [p,q]).view] (CX (HA (fun _=>(f0,u0,e0)) (fun _=>(f1,u1,e1)) c)):=by
 have b0:=Ij hc o0;have b1:=Ij hc o1;have h3:=KJ u0 u1 kn kn;unfold HA;by_cases he:e0=0;case neg=>
  rw[if_pos he];refine M.F Tryz.func101 ?_;(repeat' first|refine M.o1 @hp ?_|refine M.z1 38 ?_|refine M.bl ?_|refine M.cs ?_ ?_<;>intro h|refine M.gk ?_|fail);all_goals first
   |rfl
   |(exfalso;simp at h;exact he h)
 subst he;rw[if_neg ko];by_cases hk:f0.kind=3;case neg=>
  rw[if_pos hk];refine M.F Tryz.func101 ?_;(repeat' first|refine M.v1 @hp ?_|refine M.cs ?_ ?_<;>intro h|fail);all_goals first
   |rfl
   |(exfalso;simp at h;exact hk h)
   |trace_state
 rw[if_neg (by simp[hk])];obtain⟨x,y,e⟩:=MA ((Fm.Aa _).1 (o0.1 rfl).1).1 (.inr hk);simp only at e;rw[hk] at e;subst e;by_cases he1:e1=0;case neg=>
  rw[if_pos he1];refine M.F Tryz.func101 ?_;(repeat' first|refine M.v2 @hp @hq ?_|refine M.cs ?_ ?_<;>intro h|fail);all_goals first
   |rfl
   |(exfalso;simp at h;exact he1 h)
   |trace_state
 subst he1;rw[if_neg ko];have ex:=xh (o0.1 rfl).1 (x:=x) kV;have h4:=QI x f1 (by have:=yh ex;omega) kn;refine M.F Tryz.func101 ?_;refine M.v4 @hp @hq @h3 @h4 ?_
 rfl
end
end Go.Ab
