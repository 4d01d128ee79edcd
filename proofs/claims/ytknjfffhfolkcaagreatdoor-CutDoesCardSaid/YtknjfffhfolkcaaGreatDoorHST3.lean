/- A part of this seat's proofs. No conditions. -/
import Derived.Test.YtknjfffhfolkcaaGreatDoorHS10
import Derived.Test.YtknjfffhfolkcaaGreatDoorHST1
namespace Go.Ab
open Go Go.Proofs
set_option maxRecDepth 100000
set_option maxHeartbeats 4000000
set_option linter.all false
theorem Fm.Lv(G:Int->Tm->Tm)(c:Int)(f:Fm):∀b,f.re (fun b t=>G (c+b) t) b=f.re G (c+b):=by
 induction f using Fm.ind with
 |h f ih=>
  intro b;rw[Fm.Bt,Fm.Bt];congr 1;refine Xc fun x hx=> ?_;have e:A3 f.kind (c+b)=c+A3 f.kind b:=by simp only[A3];split<;>omega
  rw[e];exact ih x hx _
theorem Yih(f:Fm)(fr by_:Int):f.A9 fr by_=f.re (fun b t=>t.re (zx b by_) 0) fr:=by
 have:=Fm.Lv (fun b t=>t.re (zx b by_) 0) fr f 0;rw[XO] at this;exact this
theorem Vz(by_:Int)(hby: -549755813888<=by_/\by_<=549755813888):∀(n:Nat) (f:Fm) (fr:Int),f.full<=n->n<274877906944->-274877906944<=fr->fr+n<549755813888->f.shape=true->(∀p∈f.AZ 0,∀q∈p.1.vars 0,0<=q.1/\q.1<549755813888)->
 PC E 41 [.agg f.view,.i fr,.i by_] (.agg (f.re (fun b t=>t.re (zx b by_) 0) fr).view):=by
 intro n;induction n with
 |zero=>intro f dp h;have:=f.Aa;omega
 |succ n ih=>
 intro f fr hsz hn h1 h2 hf hix;have hsz':=f.Af;have hlen:=zd Fm.full Fm.Aa f.args;have hlen2:=zd Tm.full Tm.Aa f.terms;have hup:=JL f.kind fr;have hpl:=MX f.kind fr;have hb:=MH f;have he:=Fm.Bt (fun b t=>t.re (zx b by_) 0) fr f;have htm:=f.Ba 0;refine M.F Tryz.func41 ?_;(repeat' first|refine M.gw ?_|fail);refine AW.range f.terms.length (fun m=>True) (fun m=>([(1,.i fr),(2,.i by_),(3,.ptr 0 0),(6,.ptr 1 0),(7,.ptr 2 0),(18,.s .tm f.terms),(19,.i f.terms.length),(20,.i m)],⟨4,[(0,.var f.view),(1,.var [.i 0,.i 0,.slice .nil (.t .ty []),.slice .nil (.t .tm []),.slice .nil (.t .fm [])]),(2,.var [.i f.kind,.i f.ty.kind,.s .ty f.ty.args,.slice (.own 3) (.t .tm ((f.terms.take m).map fun t=>t.re (zx fr by_) 0)),.slice .nil (.t .fm [])]),(3,.row)]⟩))
  (by omega) (fun m=>rfl) (fun m=>rfl) rfl trivial (M.W [some 0,some 1,some 2,none]) ?_ ?_
 .intro m hm _;have hs2:=za Tm.full (Wi hm);have hc:=J2 by_ hby _ f.terms[m] fr (Wj _) (by omega) (by omega) (by omega) (yg hf (Wi hm)) (fun p hp=>hix (f.terms[m],0) (by rw[htm];exact XB _ (WA.2 ⟨_,Wi hm,rfl⟩)) p hp);(repeat' first|refine M.gw ?_|refine M.c2 (hc) ?_|fail);exact⟨rfl,trivial,(M.W [some 0,some 1,some 2,some 5] (he:=(by(repeat'(first|exact trivial|exact Or.inr ⟨_,U,rfl⟩|refine And.intro ?_ ?_|refine⟨_,U,_,U,_,U,?_⟩|exact Ao.refl _|exact Ao.of_eq (by simp[Aq.Ay,zy _ _ _ hm])));done)))⟩
 .intro _;simp only[Wp];(repeat' first|refine M.gw ?_|fail);refine AW.range f.args.length (fun m=>True) (fun m=>([(1,.i fr),(2,.i by_),(3,.ptr 0 0),(6,.ptr 1 0),(7,.ptr 2 0),(35,.s .fm f.args),(36,.i f.args.length),(37,.i m)],⟨5,[(0,.var f.view),(1,.var [.i 0,.i 0,.slice .nil (.t .ty []),.slice .nil (.t .tm []),.slice .nil (.t .fm [])]),(2,.var [.i f.kind,.i f.ty.kind,.s .ty f.ty.args,.slice (.own 3) (.t .tm (f.terms.map fun t=>t.re (zx fr by_) 0)),.slice (.own 4) (.t .fm ((f.args.take m).map fun x=>x.re (fun b t=>t.re (zx b by_) 0) (A3 f.kind fr)))]),(3,.row),(4,.row)]⟩))
   (by omega) (fun m=>rfl) (fun m=>rfl) rfl trivial (M.W [some 0,some 1,some 2,some 3,none]) ?_ ?_
  .intro m hm _;have hs2:=za Fm.full (Wi hm);have hc:=ih f.args[m] (A3 f.kind fr) (by omega) (by omega) (by omega) (by omega) (zv hf (Wi hm)) (fun p hp q hq=>by
    obtain⟨p',hp',hpe⟩:=SH (b':=A3 f.kind 0) p hp;rw[<-hpe] at hq;exact hix p' (by rw[htm];exact W7 _ (WL.2 ⟨_,Wi hm,hp'⟩)) q hq)
   rw[<-hpl] at hc;simp only[<-hpl];(repeat' first|refine M.gw ?_|refine M.c2 (hb) ?_|refine M.c2 (hc) ?_|fail);exact⟨rfl,trivial,(M.W [some 0,some 1,some 2,some 3,some 6] (he:=(by(repeat'(first|exact trivial|exact Or.inr ⟨_,U,rfl⟩|refine And.intro ?_ ?_|refine⟨_,U,_,U,_,U,?_⟩|exact Ao.refl _|exact Ao.of_eq (by simp[Aq.Ay,zy _ _ _ hm])));done)))⟩
  .intro _;simp only[Wp];(repeat' first|refine M.gw ?_|fail);rw[he]
   rfl
theorem E1{f:Fm}{g:List Ty}(hok:f.Bg g)(hs:f.shape=true)(hz:f.size<=20000000)(hg:g.length<=100)(fr by_:Int)(h1:0<=fr/\fr<=100)(h2: -100<=by_/\by_<=100):
 PC E 41 [.agg f.view,.i fr,.i by_] (.agg (f.A9 fr by_).view):=by
 have hfl:=ux f hs;rw[Yih];exact Vz by_ (by omega) _ f fr (Wj _) (by omega) (by omega) (by omega) hs (fun p hp q hq=>by
  have a1:=Ow hok hs p hp q hq;have a2:=Tm.AE p.1 (JD f hs 0 p hp) 0 q hq;omega)
theorem Zse:∀(n:Nat) (f:Fm),f.size<=n->f.shape=true->PC E 154 [.agg f.view] (.bool (Ef f)):=by
 intro n;induction n with
 |zero=>intro f h;have:=f.size_pos;omega
 |succ n ih=>
 intro f hz hs;rcases P5 hs with⟨k,_⟩|⟨k,_⟩|⟨k,_⟩
 .obtain ⟨a,b,rfl⟩:=Py hs k;exact Yar a b
 .obtain ⟨a,b,e⟩:=Ks hs k;rw[e] at hz hs;rw[L7] at hz;have ha:=ih a (by omega) (zv hs (by simp[Cp]));have hb:=ih b (by omega) (zv hs (by simp[Cp]));rcases k with k|k
  .rw[k] at e;subst e;have e:Ef (Cp 2 a b)=(Ef a||Ef b):=by rw[Ot];rfl
   rw[e];clear e hz hs k;unfold Cp;cases h0:Ef a with
   |true=>
    rw[h0] at ha;refine M.F Tryz.func154 ?_;(repeat' first|refine M.gw ?_|refine M.c2 (ha) ?_|refine M.bl ?_|fail)
    rfl
   |false=>
    rw[h0] at ha;refine M.F Tryz.func154 ?_;(repeat' first|refine M.gw ?_|refine M.c2 (ha) ?_|refine M.c2 (hb) ?_|refine M.bl ?_|fail)
    rfl
  .rw[k] at e;subst e;have e:Ef (Cp 3 a b)=Ef b:=by rw[Ot];rfl
   rw[e];clear e hz hs k;unfold Cp;refine M.F Tryz.func154 ?_;(repeat' first|refine M.gw ?_|refine M.c2 (hb) ?_|refine M.bl ?_|fail)
   rfl
 .obtain ⟨a,e⟩:=GX hs (by omega);rw[e] at hz hs;rw[JF] at hz;have ha:=ih a (by omega) (zv hs (by simp[Br]));have e2:Ef (Br f.kind f.ty a)=if f.kind=5 then true else Ef a:=by
   rw[Ot];show(if f.kind=1 then false else if f.kind=2 then _ else if f.kind=5 then true else Ef a)=_;rw[if_neg (by omega),if_neg (by omega)]
  rw[<-e] at e2;rw[e2,e];clear e2 hz hs;generalize f.ty=s at*;rcases k with k|k|k|k;all_goals(rw[k])
  all_goals(clear e k)
  all_goals(unfold Br)
  all_goals(refine M.F Tryz.func154 ?_)
  all_goals(repeat'(first|refine M.gw ?_|refine M.c2 (ha) ?_|refine M.bl ?_|fail))
  all_goals rfl
theorem Zs3(f:Fm)(he:f.err=0):PC E 108 [.agg f.view] (.AD [.bool (Ef f),.i 0]):=by
 have s:=(Fm.Ad f).1 he;have h1:=JT f (by have:=ux f s.1;omega);have h2:=Zse _ f (Wj _) s.1;rw[he] at h1;refine M.F Tryz.func108 ?_;(repeat' first|refine M.gw ?_|refine M.c2 (h1) ?_|refine M.c2 (h2) ?_|fail)
 rfl
theorem VG(l:List Int):PC E 184 [.s .int l] (.bool (Jw l)):=by
 cases l with
 |nil=>
  refine M.F Tryz.func184 ?_;(repeat' first|refine M.gw ?_|fail)
  rfl
 |cons x l=>
  refine M.F Tryz.func184 ?_;(repeat' first|refine M.go ?_|refine M.gs ?_ ?_<;>intro h|refine M.z1 9 ?_|refine M.gk ?_|fail);all_goals first
   |rfl
   |(exfalso;simp at h;done)
   |(exfalso;simp at h;omega)
theorem Mi(t:Tm){g:List Ty}{T:Ty}(ht:t.err=0)(hi:t.inf g=(T,0))(hg:g.length<=100):PC E 186 [.agg t.view] (.s .int (E4 t)):=by
 have s:=(Tm.Ad t).1 ht;have hfl:=z6 ht;have h1:=Yd8 t (by omega) (fun _ p hp=>by
  have a1:=Ly t g 0 (g.length+t.size) (by rw[hi]) s.1 (by omega) p hp;have a2:=Tm.AE t s.1 0 p hp;omega)
 unfold E4;refine M.F Tryz.func186 ?_;(repeat' first|refine M.gw ?_|refine M.c2 (h1) ?_|fail);simp[zk,V.wk,V.Ap]
theorem Jz(f:Fm)(t:Tm)(hf:f.full<549755813888)(ht:t.full<549755813888):PC E 187 [.agg f.view,.agg t.view] (.AD [.agg (Du f t).1.view,.i (Du f t).2]):=by
 have h1:=Ye2 f 0 t hf ht;refine M.F Tryz.func187 ?_;(repeat' first|refine M.gw ?_|refine M.c2 (h1) ?_|fail)
 rfl
theorem LR(c:Ck)(v h:Nat)(h1:c.tys.length<=1000/\v<=1000)(h2:c.hyps.length<=1000/\h<=1000):PC E 141 [.agg c.view,.i v,.i h] (.i (c.room v h)):=by
 unfold Ck.room;by_cases a1:c.tys.length+v>16
 .rw[if_pos (.inl a1)];have b1:decide (((c.tys.length:Nat):Int)+v>16)=true:=by simp;omega
  refine M.F Tryz.func141 ?_;(repeat' first|refine M.gw ?_|refine M.gs ?_ ?_<;>intro h|refine M.cs ?_ ?_<;>intro h|fail);all_goals first
   |rfl
   |(exfalso;simp at*;omega)
 .by_cases a2:c.hyps.length+h>16
  .rw[if_pos (.inr a2)];refine M.F Tryz.func141 ?_;(repeat' first|refine M.gw ?_|refine M.gs ?_ ?_<;>intro h|refine M.cs ?_ ?_<;>intro h|fail);all_goals first
    |rfl
    |(exfalso;simp at*;omega)
  .rw[if_neg (by omega)];refine M.F Tryz.func141 ?_;(repeat' first|refine M.gw ?_|refine M.gs ?_ ?_<;>intro h|refine M.cs ?_ ?_<;>intro h|fail);all_goals first
    |rfl
    |(exfalso;simp at*;omega)
theorem Nj(c:Ck)(f:Fm)(h:c.hyps.length<=1000):PC E 142 [.agg c.view,.agg f.view] (.agg (c.AA f).view):=by
 unfold Ck.AA;refine M.F Tryz.func142 ?_;(repeat' first|refine M.gw ?_|fail)
 rfl
theorem O2(c:Ck)(t:Tm)(k:Int)(ht:t.full<137438953000)(hg:(c.tys.map Ty.size).sum<1099511627776):PC E 150 [.agg c.view,.agg t.view,.i k] (.i (E2 c t k)):=by
 have h1:=OI c.tys t (by omega) hg;unfold E2;by_cases e:(yz c.tys t).2=0
 .rw[if_neg (by simp[e])];rw[e] at h1;by_cases e2:(yz c.tys t).1.kind=k
  .rw[if_neg (by simp[e2])];refine M.F Tryz.func150 ?_;(repeat' first|refine M.gw ?_|refine M.c2 (h1) ?_|refine M.cs ?_ ?_<;>intro h|fail);all_goals first
    |rfl
    |(exfalso;simp at h;exact h e2)
  .rw[if_pos e2];refine M.F Tryz.func150 ?_;(repeat' first|refine M.gw ?_|refine M.c2 (h1) ?_|refine M.cs ?_ ?_<;>intro h|fail);all_goals first
    |rfl
    |(exfalso;simp at h;exact e2 h)
 .rw[if_pos e];refine M.F Tryz.func150 ?_;(repeat' first|refine M.gw ?_|refine M.c2 (h1) ?_|refine M.cs ?_ ?_<;>intro h|fail);all_goals first
   |rfl
   |(exfalso;simp_all;done)
theorem Vw{acc l:List Int}{m:Nat}(hm:m<l.length):Cw acc (l.take (m+1))=ur l[m] (Cw acc (l.take m)):=by
 rw[Xj hm,Nn,TE]
theorem uy(a b:List Int)(ha:a.length<=100000)(hb:b.length<=100000):PC E 140 [.s .int a,.s .int b] (.s .int (vp a b)):=by
 have hl1:=Ny a [];have hl2:=Ny b (Cw [] a);have hs:=VD (ks:=Cw (Cw [] a) b) (Ju (Ju Yx)) (by simp at hl1;omega);refine M.F Tryz.func140 ?_;(repeat' first|refine M.gw ?_|fail);refine AW.range a.length (fun m=>True)
  (fun m=>([(1,.s .int b),(5,.mp 0),(11,.s .int a),(12,.i a.length),(13,.i m)],⟨1,[(0,.map .bl (Cw [] (a.take m)) (List.replicate (Cw [] (a.take m)).length true))]⟩))
  (by omega) (fun m=>rfl) (fun m=>rfl) rfl trivial ?_ ?_ ?_
 .simp only[WX,Ms,W3,List.replicate_zero];exact(M.W [some 0])
 .intro m hm _;(repeat' first|refine M.gw ?_|fail);refine⟨rfl,trivial,?_⟩;simp only[Vw hm];rw[<-OM];exact(M.W [some 0])
 .intro _;simp only[Wp];(repeat' first|refine M.gw ?_|fail);refine AW.range b.length (fun m=>True)
   (fun m=>([(5,.mp 0),(20,.s .int b),(21,.i b.length),(22,.i m)],⟨1,[(0,.map .bl (Cw (Cw [] a) (b.take m)) (List.replicate (Cw (Cw [] a) (b.take m)).length true))]⟩))
   (by omega) (fun m=>rfl) (fun m=>rfl) rfl trivial ?_ ?_ ?_
  .simp only[WX,Ms];exact(M.W [some 0])
  .intro m hm _;(repeat' first|refine M.gw ?_|fail);refine⟨rfl,trivial,?_⟩;simp only[Vw hm];rw[<-OM];exact(M.W [some 0])
  .intro _;simp only[Wp];(repeat' first|refine M.gw ?_|refine M.cb (hs) [0] 0 ?_|fail)
   rfl
theorem Zwa{l:List Int}{n:Int}{m:Nat}(hm:m<l.length):DR (l.take (m+1)) n=if l[m]>=n then DR (l.take m) n++[l[m]-n] else DR (l.take m) n:=by
 unfold DR;rw[Xj hm,List.filter_append,Xv];by_cases h:l[m]>=n
 .rw[if_pos h];simp[List.filter,h]
 .rw[if_neg h];simp[List.filter,h]
theorem NY(l:List Int)(n:Int):(DR l n).length<=l.length:=by unfold DR;rw[Xt];exact X9 _ _
theorem Nr(l:List Int)(n:Int)(hl:l.length<=100000)(hn:0<=n/\n<=100)(hx:∀x∈l,0<=x/\x<=1000000):PC E 183 [.s .int l,.i n] (.s .int (DR l n)):=by
 refine M.F Tryz.func183 ?_;(repeat' first|refine M.gw ?_|fail);refine AW.range l.length (fun m=>True)
  (fun m=>([(1,.i n),(5,.slice (.own 0) (.t .int (DR (l.take m) n))),(8,.s .int l),(9,.i l.length),(10,.i m)],⟨1,[(0,.row)]⟩))
  (by omega) (fun m=>rfl) (fun m=>rfl) rfl trivial (M.W [none]) ?_ ?_
 .intro m hm _;have hol:=NY (l.take m) n;have hol2:(DR (l.take m) n).length<=l.length:=by rw[Yg] at hol;omega
  have hv:=hx l[m] (Wi hm);have he:=Zwa (n:=n) hm;(repeat' first|refine M.gw ?_|refine M.cs ?_ ?_<;>intro h|fail)
  .have h':l[m]>=n:=by simpa using h
   rw[if_pos h'] at he;refine⟨rfl,trivial,?_⟩;simp only[he];exact(M.W [some 1])
  .have h':¬l[m]>=n:=by simpa using h
   rw[if_neg h'] at he;refine⟨rfl,trivial,?_⟩;simp only[he];exact(M.W [some 0])
 .intro _;simp only[Wp];(repeat' first|refine M.gw ?_|fail)
  rfl
theorem M8(c:Ck)(hc:c.ok)(l:List Ty)(hl:0<l.length)(hl2:l.length<=2):PC E 182 [.agg c.view,.s .ty l] (.agg (c.below l).view):=by
 have hlen:=hc.len;have hnh:=hc.nh;refine M.F Tryz.func182 ?_;(repeat' first|refine M.gw ?_|fail);refine AW.range c.hyps.length (fun m=>True)
  (fun m=>([(1,.s .ty l),(2,.ptr 0 0),(4,.ptr 1 0),(5,.ptr 3 0),(23,.s .fm c.hyps),(24,.i c.hyps.length),(25,.i m)],⟨5,[(0,.var c.view),(1,.var [.slice .nil (.t .fm []),.slice .nil (.t .ty []),.slice .nil (.t .fm [])]),(2,.row),(3,.var [.s .fm c.lems,.slice (.own 2) (.t .ty (c.tys++l)),.slice (.own 4) (.t .fm ((c.hyps.take m).map fun f=>f.A9 0 l.length))]),(4,.row)]⟩))
  (by omega) (fun m=>rfl) (fun m=>rfl) rfl trivial (M.W [some 0,some 1,some 2,some 3,none]) ?_ ?_
 .intro m hm _;obtain⟨h1,h2⟩:=hc.hyps c.hyps[m] (Wi hm);have s:=(Fm.Ad _).1 h1;have hcall:=E1 h2 s.1 (by omega) (by omega) 0 l.length (by omega) (by omega);(repeat' first|refine M.gw ?_|refine M.c2 (hcall) ?_|fail);exact⟨rfl,trivial,(M.W [some 0,some 1,some 2,some 3,some 6] (he:=(by(repeat'(first|exact trivial|exact Or.inr ⟨_,U,rfl⟩|refine And.intro ?_ ?_|refine⟨_,U,_,U,_,U,?_⟩|exact Ao.refl _|exact Ao.of_eq (by simp[Aq.Ay,zy _ _ _ hm])));done)))⟩
 .intro _;simp only[Wp];(repeat' first|refine M.gw ?_|fail)
  rfl
theorem RN:∀{l:List Tm} {m:Nat} (hm:m<l.length),(∀j (hj:j<l.length),j<m->(xp l[j] 1000).2.2=0)->(xp l[m] 1000).2.2≠0->uu l=([],(xp l[m] 1000).2.2)
 |[],m,hm,_,_=>by simp at hm
 |x::l,0,hm,_,h=>by simp only[uu,Wu] at h ⊢;rw[if_pos h]
 |x::l,m+1,hm,h0,h=>by
  have h1:=h0 0 (by simp) (by omega);simp only[Wu] at h1;simp only[WM] at h ⊢;have h2:=RN (l:=l) (m:=m) (by simpa using hm) (fun j hj hjm=>by have:=h0 (j+1) (by simpa using hj) (by omega);simpa using this) h;simp only[uu];rw[if_neg (by simp[h1]),h2,if_pos h]
theorem Sk:∀{l:List Tm},(∀j (hj:j<l.length),j<l.length->(xp l[j] 1000).2.2=0)->uu l=(l.map fun t=>(xp t 1000).1,0)
 |[],_=>rfl
 |x::l,h0=>by
  have h1:=h0 0 (by simp) (by simp);simp only[Wu] at h1;have h2:=Sk (l:=l) fun j hj _=>by have:=h0 (j+1) (by simpa using hj) (by simpa using hj);simpa using this
  simp only[uu];rw[if_neg (by simp[h1]),h2];rfl
theorem Vg:∀{l:List Fm} {m:Nat} (hm:m<l.length),(∀j (hj:j<l.length),j<m->(xw l[j]).2=0)->(xw l[m]).2≠0->y8 l=([],(xw l[m]).2)
 |[],m,hm,_,_=>by simp at hm
 |x::l,0,hm,_,h=>by simp only[y8,Wu] at h ⊢;rw[if_pos h]
 |x::l,m+1,hm,h0,h=>by
  have h1:=h0 0 (by simp) (by omega);simp only[Wu] at h1;simp only[WM] at h ⊢;have h2:=Vg (l:=l) (m:=m) (by simpa using hm) (fun j hj hjm=>by have:=h0 (j+1) (by simpa using hj) (by omega);simpa using this) h;simp only[y8];rw[if_neg (by simp[h1]),h2,if_pos h]
theorem Wg:∀{l:List Fm},(∀j (hj:j<l.length),j<l.length->(xw l[j]).2=0)->y8 l=(l.map fun t=>(xw t).1,0)
 |[],_=>rfl
 |x::l,h0=>by
  have h1:=h0 0 (by simp) (by simp);simp only[Wu] at h1;have h2:=Wg (l:=l) fun j hj _=>by have:=h0 (j+1) (by simpa using hj) (by simpa using hj);simpa using this
  simp only[y8];rw[if_neg (by simp[h1]),h2];rfl
theorem Zvg:∀(n:Nat) (f:Fm),f.full<=n->n<274877906944->PC E 190 [.agg f.view] (.AD [.agg (xw f).1.view,.i (xw f).2]):=by
 intro n;induction n with
 |zero=>intro f h;have:=f.Aa;omega
 |succ n ih=>
 intro f hsz hn;have hsz':=f.Af;have hlen:=zd Fm.full Fm.Aa f.args;have hlen2:=zd Tm.full Tm.Aa f.terms;have he:=Uf f;refine M.F Tryz.func190 ?_;(repeat' first|refine M.gw ?_|fail);refine AW.range f.terms.length (fun m=>∀j (hj:j<f.terms.length),j<m->(xp f.terms[j] 1000).2.2=0)
  (fun m=>([(1,.ptr 0 0),(2,.ptr 1 0),(4,.ptr 2 0),(20,.s .tm f.terms),(21,.i f.terms.length),(22,.i m)],⟨4,[(0,.var f.view),(1,.var [.i 0,.i 0,.slice .nil (.t .ty []),.slice .nil (.t .tm []),.slice .nil (.t .fm [])]),(2,.var [.i f.kind,.i f.ty.kind,.s .ty f.ty.args,.slice (.own 3) (.t .tm ((f.terms.take m).map fun t=>(xp t 1000).1)),.slice .nil (.t .fm [])]),(3,.row)]⟩))
  (by omega) (fun m=>rfl) (fun m=>rfl) rfl (fun j hj h=>by omega) (M.W [some 0,some 1,some 2,none]) ?_ ?_
 .intro m hm hP;have hs2:=za Tm.full (Wi hm);have hc:=Oc f.terms[m] 1000 (by omega);by_cases hx:(xp f.terms[m] 1000).2.2=0
  .rw[hx] at hc;(repeat' first|refine M.gw ?_|refine M.c2 (hc) ?_|fail);exact⟨rfl,ya (p:=fun t=>(xp t 1000).2.2=0) hm hP hx,(M.W [some 0,some 1,some 2,some 6] (he:=(by(repeat'(first|exact trivial|exact Or.inr ⟨_,U,rfl⟩|refine And.intro ?_ ?_|refine⟨_,U,_,U,_,U,?_⟩|exact Ao.refl _|exact Ao.of_eq (by simp[Aq.Ay,zy _ _ _ hm])));done)))⟩
  .have e1:=RN hm hP hx;rw[e1,if_pos hx] at he;rw[he];(repeat' first|refine M.gw ?_|refine M.c2 (hc) ?_|refine M.cs ?_ ?_<;>intro h|fail);all_goals first
    |rfl
    |(exfalso;simp at h;exact hx h)
 .intro hP;have e1:=Sk (l:=f.terms) fun j hj _=>hP j hj hj;rw[e1,if_neg (by simp)] at he;simp only[Wp];(repeat' first|refine M.gw ?_|fail);refine AW.range f.args.length (fun m=>∀j (hj:j<f.args.length),j<m->(xw f.args[j]).2=0)
   (fun m=>([(1,.ptr 0 0),(2,.ptr 1 0),(4,.ptr 2 0),(44,.s .fm f.args),(45,.i f.args.length),(46,.i m)],⟨5,[(0,.var f.view),(1,.var [.i 0,.i 0,.slice .nil (.t .ty []),.slice .nil (.t .tm []),.slice .nil (.t .fm [])]),(2,.var [.i f.kind,.i f.ty.kind,.s .ty f.ty.args,.slice (.own 3) (.t .tm (f.terms.map fun t=>(xp t 1000).1)),.slice (.own 4) (.t .fm ((f.args.take m).map fun x=>(xw x).1))]),(3,.row),(4,.row)]⟩))
   (by omega) (fun m=>rfl) (fun m=>rfl) rfl (fun j hj h=>by omega) (M.W [some 0,some 1,some 2,some 3,none]) ?_ ?_
  .intro m hm hP2;have hs2:=za Fm.full (Wi hm);have hc:=ih f.args[m] (by omega) (by omega);by_cases hx:(xw f.args[m]).2=0
   .rw[hx] at hc;(repeat' first|refine M.gw ?_|refine M.c2 (hc) ?_|fail);exact⟨rfl,ya (p:=fun t=>(xw t).2=0) hm hP2 hx,(M.W [some 0,some 1,some 2,some 3,some 7] (he:=(by(repeat'(first|exact trivial|exact Or.inr ⟨_,U,rfl⟩|refine And.intro ?_ ?_|refine⟨_,U,_,U,_,U,?_⟩|exact Ao.refl _|exact Ao.of_eq (by simp[Aq.Ay,zy _ _ _ hm])));done)))⟩
   .have e2:=Vg hm hP2 hx;rw[e2,if_pos hx] at he;rw[he];(repeat' first|refine M.gw ?_|refine M.c2 (hc) ?_|refine M.cs ?_ ?_<;>intro h|fail);all_goals first
     |rfl
     |(exfalso;simp at h;exact hx h)
  .intro hP2;have e2:=Wg (l:=f.args) fun j hj _=>hP2 j hj hj;rw[e2,if_neg (by simp)] at he;simp only[Wp];rw[he];(repeat' first|refine M.gw ?_|fail)
   rfl
abbrev DF(f:Fm)(u:List Int)(e:Int):V:= .AD [.agg (f.view++[.s .int u]),.i e]
abbrev Cu(r:Cz):V:= .AD [.agg r.1.view,.s .int r.2.1,.i r.2.2]
theorem Ck.ok.sum{c:Ck}(hc:c.ok):(c.tys.map Ty.size).sum<=1024:=by
 have h1:=hc.len;have h2:=OO (f:=Ty.size) (C:=64) c.tys fun x hx=>((Ty.Ad x).1 (hc.all x hx)).2;omega
theorem F7{c:Ck}(hc:c.ok){f:Fm}{u:List Int}{e:Int}(h:FF c (f,u,e)):f.full<=266240/\u.length<=16/\∀x∈u,0<=x/\x<=1000000:=by
 have hl:=hc.len;by_cases he:e=0
 .obtain ⟨h1,_,h3⟩:=h.1 he;have h4:=h3.len;refine⟨ye h1,by simp only at h4;omega,fun x hx=> ?_⟩;have:=h3.2 x hx;omega
 .have h1:=h.2 he;simp only[yd,Zu] at h1;rw[h1.1,h1.2.1];exact⟨by decide,by simp,fun x hx=>by cases hx⟩
theorem Yd5{c:Ck}(hc:c.ok)(i:Int)(hi:0<=i):PC E 106 [.agg c.view,.agg (Pf.mk 1 i (.mk 0 []) [] [] []).view] (Cu (KM c i)):=by
 have hn:=hc.nh;unfold KM;by_cases h1:i>=c.hyps.length
 .rw[if_pos h1];refine M.F Tryz.func106 ?_;(repeat' first|refine M.gw ?_|refine M.bl ?_|refine M.cs ?_ ?_<;>intro h|fail);all_goals first
   |rfl
   |(exfalso;simp at h;omega)
 .rw[if_neg h1];have hlt:c.hyps.length-1-i.toNat<c.hyps.length:=by omega
  rw[GB hlt];simp only[Pf.view,Pf.kind,Pf.index,Pf.ty,Pf.terms,Pf.Ac,Pf.args];refine M.F Tryz.func106 ?_;(repeat' first|refine M.gw ?_|refine M.bl ?_|refine M.cs ?_ ?_<;>intro h|fail)
  .exfalso;simp at h;omega
  .refine L.D9 (c.hyps.length-1-i.toNat) rfl rfl rfl rfl (by omega) rfl rfl (by omega) ?_;(repeat' first|refine M.gw ?_|fail)
   rfl
theorem Yek{c:Ck}(hc:c.ok)(i:Int)(hi:0<=i):PC E 106 [.agg c.view,.agg (Pf.mk 2 i (.mk 0 []) [] [] []).view] (Cu (Lm c i)):=by
 have hn:=hc.nl;unfold Lm;by_cases h1:i>=c.lems.length
 .rw[if_pos h1];refine M.F Tryz.func106 ?_;(repeat' first|refine M.gw ?_|refine M.bl ?_|refine M.cs ?_ ?_<;>intro h|fail);all_goals first
   |rfl
   |(exfalso;simp at h;omega)
 .rw[if_neg h1];have hlt:i.toNat<c.lems.length:=by omega
  rw[GB hlt];simp only[Pf.view,Pf.kind,Pf.index,Pf.ty,Pf.terms,Pf.Ac,Pf.args];refine M.F Tryz.func106 ?_;(repeat' first|refine M.gw ?_|refine M.bl ?_|refine M.cs ?_ ?_<;>intro h|fail)
  .exfalso;simp at h;omega
  .refine L.D9 i.toNat rfl rfl rfl rfl (by omega) rfl rfl (by omega) ?_;(repeat' first|refine M.gw ?_|fail)
   rfl
section
variable {c:Ck} (hc:c.ok) {p q:Pf} {f0 f1:Fm} {u0 u1:List Int} {e0 e1:Int}
include hc
theorem Ydw(hp:PC E 74 [.agg c.view,.agg p.view] (DF f0 u0 e0))(hq:PC E 74 [.agg c.view,.agg q.view] (DF f1 u1 e1))(o0:FF c (f0,u0,e0))(o1:FF c (f1,u1,e1)):
 PC E 106 [.agg c.view,.agg (Pf.mk 3 0 (.mk 0 []) [] [] [p,q]).view] (Cu (Ke (fun _=>(f0,u0,e0)) (fun _=>(f1,u1,e1)) c)):=by
 have b0:=F7 hc o0;have b1:=F7 hc o1;have h2:=LM 2 f0 f1 (by omega) (by omega);have h3:=uy u0 u1 (by omega) (by omega);unfold Ke;by_cases he:e0=0
 .subst he;rw[if_neg (by simp)];refine M.F Tryz.func106 ?_;(repeat' first|refine M.gw ?_|refine M.c2 (hp) ?_|refine M.c2 (hq) ?_|refine M.c2 (h2) ?_|refine M.c2 (h3) ?_|refine M.bl ?_|fail)
  rfl
 .rw[if_pos he];refine M.F Tryz.func106 ?_;(repeat' first|refine M.gw ?_|refine M.c2 (hp) ?_|refine M.c2 (hq) ?_|refine M.c2 (h2) ?_|refine M.c2 (h3) ?_|refine M.bl ?_|refine M.cs ?_ ?_<;>intro h|fail);all_goals first
   |rfl
   |(exfalso;simp at h;exact he h)
theorem Uy(j:Nat)(hj:j<2)(hp:PC E 74 [.agg c.view,.agg p.view] (DF f0 u0 e0))(o0:FF c (f0,u0,e0)):
 PC E 106 [.agg c.view,.agg (Pf.mk (4+j) 0 (.mk 0 []) [] [] [p]).view] (Cu (Kw j (fun _=>(f0,u0,e0)) c)):=by
 unfold Kw;by_cases he:e0=0
 .subst he;rw[if_neg (by simp)];by_cases hk:f0.kind=2
  .rw[if_neg (by simp[hk])];obtain⟨x,y,e⟩:=Ks ((Fm.Ad _).1 (o0.1 rfl).1).1 (.inl hk);simp only at e;rw[hk] at e;subst e;rcases j with _|_|j
   .refine M.F Tryz.func106 ?_;(repeat' first|refine M.gw ?_|refine M.c2 (hp) ?_|refine M.bl ?_|fail)
    rfl
   .refine M.F Tryz.func106 ?_;(repeat' first|refine M.gw ?_|refine M.c2 (hp) ?_|refine M.bl ?_|fail)
    rfl
   .omega
  .rw[if_pos hk];rcases j with _|_|j
   .refine M.F Tryz.func106 ?_;(repeat' first|refine M.go ?_|refine M.c2 (hp) ?_|refine M.z1 24 ?_|refine M.bl ?_|refine M.cs ?_ ?_<;>intro h|refine M.gk ?_|fail);all_goals first
     |rfl
     |(exfalso;simp at h;exact hk h)
   .refine M.F Tryz.func106 ?_;(repeat' first|refine M.go ?_|refine M.c2 (hp) ?_|refine M.z1 24 ?_|refine M.bl ?_|refine M.cs ?_ ?_<;>intro h|refine M.gk ?_|fail);all_goals first
     |rfl
     |(exfalso;simp at h;exact hk h)
   .omega
 .rw[if_pos he];rcases j with _|_|j
  .refine M.F Tryz.func106 ?_;(repeat' first|refine M.go ?_|refine M.c2 (hp) ?_|refine M.z1 22 ?_|refine M.bl ?_|refine M.cs ?_ ?_<;>intro h|refine M.gk ?_|fail);all_goals first
    |rfl
    |(exfalso;simp at h;exact he h)
  .refine M.F Tryz.func106 ?_;(repeat' first|refine M.go ?_|refine M.c2 (hp) ?_|refine M.z1 22 ?_|refine M.bl ?_|refine M.cs ?_ ?_<;>intro h|refine M.gk ?_|fail);all_goals first
    |rfl
    |(exfalso;simp at h;exact he h)
  .omega
theorem Ya1{f:Fm}(hf:f.full<=300000)(hp:yq c.tys f=0->c.room 0 1=0->PC E 74 [.agg (c.AA f).view,.agg p.view] (DF f0 u0 e0))(b0:yq c.tys f=0->c.room 0 1=0->f0.full<=266240):
 PC E 106 [.agg c.view,.agg (Pf.mk 6 0 (.mk 0 []) [] [f] [p]).view] (Cu (LN f (fun _=>(f0,u0,e0)) c)):=by
 have hl:=hc.len;have hn:=hc.nh;have h1:=Ml c.tys f (by omega) (by have:=hc.sum;omega);have h2:=LR c 0 1 (by omega) (by omega);have h3:=Nj c f (by omega);unfold LN;by_cases t0:yq c.tys f=0
 .rw[if_neg (by simp[t0])];rw[t0] at h1;by_cases r0:c.room 0 1=0
  .rw[if_neg (by simp[r0])];rw[r0] at h2;have h5:=hp t0 r0;have b1:=b0 t0 r0;have h4:=LM 3 f f0 (by omega) (by omega);refine M.F Tryz.func106 ?_;(repeat' first|refine M.gw ?_|refine M.c2 (h1) ?_|refine M.c2 (h2) ?_|refine M.c2 (h3) ?_|refine M.c2 (h4) ?_|refine M.c2 (h5) ?_|refine M.bl ?_|fail)
   rfl
  .rw[if_pos r0];rw[KG r0] at h2;refine M.F Tryz.func106 ?_;(repeat' first|refine M.gw ?_|refine M.c2 (h1) ?_|refine M.c2 (h2) ?_|refine M.bl ?_|fail)
   rfl
 .rw[if_pos t0];refine M.F Tryz.func106 ?_;(repeat' first|refine M.go ?_|refine M.c2 (h1) ?_|refine M.z1 29 ?_|refine M.bl ?_|refine M.cs ?_ ?_<;>intro h|refine M.gk ?_|fail);all_goals first
   |rfl
   |(exfalso;simp at h;exact t0 h)
theorem Yam(hp:PC E 74 [.agg c.view,.agg p.view] (DF f0 u0 e0))(hq:PC E 74 [.agg c.view,.agg q.view] (DF f1 u1 e1))(o0:FF c (f0,u0,e0))(o1:FF c (f1,u1,e1)):
 PC E 106 [.agg c.view,.agg (Pf.mk 7 0 (.mk 0 []) [] [] [p,q]).view] (Cu (Lz (fun _=>(f0,u0,e0)) (fun _=>(f1,u1,e1)) c)):=by
 have b0:=F7 hc o0;have b1:=F7 hc o1;have h3:=uy u0 u1 (by omega) (by omega);unfold Lz;by_cases he:e0=0;case neg=>
  rw[if_pos he];refine M.F Tryz.func106 ?_;(repeat' first|refine M.go ?_|refine M.c2 (hp) ?_|refine M.z1 38 ?_|refine M.bl ?_|refine M.cs ?_ ?_<;>intro h|refine M.gk ?_|fail);all_goals first
   |rfl
   |(exfalso;simp at h;exact he h)
 subst he;rw[if_neg (by simp)];by_cases hk:f0.kind=3;case neg=>
  rw[if_pos hk];refine M.F Tryz.func106 ?_;(repeat' first|refine M.gw ?_|refine M.c2 (hp) ?_|refine M.bl ?_|refine M.cs ?_ ?_<;>intro h|fail);all_goals first
   |rfl
   |(exfalso;simp at h;exact hk h)
   |trace_state
 rw[if_neg (by simp[hk])];obtain⟨x,y,e⟩:=Ks ((Fm.Ad _).1 (o0.1 rfl).1).1 (.inr hk);simp only at e;rw[hk] at e;subst e;by_cases he1:e1=0;case neg=>
  rw[if_pos he1];refine M.F Tryz.func106 ?_;(repeat' first|refine M.gw ?_|refine M.c2 (hp) ?_|refine M.c2 (hq) ?_|refine M.bl ?_|refine M.cs ?_ ?_<;>intro h|fail);all_goals first
   |rfl
   |(exfalso;simp at h;exact he1 h)
   |trace_state
 subst he1;rw[if_neg (by simp)];have ex:=vf (o0.1 rfl).1 (x:=x) (by simp[Cp]);have h4:=VM x f1 (by have:=ye ex;omega) (by omega);refine M.F Tryz.func106 ?_;(repeat' first|refine M.gw ?_|refine M.c2 (hp) ?_|refine M.c2 (hq) ?_|refine M.c2 (h3) ?_|refine M.c2 (h4) ?_|refine M.bl ?_|fail)
 rfl
end
end Go.Ab
