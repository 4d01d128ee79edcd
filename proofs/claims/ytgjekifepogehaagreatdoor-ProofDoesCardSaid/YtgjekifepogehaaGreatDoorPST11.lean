/- A part of this seat's proofs. No conditions. -/
import Derived.Test.YtgjekifepogehaaGreatDoorPST10
namespace Go.Ab
open Go Go.Proofs
set_option maxRecDepth 100000
set_option maxHeartbeats 4000000
set_option linter.all false
theorem Wn(a:Int)(s t:Tm)(v:Int):t.re (xt a s) v=t.re (xt (a+v) s) 0:=by
 rw[RJ];refine GK (fun i c=> ?_) t 0;unfold xt;by_cases h:i-(c+v)=a
 .rw[if_pos h,if_pos (show i-c=a+v by omega),show a+(c+v)=a+v+c by omega]
 .rw[if_neg h,if_neg (show ¬i-c=a+v by omega)];by_cases h2:i-(c+v)>a
  .rw[if_pos h2,if_pos (show i-c>a+v by omega)]
  .rw[if_neg h2,if_neg (show ¬i-c>a+v by omega)]
theorem XJ(a:Int)(s:Tm)(f:Fm)(v:Int):f.re (fun b t=>t.re (xt a s) b) v=f.put (a+v) s:=by
 have e:=Fm.Dd (fun b t=>t.re (xt a s) b) v f 0;rw[cy] at e;rw[e,P6];exact Fm.GK (fun b t _=>by rw[Wn,show a+(b+v)=a+v+b by omega]) f
theorem Yip(a:Int)(s:Tm)(ha:0<=a/\a<100000000)(hss:s.shape=true)(hsf:s.full<100000000000)(hsi:∀p∈s.vars 0,0<=p.1/\p.1<274877906944):∀(n:Nat) (p:Pf) (v:Int),p.full<=n->n<10000000000->0<=v->v+2*n<50000000000->p.shape=true->p.ix 274877906944->
 PC E 125 [.agg p.view,.i a,.i v,.agg s.view] (.agg (p.pt a s v).view):=by
 intro n;induction n with
 |zero=>intro p v h;have:=p.Ac;omega
 |succ n ih=>
 intro p v hsz hn h2 h3 hs hix;obtain⟨x1,x2,x3⟩:=(Pf.Bq _ _).1 hix;obtain⟨nd,n1,n2,n3,n4,_⟩:=Jq hs;obtain⟨_,s4,s5,s6⟩:=zk hs;have hsz':=p.Af;have hlen:=zd Pf.full Pf.Ac p.args;have hlen1:=zd Fm.full Fm.Ac p.Aa;have hlen2:=zd Tm.full Tm.Ac p.terms;have b1:=Na p.kind;have b3:=P8 p.kind;have hmo:=Qe n1;have he:=p.D6 a s v;refine M.F Tryz.func125 ?_;refine M.w0 ?_;refine M.rt p.terms.length
  (fun m=>([(1,.i a),(2,.i v),(4,.ptr 0 0),(7,.ptr 1 0),(8,.ptr 2 0),(9,.ptr 3 0),(24,.s .tm p.terms),(25,.i p.terms.length),(26,.i m)],⟨5,[(0,.var p.view),(1,.var s.view),(2,.var [.i 0,.i 0,.i 0,.slice .nil (.t .ty []),.slice .nil (.t .tm []),.slice .nil (.t .fm []),.slice .nil (.t .pf [])]),(3,.var [.i p.kind,.i p.index,.i p.ty.kind,.s .ty p.ty.args,.slice (.own 4) (.t .tm ((p.terms.take m).map fun t=>t.re (xt (a+v) s) 0)),.slice .nil (.t .fm []),.slice .nil (.t .pf [])]),(4,.row)]⟩))
  (M.W HR) ?_ ?_
 .intro m hm _;have hs2:=zc Tm.full (ZA hm);have hc:=Sa a s dY hss dY hsi _ p.terms[m] v (ZB _) dY dY dY (s4 _ (ZA hm)) (x1 _ (ZA hm));rw[Wn] at hc;refine M.w1 @hc ?_;exact⟨rfl,trivial,(M.W [some 0,some 1,some 2,some 3,some 6] (he:=(by(repeat'(first|exact trivial|exact Or.inr ⟨_,U,rfl⟩|refine And.intro ?_ ?_|refine⟨_,U,_,U,_,U,?_⟩|exact Ai.refl _|exact Ai.of_eq eL));done)))⟩
 .intro _;simp only[ZF];refine M.w0 ?_;refine M.rt p.Aa.length
   (fun m=>([(1,.i a),(2,.i v),(4,.ptr 0 0),(7,.ptr 1 0),(8,.ptr 2 0),(9,.ptr 3 0),(42,.s .fm p.Aa),(43,.i p.Aa.length),(44,.i m)],⟨6,[(0,.var p.view),(1,.var s.view),(2,.var [.i 0,.i 0,.i 0,.slice .nil (.t .ty []),.slice .nil (.t .tm []),.slice .nil (.t .fm []),.slice .nil (.t .pf [])]),(3,.var [.i p.kind,.i p.index,.i p.ty.kind,.s .ty p.ty.args,.slice (.own 4) (.t .tm (p.terms.map fun t=>t.re (xt (a+v) s) 0)),.slice (.own 5) (.t .fm ((p.Aa.take m).map fun f=>f.put (a+(v+Au p.kind)) s)),.slice .nil (.t .pf [])]),(4,.row),(5,.row)]⟩))
   (M.W Mf) ?_ ?_
  .intro m hm _;have hs2:=zc Fm.full (ZA hm);have hc:=QU a s dY hss dY hsi _ p.Aa[m] (v+Au p.kind) (ZB _) dY dY dY (s5 _ (ZA hm)) (x2 _ (ZA hm));rw[XJ] at hc;refine M.w2 @hmo @hc ?_;exact⟨rfl,trivial,(M.W [some 0,some 1,some 2,some 3,some 4,some 7] (he:=(by(repeat'(first|exact trivial|exact Or.inr ⟨_,U,rfl⟩|refine And.intro ?_ ?_|refine⟨_,U,_,U,_,U,?_⟩|exact Ai.refl _|exact Ai.of_eq eL));done)))⟩
  .intro _;simp only[ZF];refine M.w0 ?_;refine M.rt p.args.length
    (fun m=>([(1,.i a),(2,.i v),(4,.ptr 0 0),(7,.ptr 1 0),(8,.ptr 2 0),(9,.ptr 3 0),(64,.s .pf p.args),(65,.i p.args.length),(66,.i m)],⟨7,[(0,.var p.view),(1,.var s.view),(2,.var [.i 0,.i 0,.i 0,.slice .nil (.t .ty []),.slice .nil (.t .tm []),.slice .nil (.t .fm []),.slice .nil (.t .pf [])]),(3,.var [.i p.kind,.i p.index,.i p.ty.kind,.s .ty p.ty.args,.slice (.own 4) (.t .tm (p.terms.map fun t=>t.re (xt (a+v) s) 0)),.slice (.own 5) (.t .fm (p.Aa.map fun f=>f.put (a+(v+Au p.kind)) s)),.slice (.own 6) (.t .pf ((Pf.pts a s v (Ap p.kind) p.args).take m))]),(4,.row),(5,.row),(6,.row)]⟩))
    (M.W Nr) ?_ ?_
   .intro m hm _;have hs2:=zc Pf.full (ZA hm);have hva:=MB n1 m dY;rw[<-n4] at hva;have hc:=ih p.args[m] (if m+1=p.args.length then v+Ap p.kind else v) dY dY ez ez (s6 _ (ZA hm)) (x3 _ (ZA hm));have et:=XP (a:=a) (s:=s) (v:=v) (w:=Ap p.kind) hm;have ea:(if m+1=p.args.length then v+Ap p.kind else v)=v+(if m+1=p.args.length then Ap p.kind else 0):=ez
    have hr:0<=(if m+1=p.args.length then Ap p.kind else 0)/\(if m+1=p.args.length then Ap p.kind else 0)<=2:=ez
    generalize p.args[m].pt a s (if m+1=p.args.length then v+Ap p.kind else v)=X at*;rw[ea] at hc;generalize (if m+1=p.args.length then Ap p.kind else 0)=q at*;clear ea;refine M.w2 @hva @hc ?_;refine⟨rfl,trivial,?_⟩;simp only[<-et];exact(M.W [some 0,some 1,some 2,some 3,some 4,some 5,some 8])
   .intro _;simp only[UP];refine M.w0 ?_;rw[he]
    rfl
theorem Yi1(f:Fm)(b:Int)(hb:0<=b/\b<100000000)(hf:f.full<4000000000)(hs:f.shape=true)(hix:∀p∈f.AZ 0,∀q∈p.1.vars 0,0<=q.1/\q.1<274877906944):
 PC E 190 [.agg f.view,.i b,.i 0,.agg (Tm.mk 5 0 (.mk 0 []) [.mk 4 0 (.mk 0 []) []]).view] (.agg (f.put b (Tm.mk 5 0 (.mk 0 []) [.mk 4 0 (.mk 0 []) []])).view)/\
 (f.put b (Tm.mk 5 0 (.mk 0 []) [.mk 4 0 (.mk 0 []) []])).size=f.size+ug b (f.AZ 0)/\(f.put b (Tm.mk 5 0 (.mk 0 []) [.mk 4 0 (.mk 0 []) []])).full<549755813888:=by
 have h1:(Tm.mk 5 0 (.mk 0 []) [.mk 4 0 (.mk 0 []) []]).shape=true:=ej
 have h2:(Tm.mk 5 0 (.mk 0 []) [.mk 4 0 (.mk 0 []) []]).size=2:=ej
 have h3:(Tm.mk 5 0 (.mk 0 []) [.mk 4 0 (.mk 0 []) []]).full<=100:=ej
 have h4:(Tm.mk 5 0 (.mk 0 []) [.mk 4 0 (.mk 0 []) []]).vars 0=[]:=ej
 generalize Tm.mk 5 0 (.mk 0 []) [.mk 4 0 (.mk 0 []) []]=s at*;have hc:=QU b s dY h1 dY (fun p hp=>by rw[h4] at hp;cases hp) _ f 0 (ZB _) dY dY dY hs hix;rw[XJ,bD] at hc;have e:(f.put b s).size=f.size+ug b (f.AZ 0)*(s.size-1):=J5 b s h1 f hs 0;rw[h2] at e;simp only[Nat.add_one_sub_one,eX] at e;have k:=vw f b;have z:=f.Ah;have hsh:(f.put b s).shape=true:=Ml dY h1 hs;have:=JK _ hsh;exact⟨hc,e,dY⟩
theorem Zvb(a:Int)(ha:0<=a/\a<10000):∀(n:Nat) (p:Pf) (v:Int),p.full<=n->n<100000000->0<=v->v+2*n<90000000+100000000->v<90000000->v+2*n<90000000->p.shape=true->p.ix 274877906944->
 PC E 123 [.agg p.view,.i (a+v)] (.i (u7 (p.CE (A6 a) (A8 a) v))):=by
 intro n;induction n with
 |zero=>intro p v h;have:=p.Ac;omega
 |succ n ih=>
 intro p v hsz hn h2 _ _ h3 hs hix;obtain⟨x1,x2,x3⟩:=(Pf.Bq _ _).1 hix;obtain⟨nd,n1,n2,n3,n4,_⟩:=Jq hs;obtain⟨_,s4,s5,s6⟩:=zk hs;have hsz':=p.Af;have hlen:=zd Pf.full Pf.Ac p.args;have hlen1:=zd Fm.full Fm.Ac p.Aa;have hlen2:=zd Tm.full Tm.Ac p.terms;have b1:=Na p.kind;have b3:=P8 p.kind;have hmo:=Qe n1;have he:=p.BN (A6 a) (A8 a) v;have hT:∀m,0<=u7 ((p.terms.take m).map (A6 a v))/\u7 ((p.terms.take m).map (A6 a v))<=(p.terms.map Tm.full).sum:=fun m=>by
  have h:=zl Tm.full p.terms m;refine⟨?_,?_⟩
  .exact (O3 fun q hq=>jv)
  .refine Int.le_trans (O1 (p.terms.take m) (A6 a v) Tm.full fun t=> ?_) dY;have h1:=LW (a+v) (t.vars 0);have h2:=t.Cn 0;have h3:=t.Ah;simp only[A6];omega
 have hF:∀m,0<=u7 ((p.Aa.take m).map (A8 a (v+Au p.kind)))/\u7 ((p.Aa.take m).map (A8 a (v+Au p.kind)))<=(p.Aa.map Fm.full).sum:=fun m=>by
  have h:=zl Fm.full p.Aa m;refine⟨?_,?_⟩
  .exact (O3 fun q hq=>jw)
  .refine Int.le_trans (O1 (p.Aa.take m) (A8 a (v+Au p.kind)) Fm.full fun t=> ?_) dY;have h1:=vw t (a+(v+Au p.kind));have h3:=t.Ah;simp only[A8];omega
 have hP:∀m,0<=u7 ((Pf.AN (A6 a) (A8 a) v (Ap p.kind) p.args).take m).flatten/\u7 ((Pf.AN (A6 a) (A8 a) v (Ap p.kind) p.args).take m).flatten<=(p.args.map Pf.full).sum:=fun m=>Zum a p.args v (Ap p.kind) m;refine M.F Tryz.func123 ?_;refine M.w0 ?_;refine M.rt p.terms.length
  (fun m=>([(1,.i (a+v)),(2,.ptr 0 0),(5,.i (u7 ((p.terms.take m).map (A6 a v)))),(13,.s .tm p.terms),(14,.i p.terms.length),(15,.i m)],⟨1,[(0,.var p.view)]⟩))
  (M.W Ay) ?_ ?_
 .intro m hm _;have hs2:=zc Tm.full (ZA hm);have hc:=TC _ p.terms[m] (a+v) (ZB _) dY dY dY (s4 _ (ZA hm));have e1:((xd (a+v) p.terms[m]:Nat):Int)=(A6 a v p.terms[m]).2:=by simp only[A6];have:=Ta p.terms[m] (a+v) 0 (s4 _ (ZA hm));rw[bD] at this;rw[this]
  have e2:u7 ((p.terms.take (m+1)).map (A6 a v))=u7 ((p.terms.take m).map (A6 a v))+(A6 a v p.terms[m]).2:=by rw[zp _ _ _ hm,JM];simp[u7]
  have h4:=hT m;have h5:=hT (m+1);rw[e1] at hc;generalize (A6 a v p.terms[m]).2=q at*;have hw:IntKind.i64.wrap (u7 ((p.terms.take m).map (A6 a v))+q)=u7 ((p.terms.take m).map (A6 a v))+q:=IntWalk.i64_in _ dY;refine M.w1 @hc ?_;refine⟨rfl,trivial,?_⟩;simp only[e2];exact(M.W Ay)
 .intro _;simp only[ZF];have hT1:=hT p.terms.length;rw[ZF] at hT1;clear hT;generalize hK1:u7 (p.terms.map (A6 a v))=K1 at*;refine M.w0 ?_;refine M.rt p.Aa.length
   (fun m=>([(1,.i (a+v)),(2,.ptr 0 0),(5,.i (K1+u7 ((p.Aa.take m).map (A8 a (v+Au p.kind))))),(26,.s .fm p.Aa),(27,.i p.Aa.length),(28,.i m)],⟨1,[(0,.var p.view)]⟩))
   (by simp only[ZX,Z2];exact(M.W Ay (hf:=(by(repeat'(first|exact trivial|refine And.intro ?_ ?_|refine⟨_,U,_,U,?_⟩|exact Ai.refl _|exact Ai.of_eq (by simp[Aj.Aw,u7,aN,Z2,bD])));done)))) ?_ ?_
  .intro m hm _;have hs2:=zc Fm.full (ZA hm);obtain⟨c1,c2,c3⟩:=Yi1 p.Aa[m] (a+v+Au p.kind) dY dY (s5 _ (ZA hm)) (x2 _ (ZA hm));have z0:=Dh 4 [] dZ;have z1:=Dh 5 [Tm.mk 4 0 (.mk 0 []) []] (by simp;decide);have c4:=Mi _ p.Aa[m] (ZB _) dY;have c5:=Mi _ _ (ZB _) c3;rw[c2] at c5;have e1:((ug (a+v+Au p.kind) (p.Aa[m].AZ 0):Nat):Int)=(A8 a (v+Au p.kind) p.Aa[m]).2:=by simp only[A8];rw[show a+(v+Au p.kind)=a+v+Au p.kind by omega]
   have e2:u7 ((p.Aa.take (m+1)).map (A8 a (v+Au p.kind)))=u7 ((p.Aa.take m).map (A8 a (v+Au p.kind)))+(A8 a (v+Au p.kind) p.Aa[m]).2:=by rw[zp _ _ _ hm,JM];simp[u7]
   have h4:=hF m;have h5:=hF (m+1);have h6:=p.Aa[m].Ah;rw[aA,e1] at c5;generalize (A8 a (v+Au p.kind) p.Aa[m]).2=q at*;generalize p.Aa[m].put (a+v+Au p.kind) (Tm.mk 5 0 (.mk 0 []) [.mk 4 0 (.mk 0 []) []])=G at*;generalize (p.Aa[m].size:Int)=z at*;have hw:IntKind.i64.wrap (z+q-z)=q:=by rw[show z+q-z=q by omega];exact IntWalk.i64_in _ dY
   have hw2:IntKind.i64.wrap (K1+u7 ((p.Aa.take m).map (A8 a (v+Au p.kind)))+q)=K1+u7 ((p.Aa.take m).map (A8 a (v+Au p.kind)))+q:=IntWalk.i64_in _ dY;refine M.w6 @hmo @z0 @z1 @c1 @c5 @c4 ?_;refine⟨rfl,trivial,?_⟩;have hz:z+q-z=q:=dY
   simp only[e2];exact(M.W Ay (hf:=(by(repeat'(first|exact trivial|refine And.intro ?_ ?_|refine⟨_,U,_,U,?_⟩|exact Ai.refl _|exact Ai.of_eq (by simp[Aj.Aw,hz,hw,hw2,aY])));done)))
  .intro _;simp only[ZF];have hF1:=hF p.Aa.length;rw[ZF] at hF1;clear hF;have hb2:0<=K1+u7 (p.Aa.map (A8 a (v+Au p.kind)))/\K1+u7 (p.Aa.map (A8 a (v+Au p.kind)))<=(p.terms.map Tm.full).sum+(p.Aa.map Fm.full).sum:=dY
   generalize hK2:K1+u7 (p.Aa.map (A8 a (v+Au p.kind)))=K2 at*;refine M.w0 ?_;refine M.rt p.args.length
    (fun m=>([(1,.i (a+v)),(2,.ptr 0 0),(5,.i (K2+u7 ((Pf.AN (A6 a) (A8 a) v (Ap p.kind) p.args).take m).flatten)),(50,.s .pf p.args),(51,.i p.args.length),(52,.i m)],⟨1,[(0,.var p.view)]⟩))
    (by simp only[ZX,Z5];exact(M.W Ay (hf:=(by(repeat'(first|exact trivial|refine And.intro ?_ ?_|refine⟨_,U,_,U,?_⟩|exact Ai.refl _|exact Ai.of_eq (by simp[Aj.Aw,u7,aN,Z2,bD])));done)))) ?_ ?_
   .intro m hm _;have hs2:=zc Pf.full (ZA hm);have hva:=MB n1 m dY;rw[<-n4] at hva;have hc:=ih p.args[m] (if m+1=p.args.length then v+Ap p.kind else v) dY dY ez ez ez ez (s6 _ (ZA hm)) (x3 _ (ZA hm));have et:=congrArg u7 (KP (A6 a) (A8 a) (v:=v) (w:=Ap p.kind) hm);rw[JM] at et;have ea:a+(if m+1=p.args.length then v+Ap p.kind else v)=a+v+(if m+1=p.args.length then Ap p.kind else 0):=ez
    have hr:0<=(if m+1=p.args.length then Ap p.kind else 0)/\(if m+1=p.args.length then Ap p.kind else 0)<=2:=ez
    have h4:=hP m;have h5:=hP (m+1);rw[ea] at hc;generalize u7 (p.args[m].CE (A6 a) (A8 a) (if m+1=p.args.length then v+Ap p.kind else v))=X at*;generalize (if m+1=p.args.length then Ap p.kind else 0)=q at*;clear ea;have hw:IntKind.i64.wrap (K2+u7 ((Pf.AN (A6 a) (A8 a) v (Ap p.kind) p.args).take m).flatten+X)=K2+u7 ((Pf.AN (A6 a) (A8 a) v (Ap p.kind) p.args).take m).flatten+X:=IntWalk.i64_in _ dY;refine M.w2 @hva @hc ?_;refine⟨rfl,trivial,?_⟩;simp only[<-et];exact(M.W Ay (hf:=(by(repeat'(first|exact trivial|refine And.intro ?_ ?_|refine⟨_,U,_,U,?_⟩|exact Ai.refl _|exact Ai.of_eq (by simp[Aj.Aw,hw,aY])));done)))
   .intro _;simp only[KN];refine M.w0 ?_;rw[he,JM,JM,hK1,hK2]
    rfl
theorem Xt(a k i y:Int):(Cs a k i y).length=if k=1/\i-y=a then 1 else 0:=by unfold Cs;split<;>rfl
theorem WY(a:Int):∀k i y,(Cs a k i y).length<=1:=fun k i y=>by rw[Xt];split<;>omega
theorem Zvd{f:Int->Int->Int->List Int}(hf:∀k i y,(f k i y).length<=1)(l:List Pf)(y w:Int)(m:Nat):((Pf.AO f y w l).take m).flatten.length<=(l.map Pf.full).sum:=by
 induction l generalizing m with
 |nil=>simp[Pf.AO]
 |cons x l ih=>
  cases m with
  |zero=>simp
  |succ m=>
   have q1:=ih m;have q2:=Mp hf x (if l.length=0 then y+w else y);simp only[Pf.AO,List.take_succ_cons,az,ZR,ZJ,ZW];omega
theorem Zzk(a:Int)(ha:0<=a/\a<100000000):∀(n:Nat) (p:Pf) (y:Int),p.full<=n->n<10000000000->0<=y->y+2*n<50000000000->p.shape=true->
 PC E 128 [.agg p.view,.i (a+y)] (.i (p.B8 (Cs a) y).length):=by
 intro n;induction n with
 |zero=>intro p v h;have:=p.Ac;omega
 |succ n ih=>
 intro p y hsz hn h2 h3 hs;obtain⟨nd,n1,n2,n3,n4,_⟩:=Jq hs;obtain⟨_,s4,s5,s6⟩:=zk hs;have hsz':=p.Af;have hlen:=zd Pf.full Pf.Ac p.args;have b2:=OO p.kind;have hP:=Zvd (WY a) p.args y (Ar p.kind);have he:=p.BE (Cs a) y;have hL:∀(m:Nat) (hm:m<p.args.length),∃q,(0<=q/\q<=1)/\PC E 154 [.i p.kind,.i m] (.i q)/\∃X:Nat,
  PC E 128 [.agg (p.args[m]).view,.i (a+y+q)] (.i X)/\((Pf.AO (Cs a) y (Ar p.kind) p.args).take m).flatten.length+X=((Pf.AO (Cs a) y (Ar p.kind) p.args).take (m+1)).flatten.length:=fun m hm=>by
  have hs2:=zc Pf.full (ZA hm);have hva:=Qg n1 m dY;rw[<-n4] at hva;refine⟨_,?_,hva,(p.args[m].B8 (Cs a) (if m+1=p.args.length then y+Ar p.kind else y)).length,?_,?_⟩
  .split<;>omega
  .have hc:=ih p.args[m] (if m+1=p.args.length then y+Ar p.kind else y) dY dY ez ez (s6 _ (ZA hm));have ea:a+(if m+1=p.args.length then y+Ar p.kind else y)=a+y+(if m+1=p.args.length then Ar p.kind else 0):=ez
   rw[<-ea];exact hc
  .have et:=congrArg List.length (ue (Cs a) (y:=y) (w:=Ar p.kind) hm);rw[ZR] at et;exact et
 clear ih;have hend:(p.B8 (Cs a) y).length=(if p.kind=1/\p.index-y=a then 1 else 0)+(Pf.AO (Cs a) y (Ar p.kind) p.args).flatten.length:=by rw[he,ZR,Xt]
 have hall:(Pf.AO (Cs a) y (Ar p.kind) p.args).flatten=((Pf.AO (Cs a) y (Ar p.kind) p.args).take p.args.length).flatten:=by rw[JE]
 rw[hend,hall];by_cases hk:p.kind=1/\p.index-y=a
 .rw[if_pos hk];obtain⟨hk1,hk2⟩:=hk;refine M.F Tryz.func128 ?_;(repeat' first|refine M.o0 ?_|refine M.gs ?_ ?_<;>intro h|refine M.z1 4 ?_|refine M.cs ?_ ?_<;>intro h|refine M.gk ?_|fail);all_goals first
   |(exfalso;simp at h;omega)
   |(exfalso;simp at h;exact h hk1)
   |(exfalso;simp_all;omega)
   |skip
  all_goals
   refine M.w0 ?_;refine M.rt p.args.length
    (fun m=>([(1,.i (a+y)),(2,.ptr 0 0),(5,.i (1+((Pf.AO (Cs a) y (Ar p.kind) p.args).take m).flatten.length:Nat)),(20,.s .pf p.args),(21,.i p.args.length),(22,.i m)],⟨1,[(0,.var p.view)]⟩))
    (by simp only[ZX,Z5,Z7];exact(M.W Ay)) ?_ ?_
   .exact kJ
   .exact kR
 .rw[if_neg hk];refine M.F Tryz.func128 ?_;(repeat' first|refine M.o0 ?_|refine M.gs ?_ ?_<;>intro h|refine M.z2 3 4 ?_|refine M.cs ?_ ?_<;>intro h|refine M.gk ?_|fail);all_goals first
   |(exfalso;rename_i hp1;simp at h hp1;exact hk ⟨hp1,dY⟩)
   |(exfalso;apply hk;simp_all;omega)
   |skip
  all_goals
   refine M.w0 ?_;refine M.rt p.args.length
    (fun m=>([(1,.i (a+y)),(2,.ptr 0 0),(5,.i (0+((Pf.AO (Cs a) y (Ar p.kind) p.args).take m).flatten.length:Nat)),(20,.s .pf p.args),(21,.i p.args.length),(22,.i m)],⟨1,[(0,.var p.view)]⟩))
    (by simp only[ZX,Z5,Z7];exact(M.W Ay)) ?_ ?_
   .exact kJ
   .exact kR
theorem Yim(a:Int)(q:Pf)(ha:0<=a/\a<=20000)(qe:q.err=0)(qn:q.AL=true)(qh:q.A5=true):∀(n:Nat) (p:Pf) (v y:Int),p.full<=n->n<10000000000->0<=v->0<=y->v+2*p.size<=100000->y+2*p.size<=100000->p.shape=true->p.hx 549755813888->
 PC E 129 [.agg p.view,.i a,.i v,.i y,.agg q.view] (.agg (Pf.ph a q v y p).view):=by
 intro n;induction n with
 |zero=>intro p v y h;have:=p.Ac;omega
 |succ n ih=>
 intro p v y hsz hn h1 h2 h3 h4 hs hix;obtain⟨x1,x2⟩:=(Pf.Br _ _).1 hix;obtain⟨nd,n1,n2,n3,n4,_⟩:=Jq hs;obtain⟨_,s4,s5,s6⟩:=zk hs;have hsz':=p.Af;have hse:=p.size_eq;have hlen:=zd Pf.full Pf.Ac p.args;have b1:=Na p.kind;have b2:=OO p.kind;have he:=Pf.IM a q v y p;by_cases hk:p.kind=1
 .obtain ⟨i,rfl⟩:=Uq hs hk;have hii:0<=i/\i<549755813888:=x1 hk;rw[if_pos hk] at he;have e2:(x8 i).index=i:=rfl;rw[e2] at he;rw[he];obtain⟨u1,u2⟩:=Yav (v:=v) (h:=a+y) qe qn qh dY dY;obtain⟨g1,g2,g3⟩:=(Pf.Ad q).1 qe;have gf:=U5 qe;have d1:=UW (fr:=0) (n:=v) (C:=549755813888) h1 g1 g2 (Lv q g1 g2 0 qn) 0;have df:=Lu _ d1.1;rw[d1.2.2.1] at df;have c1:=Ul v dY _ q 0 0 (ZB _) dY dY dY dY g1 (Lv q g1 g2 0 qn);have c2:=YJ (a+y) dY _ (q.up 0 v 0) 0 0 (ZB _) dY dY dY dY d1.1 (Vk _ 0 v q (Oe q g1 0 qh) 0);rw[bD] at c1 c2;rw[u1];generalize (q.up 0 v 0).lh 0 (a+y) 0=Y at*;generalize q.up 0 v 0=X at*;clear ih he x2 u1 u2 d1 hsz' hse;by_cases h5:i-y=a
  .rw[if_pos h5];have h5':i=a+y:=dY
   subst h5';unfold x8;refine M.F Tryz.func129 ?_;(repeat' first|refine M.o2 @c1 @c2 ?_|refine M.z1 4 ?_|refine M.cs ?_ ?_<;>intro h|refine M.gk ?_|fail);all_goals first
    |rfl
    |(exfalso;simp at h;done)
    |(exfalso;simp at h;omega)
    |trace_state
  .rw[if_neg h5];by_cases h6:i-y>a
   .rw[if_pos h6];have hw:IntKind.i64.wrap (i-1)=i-1:=IntWalk.i64_in _ dY;unfold x8;refine M.F Tryz.func129 ?_;(repeat' first|refine M.o0 ?_|refine M.z3 3 6 7 ?_|refine M.cs ?_ ?_<;>intro h|refine M.gk ?_|fail);all_goals first
     |rfl
     |exact congrArg (fun z=>V.agg [.i 1,.i z,.i 0,.s .ty [],.s .tm [],.s .fm [],.s .pf []]) hw
     |(exfalso;simp at h;omega)
     |trace_state
   .rw[if_neg h6];unfold x8;refine M.F Tryz.func129 ?_;(repeat' first|refine M.o0 ?_|refine M.z3 3 5 7 ?_|refine M.cs ?_ ?_<;>intro h|refine M.gk ?_|fail);all_goals first
     |rfl
     |(exfalso;simp at h;omega)
     |trace_state
 rw[if_neg hk] at he;have hL:∀(m:Nat) (hm:m<p.args.length),∃g k,(0<=g/\g<=2)/\(0<=k/\k<=1)/\PC E 153 [.i p.kind,.i m] (.i g)/\PC E 154 [.i p.kind,.i m] (.i k)/\
  PC E 129 [.agg (p.args[m]).view,.i a,.i (v+g),.i (y+k),.agg q.view] (.agg (Pf.ph a q (if m+1=p.args.length then v+Ap p.kind else v) (if m+1=p.args.length then y+Ar p.kind else y) p.args[m]).view):=fun m hm=>by
  have hs2:=zc Pf.full (ZA hm);have hs3:=zc Pf.size (ZA hm);have hva:=MB n1 m dY;have hbo:=Qg n1 m dY;rw[<-n4] at hva hbo;refine⟨_,_,?_,?_,hva,hbo,?_⟩
  .split<;>omega
  .split<;>omega
  have hc:=ih p.args[m] (if m+1=p.args.length then v+Ap p.kind else v) (if m+1=p.args.length then y+Ar p.kind else y) dY dY ez ez ez ez (s6 _ (ZA hm)) (x2 hk _ (ZA hm));have ea:(if m+1=p.args.length then v+Ap p.kind else v)=v+(if m+1=p.args.length then Ap p.kind else 0):=ez
  have eb:(if m+1=p.args.length then y+Ar p.kind else y)=y+(if m+1=p.args.length then Ar p.kind else 0):=ez
  generalize Pf.ph a q (if m+1=p.args.length then v+Ap p.kind else v) (if m+1=p.args.length then y+Ar p.kind else y) p.args[m]=X at*;rw[ea,eb] at hc;exact hc
 clear ih;refine M.F Tryz.func129 ?_;(repeat' first|refine M.o0 ?_|refine M.z2 2 7 ?_|refine M.cs ?_ ?_<;>intro h|refine M.gk ?_|fail);all_goals first
  |(exfalso;simp at h;exact hk h)
  |skip
 refine M.w0 ?_;refine M.rt p.args.length
  (fun m=>([(1,.i a),(2,.i v),(3,.i y),(5,.ptr 0 0),(9,.ptr 1 0),(10,.ptr 2 0),(11,.ptr 3 0),(44,.s .pf p.args),(45,.i p.args.length),(46,.i m)],⟨5,[(0,.var p.view),(1,.var q.view),(2,.var [.i 0,.i 0,.i 0,.slice .nil (.t .ty []),.slice .nil (.t .tm []),.slice .nil (.t .fm []),.slice .nil (.t .pf [])]),(3,.var [.i p.kind,.i p.index,.i p.ty.kind,.s .ty p.ty.args,.s .tm p.terms,.s .fm p.Aa,.slice (.own 4) (.t .pf ((Pf.FB a q v y (Ap p.kind) (Ar p.kind) p.args).take m))]),(4,.row)]⟩))
  (M.W HR) ?_ ?_
 .intro m hm _;obtain⟨g,k,hg,hk2,hva,hbo,hc⟩:=hL m hm;have et:=Xa (a:=a) (q:=q) (v:=v) (y:=y) (w:=Ap p.kind) (z:=Ar p.kind) hm;generalize Pf.ph a q (if m+1=p.args.length then v+Ap p.kind else v) (if m+1=p.args.length then y+Ar p.kind else y) p.args[m]=X at*;refine M.w3 @hva @hbo @hc ?_;refine⟨rfl,trivial,?_⟩;simp only[<-et];exact(M.W [some 0,some 1,some 2,some 3,some 6])
 .intro _;simp only[XI];refine M.w0 ?_;rw[he]
  rfl
theorem Ybx(p:Pf)(a:Int)(s:Tm)(hp:p.full<274877906944)(hs:s.full<274877906944):PC E 34 [.agg p.view,.i a,.agg s.view] (.AM [.agg (Gb p a s).view,.i (Eb p a s)]):=by
 have h1:=we p dY;unfold Gb;by_cases he:p.err=0;case neg=>
  rw[Td he,if_neg he];refine M.F Tryz.func34 ?_;(repeat' first|refine M.o1 @h1 ?_|refine M.z1 4 ?_|refine M.cs ?_ ?_<;>intro h|refine M.gk ?_|fail);all_goals first
   |rfl
   |(exfalso;simp at h;exact he h)
   |trace_state
 obtain⟨g1,g2,g3,g4,g5,g6⟩:=vo he;rw[he] at h1;by_cases ha:0<=a/\a<=4096;case neg=>
  rw[RD he ha,if_neg ej];refine M.F Tryz.func34 ?_;(repeat' first|refine M.o1 @h1 ?_|refine M.gs ?_ ?_<;>intro h|refine M.z1 6 ?_|refine M.cs ?_ ?_<;>intro h|refine M.gk ?_|fail);all_goals first
   |rfl
   |(exfalso;apply ha;simp at*;omega)
   |(exfalso;apply ha;simp_all;omega)
   |trace_state
 have h3:=ua s dY;by_cases es:s.err=0;case neg=>
  rw[Ti he ha es,if_neg es];refine M.F Tryz.func34 ?_;(repeat' first|refine M.o2 @h1 @h3 ?_|refine M.gs ?_ ?_<;>intro h|refine M.z2 5 9 ?_|refine M.cs ?_ ?_<;>intro h|refine M.gk ?_|fail);all_goals first
   |rfl
   |(exfalso;simp at h;exact es h)
   |(exfalso;have:=of_decide_eq_false h;omega)
   |(exfalso;have:=of_decide_eq_true h;omega)
   |(exfalso;simp_all;omega)
   |trace_state
 have s1:=(Tm.Ad s).1 es;have s2:=yd es;rw[es] at h3;have h4:=Zip _ p (ZB _) dY g1;have h5:=Mu 536870912 dY _ s (ZB _) dY s1.1;rw[<-PX] at h5;by_cases hn:p.AL=false\/s.near=false
 .rw[TM he ha es hn,if_neg ej];cases hb:p.AL with
  |false=>
   rw[hb] at h4;refine M.F Tryz.func34 ?_;(repeat' first|refine M.o3 @h1 @h3 @h4 ?_|refine M.gs ?_ ?_<;>intro h|refine M.z2 5 11 ?_|refine M.cs ?_ ?_<;>intro h|refine M.gk ?_|fail);all_goals first
    |rfl
    |(exfalso;simp at h;done)
    |(exfalso;have:=of_decide_eq_false h;omega)
    |(exfalso;have:=of_decide_eq_true h;omega)
    |(exfalso;simp_all;omega)
    |trace_state
  |true=>
   rw[hb] at h4;rw[hn.resolve_left gK] at h5;refine M.F Tryz.func34 ?_;(repeat' first|refine M.o4 @h1 @h3 @h4 @h5 ?_|refine M.gs ?_ ?_<;>intro h|refine M.z2 5 11 ?_|refine M.cs ?_ ?_<;>intro h|refine M.gk ?_|fail);all_goals first
    |rfl
    |(exfalso;simp at h;done)
    |(exfalso;have:=of_decide_eq_false h;omega)
    |(exfalso;have:=of_decide_eq_true h;omega)
    |(exfalso;simp_all;omega)
    |trace_state
 rw[TH he ha es hn];have n1:p.AL=true:=by cases h:p.AL with|true=>rfl|false=>exact absurd (.inl h) hn
 have n2:s.near=true:=by cases h:s.near with|true=>rfl|false=>exact absurd (.inr h) hn
 rw[n1] at h4;rw[n2] at h5;have hix:=Lv p g1 g2 0 n1;have hnp:p.ix 274877906944:=Ue (Zup p g1 n1) dY;have sp:=s.size_pos;have hG:=YQ a p g2 dY 0;have h6:=NW _ p (ZB _) dY;have h7:=Zvb a dY _ p 0 (ZB _) dY dY dY dY dY g1 hnp;have h8:=yu _ s (ZB _) dY;rw[bD] at h7;have hbd:=YA a p 0;have hgn:=Ye5 p.size s.size (I1 p a s);have hps:=p.size_pos;unfold I1 at hgn ⊢;have hm1:0<=u7 (p.CE (A6 a) (A8 a) 0)*((s.size:Int)-1):=cN hbd.1 dY;have hm2:u7 (p.CE (A6 a) (A8 a) 0)*((s.size:Int)-1)<=1064960*4096:=cO dY dY dY dY;have e3:=Yax (s:=s) (a:=a) ha.1 s1.1 p g1 0 dY;have e4:=Ykl (s:=s) (a:=a) ha.1 s1.1 p g1 0 dY;rw[show GM s.size (p.CE (A6 a) (A8 a) 0)=u7 (p.CE (A6 a) (A8 a) 0)*((s.size:Int)-1) by
  have:=Yz p.size s.size (p.CE (A6 a) (A8 a) 0);omega] at e4
 have hc:=Yip a s dY s1.1 dY (fun q hq=>by have h:=ZH.1 n2 q hq;have:=s.AJ s1.1 0 q hq;simp at h;omega) _ p 0 (ZB _) dY dY dY g1 hnp;have hfl:=Lu _ e4.1;have hcp:=fun(h:(p.pt a s 0).full<549755813888)=>LP _ (p.pt a s 0) (ZB _) h;have hft:=fun(h:(p.pt a s 0).full<549755813888)=>Sl (p.pt a s 0) h;generalize DQ s.size (p.CE (A6 a) (A8 a) 0)=B at*;generalize Di p.size s.size (p.CE (A6 a) (A8 a) 0)=N at*;generalize p.pt a s 0=P at*;generalize u7 (p.CE (A6 a) (A8 a) 0)=T at*;clear hG hn hix hnp;have hsz1:(1:Int)<=s.size:=dY
 generalize hZ:(s.size:Int)=Z at*;generalize hY:(p.size:Int)=Y at*;have w1:IntKind.i64.wrap (Z-1)=Z-1:=IntWalk.i64_in _ dY;have w2:IntKind.i64.wrap (T*(Z-1))=T*(Z-1):=IntWalk.i64_in _ dY;have w3:IntKind.i64.wrap (Y+T*(Z-1))=N:=by rw[hgn];exact IntWalk.i64_in _ dY
 by_cases hN:N>16384
 .rw[if_pos (Or.inr hN),if_neg ej];clear hcp hft;refine M.F Tryz.func34 ?_;(repeat' first|refine M.o6 @h1 @h3 @h4 @h5 @h6 @h7 ?_|refine M.c2 (h8) ?_|refine M.gs ?_ ?_<;>intro h|refine M.z3 5 10 13 ?_|refine M.cs ?_ ?_<;>intro h|refine M.gk ?_|fail);all_goals first
   |rfl
   |(exfalso;have:=of_decide_eq_false h;omega)
   |(exfalso;have:=of_decide_eq_true h;omega)
   |(exfalso;simp_all;omega)
   |trace_state
 .have hft:=hft dY;have hcp:=hcp dY;rw[e3,decide_eq_true (show P.size<=16384 by omega),Bool.and_true] at hft;cases B with
  |true=>
   rw[if_pos (Or.inl rfl),if_neg ej];refine M.F Tryz.func34 ?_;(repeat' first|refine M.o6 @h1 @h3 @h4 @h5 @h6 @h7 ?_|refine M.c2 (h8) ?_|refine M.c2 (hc) ?_|refine M.c2 (hft) ?_|refine M.gs ?_ ?_<;>intro h|refine M.z3 5 10 12 ?_|refine M.cs ?_ ?_<;>intro h|refine M.gk ?_|fail);all_goals first
    |rfl
    |(exfalso;have:=of_decide_eq_false h;omega)
    |(exfalso;have:=of_decide_eq_true h;omega)
    |(exfalso;simp_all;omega)
    |trace_state
  |false=>
   rw[if_neg (show ¬(false=true\/N>16384) by simp;omega),if_pos rfl];refine M.F Tryz.func34 ?_;(repeat' first|refine M.o6 @h1 @h3 @h4 @h5 @h6 @h7 ?_|refine M.c2 (h8) ?_|refine M.c2 (hc) ?_|refine M.c2 (hft) ?_|refine M.c2 (hcp) ?_|refine M.gs ?_ ?_<;>intro h|refine M.z3 5 10 12 ?_|refine M.cs ?_ ?_<;>intro h|refine M.gk ?_|fail);all_goals first
    |rfl
    |(exfalso;have:=of_decide_eq_false h;omega)
    |(exfalso;have:=of_decide_eq_true h;omega)
    |(exfalso;simp_all;omega)
    |trace_state
theorem Zxb(p:Pf)(a:Int)(q:Pf)(hp:p.full<274877906944)(hq:q.full<274877906944):PC E 36 [.agg p.view,.i a,.agg q.view] (.AM [.agg (Kp p a q).view,.i (Fu p a q)]):=by
 have h1:=we p dY;unfold Kp;by_cases he:p.err=0;case neg=>
  rw[RM he,if_neg he];refine M.F Tryz.func36 ?_;(repeat' first|refine M.o1 @h1 ?_|refine M.z1 4 ?_|refine M.cs ?_ ?_<;>intro h|refine M.gk ?_|fail);all_goals first
   |rfl
   |(exfalso;simp at h;exact he h)
   |trace_state
 obtain⟨g1,g2,g3,g4,g5,g6⟩:=vo he;rw[he] at h1;by_cases ha:0<=a/\a<=16384;case neg=>
  rw[Q8 he ha,if_neg ej];refine M.F Tryz.func36 ?_;(repeat' first|refine M.o1 @h1 ?_|refine M.gs ?_ ?_<;>intro h|refine M.z1 6 ?_|refine M.cs ?_ ?_<;>intro h|refine M.gk ?_|fail);all_goals first
   |rfl
   |(exfalso;apply ha;simp at*;omega)
   |(exfalso;apply ha;simp_all;omega)
   |trace_state
 have h3:=we q dY;by_cases es:q.err=0;case neg=>
  rw[Q4 he ha es,if_neg es];by_cases hpq:p=q
  .subst hpq;exact absurd he es
  refine M.F Tryz.func36 ?_;(repeat' first|refine M.o2 @h1 @h3 ?_|refine M.gs ?_ ?_<;>intro h|refine M.z2 5 9 ?_|refine M.cs ?_ ?_<;>intro h|refine M.gk ?_|fail);all_goals first
   |rfl
   |(exfalso;simp at h;exact es h)
   |(exfalso;have:=of_decide_eq_false h;omega)
   |(exfalso;have:=of_decide_eq_true h;omega)
   |(exfalso;simp_all;omega)
   |trace_state
 obtain⟨s1,s2,s3,s4,s5,s6⟩:=vo es;rw[es] at h3;have h4:=SQ 1 _ p (ZB _) dY;have h5:=SQ 1 _ q (ZB _) dY;have h6:=Zip _ q (ZB _) dY s1;rw[<-UR] at h4 h5;by_cases hn:p.A5=false\/q.A5=false\/q.AL=false
 .rw[Vy he ha es hn,if_neg ej];cases hb:p.A5 with
  |false=>
   rw[hb] at h4;refine M.F Tryz.func36 ?_;(repeat' first|refine M.o3 @h1 @h3 @h4 ?_|refine M.gs ?_ ?_<;>intro h|refine M.z2 5 11 ?_|refine M.cs ?_ ?_<;>intro h|refine M.gk ?_|fail);all_goals first
    |rfl
    |(exfalso;simp at h;done)
    |(exfalso;have:=of_decide_eq_false h;omega)
    |(exfalso;have:=of_decide_eq_true h;omega)
    |(exfalso;simp_all;omega)
    |trace_state
  |true=>
   rw[hb] at h4;cases hb2:q.A5 with
   |false=>
    rw[hb2] at h5;refine M.F Tryz.func36 ?_;(repeat' first|refine M.o4 @h1 @h3 @h4 @h5 ?_|refine M.gs ?_ ?_<;>intro h|refine M.z2 5 11 ?_|refine M.cs ?_ ?_<;>intro h|refine M.gk ?_|fail);all_goals first
     |rfl
     |(exfalso;simp at h;done)
     |(exfalso;simp_all;omega)
     |trace_state
   |true=>
    rw[hb2] at h5;rw[(hn.resolve_left gK).resolve_left (by simp[hb2])] at h6;refine M.F Tryz.func36 ?_;(repeat' first|refine M.o5 @h1 @h3 @h4 @h5 @h6 ?_|refine M.gs ?_ ?_<;>intro h|refine M.z2 5 11 ?_|refine M.cs ?_ ?_<;>intro h|refine M.gk ?_|fail);all_goals first
     |rfl
     |(exfalso;simp at h;done)
     |(exfalso;simp_all;omega)
     |trace_state
 rw[XN he ha es hn];have n1:p.A5=true:=by cases h:p.A5 with|true=>rfl|false=>exact absurd (.inl h) hn
 have n2:q.A5=true:=by cases h:q.A5 with|true=>rfl|false=>exact absurd (.inr (.inl h)) hn
 have n3:q.AL=true:=by cases h:q.AL with|true=>rfl|false=>exact absurd (.inr (.inr h)) hn
 rw[n1] at h4;rw[n2] at h5;rw[n3] at h6;have hx:=Oe p g1 0 n1;have h7:=NW _ p (ZB _) dY;have h8:=NW _ q (ZB _) dY;have h9:=Zzk a dY _ p 0 (ZB _) dY dY dY g1;rw[bD] at h9;have hbd:=Mp (WY a) p 0;have hc:=Yim a q dY es n3 n2 _ p 0 0 (ZB _) dY dY dY dY dY g1 hx;have hps:=p.size_pos;have hqs:=q.size_pos;unfold Hl;have hm1:0<=(((p.B8 (Cs a) 0).length:Nat):Int)*((q.size:Int)-1):=cN dY dY;have hm2:(((p.B8 (Cs a) 0).length:Nat):Int)*((q.size:Int)-1)<=1064960*16384:=cO dY dY dY dY;have hfull:=Zj a q p 0 0;have hfull2:p.size*q.full<=16384*1064960:=bh g3 s5;have hcp:=fun(h:(Pf.ph a q 0 0 p).full<549755813888)=>LP _ (Pf.ph a q 0 0 p) (ZB _) h;generalize Pf.ph a q 0 0 p=P at*;generalize hT:(((p.B8 (Cs a) 0).length:Nat):Int)=T at*;generalize hZ:(q.size:Int)=Z at*;generalize hY:(p.size:Int)=Y at*;have w1:IntKind.i64.wrap (Z-1)=Z-1:=IntWalk.i64_in _ dY;have w2:IntKind.i64.wrap (T*(Z-1))=T*(Z-1):=IntWalk.i64_in _ dY;have w3:IntKind.i64.wrap (Y+T*(Z-1))=Y+T*(Z-1):=IntWalk.i64_in _ dY;by_cases hN:Y+T*(Z-1)>16384
 .rw[if_pos hN,if_neg ej];clear hcp hfull hfull2;refine M.F Tryz.func36 ?_;(repeat' first|refine M.o6 @h1 @h3 @h4 @h5 @h6 @h7 ?_|refine M.c2 (h8) ?_|refine M.c2 (h9) ?_|refine M.gs ?_ ?_<;>intro h|refine M.z3 5 10 13 ?_|refine M.cs ?_ ?_<;>intro h|refine M.gk ?_|fail);all_goals first
   |rfl
   |(exfalso;have:=of_decide_eq_false h;omega)
   |(exfalso;have:=of_decide_eq_true h;omega)
   |(exfalso;simp_all;omega)
   |trace_state
 .have hcp:=hcp dY;rw[if_neg hN,if_pos rfl];refine M.F Tryz.func36 ?_;(repeat' first|refine M.o6 @h1 @h3 @h4 @h5 @h6 @h7 ?_|refine M.c2 (h8) ?_|refine M.c2 (h9) ?_|refine M.c2 (hc) ?_|refine M.c2 (hcp) ?_|refine M.gs ?_ ?_<;>intro h|refine M.z3 5 10 12 ?_|refine M.cs ?_ ?_<;>intro h|refine M.gk ?_|fail);all_goals first
   |rfl
   |(exfalso;have:=of_decide_eq_false h;omega)
   |(exfalso;have:=of_decide_eq_true h;omega)
   |(exfalso;simp_all;omega)
   |trace_state
theorem Ya3(p:Pf)(fr by_:Int)(hp:p.full<274877906944):PC E 30 [.agg p.view,.i fr,.i by_] (.AM [.agg (if Ip p fr by_=0 then p.uw fr by_ 0 else C4).view,.i (Ip p fr by_)]):=by
 have h1:=we p dY;by_cases he:p.err=0;case neg=>
  rw[Yu he,if_neg he];refine M.F Tryz.func30 ?_;(repeat' first|refine M.o1 @h1 ?_|refine M.z1 4 ?_|refine M.cs ?_ ?_<;>intro h|refine M.gk ?_|fail);all_goals first
   |rfl
   |(exfalso;simp at h;exact he h)
 obtain⟨g1,g2,g3,g4,g5,g6⟩:=vo he;rw[he] at h1;have h2:=Zip _ p (ZB _) dY g1;by_cases hg:¬(0<=fr/\fr<=4096)\/¬(0<=by_/\by_<=4096)\/p.AL=false
 .rw[Yr he hg,if_neg ej];refine M.F Tryz.func30 ?_;(repeat' first|refine M.o2 @h1 @h2 ?_|refine M.gs ?_ ?_<;>intro h|refine M.z1 6 ?_|refine M.cs ?_ ?_<;>intro h|refine M.gk ?_|fail);all_goals first
   |rfl
   |(exfalso;simp at*;rcases hg with hg|hg|hg<;>first|omega|(simp_all;done))
   |(exfalso;simp_all;omega)
 .rw[Uy he hg,if_pos rfl];obtain⟨a1,a2,a3⟩:=(show(0<=fr/\fr<=4096)/\(0<=by_/\by_<=4096)/\p.AL=true from⟨ZK.1 fun h=>hg (.inl h),ZK.1 fun h=>hg (.inr (.inl h)),by cases h:p.AL with|true=>rfl|false=>exact absurd (.inr (.inr h)) hg⟩);clear hg;rw[a3] at h2;have hx:=Lv p g1 g2 0 a3;have h3:=Ul by_ dY _ p fr 0 (ZB _) dY dY dY dY g1 hx;rw[bD,<-WV (fr:=fr) (b:=by_) dY g1 g2 hx 0] at h3;have hf:=OM fr by_ p 0;have h4:=LP _ (p.uw fr by_ 0) (ZB _) dY;generalize p.uw fr by_ 0=P at*;obtain⟨r1,r2⟩:=a1;obtain⟨r3,r4⟩:=a2;refine M.F Tryz.func30 ?_;(repeat' first|refine M.w4 @h1 @h2 @h3 @h4 ?_|refine M.gs ?_ ?_<;>intro h|fail);all_goals first
   |rfl
   |(exfalso;simp at h;omega)
   |(exfalso;simp at*;omega)
theorem Zv7(p:Pf)(fr by_:Int)(hp:p.full<274877906944):PC E 32 [.agg p.view,.i fr,.i by_] (.AM [.agg (if H6 p fr by_=0 then p.hw fr by_ 0 else C4).view,.i (H6 p fr by_)]):=by
 have h1:=we p dY;by_cases he:p.err=0;case neg=>
  rw[Ws he,if_neg he];refine M.F Tryz.func32 ?_;(repeat' first|refine M.o1 @h1 ?_|refine M.z1 4 ?_|refine M.cs ?_ ?_<;>intro h|refine M.gk ?_|fail);all_goals first
   |rfl
   |(exfalso;simp at h;exact he h)
 obtain⟨g1,g2,g3,g4,g5,g6⟩:=vo he;rw[he] at h1;have h2:=SQ 1 _ p (ZB _) dY;rw[<-UR] at h2;by_cases hg:¬(0<=fr/\fr<=16384)\/¬(0<=by_/\by_<=16384)\/p.A5=false
 .rw[Up he hg,if_neg ej];refine M.F Tryz.func32 ?_;(repeat' first|refine M.o2 @h1 @h2 ?_|refine M.gs ?_ ?_<;>intro h|refine M.z1 6 ?_|refine M.cs ?_ ?_<;>intro h|refine M.gk ?_|fail);all_goals first
   |rfl
   |(exfalso;simp at*;rcases hg with hg|hg|hg<;>first|omega|(simp_all;done))
   |(exfalso;simp_all;omega)
 .rw[UF he hg,if_pos rfl];obtain⟨a1,a2,a3⟩:=(show(0<=fr/\fr<=16384)/\(0<=by_/\by_<=16384)/\p.A5=true from⟨ZK.1 fun h=>hg (.inl h),ZK.1 fun h=>hg (.inr (.inl h)),by cases h:p.A5 with|true=>rfl|false=>exact absurd (.inr (.inr h)) hg⟩);clear hg;rw[a3] at h2;have hx:=Oe p g1 0 a3;have h3:=YJ by_ dY _ p fr 0 (ZB _) dY dY dY dY g1 hx;rw[bD,<-YN (fr:=fr) (b:=by_) dY g4 hx 0 dY] at h3;have hf:=R3 fr by_ p 0;have h4:=LP _ (p.hw fr by_ 0) (ZB _) dY;generalize p.hw fr by_ 0=P at*;obtain⟨r1,r2⟩:=a1;obtain⟨r3,r4⟩:=a2;refine M.F Tryz.func32 ?_;(repeat' first|refine M.w4 @h1 @h2 @h3 @h4 ?_|refine M.gs ?_ ?_<;>intro h|fail);all_goals first
   |rfl
   |(exfalso;simp at h;omega)
   |(exfalso;simp at*;omega)
theorem Yfy:∀(b:Nat) (t:Pf) (most:Int),t.full<=b->-100<=most/\most<=1000000000->PC E 40 [.agg t.view,.i most] (.i (t.cn most)):=by
 intro b;induction b with
 |zero=>intro t most h;have:=t.Ac;omega
 |succ b ih=>
 intro t most hsz hm;have hsz':=t.Af;have he:=Pf.Dc most t;have hbt:=t.ty.BX (most-1);have h1:=Tp _ t.ty (most-1) (ZB _) dY;refine M.F Tryz.func40 ?_;refine M.w1 @h1 ?_;generalize hn0:1+t.ty.cn (most-1)=n0 at*;have hn1:2<=n0/\(n0<=2\/n0<=most+1):=dY
 have hall:=Tm.EF most t.terms n0;clear hbt h1 hn0;refine AW.GA (ι:=Unit) (fun _=>([(1,.i most),(2,.ptr 0 0),(5,.i (Tm.AD most n0 t.terms))],⟨1,[(0,.var t.view)]⟩)) ?_ ?_
 .exact j3
 intro _;generalize Tm.AD most n0 t.terms=n1 at*;have hn2:2<=n1/\(n1<=2\/n1<=most+2):=dY
 clear hall hn1;have hall:=Fm.Fh most t.Aa n1;refine M.w0 ?_;refine AW.GA (ι:=Unit) (fun _=>([(1,.i most),(2,.ptr 0 0),(5,.i (Fm.AD most n1 t.Aa))],⟨1,[(0,.var t.view)]⟩)) ?_ ?_
 .refine AW.block (AW.upto t.Aa.length (fun i=>(i:Int)<Fm.AD most n1 (t.Aa.take i)/\(Fm.AD most n1 (t.Aa.take i)<=2\/Fm.AD most n1 (t.Aa.take i)<=most+2))
   (fun i=>([(1,.i most),(2,.ptr 0 0),(5,.i (Fm.AD most n1 (t.Aa.take i))),(7,.i i)],⟨1,[(0,.var t.view)]⟩))
   ⟨ir,ir⟩ (M.W Ay) fun i hi hP=> ?_)
  obtain⟨p1,p2⟩:=hP;by_cases hlt:i<t.Aa.length
  .by_cases hle:Fm.AD most n1 (t.Aa.take i)<=most
   .have htk:=Fm.B5 hlt hle;have hs2:=zc Fm.full (ZA hlt);have hx:=t.Aa[i].BX (most-Fm.AD most n1 (t.Aa.take i));have hc:=Yg0 _ t.Aa[i] (most-Fm.AD most n1 (t.Aa.take i)) (ZB _) dY;(repeat' first|refine M.o0 ?_|refine M.gs ?_ ?_<;>intro h|refine M.z1 9 ?_|refine M.cs ?_ ?_<;>intro h|refine M.gk ?_|fail);all_goals first
     |(exfalso;simp at h;omega)
     |(exfalso;simp at*;omega)
     |skip
    refine K.sq (AW.block ?_);refine M.w1 @hc ?_;refine⟨hlt,(show((i+1:Nat):Int)<Fm.AD most n1 (t.Aa.take (i+1))/\(Fm.AD most n1 (t.Aa.take (i+1))<=2\/Fm.AD most n1 (t.Aa.take (i+1))<=most+2) by omega),?_⟩;simp only[htk];exact(M.W Ay)
   .have e:=Fm.Cj hle;rw[<-e];(repeat' first|refine M.o0 ?_|refine M.gs ?_ ?_<;>intro h|refine M.z1 9 ?_|refine M.cs ?_ ?_<;>intro h|refine M.gk ?_|fail);all_goals first
     |(exfalso;simp at*;omega)
     |(exfalso;simp at*;rw[e] at*;omega)
     |exact⟨(),(M.W Ay)⟩
  .have e:t.Aa.take i=t.Aa:=aC dY;rw[e];(repeat' first|refine M.o0 ?_|refine M.gs ?_ ?_<;>intro h|refine M.z1 9 ?_|refine M.cs ?_ ?_<;>intro h|refine M.gk ?_|fail);all_goals first
    |(exfalso;simp at*;omega)
    |exact⟨(),(M.W Ay)⟩
 intro _;generalize Fm.AD most n1 t.Aa=n2 at*;have hn3:2<=n2/\(n2<=2\/n2<=most+2):=dY
 clear hall hn2;refine M.w0 ?_;refine AW.block (AW.upto t.args.length (fun i=>(i:Int)<Pf.AD most n2 (t.args.take i)/\(Pf.AD most n2 (t.args.take i)<=2\/Pf.AD most n2 (t.args.take i)<=most+2))
  (fun i=>([(1,.i most),(2,.ptr 0 0),(5,.i (Pf.AD most n2 (t.args.take i))),(8,.i i)],⟨1,[(0,.var t.view)]⟩))
  ⟨by simp[Pf.AD];omega,by simp[Pf.AD];omega⟩ (M.W Ay) fun i hi hP=> ?_)
 obtain⟨p1,p2⟩:=hP;by_cases hlt:i<t.args.length
 .by_cases hle:Pf.AD most n2 (t.args.take i)<=most
  .have htk:=Pf.B5 hlt hle;have hs2:=zc Pf.full (ZA hlt);have hx:=t.args[i].BX (most-Pf.AD most n2 (t.args.take i));have hc:=ih t.args[i] (most-Pf.AD most n2 (t.args.take i)) dY dY;(repeat' first|refine M.o0 ?_|refine M.gs ?_ ?_<;>intro h|refine M.z1 13 ?_|refine M.cs ?_ ?_<;>intro h|refine M.gk ?_|fail);all_goals first
    |(exfalso;simp at h;omega)
    |(exfalso;simp at*;omega)
    |skip
   refine K.sq (AW.block ?_);refine M.w1 @hc ?_;refine⟨hlt,(show((i+1:Nat):Int)<Pf.AD most n2 (t.args.take (i+1))/\(Pf.AD most n2 (t.args.take (i+1))<=2\/Pf.AD most n2 (t.args.take (i+1))<=most+2) by omega),?_⟩;simp only[htk];exact(M.W Ay)
  .have e:=Pf.Cj hle;(repeat' first|refine M.o0 ?_|refine M.gs ?_ ?_<;>intro h|refine M.z1 13 ?_|refine M.cs ?_ ?_<;>intro h|refine M.gk ?_|fail);all_goals first|exfalso;simp at*;omega|(rw[he,e];rfl)
 .have e:t.args.take i=t.args:=aC dY;rw[e];(repeat' first|refine M.o0 ?_|refine M.gs ?_ ?_<;>intro h|refine M.z1 13 ?_|refine M.cs ?_ ?_<;>intro h|refine M.gk ?_|fail);all_goals first|exfalso;simp at*;omega|(rw[he];rfl)
end Go.Ab
