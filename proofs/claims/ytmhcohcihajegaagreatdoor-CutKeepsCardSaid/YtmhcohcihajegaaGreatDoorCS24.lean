/- A part of this seat's proofs. No conditions. -/
import Derived.Test.YtmhcohcihajegaaGreatDoorCS22
import Derived.Test.YtmhcohcihajegaaGreatDoorCS23
namespace Go.Ab
open Go Go.Proofs
set_option maxRecDepth 100000
set_option maxHeartbeats 4000000
set_option linter.all false
def DI(n:Nat):Nat:=4000000*3^n
theorem Yx:∀n:Nat,1<=3^n
 |0=>kq
 |n+1=>by rw[jf];have:=Yx n;omega
theorem vp(n:Nat):4000000<=DI n:=by unfold DI;have:=Yx n;omega
theorem w7(n:Nat):DI (n+1)=3*DI n:=by unfold DI;rw[jf];omega
theorem FD{n:Nat}(h:n<=4):DI n<=400000000:=by unfold DI;have:3^n<=3^4:=i9 kn h;omega
theorem Lw(f:Fm)(fr by_:Int):(f.As fr by_).full<=f.full:=Fm.DU (fun b t=>Tm.DU (fun i c=>pN) t 0) f 0
theorem Li(d:Dk)(g:List Ty)(s:Ty)(hd:d.ok)(hg:Aj g)(hs:s.small)(hl:g.length<=16):∃(t:Tm) (d':Dk),d'.ok/\t.err=0/\t.inf g=(s,0)/\
 AC E 58 [.ptr 0 0,.s .ty g,.agg s.view,.i 1] ⟨1,[(0,.var d.cells)]⟩ (.agg t.view) ⟨1,[(0,.var d'.cells)]⟩:=by
 have hm:=Dk.C8 3 d g s hg hs kn kn;exact⟨_,_,Dk.Dd 3 d g s hd,hm.err hg hs kn,hm.inf hg hs,LF 3 kn d g s 1 kn hd hg hs kn kn kn⟩
theorem We(d:Dk)(g:List Ty)(hd:d.ok)(hg:Aj g)(hl:g.length<=16):∃(t:Tm) (d':Dk),d'.ok/\t.err=0/\t.size<=60/\t.inf g=(Ac,0)/\
 AC E 58 [.ptr 0 0,.s .ty g,.agg Ac.view,.i 1] ⟨1,[(0,.var d.cells)]⟩ (.agg t.view) ⟨1,[(0,.var d'.cells)]⟩:=
 ⟨_,_,Dk.Dd 3 d g Ac hd,(J4 d hg).1.err,(J4 d hg).2,(J4 d hg).1.inf,LF 3 kn d g Ac 1 kn hd hg zj kn kn kn⟩
theorem QV(f:Fm)(h1:f.shape=true)(h2:(f.A6 0).all (fun q=>(q.1.vars 0).all fun r=>decide (0<=r.1/\r.1<10000))=true)(h3:f.full<=300000):EL f:=
 ⟨h1,fun q hq r hr=>by simpa using List.all_eq_true.1 (fF.1 h2 q hq) r hr,h3⟩
theorem PJ(d:Dk)(hd:d.ok):∃(s:Ty) (d':Dk),d'.ok/\s.small/\AC E 54 [.ptr 0 0,.i 1] ⟨1,[(0,.var d.cells)]⟩ (.agg s.view) ⟨1,[(0,.var d'.cells)]⟩:=
 ⟨_,_,Dk.BG 1 d hd,d.type1,Ni 1 1 d kn kn kn hd⟩
theorem Wb(d:Dk)(hd:d.ok):∃(s:Ty) (d':Dk),d'.ok/\s.small/\AC E 54 [.ptr 0 0,.i 0] ⟨1,[(0,.var d.cells)]⟩ (.agg s.view) ⟨1,[(0,.var d'.cells)]⟩:=
 ⟨_,_,Dk.BG 0 d hd,⟨d.type0.1,by rw[d.type0.2];omega⟩,Ni 0 0 d kn kn kn hd⟩
theorem GC(d:Dk)(n:Int)(hd:d.ok)(hn:0<n/\n<1099511627776):∃(i:Int) (d':Dk),d'.ok/\(0<=i/\i<n)/\AC E 12 [.ptr 0 0,.i n] ⟨1,[(0,.var d.cells)]⟩ (.i i) ⟨1,[(0,.var d'.cells)]⟩:=
 ⟨_,_,Dk.AQ hd n,Dk.BC d n hn.1,FX d n hd hn.2⟩
theorem WE(d:Dk)(g:List Ty)(hd:d.ok)(hg:Aj g)(hl:g.length<=16):∃(f:Fm) (d':Dk),d'.ok/\f.err=0/\f.A9 g/\
 AC E 31 [.ptr 0 0,.s .ty g,.i 1] ⟨1,[(0,.var d.cells)]⟩ (.agg f.view) ⟨1,[(0,.var d'.cells)]⟩:=by
 have gf:=Dk.Cw 1 d g hg;have h:(Dk.fm 1 d g).1.err=0:=(Fm.Aa _).2 ⟨gf.1,by have:=gf.2.1;omega⟩;exact⟨_,_,Dk.Gj 1 d g hd,h,Dk.Ji 1 d g hg,Wo 1 d g 1 kn rfl hd hg kn⟩
theorem Oc{lems:List Fm}{tys:List Ty}{hyps:List Fm}(hc:(Ck.mk lems tys hyps).ok)(hs:Aj tys){n:Nat}{p:Pf}(hp:Made n p)(hn:n<=1000000000):∃(x:Fm) (us:List Int) (e:Int),(e=0->x.err=0/\x.A9 tys)/\
 PC E 14 [.s .fm lems,.agg [.s .ty tys,.s .fm hyps],.agg p.view] (En x us e):=by
 have hf:=hp.full;have h0:=hc.sum;have h:=SW lems hyps tys p (fun f hf=>nW) (fun f hf=>nX) ob nU nV kn;refine⟨_,_,_,fun he=> ?_,h⟩;unfold yb at he ⊢;rw[if_neg pg] at he ⊢;by_cases h1:p.err≠0
 .rw[if_pos h1] at he;exact absurd he h1
 .rw[if_neg h1] at he ⊢;have h2:=((Kb p hp.shape) _ hc).1 he;exact⟨h2.1,h2.2.1⟩
theorem EL.size{g:List Ty}{f:Fm}(hs:f.shape=true)(hz:f.size<=4500)(ho:f.A9 g)(hg:g.length<=20):EL f:=by
 have h1:=K4 f hs;refine⟨hs,fun q hq r hr=> ?_,kn⟩;have:=Q2 f g 0 hs ho q hq r hr;omega
theorem U2{f:Fm}(hf:f.err=0):(f.As 0 1).shape=true/\(f.As 0 1).size<=4096:=(Fm.Aa _).1 (JW hf kn)
theorem UX{f:Fm}{g:List Ty}(hf:f.err=0)(ho:f.A9 g)(s:Ty):(f.As 0 1).A9 (g++[s]):=by
 have h:=wy (g:=g) (h:=[]) [s] ((Fm.Aa f).1 hf).1 (by simpa using ho);simpa using h
theorem Mr{f:Fm}{g:List Ty}{k:Int}{s:Ty}(hk:k=5\/k=7)(hs:s.small)(h1:f.shape=true)(h2:f.size<=4400)(ho:f.A9 (g++[s]))(hg:g.length<=16):EL (AL k s f):=by
 have he:=uy hs;have hq:=Gf.qu (g:=g) k kn he ⟨h1,h2,ho⟩;exact EL.size hq.sh (by have:=hq.sz;omega) hq.ok kn
theorem RY{f:Fm}{g:List Ty}(hf:f.err=0)(ho:f.A9 g)(s:Ty)(hg:g.length<=16):EL (f.As 0 1):=
 EL.of (g:=g++[s]) (JW hf kn) (UX hf ho s) kC
theorem Z9{t:Tm}{g:List Ty}(he:t.err=0)(hi:t.inf g=(Ac,0)):(t.re (zi 0 1) 0).inf (g++[Ac])=(Ac,0)/\(t.re (zi 0 1) 0).shape=true/\(t.re (zi 0 1) 0).size=t.size:=by
 have hs:=(Tm.Aa t).1 he;have h1:=UX (f:=AV t t) (g:=g);have h2:=wy (f:=AV t t) (g:=g) (h:=[]) [Ac] (Lt hs.1 hs.1) (by simpa using CK.2 ⟨hi,hi⟩);have e:(AV t t).As ([]:List Ty).length [Ac].length=AV (t.re (zi 0 1) 0) (t.re (zi 0 1) 0):=rfl;rw[e] at h2;have h3:=(CK.1 h2).1;refine⟨by simpa using h3,?_,?_⟩
 .exact y6 0 hs.1 kn
 .exact NL 0 1 t 0 hs.1
theorem Th{t:Tm}{g:List Ty}(he:t.err=0)(hi:t.inf g=(Ac,0))(hz:t.size<=2000):(AV (t.re (zi 0 1) 0) (vT 0)).err=0/\(AV (t.re (zi 0 1) 0) (vT 0)).A9 (g++[Ac]):=by
 obtain⟨h1,h2,h3⟩:=Z9 he hi;exact⟨(Fm.Aa _).2 ⟨Lt h2 (Jx 0 kn),by rw[Mp,h3];have h9:=(show(vT 0).size=1 by decide);omega⟩,CK.2 ⟨h1,UT g Ac⟩⟩
def F7(n:Nat):Prop:=∀(lems:List Fm) (tys:List Ty) (hyps:List Fm) (d:Dk) (k:Int),k=n->d.ok->(Ck.mk lems tys hyps).ok->Aj tys->
 ∃(p:Pf) (d':Dk),Made (DI n) p/\d'.ok/\AC E 20 [.ptr 0 0,.s .fm lems,.agg [.s .ty tys,.s .fm hyps],.i k] ⟨1,[(0,.var d.cells)]⟩ (.agg p.view) ⟨1,[(0,.var d'.cells)]⟩
theorem Ga{lems:List Fm}{tys:List Ty}{hyps:List Fm}(hc:(Ck.mk lems tys hyps).ok):tys.length<=16/\hyps.length<=16/\lems.length<=32:=⟨hc.len,hc.nh,hc.nl⟩
theorem L2(n:Nat)(lems:List Fm)(tys:List Ty)(hyps:List Fm)(hc:(Ck.mk lems tys hyps).ok)(hs:Aj tys)(d:Dk)(hd:d.ok)(k:Int):
 ∃(p:Pf) (d':Dk),Made (DI n) p/\d'.ok/\AW E Tryz.f20.ntmps 1 (Iv [1,1,1] (NZ Tryz.f20)) [(0,.ptr 0 0),(1,.s .fm lems),(3,.i k),(6,.ptr 1 0),(8,.ptr 2 0),(9,.ptr 3 0)] ⟨4,[(0,.var d.cells),(1,.var [.s .ty tys,.s .fm hyps]),(2,.var [.i 0,.i 0,.i 0,.slice .nil (.t .ty []),.slice .nil (.t .tm []),.slice .nil (.t .fm []),.slice .nil (.t .pf [])]),(3,.var Ac.view)]⟩ (FT E 1 Tryz.f20.results.toList (.agg p.view) ⟨1,[(0,.var d'.cells)]⟩):=by
 have hb:=vp n;have hl:=Ga hc;obtain⟨j,d1,ok1,hj,h1⟩:=GC d 4 hd kn;obtain⟨t,d2,ok2,et,it,h2⟩:=Li d1 tys Ac ok1 hs zj hl.1;have ti:=DA.of et it kn;have h3:=vj t (by have:=ti.2.2;omega);by_cases a1:j=0/\0<hyps.length
 .obtain ⟨rfl,a2⟩:=a1;obtain⟨i,d3,ok3,hi,h4⟩:=GC d1 hyps.length ok1 kn;have h5:=Lz i;refine⟨vd i,d3,(Made.hyp kn).up kn,ok3,?_⟩;show AW _ _ _ (Code.seq _ _) _ _ _;(repeat' first|refine M.v3 @h1 @h4 @h5 ?_|refine M.cs ?_ ?_<;>intro h|fail);all_goals first|exfalso;simp_all;done|exact M.n2 AJ (h8:=kG)
 by_cases a3:j=1/\0<lems.length
 .obtain ⟨rfl,a2⟩:=a3;obtain⟨i,d3,ok3,hi,h4⟩:=GC d1 lems.length ok1 kn;refine⟨.mk 2 i (.mk 0 []) [] [] [],d3,(Made.lem kn).up kn,ok3,?_⟩;show AW _ _ _ (Code.seq _ _) _ _ _;(repeat' first|refine M.v2 @h1 @h4 ?_|refine M.cs ?_ ?_<;>intro h|fail);all_goals first|exfalso;simp_all;done|exact M.n2 AJ (h8:=kG)
 refine⟨.mk 18 0 (.mk 0 []) [t] [] [],d2,(Made.ref ti).up kn,ok2,?_⟩;have q3:Ac.size=1:=rfl;show AW _ _ _ (Code.seq _ _) _ _ _;rcases(show j=0\/j=1\/(j≠0/\j≠1) by omega) with rfl|rfl|hj2
 .have a4:hyps.length=0:=kn
  obtain rfl:=fX a4;refine M.v3 @h1 @h2 @h3 ?_;all_goals first|exfalso;simp at h;done|exact M.n2 AJ (h8:=kG)
 .have a4:lems.length=0:=kn
  obtain rfl:=fX a4;refine M.v3 @h1 @h2 @h3 ?_;all_goals first|exfalso;simp at h;done|exact M.n2 AJ (h8:=kG)
 .repeat' (first|refine M.v3 @h1 @h2 @h3 ?_|refine M.cs ?_ ?_<;>intro h|fail)
  all_goals first|exfalso;simp at h;omega|exfalso;simp_all;done|exact M.n2 AJ (h8:=kG)
abbrev GA(n:Nat)(lems:List Fm)(tys:List Ty)(hyps:List Fm)(d:Dk)(k:Int):Prop:=
 ∃(p:Pf) (d':Dk),Made (DI (n+1)) p/\d'.ok/\AW E Tryz.f20.ntmps 1 (Iv [1,1] (NZ Tryz.f20)) [(0,.ptr 0 0),(1,.s .fm lems),(3,.i k),(6,.ptr 1 0),(8,.ptr 2 0),(9,.ptr 3 0)] ⟨4,[(0,.var d.cells),(1,.var [.s .ty tys,.s .fm hyps]),(2,.var [.i 0,.i 0,.i 0,.slice .nil (.t .ty []),.slice .nil (.t .tm []),.slice .nil (.t .fm []),.slice .nil (.t .pf [])]),(3,.var Ac.view)]⟩ (FT E 1 Tryz.f20.results.toList (.agg p.view) ⟨1,[(0,.var d'.cells)]⟩)
theorem Yny(n:Nat)(hn:n<=3)(H:F7 n)(lems:List Fm)(tys:List Ty)(hyps:List Fm)(hc:(Ck.mk lems tys hyps).ok)(hs:Aj tys)(ht:tys.length<10)(hh:hyps.length<10)(d d1:Dk)(ok1:d1.ok)(k:Int)(hk:k=(n:Int)+1)
 (hx:AC E 12 [.ptr 0 0,.i 17] ⟨1,[(0,.var d.cells)]⟩ (.i 0) ⟨1,[(0,.var d1.cells)]⟩):
 GA n lems tys hyps d k:=by
 have hb:=vp n;have hbs:=w7 n;have hbl:=FD (show n<=4 by omega);have hl:=Ga hc;obtain⟨p1,d2,m1,ok2,hp1⟩:=H lems tys hyps d1 (k-1) kn ok1 hc hs;have fp1:=m1.full;obtain⟨p2,d3,m2,ok3,hp2⟩:=H lems tys hyps d2 (k-1) kn ok2 hc hs;have fp2:=m2.full;have hP:=Fi 3 [p1,p2] ko (JS kn kn);refine⟨_,d3,(Made.two (k:=3) kn m1 m2).up kn,ok3,?_⟩;show AW _ _ _ (Code.seq _ _) _ _ _;(repeat' first|refine M.o0 ?_|refine M.gs ?_ ?_<;>intro h|refine M.z1 3 ?_|refine M.cs ?_ ?_<;>intro h|refine M.gk ?_|fail);all_goals first
  |(exfalso;simp at h;omega)
  |skip
 refine M.v4 @hx @hp1 @hp2 @hP ?_;all_goals first|exact M.n2 AJ (h8:=kG)
theorem Ymm(n:Nat)(hn:n<=3)(H:F7 n)(lems:List Fm)(tys:List Ty)(hyps:List Fm)(hc:(Ck.mk lems tys hyps).ok)(hs:Aj tys)(ht:tys.length<10)(hh:hyps.length<10)(d d1:Dk)(ok1:d1.ok)(k:Int)(hk:k=(n:Int)+1)
 (hx:AC E 12 [.ptr 0 0,.i 17] ⟨1,[(0,.var d.cells)]⟩ (.i 1) ⟨1,[(0,.var d1.cells)]⟩):
 GA n lems tys hyps d k:=by
 have hb:=vp n;have hbs:=w7 n;have hbl:=FD (show n<=4 by omega);have hl:=Ga hc;obtain⟨i,d4,ok4,hi,h4⟩:=GC d1 2 ok1 kn;obtain⟨p1,d2,m1,ok2,hp1⟩:=H lems tys hyps d4 (k-1) kn ok4 hc hs;have fp1:=m1.full;obtain⟨p2,d3,m2,ok3,hp2⟩:=H lems tys hyps d2 (k-1) kn ok2 hc hs;have fp2:=m2.full;have hP:=Fi 3 [p1,p2] ko (JS kn kn);have hm:=Made.two (k:=3) kn m1 m2;have fm:=hm.full;have hP2:=Fi (4+i) [.mk 3 0 (.mk 0 []) [] [] [p1,p2]] ko (ux kn);refine⟨_,d3,(Made.one (k:=4+i) kn hm).up kn,ok3,?_⟩;show AW _ _ _ (Code.seq _ _) _ _ _;(repeat' first|refine M.o0 ?_|refine M.gs ?_ ?_<;>intro h|refine M.z1 3 ?_|refine M.cs ?_ ?_<;>intro h|refine M.gk ?_|fail);all_goals first
  |(exfalso;simp at h;omega)
  |skip
 refine M.v6 @hx @h4 @hp1 @hp2 @hP @hP2 ?_;all_goals first|exact M.n2 AJ (h8:=kG)
theorem Ylx(n:Nat)(hn:n<=3)(H:F7 n)(lems:List Fm)(tys:List Ty)(hyps:List Fm)(hc:(Ck.mk lems tys hyps).ok)(hs:Aj tys)(ht:tys.length<10)(hh:hyps.length<10)(d d1:Dk)(ok1:d1.ok)(k:Int)(hk:k=(n:Int)+1)
 (hx:AC E 12 [.ptr 0 0,.i 17] ⟨1,[(0,.var d.cells)]⟩ (.i 2) ⟨1,[(0,.var d1.cells)]⟩):
 GA n lems tys hyps d k:=by
 have hb:=vp n;have hbs:=w7 n;have hbl:=FD (show n<=4 by omega);have hl:=Ga hc;obtain⟨f,d4,ok4,ef,of_,h4⟩:=WE d1 tys ok1 hs hl.1;have ff:=yh ef;have hw:=V0 tys hyps f kn;obtain⟨p1,d2,m1,ok2,hp1⟩:=H lems tys (hyps++[f]) d4 (k-1) kn ok4 (hc.Ah lq ef of_) hs;have fp1:=m1.full;have hI:=UR f p1 kn kn;refine⟨_,d2,(Made.imp (EL.of ef of_ kn) m1).up kn,ok2,?_⟩;show AW _ _ _ (Code.seq _ _) _ _ _;(repeat' first|refine M.o0 ?_|refine M.gs ?_ ?_<;>intro h|refine M.z1 3 ?_|refine M.cs ?_ ?_<;>intro h|refine M.gk ?_|fail);all_goals first
  |(exfalso;simp at h;omega)
  |skip
 refine M.v5 @hx @h4 @hw @hp1 @hI ?_;all_goals first|exact M.n2 AJ (h8:=kG)
theorem Yn0(n:Nat)(hn:n<=3)(H:F7 n)(lems:List Fm)(tys:List Ty)(hyps:List Fm)(hc:(Ck.mk lems tys hyps).ok)(hs:Aj tys)(ht:tys.length<10)(hh:hyps.length<10)(d d1:Dk)(ok1:d1.ok)(k:Int)(hk:k=(n:Int)+1)
 (hx:AC E 12 [.ptr 0 0,.i 17] ⟨1,[(0,.var d.cells)]⟩ (.i 3) ⟨1,[(0,.var d1.cells)]⟩):
 GA n lems tys hyps d k:=by
 have hb:=vp n;have hbs:=w7 n;have hbl:=FD (show n<=4 by omega);have hl:=Ga hc;obtain⟨p1,d2,m1,ok2,hp1⟩:=H lems tys hyps d1 (k-1) kn ok1 hc hs;have fp1:=m1.full;obtain⟨x,us,e,hxe,hI⟩:=Oc hc hs m1 kn;by_cases he:e=0;case neg=>
  exact pT
 subst he;obtain⟨ex,ox⟩:=hxe rfl;have fx:=yh ex;have hw:=V0 tys hyps x kn;obtain⟨p2,d3,m2,ok3,hp2⟩:=H lems tys (hyps++[x]) d2 (k-1) kn ok2 (hc.Ah lq ex ox) hs;have fp2:=m2.full;have hIm:=UR x p2 kn kn;have hm:=Made.imp (EL.of ex ox kn) m2;have fm:=hm.full;have hP:=Fi 7 [.mk 6 0 (.mk 0 []) [] [x] [p2],p1] ko (JS kn kn);refine⟨_,d3,(Made.two (k:=7) kn hm m1).up kn,ok3,?_⟩;show AW _ _ _ (Code.seq _ _) _ _ _;(repeat' first|refine M.o0 ?_|refine M.gs ?_ ?_<;>intro h|refine M.z1 3 ?_|refine M.cs ?_ ?_<;>intro h|refine M.gk ?_|fail);all_goals first
  |(exfalso;simp at h;omega)
  |skip
 (repeat' first|refine M.w6 @hx @hp1 @hI @hw @hp2 @hIm ?_|refine M.c2 (hP) ?_|refine M.bl ?_|fail);all_goals first|exact M.n2 AJ (h8:=kG)
theorem Yll(n:Nat)(hn:n<=3)(H:F7 n)(lems:List Fm)(tys:List Ty)(hyps:List Fm)(hc:(Ck.mk lems tys hyps).ok)(hs:Aj tys)(ht:tys.length<10)(hh:hyps.length<10)(d d1:Dk)(ok1:d1.ok)(k:Int)(hk:k=(n:Int)+1)
 (hx:AC E 12 [.ptr 0 0,.i 17] ⟨1,[(0,.var d.cells)]⟩ (.i 4) ⟨1,[(0,.var d1.cells)]⟩):
 GA n lems tys hyps d k:=by
 have hb:=vp n;have hbs:=w7 n;have hbl:=FD (show n<=4 by omega);have hl:=Ga hc;obtain⟨s,d4,ok4,ss,h4⟩:=PJ d1 ok1;have es:=uy ss;have hbe:=MT tys hyps [s] (fun f hf=>hc.hyps f hf) kn ko kn;have hc2:(Ck.mk lems (tys++[s]) (hyps.map fun f=>f.As 0 [s].length)).ok:=hc.below (l:=[s]) l6 (ux es);have hs2:Aj (tys++[s]):=zm hs (zg ss zk);obtain⟨p1,d2,m1,ok2,hp1⟩:=H lems (tys++[s]) (hyps.map fun f=>f.As 0 [s].length) d4 (k-1) kn ok4 hc2 hs2;have fp1:=m1.full;have hA:=NV 8 s p1 mw kn;refine⟨_,d2,(Made.all (k:=8) kn es m1).up kn,ok2,?_⟩;show AW _ _ _ (Code.seq _ _) _ _ _;(repeat' first|refine M.o0 ?_|refine M.gs ?_ ?_<;>intro h|refine M.z1 3 ?_|refine M.cs ?_ ?_<;>intro h|refine M.gk ?_|fail);all_goals first
  |(exfalso;simp at h;omega)
  |skip
 refine M.v5 @hx @h4 @hbe @hp1 @hA ?_;all_goals first|exact M.n2 AJ (h8:=kG)
theorem Yg5(n:Nat)(hn:n<=3)(H:F7 n)(lems:List Fm)(tys:List Ty)(hyps:List Fm)(hc:(Ck.mk lems tys hyps).ok)(hs:Aj tys)(ht:tys.length<10)(hh:hyps.length<10)(d d1:Dk)(ok1:d1.ok)(k:Int)(hk:k=(n:Int)+1)
 (hx:AC E 12 [.ptr 0 0,.i 17] ⟨1,[(0,.var d.cells)]⟩ (.i 14) ⟨1,[(0,.var d1.cells)]⟩):
 GA n lems tys hyps d k:=by
 have hb:=vp n;have hbs:=w7 n;have hbl:=FD (show n<=4 by omega);have hl:=Ga hc;obtain⟨s,d4,ok4,ss,h4⟩:=PJ d1 ok1;have es:=uy ss;have hbe:=MT tys hyps [s] (fun f hf=>hc.hyps f hf) kn ko kn;have hc2:(Ck.mk lems (tys++[s]) (hyps.map fun f=>f.As 0 [s].length)).ok:=hc.below (l:=[s]) l6 (ux es);have hs2:Aj (tys++[s]):=zm hs (zg ss zk);obtain⟨p1,d2,m1,ok2,hp1⟩:=H lems (tys++[s]) (hyps.map fun f=>f.As 0 [s].length) d4 (k-1) kn ok4 hc2 hs2;have fp1:=m1.full;have hA:=NV 12 s p1 mw kn;refine⟨_,d2,(Made.all (k:=12) kn es m1).up kn,ok2,?_⟩;show AW _ _ _ (Code.seq _ _) _ _ _;(repeat' first|refine M.o0 ?_|refine M.gs ?_ ?_<;>intro h|refine M.z1 3 ?_|refine M.cs ?_ ?_<;>intro h|refine M.gk ?_|fail);all_goals first
  |(exfalso;simp at h;omega)
  |skip
 refine M.v5 @hx @h4 @hbe @hp1 @hA ?_;all_goals first|exact M.n2 AJ (h8:=kG)
theorem Yk5(n:Nat)(hn:n<=3)(H:F7 n)(lems:List Fm)(tys:List Ty)(hyps:List Fm)(hc:(Ck.mk lems tys hyps).ok)(hs:Aj tys)(ht:tys.length<10)(hh:hyps.length<10)(d d1:Dk)(ok1:d1.ok)(k:Int)(hk:k=(n:Int)+1)
 (hx:AC E 12 [.ptr 0 0,.i 17] ⟨1,[(0,.var d.cells)]⟩ (.i 5) ⟨1,[(0,.var d1.cells)]⟩):
 GA n lems tys hyps d k:=by
 have hb:=vp n;have hbs:=w7 n;have hbl:=FD (show n<=4 by omega);have hl:=Ga hc;obtain⟨s,d4,ok4,ss,h4⟩:=PJ d1 ok1;obtain⟨t,d5,ok5,et,it,h5⟩:=Li d4 tys s ok4 hs ss hl.1;have ti:=DA.of et it kn;have ft:=ye et;have es:=uy ss;have hbe:=MT tys hyps [s] (fun f hf=>hc.hyps f hf) kn ko kn;have hc2:(Ck.mk lems (tys++[s]) (hyps.map fun f=>f.As 0 [s].length)).ok:=hc.below (l:=[s]) l6 (ux es);have hs2:Aj (tys++[s]):=zm hs (zg ss zk);obtain⟨p1,d2,m1,ok2,hp1⟩:=H lems (tys++[s]) (hyps.map fun f=>f.As 0 [s].length) d5 (k-1) kn ok5 hc2 hs2;have fp1:=m1.full;have hA:=NV 8 s p1 mw kn;have hm:=Made.all (k:=8) kn es m1;have fm:=hm.full;have hT:=Qn 9 t (.mk 8 0 s [] [] [p1]) kn kn;refine⟨_,d2,(Made.at_ (k:=9) kn ti hm).up kn,ok2,?_⟩;show AW _ _ _ (Code.seq _ _) _ _ _;(repeat' first|refine M.o0 ?_|refine M.gs ?_ ?_<;>intro h|refine M.z1 3 ?_|refine M.cs ?_ ?_<;>intro h|refine M.gk ?_|fail);all_goals first
  |(exfalso;simp at h;omega)
  |skip
 (repeat' first|refine M.w6 @hx @h4 @h5 @hbe @hp1 @hA ?_|refine M.c2 (hT) ?_|refine M.bl ?_|fail);all_goals first|exact M.n2 AJ (h8:=kG)
theorem Yft(n:Nat)(hn:n<=3)(H:F7 n)(lems:List Fm)(tys:List Ty)(hyps:List Fm)(hc:(Ck.mk lems tys hyps).ok)(hs:Aj tys)(ht:tys.length<10)(hh:hyps.length<10)(d d1:Dk)(ok1:d1.ok)(k:Int)(hk:k=(n:Int)+1)
 (hx:AC E 12 [.ptr 0 0,.i 17] ⟨1,[(0,.var d.cells)]⟩ (.i 15) ⟨1,[(0,.var d1.cells)]⟩):
 GA n lems tys hyps d k:=by
 have hb:=vp n;have hbs:=w7 n;have hbl:=FD (show n<=4 by omega);have hl:=Ga hc;obtain⟨s,d4,ok4,ss,h4⟩:=PJ d1 ok1;obtain⟨t,d5,ok5,et,it,h5⟩:=Li d4 tys s ok4 hs ss hl.1;have ti:=DA.of et it kn;have ft:=ye et;have es:=uy ss;have hbe:=MT tys hyps [s] (fun f hf=>hc.hyps f hf) kn ko kn;have hc2:(Ck.mk lems (tys++[s]) (hyps.map fun f=>f.As 0 [s].length)).ok:=hc.below (l:=[s]) l6 (ux es);have hs2:Aj (tys++[s]):=zm hs (zg ss zk);obtain⟨p1,d2,m1,ok2,hp1⟩:=H lems (tys++[s]) (hyps.map fun f=>f.As 0 [s].length) d5 (k-1) kn ok5 hc2 hs2;have fp1:=m1.full;have hA:=NV 12 s p1 mw kn;have hm:=Made.all (k:=12) kn es m1;have fm:=hm.full;have hT:=Qn 13 t (.mk 12 0 s [] [] [p1]) kn kn;refine⟨_,d2,(Made.at_ (k:=13) kn ti hm).up kn,ok2,?_⟩;show AW _ _ _ (Code.seq _ _) _ _ _;(repeat' first|refine M.o0 ?_|refine M.gs ?_ ?_<;>intro h|refine M.z1 3 ?_|refine M.cs ?_ ?_<;>intro h|refine M.gk ?_|fail);all_goals first
  |(exfalso;simp at h;omega)
  |skip
 (repeat' first|refine M.w6 @hx @h4 @h5 @hbe @hp1 @hA ?_|refine M.c2 (hT) ?_|refine M.bl ?_|fail);all_goals first|exact M.n2 AJ (h8:=kG)
theorem Yk1(n:Nat)(hn:n<=3)(H:F7 n)(lems:List Fm)(tys:List Ty)(hyps:List Fm)(hc:(Ck.mk lems tys hyps).ok)(hs:Aj tys)(ht:tys.length<10)(hh:hyps.length<10)(d d1:Dk)(ok1:d1.ok)(k:Int)(hk:k=(n:Int)+1)
 (hx:AC E 12 [.ptr 0 0,.i 17] ⟨1,[(0,.var d.cells)]⟩ (.i 6) ⟨1,[(0,.var d1.cells)]⟩):
 GA n lems tys hyps d k:=by
 have hb:=vp n;have hbs:=w7 n;have hbl:=FD (show n<=4 by omega);have hl:=Ga hc;obtain⟨t,d4,ok4,et,it,h4⟩:∃(t:Tm) (d':Dk),d'.ok/\(t.err=0/\t.size<=60)/\t.inf tys=(Ac,0)/\AC E 58 [.ptr 0 0,.s .ty tys,.agg Ac.view,.i 1] ⟨1,[(0,.var d1.cells)]⟩ (.agg t.view) ⟨1,[(0,.var d'.cells)]⟩:=
  ⟨_,_,Dk.Dd 3 d1 tys Ac ok1,⟨(J4 d1 hs).1.err,(J4 d1 hs).2⟩,(J4 d1 hs).1.inf,LF 3 kn d1 tys Ac 1 kn ok1 hs zj kn kn kn⟩
 have tz:=et.2;have et:=et.1;have ti:=DA.of et it kn;have ft:=ye et;obtain⟨i,d5,ok5,hi,h5⟩:=GC d4 2 ok4 kn;have hF:=VW et it kn;obtain⟨ee,oe⟩:=Th et it kn;have hR:=vj t kn;have h6:=Fg 0;have fe:=yh ee;have lf:=LA 0 1 t 0 ti.1;have hmr:=Made.ref ti;have fmr:=hmr.full;generalize t.re (zi 0 1) 0=u at*;have h7:=JY u (vT 0) kn kq;have hsz:=((Fm.Aa _).1 ee);rcases(show i=0\/i=1 by omega) with rfl|rfl
 .have hf:=Mr (k:=5) (.inl rfl) zj hsz.1 kn oe kn;have ff:=hf.2.2;have h8:=HS 5 Ac (AV u (vT 0)) kq kn;have h9:=LK 10 (AL 5 Ac (AV u (vT 0))) t (.mk 18 0 (.mk 0 []) [t] [] []) kn kn kn;refine⟨_,d5,(Made.ex (k:=10) kn hf ti hmr).up kn,ok5,?_⟩;show AW _ _ _ (Code.seq _ _) _ _ _;(repeat' first|refine M.o0 ?_|refine M.gs ?_ ?_<;>intro h|refine M.z1 3 ?_|refine M.cs ?_ ?_<;>intro h|refine M.gk ?_|fail);all_goals first
   |(exfalso;simp at h;omega)
   |skip
  (repeat' first|refine M.w6 @hx @h4 @h5 @hF @h6 @h7 ?_|refine M.c2 (h8) ?_|refine M.c2 (hR) ?_|refine M.c2 (h9) ?_|refine M.bl ?_|fail);all_goals first|exact M.n2 AJ (h8:=kG)
 .have hf:=Mr (k:=7) (.inr rfl) zj hsz.1 kn oe kn;have ff:=hf.2.2;have h8:=HS 7 Ac (AV u (vT 0)) kq kn;have h9:=LK 14 (AL 7 Ac (AV u (vT 0))) t (.mk 18 0 (.mk 0 []) [t] [] []) kn kn kn;refine⟨_,d5,(Made.ex (k:=14) kn hf ti hmr).up kn,ok5,?_⟩;show AW _ _ _ (Code.seq _ _) _ _ _;(repeat' first|refine M.o0 ?_|refine M.gs ?_ ?_<;>intro h|refine M.z1 3 ?_|refine M.cs ?_ ?_<;>intro h|refine M.gk ?_|fail);all_goals first
   |(exfalso;simp at h;omega)
   |skip
  (repeat' first|refine M.w6 @hx @h4 @h5 @hF @h6 @h7 ?_|refine M.c2 (h8) ?_|refine M.c2 (hR) ?_|refine M.c2 (h9) ?_|refine M.bl ?_|fail);all_goals first|exact M.n2 AJ (h8:=kG)
theorem Ymv(n:Nat)(hn:n<=3)(H:F7 n)(lems:List Fm)(tys:List Ty)(hyps:List Fm)(hc:(Ck.mk lems tys hyps).ok)(hs:Aj tys)(ht:tys.length<10)(hh:hyps.length<10)(d d1:Dk)(ok1:d1.ok)(k:Int)(hk:k=(n:Int)+1)
 (hx:AC E 12 [.ptr 0 0,.i 17] ⟨1,[(0,.var d.cells)]⟩ (.i 7) ⟨1,[(0,.var d1.cells)]⟩):
 GA n lems tys hyps d k:=by
 have hb:=vp n;have hbs:=w7 n;have hbl:=FD (show n<=4 by omega);have hl:=Ga hc;obtain⟨p1,d2,m1,ok2,hp1⟩:=H lems tys hyps d1 (k-1) kn ok1 hc hs;have fp1:=m1.full;obtain⟨x,us,e,hxe,hI⟩:=Oc hc hs m1 kn;by_cases he:e=0;case neg=>
  exact pT
 subst he;obtain⟨ex,ox⟩:=hxe rfl;have fx:=yh ex;have hU:=Gx ox ((Fm.Aa _).1 ex).1 mo kn 0 1 kn kn;have fl:=Lw x 0 1;have sl:=U2 ex;obtain⟨s,d4,ok4,ss,h4⟩:=PJ d2 ok2;obtain⟨i,d5,ok5,hi,h5⟩:=GC d4 2 ok4 kn;obtain⟨t,d6,ok6,et,it,h6⟩:=Li d5 tys s ok5 hs ss hl.1;have ti:=DA.of et it kn;have ft:=ye et;have ox2:=UX ex ox s;have es:=MB (uy ss);generalize x.As 0 1=y at*;rcases(show i=0\/i=1 by omega) with rfl|rfl
 .have hf:=Mr (k:=5) (.inl rfl) ss sl.1 kn ox2 kn;have ff:=hf.2.2;have h8:=HS 5 s y kn kn;have h9:=LK 10 (AL 5 s y) t p1 kn kn kn;refine⟨_,d6,(Made.ex (k:=10) kn hf ti m1).up kn,ok6,?_⟩;show AW _ _ _ (Code.seq _ _) _ _ _;(repeat' first|refine M.o0 ?_|refine M.gs ?_ ?_<;>intro h|refine M.z1 3 ?_|refine M.cs ?_ ?_<;>intro h|refine M.gk ?_|fail);all_goals first
   |(exfalso;simp at h;omega)
   |skip
  (repeat' first|refine M.w6 @hx @hp1 @hI @h4 @h5 @hU ?_|refine M.c2 (h8) ?_|refine M.cb (h6) [0] 0 ?_|refine M.c2 (h9) ?_|refine M.bl ?_|fail);all_goals first|exact M.n2 AJ (h8:=kG)
 .have hf:=Mr (k:=7) (.inr rfl) ss sl.1 kn ox2 kn;have ff:=hf.2.2;have h8:=HS 7 s y kn kn;have h9:=LK 14 (AL 7 s y) t p1 kn kn kn;refine⟨_,d6,(Made.ex (k:=14) kn hf ti m1).up kn,ok6,?_⟩;show AW _ _ _ (Code.seq _ _) _ _ _;(repeat' first|refine M.o0 ?_|refine M.gs ?_ ?_<;>intro h|refine M.z1 3 ?_|refine M.cs ?_ ?_<;>intro h|refine M.gk ?_|fail);all_goals first
   |(exfalso;simp at h;omega)
   |skip
  (repeat' first|refine M.w6 @hx @hp1 @hI @h4 @h5 @hU ?_|refine M.c2 (h8) ?_|refine M.cb (h6) [0] 0 ?_|refine M.c2 (h9) ?_|refine M.bl ?_|fail);all_goals first|exact M.n2 AJ (h8:=kG)
theorem Yme(n:Nat)(hn:n<=3)(H:F7 n)(lems:List Fm)(tys:List Ty)(hyps:List Fm)(hc:(Ck.mk lems tys hyps).ok)(hs:Aj tys)(ht:tys.length<10)(hh:hyps.length<10)(d d1:Dk)(ok1:d1.ok)(k:Int)(hk:k=(n:Int)+1)
 (hx:AC E 12 [.ptr 0 0,.i 17] ⟨1,[(0,.var d.cells)]⟩ (.i 9) ⟨1,[(0,.var d1.cells)]⟩):
 GA n lems tys hyps d k:=by
 have hb:=vp n;have hbs:=w7 n;have hbl:=FD (show n<=4 by omega);have hl:=Ga hc;obtain⟨p1,d2,m1,ok2,hp1⟩:=H lems tys hyps d1 (k-1) kn ok1 hc hs;have fp1:=m1.full;obtain⟨x,us,e,hxe,hI⟩:=Oc hc hs m1 kn;by_cases he:e=0;case neg=>
  exact pT
 subst he;obtain⟨ex,ox⟩:=hxe rfl;have fx:=yh ex;have hU:=Gx ox ((Fm.Aa _).1 ex).1 mo kn 0 1 kn kn;have fl:=Lw x 0 1;have sl:=U2 ex;obtain⟨t,d6,ok6,et,it,h6⟩:=Li d2 tys Ac ok2 hs zj hl.1;have ti:=DA.of et it kn;have ft:=ye et;have hf:=RY ex ox Ac kn;generalize x.As 0 1=y at*;have hy:=Lz 0;have mh:Made 10 (vd 0):=Made.hyp kn;have fh:=mh.full;have hli:=Gu;have h9:=Po 16 y t p1 (vd 0) kn kn kn kn;refine⟨_,d6,(Made.ind (k:=16) kn hf ti m1 mh).up kn,ok6,?_⟩;show AW _ _ _ (Code.seq _ _) _ _ _;(repeat' first|refine M.o0 ?_|refine M.gs ?_ ?_<;>intro h|refine M.z1 3 ?_|refine M.cs ?_ ?_<;>intro h|refine M.gk ?_|fail);all_goals first
  |(exfalso;simp at h;omega)
  |skip
 (repeat' first|refine M.w6 @hx @hp1 @hI @hU @h6 @hy ?_|refine M.c2 (h9) ?_|refine M.bl ?_|fail);all_goals first|exact M.n2 AJ (h8:=kG)
theorem Yhe(n:Nat)(hn:n<=3)(H:F7 n)(lems:List Fm)(tys:List Ty)(hyps:List Fm)(hc:(Ck.mk lems tys hyps).ok)(hs:Aj tys)(ht:tys.length<10)(hh:hyps.length<10)(d d1:Dk)(ok1:d1.ok)(k:Int)(hk:k=(n:Int)+1)
 (hx:AC E 12 [.ptr 0 0,.i 17] ⟨1,[(0,.var d.cells)]⟩ (.i 10) ⟨1,[(0,.var d1.cells)]⟩):
 GA n lems tys hyps d k:=by
 have hb:=vp n;have hbs:=w7 n;have hbl:=FD (show n<=4 by omega);have hl:=Ga hc;obtain⟨p1,d2,m1,ok2,hp1⟩:=H lems tys hyps d1 (k-1) kn ok1 hc hs;have fp1:=m1.full;obtain⟨x,us,e,hxe,hI⟩:=Oc hc hs m1 kn;by_cases he:e=0;case neg=>
  exact pT
 subst he;obtain⟨ex,ox⟩:=hxe rfl;have fx:=yh ex;have hU:=Gx ox ((Fm.Aa _).1 ex).1 mo kn 0 1 kn kn;have fl:=Lw x 0 1;have sl:=U2 ex;obtain⟨t,d6,ok6,et,it,h6⟩:=Li d2 tys Al ok2 hs xu hl.1;have ti:=DA.of et it kn;have ft:=ye et;have hf:=RY ex ox Ac kn;generalize x.As 0 1=y at*;have hy:=Lz 0;have mh:Made 10 (vd 0):=Made.hyp kn;have fh:=mh.full;have hli:=Gu;have h9:=Po 17 y t p1 (vd 0) kn kn kn kn;refine⟨_,d6,(Made.ind (k:=17) kn hf ti m1 mh).up kn,ok6,?_⟩;show AW _ _ _ (Code.seq _ _) _ _ _;(repeat' first|refine M.o0 ?_|refine M.gs ?_ ?_<;>intro h|refine M.z1 3 ?_|refine M.cs ?_ ?_<;>intro h|refine M.gk ?_|fail);all_goals first
  |(exfalso;simp at h;omega)
  |skip
 (repeat' first|refine M.w6 @hx @hp1 @hI @hU @hli @h6 ?_|refine M.c2 (hy) ?_|refine M.c2 (h9) ?_|refine M.bl ?_|fail);all_goals first|exact M.n2 AJ (h8:=kG)
theorem Yfn(n:Nat)(hn:n<=3)(H:F7 n)(lems:List Fm)(tys:List Ty)(hyps:List Fm)(hc:(Ck.mk lems tys hyps).ok)(hs:Aj tys)(ht:tys.length<10)(hh:hyps.length<10)(d d1:Dk)(ok1:d1.ok)(k:Int)(hk:k=(n:Int)+1)
 (hx:AC E 12 [.ptr 0 0,.i 17] ⟨1,[(0,.var d.cells)]⟩ (.i 11) ⟨1,[(0,.var d1.cells)]⟩):
 GA n lems tys hyps d k:=by
 have hb:=vp n;have hbs:=w7 n;have hbl:=FD (show n<=4 by omega);have hl:=Ga hc;obtain⟨t,d4,ok4,et,it,h4⟩:=Li d1 tys Ac ok1 hs zj hl.1;have ti:=DA.of et it kn;have ft:=ye et;have h5:=bS t kn;have mz:Made 2000000 (Mg t):=by
  exact qn
 refine⟨_,d4,mz.up kn,ok4,?_⟩;unfold Mg at h5 ⊢;show AW _ _ _ (Code.seq _ _) _ _ _;(repeat' first|refine M.o0 ?_|refine M.gs ?_ ?_<;>intro h|refine M.z1 3 ?_|refine M.cs ?_ ?_<;>intro h|refine M.gk ?_|fail);all_goals first
  |(exfalso;simp at h;omega)
  |skip
 refine M.v3 @hx @h4 @h5 ?_;all_goals first|exact M.n2 AJ (h8:=kG)
theorem Yg1(n:Nat)(hn:n<=3)(H:F7 n)(lems:List Fm)(tys:List Ty)(hyps:List Fm)(hc:(Ck.mk lems tys hyps).ok)(hs:Aj tys)(ht:tys.length<10)(hh:hyps.length<10)(d d1:Dk)(ok1:d1.ok)(k:Int)(hk:k=(n:Int)+1)
 (hx:AC E 12 [.ptr 0 0,.i 17] ⟨1,[(0,.var d.cells)]⟩ (.i 12) ⟨1,[(0,.var d1.cells)]⟩):
 GA n lems tys hyps d k:=by
 have hb:=vp n;have hbs:=w7 n;have hbl:=FD (show n<=4 by omega);have hl:=Ga hc;obtain⟨t,d4,ok4,et,it,h4⟩:=Li d1 tys Ac ok1 hs zj hl.1;have ti:=DA.of et it kn;have ft:=ye et;obtain⟨u,d5,ok5,eu,zu,iu,h5⟩:=We d4 tys ok4 hs hl.1;have fu6:=OA u ((Tm.Aa u).1 eu).1;have ui:=DA.of eu iu kn;have fu:=ye eu;have hF:=VW eu iu kn;obtain⟨l1,l2,l3⟩:=Z9 eu iu;have lf:=LA 0 1 u 0 ui.1;have hsz:=((Tm.Aa _).1 eu);have hf:EL (AV (u.re (zi 0 1) 0) (u.re (zi 0 1) 0)):=by
  have h1:=Lt l2 l2;refine⟨h1,fun q hq r hr=> ?_,by rw[Dx];omega⟩;have:=Q2 _ _ 0 h1 (CK.2 ⟨l1,l1⟩) q hq r hr;rw[Mp,l3] at this;simp only[ga,gT] at this;omega
 generalize u.re (zi 0 1) 0=w at*;have h6:=JY w w kn kn;have h7:=vj t kn;have h8:=vj u kn;have m1:=Made.ref ti;have m2:=Made.ref ui;have f1:=m1.full;have f2:=m2.full;have ff:=hf.2.2;have h9:=YW (AV w w) (.mk 18 0 (.mk 0 []) [t] [] []) (.mk 18 0 (.mk 0 []) [u] [] []) kn kn kn;refine⟨_,d5,(Made.sub hf m1 m2).up kn,ok5,?_⟩;show AW _ _ _ (Code.seq _ _) _ _ _;(repeat' first|refine M.o0 ?_|refine M.gs ?_ ?_<;>intro h|refine M.z1 3 ?_|refine M.cs ?_ ?_<;>intro h|refine M.gk ?_|fail);all_goals first
  |(exfalso;simp at h;omega)
  |skip
 (repeat' first|refine M.w6 @hx @h4 @h5 @hF @h6 @h7 ?_|refine M.c2 (h8) ?_|refine M.c2 (h9) ?_|refine M.bl ?_|fail);all_goals first|exact M.n2 AJ (h8:=kG)
theorem Yiv(n:Nat)(hn:n<=3)(H:F7 n)(lems:List Fm)(tys:List Ty)(hyps:List Fm)(hc:(Ck.mk lems tys hyps).ok)(hs:Aj tys)(ht:tys.length<10)(hh:hyps.length<10)(d d1:Dk)(ok1:d1.ok)(k:Int)(hk:k=(n:Int)+1)
 (hx:AC E 12 [.ptr 0 0,.i 17] ⟨1,[(0,.var d.cells)]⟩ (.i 13) ⟨1,[(0,.var d1.cells)]⟩):
 GA n lems tys hyps d k:=by
 have hb:=vp n;have hbs:=w7 n;have hbl:=FD (show n<=4 by omega);have hl:=Ga hc;obtain⟨s,d4,ok4,ss,h4⟩:=Wb d1 ok1;have es:=uy ss;have hbe:=MT tys hyps [s] (fun f hf=>hc.hyps f hf) kn ko kn;have hc2:(Ck.mk lems (tys++[s]) (hyps.map fun f=>f.As 0 [s].length)).ok:=hc.below (l:=[s]) l6 (ux es);have hs2:Aj (tys++[s]):=zm hs (zg ss zk);have hl2:(tys++[s]).length<=16:=kC
 have h5:=(bW d4 ok4 (tys++[s]) (hyps.map fun f=>f.As 0 [s].length) hs2 hl2).2;have mn:=(J4 d4 hs2);have ok5:=Dk.Dd 3 d4 (tys++[s]) Ac ok4;generalize Dk.tm 3 d4 (tys++[s]) Ac=T at*;obtain⟨t,d5⟩:=T;simp only at mn ok5;have ti:=DA.of mn.1.err mn.1.inf kn;obtain⟨ee,oe⟩:=Th mn.1.err mn.1.inf kn;have hsz:=((Fm.Aa _).1 ee);have hf:=Mr (k:=5) (.inl rfl) zj hsz.1 kn oe kn;have m1:Made 1000000 (PZ (L9 t) t (xz t)):=(Made.ex (k:=10) kn hf ti (Made.ref ti)).up kn;have f1:=m1.full;unfold PZ at h5 m1 f1;have hA:=NV 8 s (.mk 10 0 (.mk 0 []) [t] [L9 t] [xz t]) mw kn;have m2:=Made.all (k:=8) kn es m1;have f2:=m2.full;have hP:=Fi 20 [.mk 8 0 s [] [] [.mk 10 0 (.mk 0 []) [t] [L9 t] [xz t]]] ko (ux kn);refine⟨_,d5,(Made.one (k:=20) kn m2).up kn,ok5,?_⟩;show AW _ _ _ (Code.seq _ _) _ _ _;(repeat' first|refine M.o0 ?_|refine M.gs ?_ ?_<;>intro h|refine M.z1 3 ?_|refine M.cs ?_ ?_<;>intro h|refine M.gk ?_|fail);all_goals first
  |(exfalso;simp at h;omega)
  |skip
 refine M.v6 @hx @h4 @hbe @h5 @hA @hP ?_;all_goals first|exact M.n2 AJ (h8:=kG)
end Go.Ab
