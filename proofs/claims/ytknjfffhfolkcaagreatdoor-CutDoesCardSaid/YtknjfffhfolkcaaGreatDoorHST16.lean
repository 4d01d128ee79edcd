/- A part of this seat's proofs. No conditions. -/
import Derived.Test.YtknjfffhfolkcaaGreatDoorHST15
namespace Go.Ab
open Go Go.Proofs
set_option maxRecDepth 100000
set_option maxHeartbeats 4000000
set_option linter.all false
def C8(n:Nat):Nat:=4000000*3^n
theorem Tj:∀n:Nat,1<=3^n
 |0=>by decide
 |n+1=>by rw[XS];have:=Tj n;omega
theorem xv(n:Nat):4000000<=C8 n:=by unfold C8;have:=Tj n;omega
theorem xj(n:Nat):C8 (n+1)=3*C8 n:=by unfold C8;rw[XS];omega
theorem vn{n:Nat}(h:n<=4):C8 n<=400000000:=by unfold C8;have:3^n<=3^4:=Yf (by omega) h;omega
theorem Ix(f:Fm)(fr by_:Int):(f.A9 fr by_).full<=f.full:=Fm.Dl (fun b t=>Tm.Dl (fun i c=>by simp[zx,Tm.full,Tm.Au,Ty.size,Ty.sizes]) t 0) f 0
theorem HI(d:Dk)(g:List Ty)(s:Ty)(hd:d.ok)(hg:Am g)(hs:s.small)(hl:g.length<=16):∃(t:Tm) (d':Dk),d'.ok/\t.err=0/\t.inf g=(s,0)/\
 AC E 35 [.ptr 0 0,.s .ty g,.agg s.view,.i 1] ⟨1,[(0,.var d.cells)]⟩ (.agg t.view) ⟨1,[(0,.var d'.cells)]⟩:=by
 have hm:=Dk.CY 3 d g s hg hs (by omega) (by omega);exact⟨_,_,Dk.CG 3 d g s hd,hm.err hg hs (by omega),hm.inf hg hs,Ir 3 (by omega) d g s 1 (by omega) hd hg hs (by omega) (by omega) (by omega)⟩
theorem P1(d:Dk)(g:List Ty)(hd:d.ok)(hg:Am g)(hl:g.length<=16):∃(t:Tm) (d':Dk),d'.ok/\t.err=0/\t.size<=60/\t.inf g=(Ag,0)/\
 AC E 35 [.ptr 0 0,.s .ty g,.agg Ag.view,.i 1] ⟨1,[(0,.var d.cells)]⟩ (.agg t.view) ⟨1,[(0,.var d'.cells)]⟩:=
 ⟨_,_,Dk.CG 3 d g Ag hd,(un d hg).1.err,(un d hg).2,(un d hg).1.inf,Ir 3 (by omega) d g Ag 1 (by omega) hd hg zh (by omega) (by omega) (by omega)⟩
theorem Mu(f:Fm)(h1:f.shape=true)(h2:(f.AZ 0).all (fun q=>(q.1.vars 0).all fun r=>decide (0<=r.1/\r.1<10000))=true)(h3:f.full<=300000):DU f:=
 ⟨h1,fun q hq r hr=>by simpa using List.all_eq_true.1 (Wm.1 h2 q hq) r hr,h3⟩
theorem KN(d:Dk)(hd:d.ok):∃(s:Ty) (d':Dk),d'.ok/\s.small/\AC E 31 [.ptr 0 0,.i 1] ⟨1,[(0,.var d.cells)]⟩ (.agg s.view) ⟨1,[(0,.var d'.cells)]⟩:=
 ⟨_,_,Dk.Bu 1 d hd,d.type1,Jv 1 1 d (by omega) (by omega) (by omega) hd⟩
theorem Pn(d:Dk)(hd:d.ok):∃(s:Ty) (d':Dk),d'.ok/\s.small/\AC E 31 [.ptr 0 0,.i 0] ⟨1,[(0,.var d.cells)]⟩ (.agg s.view) ⟨1,[(0,.var d'.cells)]⟩:=
 ⟨_,_,Dk.Bu 0 d hd,⟨d.type0.1,by rw[d.type0.2];omega⟩,Jv 0 0 d (by omega) (by omega) (by omega) hd⟩
theorem FB(d:Dk)(n:Int)(hd:d.ok)(hn:0<n/\n<1099511627776):∃(i:Int) (d':Dk),d'.ok/\(0<=i/\i<n)/\AC E 24 [.ptr 0 0,.i n] ⟨1,[(0,.var d.cells)]⟩ (.i i) ⟨1,[(0,.var d'.cells)]⟩:=
 ⟨_,_,Dk.AH hd n,Dk.Bv d n hn.1,v6 d n hd hn.2⟩
theorem QL(d:Dk)(g:List Ty)(hd:d.ok)(hg:Am g)(hl:g.length<=16):∃(f:Fm) (d':Dk),d'.ok/\f.err=0/\f.Bg g/\
 AC E 25 [.ptr 0 0,.s .ty g,.i 1] ⟨1,[(0,.var d.cells)]⟩ (.agg f.view) ⟨1,[(0,.var d'.cells)]⟩:=by
 have gf:=Dk.Eu 1 d g hg;have h:(Dk.fm 1 d g).1.err=0:=(Fm.Ad _).2 ⟨gf.1,by have:=gf.2.1;omega⟩;exact⟨_,_,Dk.EG 1 d g hd,h,Dk.GD 1 d g hg,OL 1 d g 1 (by omega) rfl hd hg (by omega)⟩
theorem J6{lems:List Fm}{tys:List Ty}{hyps:List Fm}(hc:(Ck.mk lems tys hyps).ok)(hs:Am tys){n:Nat}{p:Pf}(hp:Made n p)(hn:n<=1000000000):∃(x:Fm) (us:List Int) (e:Int),(e=0->x.err=0/\x.Bg tys)/\
 PC E 30 [.s .fm lems,.agg [.s .ty tys,.s .fm hyps],.agg p.view] (DF x us e):=by
 have hf:=hp.full;have h0:=hc.sum;have h:=SA lems hyps tys p (fun f hf=>by have:=ye (hc.lems f hf).1;omega) (fun f hf=>by have:=ye (hc.hyps f hf).1;omega) (by simp only at h0;omega) (by have:=hc.nl;simp only at this;omega) (by have:=hc.nh;simp only at this;omega) (by omega);refine⟨_,_,_,fun he=> ?_,h⟩;unfold IK at he ⊢;rw[if_neg (by rw[show GH lems tys hyps=0 from VN hc];simp)] at he ⊢;by_cases h1:p.err≠0
 .rw[if_pos h1] at he;exact absurd he h1
 .rw[if_neg h1] at he ⊢;have h2:=((Mn p hp.shape) _ hc).1 he;exact⟨h2.1,h2.2.1⟩
theorem DU.size{g:List Ty}{f:Fm}(hs:f.shape=true)(hz:f.size<=4500)(ho:f.Bg g)(hg:g.length<=20):DU f:=by
 have h1:=ux f hs;refine⟨hs,fun q hq r hr=> ?_,by omega⟩;have:=QA f g 0 hs ho q hq r hr;omega
theorem N9{f:Fm}(hf:f.err=0):(f.A9 0 1).shape=true/\(f.A9 0 1).size<=4096:=(Fm.Ad _).1 (LO hf (by omega))
theorem Rc{f:Fm}{g:List Ty}(hf:f.err=0)(ho:f.Bg g)(s:Ty):(f.A9 0 1).Bg (g++[s]):=by
 have h:=Ia (g:=g) (h:=[]) [s] ((Fm.Ad f).1 hf).1 (by simpa using ho);simpa using h
theorem Iz{f:Fm}{g:List Ty}{k:Int}{s:Ty}(hk:k=5\/k=7)(hs:s.small)(h1:f.shape=true)(h2:f.size<=4400)(ho:f.Bg (g++[s]))(hg:g.length<=16):DU (Br k s f):=by
 have he:=wn hs;have hq:=Gf.qu (g:=g) k (by omega) he ⟨h1,h2,ho⟩;exact DU.size hq.sh (by have:=hq.sz;omega) hq.ok (by omega)
theorem MO{f:Fm}{g:List Ty}(hf:f.err=0)(ho:f.Bg g)(s:Ty)(hg:g.length<=16):DU (f.A9 0 1):=
 DU.of (g:=g++[s]) (LO hf (by omega)) (Rc hf ho s) (by simp;omega)
theorem U7{t:Tm}{g:List Ty}(he:t.err=0)(hi:t.inf g=(Ag,0)):(t.re (zx 0 1) 0).inf (g++[Ag])=(Ag,0)/\(t.re (zx 0 1) 0).shape=true/\(t.re (zx 0 1) 0).size=t.size:=by
 have hs:=(Tm.Ad t).1 he;have h1:=Rc (f:=Bf t t) (g:=g);have h2:=Ia (f:=Bf t t) (g:=g) (h:=[]) [Ag] (IU hs.1 hs.1) (by simpa using CI.2 ⟨hi,hi⟩);have e:(Bf t t).A9 ([]:List Ty).length [Ag].length=Bf (t.re (zx 0 1) 0) (t.re (zx 0 1) 0):=rfl;rw[e] at h2;have h3:=(CI.1 h2).1;refine⟨by simpa using h3,?_,?_⟩
 .exact vx 0 hs.1 (by omega)
 .exact J3 0 1 t 0 hs.1
theorem Ol{t:Tm}{g:List Ty}(he:t.err=0)(hi:t.inf g=(Ag,0))(hz:t.size<=2000):(Bf (t.re (zx 0 1) 0) (vT 0)).err=0/\(Bf (t.re (zx 0 1) 0) (vT 0)).Bg (g++[Ag]):=by
 obtain⟨h1,h2,h3⟩:=U7 he hi;exact⟨(Fm.Ad _).2 ⟨IU h2 (KZ 0 (by omega)),by rw[H6,h3];have h9:=(show(vT 0).size=1 by decide);omega⟩,CI.2 ⟨h1,RR g Ag⟩⟩
def EL(n:Nat):Prop:=∀(lems:List Fm) (tys:List Ty) (hyps:List Fm) (d:Dk) (k:Int),k=n->d.ok->(Ck.mk lems tys hyps).ok->Am tys->
 ∃(p:Pf) (d':Dk),Made (C8 n) p/\d'.ok/\AC E 10 [.ptr 0 0,.s .fm lems,.agg [.s .ty tys,.s .fm hyps],.i k] ⟨1,[(0,.var d.cells)]⟩ (.agg p.view) ⟨1,[(0,.var d'.cells)]⟩
theorem v8{lems:List Fm}{tys:List Ty}{hyps:List Fm}(hc:(Ck.mk lems tys hyps).ok):tys.length<=16/\hyps.length<=16/\lems.length<=32:=⟨hc.len,hc.nh,hc.nl⟩
theorem Iu(n:Nat)(lems:List Fm)(tys:List Ty)(hyps:List Fm)(hc:(Ck.mk lems tys hyps).ok)(hs:Am tys)(d:Dk)(hd:d.ok)(k:Int):
 ∃(p:Pf) (d':Dk),Made (C8 n) p/\d'.ok/\AW E Tryz.f10.ntmps 1 (F8 [1,1,1] (J9 Tryz.f10)) [(0,.ptr 0 0),(1,.s .fm lems),(3,.i k),(6,.ptr 1 0),(8,.ptr 2 0),(9,.ptr 3 0)] ⟨4,[(0,.var d.cells),(1,.var [.s .ty tys,.s .fm hyps]),(2,.var [.i 0,.i 0,.i 0,.slice .nil (.t .ty []),.slice .nil (.t .tm []),.slice .nil (.t .fm []),.slice .nil (.t .pf [])]),(3,.var Ag.view)]⟩ (Fk E 1 Tryz.f10.results.toList (.agg p.view) ⟨1,[(0,.var d'.cells)]⟩):=by
 have hb:=xv n;have hl:=v8 hc;obtain⟨j,d1,ok1,hj,h1⟩:=FB d 4 hd (by omega);obtain⟨t,d2,ok2,et,it,h2⟩:=HI d1 tys Ag ok1 hs zh hl.1;have ti:=C5.of et it (by omega);have h3:=xt t (by have:=ti.2.2;omega);by_cases a1:j=0/\0<hyps.length
 .obtain ⟨rfl,a2⟩:=a1;obtain⟨i,d3,ok3,hi,h4⟩:=FB d1 hyps.length ok1 (by omega);have h5:=Ih i;refine⟨va i,d3,(Made.hyp (by omega)).up (by omega),ok3,?_⟩;show AW _ _ _ (Code.seq _ _) _ _ _;(repeat' first|refine M.gw ?_|refine M.cb (h1) [0] 0 ?_|refine M.cb (h4) [0] 0 ?_|refine M.c2 (h5) ?_|refine M.bl ?_|refine M.cs ?_ ?_<;>intro h|fail);all_goals first|exfalso;simp_all;done|exact M.n2 [some 0] (h8:=(by simp[zk,V.wk,V.Ap,zc,Ty.view,Tm.view,Pf.view]))
 by_cases a3:j=1/\0<lems.length
 .obtain ⟨rfl,a2⟩:=a3;obtain⟨i,d3,ok3,hi,h4⟩:=FB d1 lems.length ok1 (by omega);refine⟨.mk 2 i (.mk 0 []) [] [] [],d3,(Made.lem (by omega)).up (by omega),ok3,?_⟩;show AW _ _ _ (Code.seq _ _) _ _ _;(repeat' first|refine M.gw ?_|refine M.cb (h1) [0] 0 ?_|refine M.cb (h4) [0] 0 ?_|refine M.bl ?_|refine M.cs ?_ ?_<;>intro h|fail);all_goals first|exfalso;simp_all;done|exact M.n2 [some 0] (h8:=(by simp[zk,V.wk,V.Ap,zc,Ty.view,Tm.view,Pf.view]))
 refine⟨.mk 18 0 (.mk 0 []) [t] [] [],d2,(Made.ref ti).up (by omega),ok2,?_⟩;have q3:Ag.size=1:=rfl;show AW _ _ _ (Code.seq _ _) _ _ _;rcases(show j=0\/j=1\/(j≠0/\j≠1) by omega) with rfl|rfl|hj2
 .have a4:hyps.length=0:=by omega
  obtain rfl:=WB a4;(repeat' first|refine M.gw ?_|refine M.cb (h1) [0] 0 ?_|refine M.cb (h2) [0] 0 ?_|refine M.c2 (h3) ?_|refine M.bl ?_|fail);all_goals first|exfalso;simp at h;done|exact M.n2 [some 0] (h8:=(by simp[zk,V.wk,V.Ap,zc,Ty.view,Tm.view,Pf.view]))
 .have a4:lems.length=0:=by omega
  obtain rfl:=WB a4;(repeat' first|refine M.gw ?_|refine M.cb (h1) [0] 0 ?_|refine M.cb (h2) [0] 0 ?_|refine M.c2 (h3) ?_|refine M.bl ?_|fail);all_goals first|exfalso;simp at h;done|exact M.n2 [some 0] (h8:=(by simp[zk,V.wk,V.Ap,zc,Ty.view,Tm.view,Pf.view]))
 .repeat' (first|refine M.gw ?_|refine M.cb (h1) [0] 0 ?_|refine M.cb (h2) [0] 0 ?_|refine M.c2 (h3) ?_|refine M.bl ?_|refine M.cs ?_ ?_<;>intro h|fail)
  all_goals first|exfalso;simp at h;omega|exfalso;simp_all;done|exact M.n2 [some 0] (h8:=(by simp[zk,V.wk,V.Ap,zc,Ty.view,Tm.view,Pf.view]))
abbrev Fb(n:Nat)(lems:List Fm)(tys:List Ty)(hyps:List Fm)(d:Dk)(k:Int):Prop:=
 ∃(p:Pf) (d':Dk),Made (C8 (n+1)) p/\d'.ok/\AW E Tryz.f10.ntmps 1 (F8 [1,1] (J9 Tryz.f10)) [(0,.ptr 0 0),(1,.s .fm lems),(3,.i k),(6,.ptr 1 0),(8,.ptr 2 0),(9,.ptr 3 0)] ⟨4,[(0,.var d.cells),(1,.var [.s .ty tys,.s .fm hyps]),(2,.var [.i 0,.i 0,.i 0,.slice .nil (.t .ty []),.slice .nil (.t .tm []),.slice .nil (.t .fm []),.slice .nil (.t .pf [])]),(3,.var Ag.view)]⟩ (Fk E 1 Tryz.f10.results.toList (.agg p.view) ⟨1,[(0,.var d'.cells)]⟩)
theorem Ycn(n:Nat)(hn:n<=3)(H:EL n)(lems:List Fm)(tys:List Ty)(hyps:List Fm)(hc:(Ck.mk lems tys hyps).ok)(hs:Am tys)(ht:tys.length<10)(hh:hyps.length<10)(d d1:Dk)(ok1:d1.ok)(k:Int)(hk:k=(n:Int)+1)
 (hx:AC E 24 [.ptr 0 0,.i 17] ⟨1,[(0,.var d.cells)]⟩ (.i 0) ⟨1,[(0,.var d1.cells)]⟩):
 Fb n lems tys hyps d k:=by
 have hb:=xv n;have hbs:=xj n;have hbl:=vn (show n<=4 by omega);have hl:=v8 hc;obtain⟨p1,d2,m1,ok2,hp1⟩:=H lems tys hyps d1 (k-1) (by omega) ok1 hc hs;have fp1:=m1.full;obtain⟨p2,d3,m2,ok3,hp2⟩:=H lems tys hyps d2 (k-1) (by omega) ok2 hc hs;have fp2:=m2.full;have hP:=w7 3 [p1,p2] (by simp) (GO (by omega) (by omega));refine⟨_,d3,(Made.two (k:=3) (by omega) m1 m2).up (by omega),ok3,?_⟩;show AW _ _ _ (Code.seq _ _) _ _ _;(repeat' first|refine M.go ?_|refine M.gs ?_ ?_<;>intro h|refine M.z1 3 ?_|refine M.cs ?_ ?_<;>intro h|refine M.gk ?_|fail);all_goals first
  |(exfalso;simp at h;omega)
  |skip
 (repeat' first|refine M.gw ?_|refine M.cb (hx) [0] 0 ?_|refine M.cb (hp1) [0] 0 ?_|refine M.cb (hp2) [0] 0 ?_|refine M.c2 (hP) ?_|refine M.bl ?_|fail);all_goals first|exact M.n2 [some 0] (h8:=(by simp[zk,V.wk,V.Ap,zc,Ty.view,Tm.view,Pf.view]))
theorem Ydi(n:Nat)(hn:n<=3)(H:EL n)(lems:List Fm)(tys:List Ty)(hyps:List Fm)(hc:(Ck.mk lems tys hyps).ok)(hs:Am tys)(ht:tys.length<10)(hh:hyps.length<10)(d d1:Dk)(ok1:d1.ok)(k:Int)(hk:k=(n:Int)+1)
 (hx:AC E 24 [.ptr 0 0,.i 17] ⟨1,[(0,.var d.cells)]⟩ (.i 1) ⟨1,[(0,.var d1.cells)]⟩):
 Fb n lems tys hyps d k:=by
 have hb:=xv n;have hbs:=xj n;have hbl:=vn (show n<=4 by omega);have hl:=v8 hc;obtain⟨i,d4,ok4,hi,h4⟩:=FB d1 2 ok1 (by omega);obtain⟨p1,d2,m1,ok2,hp1⟩:=H lems tys hyps d4 (k-1) (by omega) ok4 hc hs;have fp1:=m1.full;obtain⟨p2,d3,m2,ok3,hp2⟩:=H lems tys hyps d2 (k-1) (by omega) ok2 hc hs;have fp2:=m2.full;have hP:=w7 3 [p1,p2] (by simp) (GO (by omega) (by omega));have hm:=Made.two (k:=3) (by omega) m1 m2;have fm:=hm.full;have hP2:=w7 (4+i) [.mk 3 0 (.mk 0 []) [] [] [p1,p2]] (by simp) (wo (by omega));refine⟨_,d3,(Made.one (k:=4+i) (by omega) hm).up (by omega),ok3,?_⟩;show AW _ _ _ (Code.seq _ _) _ _ _;(repeat' first|refine M.go ?_|refine M.gs ?_ ?_<;>intro h|refine M.z1 3 ?_|refine M.cs ?_ ?_<;>intro h|refine M.gk ?_|fail);all_goals first
  |(exfalso;simp at h;omega)
  |skip
 (repeat' first|refine M.gw ?_|refine M.cb (hx) [0] 0 ?_|refine M.cb (h4) [0] 0 ?_|refine M.cb (hp1) [0] 0 ?_|refine M.cb (hp2) [0] 0 ?_|refine M.c2 (hP) ?_|refine M.c2 (hP2) ?_|refine M.bl ?_|fail);all_goals first|exact M.n2 [some 0] (h8:=(by simp[zk,V.wk,V.Ap,zc,Ty.view,Tm.view,Pf.view]))
theorem Ycm(n:Nat)(hn:n<=3)(H:EL n)(lems:List Fm)(tys:List Ty)(hyps:List Fm)(hc:(Ck.mk lems tys hyps).ok)(hs:Am tys)(ht:tys.length<10)(hh:hyps.length<10)(d d1:Dk)(ok1:d1.ok)(k:Int)(hk:k=(n:Int)+1)
 (hx:AC E 24 [.ptr 0 0,.i 17] ⟨1,[(0,.var d.cells)]⟩ (.i 2) ⟨1,[(0,.var d1.cells)]⟩):
 Fb n lems tys hyps d k:=by
 have hb:=xv n;have hbs:=xj n;have hbl:=vn (show n<=4 by omega);have hl:=v8 hc;obtain⟨f,d4,ok4,ef,of_,h4⟩:=QL d1 tys ok1 hs hl.1;have ff:=ye ef;have hw:=Q3 tys hyps f (by omega);obtain⟨p1,d2,m1,ok2,hp1⟩:=H lems tys (hyps++[f]) d4 (k-1) (by omega) ok4 (hc.AA (by simp only;omega) ef of_) hs;have fp1:=m1.full;have hI:=Oz f p1 (by omega) (by omega);refine⟨_,d2,(Made.imp (DU.of ef of_ (by omega)) m1).up (by omega),ok2,?_⟩;show AW _ _ _ (Code.seq _ _) _ _ _;(repeat' first|refine M.go ?_|refine M.gs ?_ ?_<;>intro h|refine M.z1 3 ?_|refine M.cs ?_ ?_<;>intro h|refine M.gk ?_|fail);all_goals first
  |(exfalso;simp at h;omega)
  |skip
 (repeat' first|refine M.gw ?_|refine M.cb (hx) [0] 0 ?_|refine M.cb (h4) [0] 0 ?_|refine M.c2 (hw) ?_|refine M.cb (hp1) [0] 0 ?_|refine M.c2 (hI) ?_|refine M.bl ?_|fail);all_goals first|exact M.n2 [some 0] (h8:=(by simp[zk,V.wk,V.Ap,zc,Ty.view,Tm.view,Pf.view]))
theorem Yds(n:Nat)(hn:n<=3)(H:EL n)(lems:List Fm)(tys:List Ty)(hyps:List Fm)(hc:(Ck.mk lems tys hyps).ok)(hs:Am tys)(ht:tys.length<10)(hh:hyps.length<10)(d d1:Dk)(ok1:d1.ok)(k:Int)(hk:k=(n:Int)+1)
 (hx:AC E 24 [.ptr 0 0,.i 17] ⟨1,[(0,.var d.cells)]⟩ (.i 3) ⟨1,[(0,.var d1.cells)]⟩):
 Fb n lems tys hyps d k:=by
 have hb:=xv n;have hbs:=xj n;have hbl:=vn (show n<=4 by omega);have hl:=v8 hc;obtain⟨p1,d2,m1,ok2,hp1⟩:=H lems tys hyps d1 (k-1) (by omega) ok1 hc hs;have fp1:=m1.full;obtain⟨x,us,e,hxe,hI⟩:=J6 hc hs m1 (by omega);by_cases he:e=0;case neg=>
  obtain⟨p,d',hm,ok',hA⟩:=Iu (n+1) lems tys hyps hc hs d2 ok2 k;refine⟨p,d',hm,ok',?_⟩;show AW _ _ _ (Code.seq _ _) _ _ _;(repeat' first|refine M.go ?_|refine M.gs ?_ ?_<;>intro h|refine M.z1 3 ?_|refine M.cs ?_ ?_<;>intro h|refine M.gk ?_|fail);all_goals first
   |(exfalso;simp at h;omega)
   |skip
  (repeat' first|refine M.go ?_|refine M.cb (hx) [0] 0 ?_|refine M.cb (hp1) [0] 0 ?_|refine M.c2 (hI) ?_|refine M.z1 61 ?_|refine M.bl ?_|refine M.cs ?_ ?_<;>intro h|refine M.gk ?_|fail);all_goals first
   |exact AW.weak (M.W [some 0,some 1,some 2,some 3]) hA
   |(exfalso;simp at h;omega)
   |trace_state
 subst he;obtain⟨ex,ox⟩:=hxe rfl;have fx:=ye ex;have hw:=Q3 tys hyps x (by omega);obtain⟨p2,d3,m2,ok3,hp2⟩:=H lems tys (hyps++[x]) d2 (k-1) (by omega) ok2 (hc.AA (by simp only;omega) ex ox) hs;have fp2:=m2.full;have hIm:=Oz x p2 (by omega) (by omega);have hm:=Made.imp (DU.of ex ox (by omega)) m2;have fm:=hm.full;have hP:=w7 7 [.mk 6 0 (.mk 0 []) [] [x] [p2],p1] (by simp) (GO (by omega) (by omega));refine⟨_,d3,(Made.two (k:=7) (by omega) hm m1).up (by omega),ok3,?_⟩;show AW _ _ _ (Code.seq _ _) _ _ _;(repeat' first|refine M.go ?_|refine M.gs ?_ ?_<;>intro h|refine M.z1 3 ?_|refine M.cs ?_ ?_<;>intro h|refine M.gk ?_|fail);all_goals first
  |(exfalso;simp at h;omega)
  |skip
 (repeat' first|refine M.gw ?_|refine M.cb (hx) [0] 0 ?_|refine M.cb (hp1) [0] 0 ?_|refine M.c2 (hI) ?_|refine M.c2 (hw) ?_|refine M.cb (hp2) [0] 0 ?_|refine M.c2 (hIm) ?_|refine M.c2 (hP) ?_|refine M.bl ?_|fail);all_goals first|exact M.n2 [some 0] (h8:=(by simp[zk,V.wk,V.Ap,zc,Ty.view,Tm.view,Pf.view]))
theorem Yeq(n:Nat)(hn:n<=3)(H:EL n)(lems:List Fm)(tys:List Ty)(hyps:List Fm)(hc:(Ck.mk lems tys hyps).ok)(hs:Am tys)(ht:tys.length<10)(hh:hyps.length<10)(d d1:Dk)(ok1:d1.ok)(k:Int)(hk:k=(n:Int)+1)
 (hx:AC E 24 [.ptr 0 0,.i 17] ⟨1,[(0,.var d.cells)]⟩ (.i 4) ⟨1,[(0,.var d1.cells)]⟩):
 Fb n lems tys hyps d k:=by
 have hb:=xv n;have hbs:=xj n;have hbl:=vn (show n<=4 by omega);have hl:=v8 hc;obtain⟨s,d4,ok4,ss,h4⟩:=KN d1 ok1;have es:=wn ss;have hbe:=JV tys hyps [s] (fun f hf=>hc.hyps f hf) (by omega) (by simp) (by omega);have hc2:(Ck.mk lems (tys++[s]) (hyps.map fun f=>f.A9 0 [s].length)).ok:=hc.below (l:=[s]) (by simp only[XH];omega) (wo es);have hs2:Am (tys++[s]):=zo hs (zi ss zn);obtain⟨p1,d2,m1,ok2,hp1⟩:=H lems (tys++[s]) (hyps.map fun f=>f.A9 0 [s].length) d4 (k-1) (by omega) ok4 hc2 hs2;have fp1:=m1.full;have hA:=Kb 8 s p1 (by have:=IC es;omega) (by omega);refine⟨_,d2,(Made.all (k:=8) (by omega) es m1).up (by omega),ok2,?_⟩;show AW _ _ _ (Code.seq _ _) _ _ _;(repeat' first|refine M.go ?_|refine M.gs ?_ ?_<;>intro h|refine M.z1 3 ?_|refine M.cs ?_ ?_<;>intro h|refine M.gk ?_|fail);all_goals first
  |(exfalso;simp at h;omega)
  |skip
 (repeat' first|refine M.gw ?_|refine M.cb (hx) [0] 0 ?_|refine M.cb (h4) [0] 0 ?_|refine M.c2 (hbe) ?_|refine M.cb (hp1) [0] 0 ?_|refine M.c2 (hA) ?_|refine M.bl ?_|fail);all_goals first|exact M.n2 [some 0] (h8:=(by simp[zk,V.wk,V.Ap,zc,Ty.view,Tm.view,Pf.view]))
theorem Ybl(n:Nat)(hn:n<=3)(H:EL n)(lems:List Fm)(tys:List Ty)(hyps:List Fm)(hc:(Ck.mk lems tys hyps).ok)(hs:Am tys)(ht:tys.length<10)(hh:hyps.length<10)(d d1:Dk)(ok1:d1.ok)(k:Int)(hk:k=(n:Int)+1)
 (hx:AC E 24 [.ptr 0 0,.i 17] ⟨1,[(0,.var d.cells)]⟩ (.i 14) ⟨1,[(0,.var d1.cells)]⟩):
 Fb n lems tys hyps d k:=by
 have hb:=xv n;have hbs:=xj n;have hbl:=vn (show n<=4 by omega);have hl:=v8 hc;obtain⟨s,d4,ok4,ss,h4⟩:=KN d1 ok1;have es:=wn ss;have hbe:=JV tys hyps [s] (fun f hf=>hc.hyps f hf) (by omega) (by simp) (by omega);have hc2:(Ck.mk lems (tys++[s]) (hyps.map fun f=>f.A9 0 [s].length)).ok:=hc.below (l:=[s]) (by simp only[XH];omega) (wo es);have hs2:Am (tys++[s]):=zo hs (zi ss zn);obtain⟨p1,d2,m1,ok2,hp1⟩:=H lems (tys++[s]) (hyps.map fun f=>f.A9 0 [s].length) d4 (k-1) (by omega) ok4 hc2 hs2;have fp1:=m1.full;have hA:=Kb 12 s p1 (by have:=IC es;omega) (by omega);refine⟨_,d2,(Made.all (k:=12) (by omega) es m1).up (by omega),ok2,?_⟩;show AW _ _ _ (Code.seq _ _) _ _ _;(repeat' first|refine M.go ?_|refine M.gs ?_ ?_<;>intro h|refine M.z1 3 ?_|refine M.cs ?_ ?_<;>intro h|refine M.gk ?_|fail);all_goals first
  |(exfalso;simp at h;omega)
  |skip
 (repeat' first|refine M.gw ?_|refine M.cb (hx) [0] 0 ?_|refine M.cb (h4) [0] 0 ?_|refine M.c2 (hbe) ?_|refine M.cb (hp1) [0] 0 ?_|refine M.c2 (hA) ?_|refine M.bl ?_|fail);all_goals first|exact M.n2 [some 0] (h8:=(by simp[zk,V.wk,V.Ap,zc,Ty.view,Tm.view,Pf.view]))
theorem Yc7(n:Nat)(hn:n<=3)(H:EL n)(lems:List Fm)(tys:List Ty)(hyps:List Fm)(hc:(Ck.mk lems tys hyps).ok)(hs:Am tys)(ht:tys.length<10)(hh:hyps.length<10)(d d1:Dk)(ok1:d1.ok)(k:Int)(hk:k=(n:Int)+1)
 (hx:AC E 24 [.ptr 0 0,.i 17] ⟨1,[(0,.var d.cells)]⟩ (.i 5) ⟨1,[(0,.var d1.cells)]⟩):
 Fb n lems tys hyps d k:=by
 have hb:=xv n;have hbs:=xj n;have hbl:=vn (show n<=4 by omega);have hl:=v8 hc;obtain⟨s,d4,ok4,ss,h4⟩:=KN d1 ok1;obtain⟨t,d5,ok5,et,it,h5⟩:=HI d4 tys s ok4 hs ss hl.1;have ti:=C5.of et it (by omega);have ft:=z6 et;have es:=wn ss;have hbe:=JV tys hyps [s] (fun f hf=>hc.hyps f hf) (by omega) (by simp) (by omega);have hc2:(Ck.mk lems (tys++[s]) (hyps.map fun f=>f.A9 0 [s].length)).ok:=hc.below (l:=[s]) (by simp only[XH];omega) (wo es);have hs2:Am (tys++[s]):=zo hs (zi ss zn);obtain⟨p1,d2,m1,ok2,hp1⟩:=H lems (tys++[s]) (hyps.map fun f=>f.A9 0 [s].length) d5 (k-1) (by omega) ok5 hc2 hs2;have fp1:=m1.full;have hA:=Kb 8 s p1 (by have:=IC es;omega) (by omega);have hm:=Made.all (k:=8) (by omega) es m1;have fm:=hm.full;have hT:=Me 9 t (.mk 8 0 s [] [] [p1]) (by omega) (by omega);refine⟨_,d2,(Made.at_ (k:=9) (by omega) ti hm).up (by omega),ok2,?_⟩;show AW _ _ _ (Code.seq _ _) _ _ _;(repeat' first|refine M.go ?_|refine M.gs ?_ ?_<;>intro h|refine M.z1 3 ?_|refine M.cs ?_ ?_<;>intro h|refine M.gk ?_|fail);all_goals first
  |(exfalso;simp at h;omega)
  |skip
 (repeat' first|refine M.gw ?_|refine M.cb (hx) [0] 0 ?_|refine M.cb (h4) [0] 0 ?_|refine M.cb (h5) [0] 0 ?_|refine M.c2 (hbe) ?_|refine M.cb (hp1) [0] 0 ?_|refine M.c2 (hA) ?_|refine M.c2 (hT) ?_|refine M.bl ?_|fail);all_goals first|exact M.n2 [some 0] (h8:=(by simp[zk,V.wk,V.Ap,zc,Ty.view,Tm.view,Pf.view]))
theorem Zyt(n:Nat)(hn:n<=3)(H:EL n)(lems:List Fm)(tys:List Ty)(hyps:List Fm)(hc:(Ck.mk lems tys hyps).ok)(hs:Am tys)(ht:tys.length<10)(hh:hyps.length<10)(d d1:Dk)(ok1:d1.ok)(k:Int)(hk:k=(n:Int)+1)
 (hx:AC E 24 [.ptr 0 0,.i 17] ⟨1,[(0,.var d.cells)]⟩ (.i 15) ⟨1,[(0,.var d1.cells)]⟩):
 Fb n lems tys hyps d k:=by
 have hb:=xv n;have hbs:=xj n;have hbl:=vn (show n<=4 by omega);have hl:=v8 hc;obtain⟨s,d4,ok4,ss,h4⟩:=KN d1 ok1;obtain⟨t,d5,ok5,et,it,h5⟩:=HI d4 tys s ok4 hs ss hl.1;have ti:=C5.of et it (by omega);have ft:=z6 et;have es:=wn ss;have hbe:=JV tys hyps [s] (fun f hf=>hc.hyps f hf) (by omega) (by simp) (by omega);have hc2:(Ck.mk lems (tys++[s]) (hyps.map fun f=>f.A9 0 [s].length)).ok:=hc.below (l:=[s]) (by simp only[XH];omega) (wo es);have hs2:Am (tys++[s]):=zo hs (zi ss zn);obtain⟨p1,d2,m1,ok2,hp1⟩:=H lems (tys++[s]) (hyps.map fun f=>f.A9 0 [s].length) d5 (k-1) (by omega) ok5 hc2 hs2;have fp1:=m1.full;have hA:=Kb 12 s p1 (by have:=IC es;omega) (by omega);have hm:=Made.all (k:=12) (by omega) es m1;have fm:=hm.full;have hT:=Me 13 t (.mk 12 0 s [] [] [p1]) (by omega) (by omega);refine⟨_,d2,(Made.at_ (k:=13) (by omega) ti hm).up (by omega),ok2,?_⟩;show AW _ _ _ (Code.seq _ _) _ _ _;(repeat' first|refine M.go ?_|refine M.gs ?_ ?_<;>intro h|refine M.z1 3 ?_|refine M.cs ?_ ?_<;>intro h|refine M.gk ?_|fail);all_goals first
  |(exfalso;simp at h;omega)
  |skip
 (repeat' first|refine M.gw ?_|refine M.cb (hx) [0] 0 ?_|refine M.cb (h4) [0] 0 ?_|refine M.cb (h5) [0] 0 ?_|refine M.c2 (hbe) ?_|refine M.cb (hp1) [0] 0 ?_|refine M.c2 (hA) ?_|refine M.c2 (hT) ?_|refine M.bl ?_|fail);all_goals first|exact M.n2 [some 0] (h8:=(by simp[zk,V.wk,V.Ap,zc,Ty.view,Tm.view,Pf.view]))
theorem Ydc(n:Nat)(hn:n<=3)(H:EL n)(lems:List Fm)(tys:List Ty)(hyps:List Fm)(hc:(Ck.mk lems tys hyps).ok)(hs:Am tys)(ht:tys.length<10)(hh:hyps.length<10)(d d1:Dk)(ok1:d1.ok)(k:Int)(hk:k=(n:Int)+1)
 (hx:AC E 24 [.ptr 0 0,.i 17] ⟨1,[(0,.var d.cells)]⟩ (.i 6) ⟨1,[(0,.var d1.cells)]⟩):
 Fb n lems tys hyps d k:=by
 have hb:=xv n;have hbs:=xj n;have hbl:=vn (show n<=4 by omega);have hl:=v8 hc;obtain⟨t,d4,ok4,et,it,h4⟩:∃(t:Tm) (d':Dk),d'.ok/\(t.err=0/\t.size<=60)/\t.inf tys=(Ag,0)/\AC E 35 [.ptr 0 0,.s .ty tys,.agg Ag.view,.i 1] ⟨1,[(0,.var d1.cells)]⟩ (.agg t.view) ⟨1,[(0,.var d'.cells)]⟩:=
  ⟨_,_,Dk.CG 3 d1 tys Ag ok1,⟨(un d1 hs).1.err,(un d1 hs).2⟩,(un d1 hs).1.inf,Ir 3 (by omega) d1 tys Ag 1 (by omega) ok1 hs zh (by omega) (by omega) (by omega)⟩
 have tz:=et.2;have et:=et.1;have ti:=C5.of et it (by omega);have ft:=z6 et;obtain⟨i,d5,ok5,hi,h5⟩:=FB d4 2 ok4 (by omega);have hF:=PX et it (by omega);obtain⟨ee,oe⟩:=Ol et it (by omega);have hR:=xt t (by omega);have h6:=Ek 0;have fe:=ye ee;have lf:=I2 0 1 t 0 ti.1;have hmr:=Made.ref ti;have fmr:=hmr.full;generalize t.re (zx 0 1) 0=u at*;have h7:=GQ u (vT 0) (by omega) (by decide);have hsz:=((Fm.Ad _).1 ee);rcases(show i=0\/i=1 by omega) with rfl|rfl
 .have hf:=Iz (k:=5) (.inl rfl) zh hsz.1 (by omega) oe (by omega);have ff:=hf.2.2;have h8:=FO 5 Ag (Bf u (vT 0)) (by decide) (by omega);have h9:=Iy 10 (Br 5 Ag (Bf u (vT 0))) t (.mk 18 0 (.mk 0 []) [t] [] []) (by omega) (by omega) (by omega);refine⟨_,d5,(Made.ex (k:=10) (by omega) hf ti hmr).up (by omega),ok5,?_⟩;show AW _ _ _ (Code.seq _ _) _ _ _;(repeat' first|refine M.go ?_|refine M.gs ?_ ?_<;>intro h|refine M.z1 3 ?_|refine M.cs ?_ ?_<;>intro h|refine M.gk ?_|fail);all_goals first
   |(exfalso;simp at h;omega)
   |skip
  (repeat' first|refine M.gw ?_|refine M.cb (hx) [0] 0 ?_|refine M.cb (h4) [0] 0 ?_|refine M.cb (h5) [0] 0 ?_|refine M.c2 (hF) ?_|refine M.c2 (h6) ?_|refine M.c2 (h7) ?_|refine M.c2 (h8) ?_|refine M.c2 (hR) ?_|refine M.c2 (h9) ?_|refine M.bl ?_|fail);all_goals first|exact M.n2 [some 0] (h8:=(by simp[zk,V.wk,V.Ap,zc,Ty.view,Tm.view,Pf.view]))
 .have hf:=Iz (k:=7) (.inr rfl) zh hsz.1 (by omega) oe (by omega);have ff:=hf.2.2;have h8:=FO 7 Ag (Bf u (vT 0)) (by decide) (by omega);have h9:=Iy 14 (Br 7 Ag (Bf u (vT 0))) t (.mk 18 0 (.mk 0 []) [t] [] []) (by omega) (by omega) (by omega);refine⟨_,d5,(Made.ex (k:=14) (by omega) hf ti hmr).up (by omega),ok5,?_⟩;show AW _ _ _ (Code.seq _ _) _ _ _;(repeat' first|refine M.go ?_|refine M.gs ?_ ?_<;>intro h|refine M.z1 3 ?_|refine M.cs ?_ ?_<;>intro h|refine M.gk ?_|fail);all_goals first
   |(exfalso;simp at h;omega)
   |skip
  (repeat' first|refine M.gw ?_|refine M.cb (hx) [0] 0 ?_|refine M.cb (h4) [0] 0 ?_|refine M.cb (h5) [0] 0 ?_|refine M.c2 (hF) ?_|refine M.c2 (h6) ?_|refine M.c2 (h7) ?_|refine M.c2 (h8) ?_|refine M.c2 (hR) ?_|refine M.c2 (h9) ?_|refine M.bl ?_|fail);all_goals first|exact M.n2 [some 0] (h8:=(by simp[zk,V.wk,V.Ap,zc,Ty.view,Tm.view,Pf.view]))
theorem Yeg(n:Nat)(hn:n<=3)(H:EL n)(lems:List Fm)(tys:List Ty)(hyps:List Fm)(hc:(Ck.mk lems tys hyps).ok)(hs:Am tys)(ht:tys.length<10)(hh:hyps.length<10)(d d1:Dk)(ok1:d1.ok)(k:Int)(hk:k=(n:Int)+1)
 (hx:AC E 24 [.ptr 0 0,.i 17] ⟨1,[(0,.var d.cells)]⟩ (.i 7) ⟨1,[(0,.var d1.cells)]⟩):
 Fb n lems tys hyps d k:=by
 have hb:=xv n;have hbs:=xj n;have hbl:=vn (show n<=4 by omega);have hl:=v8 hc;obtain⟨p1,d2,m1,ok2,hp1⟩:=H lems tys hyps d1 (k-1) (by omega) ok1 hc hs;have fp1:=m1.full;obtain⟨x,us,e,hxe,hI⟩:=J6 hc hs m1 (by omega);by_cases he:e=0;case neg=>
  obtain⟨p,d',hm,ok',hA⟩:=Iu (n+1) lems tys hyps hc hs d2 ok2 k;refine⟨p,d',hm,ok',?_⟩;show AW _ _ _ (Code.seq _ _) _ _ _;(repeat' first|refine M.go ?_|refine M.gs ?_ ?_<;>intro h|refine M.z1 3 ?_|refine M.cs ?_ ?_<;>intro h|refine M.gk ?_|fail);all_goals first
   |(exfalso;simp at h;omega)
   |skip
  (repeat' first|refine M.go ?_|refine M.cb (hx) [0] 0 ?_|refine M.cb (hp1) [0] 0 ?_|refine M.c2 (hI) ?_|refine M.z1 61 ?_|refine M.bl ?_|refine M.cs ?_ ?_<;>intro h|refine M.gk ?_|fail);all_goals first
   |exact AW.weak (M.W [some 0,some 1,some 2,some 3]) hA
   |(exfalso;simp at h;omega)
   |trace_state
 subst he;obtain⟨ex,ox⟩:=hxe rfl;have fx:=ye ex;have hU:=E1 ox ((Fm.Ad _).1 ex).1 (by have:=((Fm.Ad _).1 ex).2;omega) (by omega) 0 1 (by omega) (by omega);have fl:=Ix x 0 1;have sl:=N9 ex;obtain⟨s,d4,ok4,ss,h4⟩:=KN d2 ok2;obtain⟨i,d5,ok5,hi,h5⟩:=FB d4 2 ok4 (by omega);obtain⟨t,d6,ok6,et,it,h6⟩:=HI d5 tys s ok5 hs ss hl.1;have ti:=C5.of et it (by omega);have ft:=z6 et;have ox2:=Rc ex ox s;have es:=IC (wn ss);generalize x.A9 0 1=y at*;rcases(show i=0\/i=1 by omega) with rfl|rfl
 .have hf:=Iz (k:=5) (.inl rfl) ss sl.1 (by omega) ox2 (by omega);have ff:=hf.2.2;have h8:=FO 5 s y (by omega) (by omega);have h9:=Iy 10 (Br 5 s y) t p1 (by omega) (by omega) (by omega);refine⟨_,d6,(Made.ex (k:=10) (by omega) hf ti m1).up (by omega),ok6,?_⟩;show AW _ _ _ (Code.seq _ _) _ _ _;(repeat' first|refine M.go ?_|refine M.gs ?_ ?_<;>intro h|refine M.z1 3 ?_|refine M.cs ?_ ?_<;>intro h|refine M.gk ?_|fail);all_goals first
   |(exfalso;simp at h;omega)
   |skip
  (repeat' first|refine M.gw ?_|refine M.cb (hx) [0] 0 ?_|refine M.cb (hp1) [0] 0 ?_|refine M.c2 (hI) ?_|refine M.cb (h4) [0] 0 ?_|refine M.cb (h5) [0] 0 ?_|refine M.c2 (hU) ?_|refine M.c2 (h8) ?_|refine M.cb (h6) [0] 0 ?_|refine M.c2 (h9) ?_|refine M.bl ?_|fail);all_goals first|exact M.n2 [some 0] (h8:=(by simp[zk,V.wk,V.Ap,zc,Ty.view,Tm.view,Pf.view]))
 .have hf:=Iz (k:=7) (.inr rfl) ss sl.1 (by omega) ox2 (by omega);have ff:=hf.2.2;have h8:=FO 7 s y (by omega) (by omega);have h9:=Iy 14 (Br 7 s y) t p1 (by omega) (by omega) (by omega);refine⟨_,d6,(Made.ex (k:=14) (by omega) hf ti m1).up (by omega),ok6,?_⟩;show AW _ _ _ (Code.seq _ _) _ _ _;(repeat' first|refine M.go ?_|refine M.gs ?_ ?_<;>intro h|refine M.z1 3 ?_|refine M.cs ?_ ?_<;>intro h|refine M.gk ?_|fail);all_goals first
   |(exfalso;simp at h;omega)
   |skip
  (repeat' first|refine M.gw ?_|refine M.cb (hx) [0] 0 ?_|refine M.cb (hp1) [0] 0 ?_|refine M.c2 (hI) ?_|refine M.cb (h4) [0] 0 ?_|refine M.cb (h5) [0] 0 ?_|refine M.c2 (hU) ?_|refine M.c2 (h8) ?_|refine M.cb (h6) [0] 0 ?_|refine M.c2 (h9) ?_|refine M.bl ?_|fail);all_goals first|exact M.n2 [some 0] (h8:=(by simp[zk,V.wk,V.Ap,zc,Ty.view,Tm.view,Pf.view]))
theorem Ydl(n:Nat)(hn:n<=3)(H:EL n)(lems:List Fm)(tys:List Ty)(hyps:List Fm)(hc:(Ck.mk lems tys hyps).ok)(hs:Am tys)(ht:tys.length<10)(hh:hyps.length<10)(d d1:Dk)(ok1:d1.ok)(k:Int)(hk:k=(n:Int)+1)
 (hx:AC E 24 [.ptr 0 0,.i 17] ⟨1,[(0,.var d.cells)]⟩ (.i 9) ⟨1,[(0,.var d1.cells)]⟩):
 Fb n lems tys hyps d k:=by
 have hb:=xv n;have hbs:=xj n;have hbl:=vn (show n<=4 by omega);have hl:=v8 hc;obtain⟨p1,d2,m1,ok2,hp1⟩:=H lems tys hyps d1 (k-1) (by omega) ok1 hc hs;have fp1:=m1.full;obtain⟨x,us,e,hxe,hI⟩:=J6 hc hs m1 (by omega);by_cases he:e=0;case neg=>
  obtain⟨p,d',hm,ok',hA⟩:=Iu (n+1) lems tys hyps hc hs d2 ok2 k;refine⟨p,d',hm,ok',?_⟩;show AW _ _ _ (Code.seq _ _) _ _ _;(repeat' first|refine M.go ?_|refine M.gs ?_ ?_<;>intro h|refine M.z1 3 ?_|refine M.cs ?_ ?_<;>intro h|refine M.gk ?_|fail);all_goals first
   |(exfalso;simp at h;omega)
   |skip
  (repeat' first|refine M.go ?_|refine M.cb (hx) [0] 0 ?_|refine M.cb (hp1) [0] 0 ?_|refine M.c2 (hI) ?_|refine M.z1 61 ?_|refine M.bl ?_|refine M.cs ?_ ?_<;>intro h|refine M.gk ?_|fail);all_goals first
   |exact AW.weak (M.W [some 0,some 1,some 2,some 3]) hA
   |(exfalso;simp at h;omega)
   |trace_state
 subst he;obtain⟨ex,ox⟩:=hxe rfl;have fx:=ye ex;have hU:=E1 ox ((Fm.Ad _).1 ex).1 (by have:=((Fm.Ad _).1 ex).2;omega) (by omega) 0 1 (by omega) (by omega);have fl:=Ix x 0 1;have sl:=N9 ex;obtain⟨t,d6,ok6,et,it,h6⟩:=HI d2 tys Ag ok2 hs zh hl.1;have ti:=C5.of et it (by omega);have ft:=z6 et;have hf:=MO ex ox Ag (by omega);generalize x.A9 0 1=y at*;have hy:=Ih 0;have mh:Made 10 (va 0):=Made.hyp (by omega);have fh:=mh.full;have hli:=ul;have h9:=IG 16 y t p1 (va 0) (by omega) (by omega) (by omega) (by omega);refine⟨_,d6,(Made.ind (k:=16) (by omega) hf ti m1 mh).up (by omega),ok6,?_⟩;show AW _ _ _ (Code.seq _ _) _ _ _;(repeat' first|refine M.go ?_|refine M.gs ?_ ?_<;>intro h|refine M.z1 3 ?_|refine M.cs ?_ ?_<;>intro h|refine M.gk ?_|fail);all_goals first
  |(exfalso;simp at h;omega)
  |skip
 (repeat' first|refine M.gw ?_|refine M.cb (hx) [0] 0 ?_|refine M.cb (hp1) [0] 0 ?_|refine M.c2 (hI) ?_|refine M.c2 (hU) ?_|refine M.cb (h6) [0] 0 ?_|refine M.c2 (hy) ?_|refine M.c2 (h9) ?_|refine M.bl ?_|fail);all_goals first|exact M.n2 [some 0] (h8:=(by simp[zk,V.wk,V.Ap,zc,Ty.view,Tm.view,Pf.view]))
theorem Yat(n:Nat)(hn:n<=3)(H:EL n)(lems:List Fm)(tys:List Ty)(hyps:List Fm)(hc:(Ck.mk lems tys hyps).ok)(hs:Am tys)(ht:tys.length<10)(hh:hyps.length<10)(d d1:Dk)(ok1:d1.ok)(k:Int)(hk:k=(n:Int)+1)
 (hx:AC E 24 [.ptr 0 0,.i 17] ⟨1,[(0,.var d.cells)]⟩ (.i 10) ⟨1,[(0,.var d1.cells)]⟩):
 Fb n lems tys hyps d k:=by
 have hb:=xv n;have hbs:=xj n;have hbl:=vn (show n<=4 by omega);have hl:=v8 hc;obtain⟨p1,d2,m1,ok2,hp1⟩:=H lems tys hyps d1 (k-1) (by omega) ok1 hc hs;have fp1:=m1.full;obtain⟨x,us,e,hxe,hI⟩:=J6 hc hs m1 (by omega);by_cases he:e=0;case neg=>
  obtain⟨p,d',hm,ok',hA⟩:=Iu (n+1) lems tys hyps hc hs d2 ok2 k;refine⟨p,d',hm,ok',?_⟩;show AW _ _ _ (Code.seq _ _) _ _ _;(repeat' first|refine M.go ?_|refine M.gs ?_ ?_<;>intro h|refine M.z1 3 ?_|refine M.cs ?_ ?_<;>intro h|refine M.gk ?_|fail);all_goals first
   |(exfalso;simp at h;omega)
   |skip
  (repeat' first|refine M.go ?_|refine M.cb (hx) [0] 0 ?_|refine M.cb (hp1) [0] 0 ?_|refine M.c2 (hI) ?_|refine M.z1 61 ?_|refine M.bl ?_|refine M.cs ?_ ?_<;>intro h|refine M.gk ?_|fail);all_goals first
   |exact AW.weak (M.W [some 0,some 1,some 2,some 3]) hA
   |(exfalso;simp at h;omega)
   |trace_state
 subst he;obtain⟨ex,ox⟩:=hxe rfl;have fx:=ye ex;have hU:=E1 ox ((Fm.Ad _).1 ex).1 (by have:=((Fm.Ad _).1 ex).2;omega) (by omega) 0 1 (by omega) (by omega);have fl:=Ix x 0 1;have sl:=N9 ex;obtain⟨t,d6,ok6,et,it,h6⟩:=HI d2 tys An ok2 hs yp hl.1;have ti:=C5.of et it (by omega);have ft:=z6 et;have hf:=MO ex ox Ag (by omega);generalize x.A9 0 1=y at*;have hy:=Ih 0;have mh:Made 10 (va 0):=Made.hyp (by omega);have fh:=mh.full;have hli:=ul;have h9:=IG 17 y t p1 (va 0) (by omega) (by omega) (by omega) (by omega);refine⟨_,d6,(Made.ind (k:=17) (by omega) hf ti m1 mh).up (by omega),ok6,?_⟩;show AW _ _ _ (Code.seq _ _) _ _ _;(repeat' first|refine M.go ?_|refine M.gs ?_ ?_<;>intro h|refine M.z1 3 ?_|refine M.cs ?_ ?_<;>intro h|refine M.gk ?_|fail);all_goals first
  |(exfalso;simp at h;omega)
  |skip
 (repeat' first|refine M.gw ?_|refine M.cb (hx) [0] 0 ?_|refine M.cb (hp1) [0] 0 ?_|refine M.c2 (hI) ?_|refine M.c2 (hU) ?_|refine M.c2 (hli) ?_|refine M.cb (h6) [0] 0 ?_|refine M.c2 (hy) ?_|refine M.c2 (h9) ?_|refine M.bl ?_|fail);all_goals first|exact M.n2 [some 0] (h8:=(by simp[zk,V.wk,V.Ap,zc,Ty.view,Tm.view,Pf.view]))
theorem Yal(n:Nat)(hn:n<=3)(H:EL n)(lems:List Fm)(tys:List Ty)(hyps:List Fm)(hc:(Ck.mk lems tys hyps).ok)(hs:Am tys)(ht:tys.length<10)(hh:hyps.length<10)(d d1:Dk)(ok1:d1.ok)(k:Int)(hk:k=(n:Int)+1)
 (hx:AC E 24 [.ptr 0 0,.i 17] ⟨1,[(0,.var d.cells)]⟩ (.i 11) ⟨1,[(0,.var d1.cells)]⟩):
 Fb n lems tys hyps d k:=by
 have hb:=xv n;have hbs:=xj n;have hbl:=vn (show n<=4 by omega);have hl:=v8 hc;obtain⟨t,d4,ok4,et,it,h4⟩:=HI d1 tys Ag ok1 hs zh hl.1;have ti:=C5.of et it (by omega);have ft:=z6 et;have h5:=Ro t (by omega);have mz:Made 2000000 (Io t):=by
  have s1:Made 700000 Cc:=(Made.sub (f:=Bf (A0 (Em.re (zx 0 1) 0) (Cg.re (zx 0 1) 0)) (A0 (Em.re (zx 0 1) 0) (vT 0))) (Mu _ (by decide+kernel) (by decide+kernel) (by decide+kernel)) (Made.hyp (i:=0) (by omega)) (Made.ref (t:=A0 Em Cg) (GU _ (by decide+kernel) (by decide+kernel) (by decide+kernel)))).up (by omega);exact(Made.ind (k:=16) (by omega) (f:=Bf Cg (vT 0)) (t:=t) (Mu _ (by decide+kernel) (by decide+kernel) (by decide+kernel)) ti (Made.ref (GU zT (by decide) (by decide) (by decide))) s1).up (by omega)
 refine⟨_,d4,mz.up (by omega),ok4,?_⟩;unfold Io at h5 ⊢;show AW _ _ _ (Code.seq _ _) _ _ _;(repeat' first|refine M.go ?_|refine M.gs ?_ ?_<;>intro h|refine M.z1 3 ?_|refine M.cs ?_ ?_<;>intro h|refine M.gk ?_|fail);all_goals first
  |(exfalso;simp at h;omega)
  |skip
 (repeat' first|refine M.gw ?_|refine M.cb (hx) [0] 0 ?_|refine M.cb (h4) [0] 0 ?_|refine M.c2 (h5) ?_|refine M.bl ?_|fail);all_goals first|exact M.n2 [some 0] (h8:=(by simp[zk,V.wk,V.Ap,zc,Ty.view,Tm.view,Pf.view]))
theorem Yav(n:Nat)(hn:n<=3)(H:EL n)(lems:List Fm)(tys:List Ty)(hyps:List Fm)(hc:(Ck.mk lems tys hyps).ok)(hs:Am tys)(ht:tys.length<10)(hh:hyps.length<10)(d d1:Dk)(ok1:d1.ok)(k:Int)(hk:k=(n:Int)+1)
 (hx:AC E 24 [.ptr 0 0,.i 17] ⟨1,[(0,.var d.cells)]⟩ (.i 12) ⟨1,[(0,.var d1.cells)]⟩):
 Fb n lems tys hyps d k:=by
 have hb:=xv n;have hbs:=xj n;have hbl:=vn (show n<=4 by omega);have hl:=v8 hc;obtain⟨t,d4,ok4,et,it,h4⟩:=HI d1 tys Ag ok1 hs zh hl.1;have ti:=C5.of et it (by omega);have ft:=z6 et;obtain⟨u,d5,ok5,eu,zu,iu,h5⟩:=P1 d4 tys ok4 hs hl.1;have fu6:=KU u ((Tm.Ad u).1 eu).1;have ui:=C5.of eu iu (by omega);have fu:=z6 eu;have hF:=PX eu iu (by omega);obtain⟨l1,l2,l3⟩:=U7 eu iu;have lf:=I2 0 1 u 0 ui.1;have hsz:=((Tm.Ad _).1 eu);have hf:DU (Bf (u.re (zx 0 1) 0) (u.re (zx 0 1) 0)):=by
  have h1:=IU l2 l2;refine⟨h1,fun q hq r hr=> ?_,by rw[LY];omega⟩;have:=QA _ _ 0 h1 (CI.2 ⟨l1,l1⟩) q hq r hr;rw[H6,l3] at this;simp only[WD,XH] at this;omega
 generalize u.re (zx 0 1) 0=w at*;have h6:=GQ w w (by omega) (by omega);have h7:=xt t (by omega);have h8:=xt u (by omega);have m1:=Made.ref ti;have m2:=Made.ref ui;have f1:=m1.full;have f2:=m2.full;have ff:=hf.2.2;have h9:=SZ (Bf w w) (.mk 18 0 (.mk 0 []) [t] [] []) (.mk 18 0 (.mk 0 []) [u] [] []) (by omega) (by omega) (by omega);refine⟨_,d5,(Made.sub hf m1 m2).up (by omega),ok5,?_⟩;show AW _ _ _ (Code.seq _ _) _ _ _;(repeat' first|refine M.go ?_|refine M.gs ?_ ?_<;>intro h|refine M.z1 3 ?_|refine M.cs ?_ ?_<;>intro h|refine M.gk ?_|fail);all_goals first
  |(exfalso;simp at h;omega)
  |skip
 (repeat' first|refine M.gw ?_|refine M.cb (hx) [0] 0 ?_|refine M.cb (h4) [0] 0 ?_|refine M.cb (h5) [0] 0 ?_|refine M.c2 (hF) ?_|refine M.c2 (h6) ?_|refine M.c2 (h7) ?_|refine M.c2 (h8) ?_|refine M.c2 (h9) ?_|refine M.bl ?_|fail);all_goals first|exact M.n2 [some 0] (h8:=(by simp[zk,V.wk,V.Ap,zc,Ty.view,Tm.view,Pf.view]))
theorem Yag(n:Nat)(hn:n<=3)(H:EL n)(lems:List Fm)(tys:List Ty)(hyps:List Fm)(hc:(Ck.mk lems tys hyps).ok)(hs:Am tys)(ht:tys.length<10)(hh:hyps.length<10)(d d1:Dk)(ok1:d1.ok)(k:Int)(hk:k=(n:Int)+1)
 (hx:AC E 24 [.ptr 0 0,.i 17] ⟨1,[(0,.var d.cells)]⟩ (.i 13) ⟨1,[(0,.var d1.cells)]⟩):
 Fb n lems tys hyps d k:=by
 have hb:=xv n;have hbs:=xj n;have hbl:=vn (show n<=4 by omega);have hl:=v8 hc;obtain⟨s,d4,ok4,ss,h4⟩:=Pn d1 ok1;have es:=wn ss;have hbe:=JV tys hyps [s] (fun f hf=>hc.hyps f hf) (by omega) (by simp) (by omega);have hc2:(Ck.mk lems (tys++[s]) (hyps.map fun f=>f.A9 0 [s].length)).ok:=hc.below (l:=[s]) (by simp only[XH];omega) (wo es);have hs2:Am (tys++[s]):=zo hs (zi ss zn);have hl2:(tys++[s]).length<=16:=by simp;omega
 have h5:=(Ue d4 ok4 (tys++[s]) (hyps.map fun f=>f.A9 0 [s].length) hs2 hl2).2;have mn:=(un d4 hs2);have ok5:=Dk.CG 3 d4 (tys++[s]) Ag ok4;generalize Dk.tm 3 d4 (tys++[s]) Ag=T at*;obtain⟨t,d5⟩:=T;simp only at mn ok5;have ti:=C5.of mn.1.err mn.1.inf (by omega);obtain⟨ee,oe⟩:=Ol mn.1.err mn.1.inf (by omega);have hsz:=((Fm.Ad _).1 ee);have hf:=Iz (k:=5) (.inl rfl) zh hsz.1 (by omega) oe (by omega);have m1:Made 1000000 (KC (Jd t) t (wm t)):=(Made.ex (k:=10) (by omega) hf ti (Made.ref ti)).up (by omega);have f1:=m1.full;unfold KC at h5 m1 f1;have hA:=Kb 8 s (.mk 10 0 (.mk 0 []) [t] [Jd t] [wm t]) (by have:=IC es;omega) (by omega);have m2:=Made.all (k:=8) (by omega) es m1;have f2:=m2.full;have hP:=w7 20 [.mk 8 0 s [] [] [.mk 10 0 (.mk 0 []) [t] [Jd t] [wm t]]] (by simp) (wo (by omega));refine⟨_,d5,(Made.one (k:=20) (by omega) m2).up (by omega),ok5,?_⟩;show AW _ _ _ (Code.seq _ _) _ _ _;(repeat' first|refine M.go ?_|refine M.gs ?_ ?_<;>intro h|refine M.z1 3 ?_|refine M.cs ?_ ?_<;>intro h|refine M.gk ?_|fail);all_goals first
  |(exfalso;simp at h;omega)
  |skip
 (repeat' first|refine M.gw ?_|refine M.cb (hx) [0] 0 ?_|refine M.cb (h4) [0] 0 ?_|refine M.c2 (hbe) ?_|refine M.cb (h5) [0] 0 ?_|refine M.c2 (hA) ?_|refine M.c2 (hP) ?_|refine M.bl ?_|fail);all_goals first|exact M.n2 [some 0] (h8:=(by simp[zk,V.wk,V.Ap,zc,Ty.view,Tm.view,Pf.view]))
end Go.Ab
