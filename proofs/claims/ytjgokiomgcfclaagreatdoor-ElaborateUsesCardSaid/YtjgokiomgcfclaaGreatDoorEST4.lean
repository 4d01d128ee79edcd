/- A part of the proofs of this seat. No conditions. -/
import Derived.Test.YtjgokiomgcfclaaGreatDoorEST3
namespace Go.Ab
open Go Go.Proofs
set_option maxRecDepth 100000
set_option maxHeartbeats 4000000
set_option linter.all false
def Eh(n:Nat):Nat:=4000000*3^n
theorem SK:∀n:Nat,1<=3^n
 |0=>by decide
 |n+1=>by rw[Nat.pow_succ];have:=SK n;omega
theorem x6(n:Nat):4000000<=Eh n:=by unfold Eh;have:=SK n;omega
theorem xp(n:Nat):Eh (n+1)=3*Eh n:=by unfold Eh;rw[Nat.pow_succ];omega
theorem v8{n:Nat}(h:n<=4):Eh n<=400000000:=by unfold Eh;have:3^n<=3^4:=Nat.pow_le_pow_right (by omega) h;omega
theorem KH(f:Fm)(fr by_:Int):(f.A4 fr by_).full<=f.full:=Fm.ES (fun b t=>Tm.ES (fun i c=>by simp[zn,Tm.full,Tm.Ap,Ty.size,Ty.sizes]) t 0) f 0
theorem HR(d:Dk)(g:List Ty)(s:Ty)(hd:d.ok)(hg:Ai g)(hs:s.small)(hl:g.length<=16):∃(t:Tm) (d':Dk),d'.ok/\t.err=0/\t.inf g=(s,0)/\
 AC E 57 [.ptr 0 0,.s .ty g,.agg s.view,.i 1] ⟨1,[(0,.var d.cells)]⟩ (.agg t.view) ⟨1,[(0,.var d'.cells)]⟩:=by
 have hm:=Dk.Cc 3 d g s hg hs (by omega) (by omega);exact⟨_,_,Dk.B3 3 d g s hd,hm.err hg hs (by omega),hm.inf hg hs,HF 3 (by omega) d g s 1 (by omega) hd hg hs (by omega) (by omega) (by omega)⟩
theorem OK(d:Dk)(g:List Ty)(hd:d.ok)(hg:Ai g)(hl:g.length<=16):∃(t:Tm) (d':Dk),d'.ok/\t.err=0/\t.size<=60/\t.inf g=(Aa,0)/\
 AC E 57 [.ptr 0 0,.s .ty g,.agg Aa.view,.i 1] ⟨1,[(0,.var d.cells)]⟩ (.agg t.view) ⟨1,[(0,.var d'.cells)]⟩:=
 ⟨_,_,Dk.B3 3 d g Aa hd,(u9 d hg).1.err,(u9 d hg).2,(u9 d hg).1.inf,HF 3 (by omega) d g Aa 1 (by omega) hd hg zi (by omega) (by omega) (by omega)⟩
theorem SB(f:Fm)(h1:f.shape=true)(h2:(f.AU 0).all (fun q=>(q.1.vars 0).all fun r=>decide (0<=r.1/\r.1<10000))=true)(h3:f.full<=300000):DB f:=
 ⟨h1,fun q hq r hr=>by simpa using List.all_eq_true.1 (List.all_eq_true.1 h2 q hq) r hr,h3⟩
theorem KC(d:Dk)(hd:d.ok):∃(s:Ty) (d':Dk),d'.ok/\s.small/\AC E 56 [.ptr 0 0,.i 1] ⟨1,[(0,.var d.cells)]⟩ (.agg s.view) ⟨1,[(0,.var d'.cells)]⟩:=
 ⟨_,_,Dk.Bd 1 d hd,d.type1,J2 1 1 d (by omega) (by omega) (by omega) hd⟩
theorem Qo(d:Dk)(hd:d.ok):∃(s:Ty) (d':Dk),d'.ok/\s.small/\AC E 56 [.ptr 0 0,.i 0] ⟨1,[(0,.var d.cells)]⟩ (.agg s.view) ⟨1,[(0,.var d'.cells)]⟩:=
 ⟨_,_,Dk.Bd 0 d hd,⟨d.type0.1,by rw[d.type0.2];omega⟩,J2 0 0 d (by omega) (by omega) (by omega) hd⟩
theorem He(d:Dk)(n:Int)(hd:d.ok)(hn:0<n/\n<1099511627776):∃(i:Int) (d':Dk),d'.ok/\(0<=i/\i<n)/\AC E 51 [.ptr 0 0,.i n] ⟨1,[(0,.var d.cells)]⟩ (.i i) ⟨1,[(0,.var d'.cells)]⟩:=
 ⟨_,_,Dk.AA hd n,Dk.Bb d n hn.1,vt d n hd hn.2⟩
theorem Pp(d:Dk)(g:List Ty)(hd:d.ok)(hg:Ai g)(hl:g.length<=16):∃(f:Fm) (d':Dk),d'.ok/\f.err=0/\f.A9 g/\
 AC E 52 [.ptr 0 0,.s .ty g,.i 1] ⟨1,[(0,.var d.cells)]⟩ (.agg f.view) ⟨1,[(0,.var d'.cells)]⟩:=by
 have gf:=Dk.CC 1 d g hg;have h:(Dk.fm 1 d g).1.err=0:=(Fm.Ad _).2 ⟨gf.1,by have:=gf.2.1;omega⟩;exact⟨_,_,Dk.DC 1 d g hd,h,Dk.EM 1 d g hg,LY 1 d g 1 (by omega) rfl hd hg (by omega)⟩
theorem Li{lems:List Fm}{tys:List Ty}{hyps:List Fm}(hc:(Ck.mk lems tys hyps).ok)(hs:Ai tys){n:Nat}{p:Pf}(hp:Made n p)(hn:n<=1000000000):∃(x:Fm) (us:List Int) (e:Int),(e=0->x.err=0/\x.A9 tys)/\
 PC E 9 [.s .fm lems,.agg [.s .ty tys,.s .fm hyps],.agg p.view] (Di x us e):=by
 have hf:=hp.full;have h0:=hc.sum;have h:=Us lems hyps tys p (fun f hf=>by have:=z9 (hc.lems f hf).1;omega) (fun f hf=>by have:=z9 (hc.hyps f hf).1;omega) (by simp only at h0;omega) (by have:=hc.nl;simp only at this;omega) (by have:=hc.nh;simp only at this;omega) (by omega);refine⟨_,_,_,fun he=> ?_,h⟩;unfold GH at he ⊢;rw[if_neg (by rw[show CU lems tys hyps=0 from RH hc];simp)] at he ⊢;by_cases h1:p.err≠0
 ·rw[if_pos h1] at he;exact absurd he h1
 ·rw[if_neg h1] at he ⊢;have h2:=((N8 p hp.shape) _ hc).1 he;exact⟨h2.1,h2.2.1⟩
theorem DB.size{g:List Ty}{f:Fm}(hs:f.shape=true)(hz:f.size<=4500)(ho:f.A9 g)(hg:g.length<=20):DB f:=by
 have h1:=HN f hs;refine⟨hs,fun q hq r hr=> ?_,by omega⟩;have:=Ok f g 0 hs ho q hq r hr;omega
theorem QS{f:Fm}(hf:f.err=0):(f.A4 0 1).shape=true/\(f.A4 0 1).size<=4096:=(Fm.Ad _).1 (Lx hf (by omega))
theorem Qp{f:Fm}{g:List Ty}(hf:f.err=0)(ho:f.A9 g)(s:Ty):(f.A4 0 1).A9 (g++[s]):=by
 have h:=IX (g:=g) (h:=[]) [s] ((Fm.Ad f).1 hf).1 (by simpa using ho);simpa using h
theorem Jg{f:Fm}{g:List Ty}{k:Int}{s:Ty}(hk:k=5\/k=7)(hs:s.small)(h1:f.shape=true)(h2:f.size<=4400)(ho:f.A9 (g++[s]))(hg:g.length<=16):DB (Be k s f):=by
 have he:=w6 hs;have hq:=Gf.qu (g:=g) k (by omega) he ⟨h1,h2,ho⟩;exact DB.size hq.sh (by have:=hq.sz;omega) hq.ok (by omega)
theorem Kz{f:Fm}{g:List Ty}(hf:f.err=0)(ho:f.A9 g)(s:Ty)(hg:g.length<=16):DB (f.A4 0 1):=
 DB.of (g:=g++[s]) (Lx hf (by omega)) (Qp hf ho s) (by simp;omega)
theorem SF{t:Tm}{g:List Ty}(he:t.err=0)(hi:t.inf g=(Aa,0)):(t.re (zn 0 1) 0).inf (g++[Aa])=(Aa,0)/\(t.re (zn 0 1) 0).shape=true/\(t.re (zn 0 1) 0).size=t.size:=by
 have hs:=(Tm.Ad t).1 he;have h1:=Qp (f:=AM t t) (g:=g);have h2:=IX (f:=AM t t) (g:=g) (h:=[]) [Aa] (Jd hs.1 hs.1) (by simpa using Ci.2 ⟨hi,hi⟩);have e:(AM t t).A4 ([]:List Ty).length [Aa].length=AM (t.re (zn 0 1) 0) (t.re (zn 0 1) 0):=rfl;rw[e] at h2;have h3:=(Ci.1 h2).1;refine⟨by simpa using h3,?_,?_⟩
 ·exact Lg 0 hs.1 (by omega)
 ·exact MH 0 1 t 0 hs.1
theorem OP{t:Tm}{g:List Ty}(he:t.err=0)(hi:t.inf g=(Aa,0))(hz:t.size<=2000):(AM (t.re (zn 0 1) 0) (vT 0)).err=0/\(AM (t.re (zn 0 1) 0) (vT 0)).A9 (g++[Aa]):=by
 obtain⟨h1,h2,h3⟩:=SF he hi;exact⟨(Fm.Ad _).2 ⟨Jd h2 (JT 0 (by omega)),by rw[Iy,h3];have h9:=(show(vT 0).size=1 by decide);omega⟩,Ci.2 ⟨h1,R3 g Aa⟩⟩
def Er(n:Nat):Prop:=∀(lems:List Fm) (tys:List Ty) (hyps:List Fm) (d:Dk) (k:Int),k=n->d.ok->(Ck.mk lems tys hyps).ok->Ai tys->
 ∃(p:Pf) (d':Dk),Made (Eh n) p/\d'.ok/\AC E 106 [.ptr 0 0,.s .fm lems,.agg [.s .ty tys,.s .fm hyps],.i k] ⟨1,[(0,.var d.cells)]⟩ (.agg p.view) ⟨1,[(0,.var d'.cells)]⟩
theorem uo{lems:List Fm}{tys:List Ty}{hyps:List Fm}(hc:(Ck.mk lems tys hyps).ok):tys.length<=16/\hyps.length<=16/\lems.length<=32:=⟨hc.len,hc.nh,hc.nl⟩
theorem Iq(n:Nat)(lems:List Fm)(tys:List Ty)(hyps:List Fm)(hc:(Ck.mk lems tys hyps).ok)(hs:Ai tys)(d:Dk)(hd:d.ok)(k:Int):
 ∃(p:Pf) (d':Dk),Made (Eh n) p/\d'.ok/\AW E Tryz.f106.ntmps 1 (FZ [1,1,1] (Ly Tryz.f106)) [(0,.ptr 0 0),(1,.s .fm lems),(3,.i k),(6,.ptr 1 0),(8,.ptr 2 0),(9,.ptr 3 0)] ⟨4,[(0,.var d.cells),(1,.var [.s .ty tys,.s .fm hyps]),(2,.var [.i 0,.i 0,.i 0,.slice .nil (.t .ty []),.slice .nil (.t .tm []),.slice .nil (.t .fm []),.slice .nil (.t .pf [])]),(3,.var Aa.view)]⟩ (EL E 1 Tryz.f106.results.toList (.agg p.view) ⟨1,[(0,.var d'.cells)]⟩):=by
 have hb:=x6 n;have hl:=uo hc;obtain⟨j,d1,ok1,hj,h1⟩:=He d 4 hd (by omega);obtain⟨t,d2,ok2,et,it,h2⟩:=HR d1 tys Aa ok1 hs zi hl.1;have ti:=CR.of et it (by omega);have h3:=vh t (by have:=ti.2.2;omega);by_cases a1:j=0/\0<hyps.length
 ·obtain ⟨rfl,a2⟩:=a1;obtain⟨i,d3,ok3,hi,h4⟩:=He d1 hyps.length ok1 (by omega);have h5:=K5 i;refine⟨uv i,d3,(Made.hyp (by omega)).up (by omega),ok3,?_⟩;show AW _ _ _ (Code.seq _ _) _ _ _;(repeat' first|refine M.gw ?_|refine M.cb (h1) [0] 0 ?_|refine M.cb (h4) [0] 0 ?_|refine M.c2 (h5) ?_|refine M.bl ?_|refine M.cs ?_ ?_<;>intro h|fail);all_goals first|exfalso;simp_all;done|exact M.n2 [some 0] (h8:=(by simp[zk,V.wk,V.Ak,zd,Ty.view,Tm.view,Pf.view]))
 by_cases a3:j=1/\0<lems.length
 ·obtain ⟨rfl,a2⟩:=a3;obtain⟨i,d3,ok3,hi,h4⟩:=He d1 lems.length ok1 (by omega);refine⟨.mk 2 i (.mk 0 []) [] [] [],d3,(Made.lem (by omega)).up (by omega),ok3,?_⟩;show AW _ _ _ (Code.seq _ _) _ _ _;(repeat' first|refine M.gw ?_|refine M.cb (h1) [0] 0 ?_|refine M.cb (h4) [0] 0 ?_|refine M.bl ?_|refine M.cs ?_ ?_<;>intro h|fail);all_goals first|exfalso;simp_all;done|exact M.n2 [some 0] (h8:=(by simp[zk,V.wk,V.Ak,zd,Ty.view,Tm.view,Pf.view]))
 refine⟨.mk 18 0 (.mk 0 []) [t] [] [],d2,(Made.ref ti).up (by omega),ok2,?_⟩;have q3:Aa.size=1:=rfl;show AW _ _ _ (Code.seq _ _) _ _ _;rcases(show j=0\/j=1\/(j≠0/\j≠1) by omega) with rfl|rfl|hj2
 ·have a4:hyps.length=0:=by omega
  obtain rfl:=List.eq_nil_of_length_eq_zero a4;(repeat' first|refine M.gw ?_|refine M.cb (h1) [0] 0 ?_|refine M.cb (h2) [0] 0 ?_|refine M.c2 (h3) ?_|refine M.bl ?_|fail);all_goals first|exfalso;simp at h;done|exact M.n2 [some 0] (h8:=(by simp[zk,V.wk,V.Ak,zd,Ty.view,Tm.view,Pf.view]))
 ·have a4:lems.length=0:=by omega
  obtain rfl:=List.eq_nil_of_length_eq_zero a4;(repeat' first|refine M.gw ?_|refine M.cb (h1) [0] 0 ?_|refine M.cb (h2) [0] 0 ?_|refine M.c2 (h3) ?_|refine M.bl ?_|fail);all_goals first|exfalso;simp at h;done|exact M.n2 [some 0] (h8:=(by simp[zk,V.wk,V.Ak,zd,Ty.view,Tm.view,Pf.view]))
 ·repeat' (first|refine M.gw ?_|refine M.cb (h1) [0] 0 ?_|refine M.cb (h2) [0] 0 ?_|refine M.c2 (h3) ?_|refine M.bl ?_|refine M.cs ?_ ?_<;>intro h|fail)
  all_goals first|exfalso;simp at h;omega|exfalso;simp_all;done|exact M.n2 [some 0] (h8:=(by simp[zk,V.wk,V.Ak,zd,Ty.view,Tm.view,Pf.view]))
abbrev EJ(n:Nat)(lems:List Fm)(tys:List Ty)(hyps:List Fm)(d:Dk)(k:Int):Prop:=
 ∃(p:Pf) (d':Dk),Made (Eh (n+1)) p/\d'.ok/\AW E Tryz.f106.ntmps 1 (FZ [1,1] (Ly Tryz.f106)) [(0,.ptr 0 0),(1,.s .fm lems),(3,.i k),(6,.ptr 1 0),(8,.ptr 2 0),(9,.ptr 3 0)] ⟨4,[(0,.var d.cells),(1,.var [.s .ty tys,.s .fm hyps]),(2,.var [.i 0,.i 0,.i 0,.slice .nil (.t .ty []),.slice .nil (.t .tm []),.slice .nil (.t .fm []),.slice .nil (.t .pf [])]),(3,.var Aa.view)]⟩ (EL E 1 Tryz.f106.results.toList (.agg p.view) ⟨1,[(0,.var d'.cells)]⟩)
theorem Yct(n:Nat)(hn:n<=3)(H:Er n)(lems:List Fm)(tys:List Ty)(hyps:List Fm)(hc:(Ck.mk lems tys hyps).ok)(hs:Ai tys)(ht:tys.length<10)(hh:hyps.length<10)(d d1:Dk)(ok1:d1.ok)(k:Int)(hk:k=(n:Int)+1)
 (hx:AC E 51 [.ptr 0 0,.i 17] ⟨1,[(0,.var d.cells)]⟩ (.i 0) ⟨1,[(0,.var d1.cells)]⟩):
 EJ n lems tys hyps d k:=by
 have hb:=x6 n;have hbs:=xp n;have hbl:=v8 (show n<=4 by omega);have hl:=uo hc;obtain⟨p1,d2,m1,ok2,hp1⟩:=H lems tys hyps d1 (k-1) (by omega) ok1 hc hs;have fp1:=m1.full;obtain⟨p2,d3,m2,ok3,hp2⟩:=H lems tys hyps d2 (k-1) (by omega) ok2 hc hs;have fp2:=m2.full;have hP:=Fo 3 [p1,p2] (by simp) (GR (by omega) (by omega));refine⟨_,d3,(Made.two (k:=3) (by omega) m1 m2).up (by omega),ok3,?_⟩;show AW _ _ _ (Code.seq _ _) _ _ _;(repeat' first|refine M.go ?_|refine M.gs ?_ ?_<;>intro h|refine M.z1 3 ?_|refine M.cs ?_ ?_<;>intro h|refine M.gk ?_|fail);all_goals first
  |(exfalso;simp at h;omega)
  |skip
 (repeat' first|refine M.gw ?_|refine M.cb (hx) [0] 0 ?_|refine M.cb (hp1) [0] 0 ?_|refine M.cb (hp2) [0] 0 ?_|refine M.c2 (hP) ?_|refine M.bl ?_|fail);all_goals first|exact M.n2 [some 0] (h8:=(by simp[zk,V.wk,V.Ak,zd,Ty.view,Tm.view,Pf.view]))
theorem Yds(n:Nat)(hn:n<=3)(H:Er n)(lems:List Fm)(tys:List Ty)(hyps:List Fm)(hc:(Ck.mk lems tys hyps).ok)(hs:Ai tys)(ht:tys.length<10)(hh:hyps.length<10)(d d1:Dk)(ok1:d1.ok)(k:Int)(hk:k=(n:Int)+1)
 (hx:AC E 51 [.ptr 0 0,.i 17] ⟨1,[(0,.var d.cells)]⟩ (.i 1) ⟨1,[(0,.var d1.cells)]⟩):
 EJ n lems tys hyps d k:=by
 have hb:=x6 n;have hbs:=xp n;have hbl:=v8 (show n<=4 by omega);have hl:=uo hc;obtain⟨i,d4,ok4,hi,h4⟩:=He d1 2 ok1 (by omega);obtain⟨p1,d2,m1,ok2,hp1⟩:=H lems tys hyps d4 (k-1) (by omega) ok4 hc hs;have fp1:=m1.full;obtain⟨p2,d3,m2,ok3,hp2⟩:=H lems tys hyps d2 (k-1) (by omega) ok2 hc hs;have fp2:=m2.full;have hP:=Fo 3 [p1,p2] (by simp) (GR (by omega) (by omega));have hm:=Made.two (k:=3) (by omega) m1 m2;have fm:=hm.full;have hP2:=Fo (4+i) [.mk 3 0 (.mk 0 []) [] [] [p1,p2]] (by simp) (w7 (by omega));refine⟨_,d3,(Made.one (k:=4+i) (by omega) hm).up (by omega),ok3,?_⟩;show AW _ _ _ (Code.seq _ _) _ _ _;(repeat' first|refine M.go ?_|refine M.gs ?_ ?_<;>intro h|refine M.z1 3 ?_|refine M.cs ?_ ?_<;>intro h|refine M.gk ?_|fail);all_goals first
  |(exfalso;simp at h;omega)
  |skip
 (repeat' first|refine M.gw ?_|refine M.cb (hx) [0] 0 ?_|refine M.cb (h4) [0] 0 ?_|refine M.cb (hp1) [0] 0 ?_|refine M.cb (hp2) [0] 0 ?_|refine M.c2 (hP) ?_|refine M.c2 (hP2) ?_|refine M.bl ?_|fail);all_goals first|exact M.n2 [some 0] (h8:=(by simp[zk,V.wk,V.Ak,zd,Ty.view,Tm.view,Pf.view]))
theorem Ybq(n:Nat)(hn:n<=3)(H:Er n)(lems:List Fm)(tys:List Ty)(hyps:List Fm)(hc:(Ck.mk lems tys hyps).ok)(hs:Ai tys)(ht:tys.length<10)(hh:hyps.length<10)(d d1:Dk)(ok1:d1.ok)(k:Int)(hk:k=(n:Int)+1)
 (hx:AC E 51 [.ptr 0 0,.i 17] ⟨1,[(0,.var d.cells)]⟩ (.i 2) ⟨1,[(0,.var d1.cells)]⟩):
 EJ n lems tys hyps d k:=by
 have hb:=x6 n;have hbs:=xp n;have hbl:=v8 (show n<=4 by omega);have hl:=uo hc;obtain⟨f,d4,ok4,ef,of_,h4⟩:=Pp d1 tys ok1 hs hl.1;have ff:=z9 ef;have hw:=Pu tys hyps f (by omega);obtain⟨p1,d2,m1,ok2,hp1⟩:=H lems tys (hyps++[f]) d4 (k-1) (by omega) ok4 (hc.Au (by simp only;omega) ef of_) hs;have fp1:=m1.full;have hI:=VK f p1 (by omega) (by omega);refine⟨_,d2,(Made.imp (DB.of ef of_ (by omega)) m1).up (by omega),ok2,?_⟩;show AW _ _ _ (Code.seq _ _) _ _ _;(repeat' first|refine M.go ?_|refine M.gs ?_ ?_<;>intro h|refine M.z1 3 ?_|refine M.cs ?_ ?_<;>intro h|refine M.gk ?_|fail);all_goals first
  |(exfalso;simp at h;omega)
  |skip
 (repeat' first|refine M.gw ?_|refine M.cb (hx) [0] 0 ?_|refine M.cb (h4) [0] 0 ?_|refine M.c2 (hw) ?_|refine M.cb (hp1) [0] 0 ?_|refine M.c2 (hI) ?_|refine M.bl ?_|fail);all_goals first|exact M.n2 [some 0] (h8:=(by simp[zk,V.wk,V.Ak,zd,Ty.view,Tm.view,Pf.view]))
theorem Yep(n:Nat)(hn:n<=3)(H:Er n)(lems:List Fm)(tys:List Ty)(hyps:List Fm)(hc:(Ck.mk lems tys hyps).ok)(hs:Ai tys)(ht:tys.length<10)(hh:hyps.length<10)(d d1:Dk)(ok1:d1.ok)(k:Int)(hk:k=(n:Int)+1)
 (hx:AC E 51 [.ptr 0 0,.i 17] ⟨1,[(0,.var d.cells)]⟩ (.i 3) ⟨1,[(0,.var d1.cells)]⟩):
 EJ n lems tys hyps d k:=by
 have hb:=x6 n;have hbs:=xp n;have hbl:=v8 (show n<=4 by omega);have hl:=uo hc;obtain⟨p1,d2,m1,ok2,hp1⟩:=H lems tys hyps d1 (k-1) (by omega) ok1 hc hs;have fp1:=m1.full;obtain⟨x,us,e,hxe,hI⟩:=Li hc hs m1 (by omega);by_cases he:e=0;case neg=>
  obtain⟨p,d',hm,ok',hA⟩:=Iq (n+1) lems tys hyps hc hs d2 ok2 k;refine⟨p,d',hm,ok',?_⟩;show AW _ _ _ (Code.seq _ _) _ _ _;(repeat' first|refine M.go ?_|refine M.gs ?_ ?_<;>intro h|refine M.z1 3 ?_|refine M.cs ?_ ?_<;>intro h|refine M.gk ?_|fail);all_goals first
   |(exfalso;simp at h;omega)
   |skip
  (repeat' first|refine M.go ?_|refine M.cb (hx) [0] 0 ?_|refine M.cb (hp1) [0] 0 ?_|refine M.c2 (hI) ?_|refine M.z1 61 ?_|refine M.bl ?_|refine M.cs ?_ ?_<;>intro h|refine M.gk ?_|fail);all_goals first
   |exact AW.weak (M.W [some 0,some 1,some 2,some 3]) hA
   |(exfalso;simp at h;omega)
   |trace_state
 subst he;obtain⟨ex,ox⟩:=hxe rfl;have fx:=z9 ex;have hw:=Pu tys hyps x (by omega);obtain⟨p2,d3,m2,ok3,hp2⟩:=H lems tys (hyps++[x]) d2 (k-1) (by omega) ok2 (hc.Au (by simp only;omega) ex ox) hs;have fp2:=m2.full;have hIm:=VK x p2 (by omega) (by omega);have hm:=Made.imp (DB.of ex ox (by omega)) m2;have fm:=hm.full;have hP:=Fo 7 [.mk 6 0 (.mk 0 []) [] [x] [p2],p1] (by simp) (GR (by omega) (by omega));refine⟨_,d3,(Made.two (k:=7) (by omega) hm m1).up (by omega),ok3,?_⟩;show AW _ _ _ (Code.seq _ _) _ _ _;(repeat' first|refine M.go ?_|refine M.gs ?_ ?_<;>intro h|refine M.z1 3 ?_|refine M.cs ?_ ?_<;>intro h|refine M.gk ?_|fail);all_goals first
  |(exfalso;simp at h;omega)
  |skip
 (repeat' first|refine M.gw ?_|refine M.cb (hx) [0] 0 ?_|refine M.cb (hp1) [0] 0 ?_|refine M.c2 (hI) ?_|refine M.c2 (hw) ?_|refine M.cb (hp2) [0] 0 ?_|refine M.c2 (hIm) ?_|refine M.c2 (hP) ?_|refine M.bl ?_|fail);all_goals first|exact M.n2 [some 0] (h8:=(by simp[zk,V.wk,V.Ak,zd,Ty.view,Tm.view,Pf.view]))
theorem Ybt(n:Nat)(hn:n<=3)(H:Er n)(lems:List Fm)(tys:List Ty)(hyps:List Fm)(hc:(Ck.mk lems tys hyps).ok)(hs:Ai tys)(ht:tys.length<10)(hh:hyps.length<10)(d d1:Dk)(ok1:d1.ok)(k:Int)(hk:k=(n:Int)+1)
 (hx:AC E 51 [.ptr 0 0,.i 17] ⟨1,[(0,.var d.cells)]⟩ (.i 4) ⟨1,[(0,.var d1.cells)]⟩):
 EJ n lems tys hyps d k:=by
 have hb:=x6 n;have hbs:=xp n;have hbl:=v8 (show n<=4 by omega);have hl:=uo hc;obtain⟨s,d4,ok4,ss,h4⟩:=KC d1 ok1;have es:=w6 ss;have hbe:=Km tys hyps [s] (fun f hf=>hc.hyps f hf) (by omega) (by simp) (by omega);have hc2:(Ck.mk lems (tys++[s]) (hyps.map fun f=>f.A4 0 [s].length)).ok:=hc.below (l:=[s]) (by simp only[List.length_singleton];omega) (w7 es);have hs2:Ai (tys++[s]):=zp hs (zj ss zo);obtain⟨p1,d2,m1,ok2,hp1⟩:=H lems (tys++[s]) (hyps.map fun f=>f.A4 0 [s].length) d4 (k-1) (by omega) ok4 hc2 hs2;have fp1:=m1.full;have hA:=LM 8 s p1 (by have:=Jm es;omega) (by omega);refine⟨_,d2,(Made.all (k:=8) (by omega) es m1).up (by omega),ok2,?_⟩;show AW _ _ _ (Code.seq _ _) _ _ _;(repeat' first|refine M.go ?_|refine M.gs ?_ ?_<;>intro h|refine M.z1 3 ?_|refine M.cs ?_ ?_<;>intro h|refine M.gk ?_|fail);all_goals first
  |(exfalso;simp at h;omega)
  |skip
 (repeat' first|refine M.gw ?_|refine M.cb (hx) [0] 0 ?_|refine M.cb (h4) [0] 0 ?_|refine M.c2 (hbe) ?_|refine M.cb (hp1) [0] 0 ?_|refine M.c2 (hA) ?_|refine M.bl ?_|fail);all_goals first|exact M.n2 [some 0] (h8:=(by simp[zk,V.wk,V.Ak,zd,Ty.view,Tm.view,Pf.view]))
theorem Zyc(n:Nat)(hn:n<=3)(H:Er n)(lems:List Fm)(tys:List Ty)(hyps:List Fm)(hc:(Ck.mk lems tys hyps).ok)(hs:Ai tys)(ht:tys.length<10)(hh:hyps.length<10)(d d1:Dk)(ok1:d1.ok)(k:Int)(hk:k=(n:Int)+1)
 (hx:AC E 51 [.ptr 0 0,.i 17] ⟨1,[(0,.var d.cells)]⟩ (.i 14) ⟨1,[(0,.var d1.cells)]⟩):
 EJ n lems tys hyps d k:=by
 have hb:=x6 n;have hbs:=xp n;have hbl:=v8 (show n<=4 by omega);have hl:=uo hc;obtain⟨s,d4,ok4,ss,h4⟩:=KC d1 ok1;have es:=w6 ss;have hbe:=Km tys hyps [s] (fun f hf=>hc.hyps f hf) (by omega) (by simp) (by omega);have hc2:(Ck.mk lems (tys++[s]) (hyps.map fun f=>f.A4 0 [s].length)).ok:=hc.below (l:=[s]) (by simp only[List.length_singleton];omega) (w7 es);have hs2:Ai (tys++[s]):=zp hs (zj ss zo);obtain⟨p1,d2,m1,ok2,hp1⟩:=H lems (tys++[s]) (hyps.map fun f=>f.A4 0 [s].length) d4 (k-1) (by omega) ok4 hc2 hs2;have fp1:=m1.full;have hA:=LM 12 s p1 (by have:=Jm es;omega) (by omega);refine⟨_,d2,(Made.all (k:=12) (by omega) es m1).up (by omega),ok2,?_⟩;show AW _ _ _ (Code.seq _ _) _ _ _;(repeat' first|refine M.go ?_|refine M.gs ?_ ?_<;>intro h|refine M.z1 3 ?_|refine M.cs ?_ ?_<;>intro h|refine M.gk ?_|fail);all_goals first
  |(exfalso;simp at h;omega)
  |skip
 (repeat' first|refine M.gw ?_|refine M.cb (hx) [0] 0 ?_|refine M.cb (h4) [0] 0 ?_|refine M.c2 (hbe) ?_|refine M.cb (hp1) [0] 0 ?_|refine M.c2 (hA) ?_|refine M.bl ?_|fail);all_goals first|exact M.n2 [some 0] (h8:=(by simp[zk,V.wk,V.Ak,zd,Ty.view,Tm.view,Pf.view]))
theorem Yd6(n:Nat)(hn:n<=3)(H:Er n)(lems:List Fm)(tys:List Ty)(hyps:List Fm)(hc:(Ck.mk lems tys hyps).ok)(hs:Ai tys)(ht:tys.length<10)(hh:hyps.length<10)(d d1:Dk)(ok1:d1.ok)(k:Int)(hk:k=(n:Int)+1)
 (hx:AC E 51 [.ptr 0 0,.i 17] ⟨1,[(0,.var d.cells)]⟩ (.i 5) ⟨1,[(0,.var d1.cells)]⟩):
 EJ n lems tys hyps d k:=by
 have hb:=x6 n;have hbs:=xp n;have hbl:=v8 (show n<=4 by omega);have hl:=uo hc;obtain⟨s,d4,ok4,ss,h4⟩:=KC d1 ok1;obtain⟨t,d5,ok5,et,it,h5⟩:=HR d4 tys s ok4 hs ss hl.1;have ti:=CR.of et it (by omega);have ft:=yl et;have es:=w6 ss;have hbe:=Km tys hyps [s] (fun f hf=>hc.hyps f hf) (by omega) (by simp) (by omega);have hc2:(Ck.mk lems (tys++[s]) (hyps.map fun f=>f.A4 0 [s].length)).ok:=hc.below (l:=[s]) (by simp only[List.length_singleton];omega) (w7 es);have hs2:Ai (tys++[s]):=zp hs (zj ss zo);obtain⟨p1,d2,m1,ok2,hp1⟩:=H lems (tys++[s]) (hyps.map fun f=>f.A4 0 [s].length) d5 (k-1) (by omega) ok5 hc2 hs2;have fp1:=m1.full;have hA:=LM 8 s p1 (by have:=Jm es;omega) (by omega);have hm:=Made.all (k:=8) (by omega) es m1;have fm:=hm.full;have hT:=MN 9 t (.mk 8 0 s [] [] [p1]) (by omega) (by omega);refine⟨_,d2,(Made.at_ (k:=9) (by omega) ti hm).up (by omega),ok2,?_⟩;show AW _ _ _ (Code.seq _ _) _ _ _;(repeat' first|refine M.go ?_|refine M.gs ?_ ?_<;>intro h|refine M.z1 3 ?_|refine M.cs ?_ ?_<;>intro h|refine M.gk ?_|fail);all_goals first
  |(exfalso;simp at h;omega)
  |skip
 (repeat' first|refine M.gw ?_|refine M.cb (hx) [0] 0 ?_|refine M.cb (h4) [0] 0 ?_|refine M.cb (h5) [0] 0 ?_|refine M.c2 (hbe) ?_|refine M.cb (hp1) [0] 0 ?_|refine M.c2 (hA) ?_|refine M.c2 (hT) ?_|refine M.bl ?_|fail);all_goals first|exact M.n2 [some 0] (h8:=(by simp[zk,V.wk,V.Ak,zd,Ty.view,Tm.view,Pf.view]))
theorem Zxx(n:Nat)(hn:n<=3)(H:Er n)(lems:List Fm)(tys:List Ty)(hyps:List Fm)(hc:(Ck.mk lems tys hyps).ok)(hs:Ai tys)(ht:tys.length<10)(hh:hyps.length<10)(d d1:Dk)(ok1:d1.ok)(k:Int)(hk:k=(n:Int)+1)
 (hx:AC E 51 [.ptr 0 0,.i 17] ⟨1,[(0,.var d.cells)]⟩ (.i 15) ⟨1,[(0,.var d1.cells)]⟩):
 EJ n lems tys hyps d k:=by
 have hb:=x6 n;have hbs:=xp n;have hbl:=v8 (show n<=4 by omega);have hl:=uo hc;obtain⟨s,d4,ok4,ss,h4⟩:=KC d1 ok1;obtain⟨t,d5,ok5,et,it,h5⟩:=HR d4 tys s ok4 hs ss hl.1;have ti:=CR.of et it (by omega);have ft:=yl et;have es:=w6 ss;have hbe:=Km tys hyps [s] (fun f hf=>hc.hyps f hf) (by omega) (by simp) (by omega);have hc2:(Ck.mk lems (tys++[s]) (hyps.map fun f=>f.A4 0 [s].length)).ok:=hc.below (l:=[s]) (by simp only[List.length_singleton];omega) (w7 es);have hs2:Ai (tys++[s]):=zp hs (zj ss zo);obtain⟨p1,d2,m1,ok2,hp1⟩:=H lems (tys++[s]) (hyps.map fun f=>f.A4 0 [s].length) d5 (k-1) (by omega) ok5 hc2 hs2;have fp1:=m1.full;have hA:=LM 12 s p1 (by have:=Jm es;omega) (by omega);have hm:=Made.all (k:=12) (by omega) es m1;have fm:=hm.full;have hT:=MN 13 t (.mk 12 0 s [] [] [p1]) (by omega) (by omega);refine⟨_,d2,(Made.at_ (k:=13) (by omega) ti hm).up (by omega),ok2,?_⟩;show AW _ _ _ (Code.seq _ _) _ _ _;(repeat' first|refine M.go ?_|refine M.gs ?_ ?_<;>intro h|refine M.z1 3 ?_|refine M.cs ?_ ?_<;>intro h|refine M.gk ?_|fail);all_goals first
  |(exfalso;simp at h;omega)
  |skip
 (repeat' first|refine M.gw ?_|refine M.cb (hx) [0] 0 ?_|refine M.cb (h4) [0] 0 ?_|refine M.cb (h5) [0] 0 ?_|refine M.c2 (hbe) ?_|refine M.cb (hp1) [0] 0 ?_|refine M.c2 (hA) ?_|refine M.c2 (hT) ?_|refine M.bl ?_|fail);all_goals first|exact M.n2 [some 0] (h8:=(by simp[zk,V.wk,V.Ak,zd,Ty.view,Tm.view,Pf.view]))
theorem Ybk(n:Nat)(hn:n<=3)(H:Er n)(lems:List Fm)(tys:List Ty)(hyps:List Fm)(hc:(Ck.mk lems tys hyps).ok)(hs:Ai tys)(ht:tys.length<10)(hh:hyps.length<10)(d d1:Dk)(ok1:d1.ok)(k:Int)(hk:k=(n:Int)+1)
 (hx:AC E 51 [.ptr 0 0,.i 17] ⟨1,[(0,.var d.cells)]⟩ (.i 6) ⟨1,[(0,.var d1.cells)]⟩):
 EJ n lems tys hyps d k:=by
 have hb:=x6 n;have hbs:=xp n;have hbl:=v8 (show n<=4 by omega);have hl:=uo hc;obtain⟨t,d4,ok4,et,it,h4⟩:∃(t:Tm) (d':Dk),d'.ok/\(t.err=0/\t.size<=60)/\t.inf tys=(Aa,0)/\AC E 57 [.ptr 0 0,.s .ty tys,.agg Aa.view,.i 1] ⟨1,[(0,.var d1.cells)]⟩ (.agg t.view) ⟨1,[(0,.var d'.cells)]⟩:=
  ⟨_,_,Dk.B3 3 d1 tys Aa ok1,⟨(u9 d1 hs).1.err,(u9 d1 hs).2⟩,(u9 d1 hs).1.inf,HF 3 (by omega) d1 tys Aa 1 (by omega) ok1 hs zi (by omega) (by omega) (by omega)⟩
 have tz:=et.2;have et:=et.1;have ti:=CR.of et it (by omega);have ft:=yl et;obtain⟨i,d5,ok5,hi,h5⟩:=He d4 2 ok4 (by omega);have hF:=O2 et it (by omega);obtain⟨ee,oe⟩:=OP et it (by omega);have hR:=vh t (by omega);have h6:=DI 0;have fe:=z9 ee;have lf:=wj 0 1 t 0 ti.1;have hmr:=Made.ref ti;have fmr:=hmr.full;generalize t.re (zn 0 1) 0=u at*;have h7:=FL u (vT 0) (by omega) (by decide);have hsz:=((Fm.Ad _).1 ee);rcases(show i=0\/i=1 by omega) with rfl|rfl
 ·have hf:=Jg (k:=5) (.inl rfl) zi hsz.1 (by omega) oe (by omega);have ff:=hf.2.2;have h8:=Fy 5 Aa (AM u (vT 0)) (by decide) (by omega);have h9:=I2 10 (Be 5 Aa (AM u (vT 0))) t (.mk 18 0 (.mk 0 []) [t] [] []) (by omega) (by omega) (by omega);refine⟨_,d5,(Made.ex (k:=10) (by omega) hf ti hmr).up (by omega),ok5,?_⟩;show AW _ _ _ (Code.seq _ _) _ _ _;(repeat' first|refine M.go ?_|refine M.gs ?_ ?_<;>intro h|refine M.z1 3 ?_|refine M.cs ?_ ?_<;>intro h|refine M.gk ?_|fail);all_goals first
   |(exfalso;simp at h;omega)
   |skip
  (repeat' first|refine M.gw ?_|refine M.cb (hx) [0] 0 ?_|refine M.cb (h4) [0] 0 ?_|refine M.cb (h5) [0] 0 ?_|refine M.c2 (hF) ?_|refine M.c2 (h6) ?_|refine M.c2 (h7) ?_|refine M.c2 (h8) ?_|refine M.c2 (hR) ?_|refine M.c2 (h9) ?_|refine M.bl ?_|fail);all_goals first|exact M.n2 [some 0] (h8:=(by simp[zk,V.wk,V.Ak,zd,Ty.view,Tm.view,Pf.view]))
 ·have hf:=Jg (k:=7) (.inr rfl) zi hsz.1 (by omega) oe (by omega);have ff:=hf.2.2;have h8:=Fy 7 Aa (AM u (vT 0)) (by decide) (by omega);have h9:=I2 14 (Be 7 Aa (AM u (vT 0))) t (.mk 18 0 (.mk 0 []) [t] [] []) (by omega) (by omega) (by omega);refine⟨_,d5,(Made.ex (k:=14) (by omega) hf ti hmr).up (by omega),ok5,?_⟩;show AW _ _ _ (Code.seq _ _) _ _ _;(repeat' first|refine M.go ?_|refine M.gs ?_ ?_<;>intro h|refine M.z1 3 ?_|refine M.cs ?_ ?_<;>intro h|refine M.gk ?_|fail);all_goals first
   |(exfalso;simp at h;omega)
   |skip
  (repeat' first|refine M.gw ?_|refine M.cb (hx) [0] 0 ?_|refine M.cb (h4) [0] 0 ?_|refine M.cb (h5) [0] 0 ?_|refine M.c2 (hF) ?_|refine M.c2 (h6) ?_|refine M.c2 (h7) ?_|refine M.c2 (h8) ?_|refine M.c2 (hR) ?_|refine M.c2 (h9) ?_|refine M.bl ?_|fail);all_goals first|exact M.n2 [some 0] (h8:=(by simp[zk,V.wk,V.Ak,zd,Ty.view,Tm.view,Pf.view]))
theorem Yc6(n:Nat)(hn:n<=3)(H:Er n)(lems:List Fm)(tys:List Ty)(hyps:List Fm)(hc:(Ck.mk lems tys hyps).ok)(hs:Ai tys)(ht:tys.length<10)(hh:hyps.length<10)(d d1:Dk)(ok1:d1.ok)(k:Int)(hk:k=(n:Int)+1)
 (hx:AC E 51 [.ptr 0 0,.i 17] ⟨1,[(0,.var d.cells)]⟩ (.i 7) ⟨1,[(0,.var d1.cells)]⟩):
 EJ n lems tys hyps d k:=by
 have hb:=x6 n;have hbs:=xp n;have hbl:=v8 (show n<=4 by omega);have hl:=uo hc;obtain⟨p1,d2,m1,ok2,hp1⟩:=H lems tys hyps d1 (k-1) (by omega) ok1 hc hs;have fp1:=m1.full;obtain⟨x,us,e,hxe,hI⟩:=Li hc hs m1 (by omega);by_cases he:e=0;case neg=>
  obtain⟨p,d',hm,ok',hA⟩:=Iq (n+1) lems tys hyps hc hs d2 ok2 k;refine⟨p,d',hm,ok',?_⟩;show AW _ _ _ (Code.seq _ _) _ _ _;(repeat' first|refine M.go ?_|refine M.gs ?_ ?_<;>intro h|refine M.z1 3 ?_|refine M.cs ?_ ?_<;>intro h|refine M.gk ?_|fail);all_goals first
   |(exfalso;simp at h;omega)
   |skip
  (repeat' first|refine M.go ?_|refine M.cb (hx) [0] 0 ?_|refine M.cb (hp1) [0] 0 ?_|refine M.c2 (hI) ?_|refine M.z1 61 ?_|refine M.bl ?_|refine M.cs ?_ ?_<;>intro h|refine M.gk ?_|fail);all_goals first
   |exact AW.weak (M.W [some 0,some 1,some 2,some 3]) hA
   |(exfalso;simp at h;omega)
   |trace_state
 subst he;obtain⟨ex,ox⟩:=hxe rfl;have fx:=z9 ex;have hU:=Fg ox ((Fm.Ad _).1 ex).1 (by have:=((Fm.Ad _).1 ex).2;omega) (by omega) 0 1 (by omega) (by omega);have fl:=KH x 0 1;have sl:=QS ex;obtain⟨s,d4,ok4,ss,h4⟩:=KC d2 ok2;obtain⟨i,d5,ok5,hi,h5⟩:=He d4 2 ok4 (by omega);obtain⟨t,d6,ok6,et,it,h6⟩:=HR d5 tys s ok5 hs ss hl.1;have ti:=CR.of et it (by omega);have ft:=yl et;have ox2:=Qp ex ox s;have es:=Jm (w6 ss);generalize x.A4 0 1=y at*;rcases(show i=0\/i=1 by omega) with rfl|rfl
 ·have hf:=Jg (k:=5) (.inl rfl) ss sl.1 (by omega) ox2 (by omega);have ff:=hf.2.2;have h8:=Fy 5 s y (by omega) (by omega);have h9:=I2 10 (Be 5 s y) t p1 (by omega) (by omega) (by omega);refine⟨_,d6,(Made.ex (k:=10) (by omega) hf ti m1).up (by omega),ok6,?_⟩;show AW _ _ _ (Code.seq _ _) _ _ _;(repeat' first|refine M.go ?_|refine M.gs ?_ ?_<;>intro h|refine M.z1 3 ?_|refine M.cs ?_ ?_<;>intro h|refine M.gk ?_|fail);all_goals first
   |(exfalso;simp at h;omega)
   |skip
  (repeat' first|refine M.gw ?_|refine M.cb (hx) [0] 0 ?_|refine M.cb (hp1) [0] 0 ?_|refine M.c2 (hI) ?_|refine M.cb (h4) [0] 0 ?_|refine M.cb (h5) [0] 0 ?_|refine M.c2 (hU) ?_|refine M.c2 (h8) ?_|refine M.cb (h6) [0] 0 ?_|refine M.c2 (h9) ?_|refine M.bl ?_|fail);all_goals first|exact M.n2 [some 0] (h8:=(by simp[zk,V.wk,V.Ak,zd,Ty.view,Tm.view,Pf.view]))
 ·have hf:=Jg (k:=7) (.inr rfl) ss sl.1 (by omega) ox2 (by omega);have ff:=hf.2.2;have h8:=Fy 7 s y (by omega) (by omega);have h9:=I2 14 (Be 7 s y) t p1 (by omega) (by omega) (by omega);refine⟨_,d6,(Made.ex (k:=14) (by omega) hf ti m1).up (by omega),ok6,?_⟩;show AW _ _ _ (Code.seq _ _) _ _ _;(repeat' first|refine M.go ?_|refine M.gs ?_ ?_<;>intro h|refine M.z1 3 ?_|refine M.cs ?_ ?_<;>intro h|refine M.gk ?_|fail);all_goals first
   |(exfalso;simp at h;omega)
   |skip
  (repeat' first|refine M.gw ?_|refine M.cb (hx) [0] 0 ?_|refine M.cb (hp1) [0] 0 ?_|refine M.c2 (hI) ?_|refine M.cb (h4) [0] 0 ?_|refine M.cb (h5) [0] 0 ?_|refine M.c2 (hU) ?_|refine M.c2 (h8) ?_|refine M.cb (h6) [0] 0 ?_|refine M.c2 (h9) ?_|refine M.bl ?_|fail);all_goals first|exact M.n2 [some 0] (h8:=(by simp[zk,V.wk,V.Ak,zd,Ty.view,Tm.view,Pf.view]))
theorem Yeu(n:Nat)(hn:n<=3)(H:Er n)(lems:List Fm)(tys:List Ty)(hyps:List Fm)(hc:(Ck.mk lems tys hyps).ok)(hs:Ai tys)(ht:tys.length<10)(hh:hyps.length<10)(d d1:Dk)(ok1:d1.ok)(k:Int)(hk:k=(n:Int)+1)
 (hx:AC E 51 [.ptr 0 0,.i 17] ⟨1,[(0,.var d.cells)]⟩ (.i 9) ⟨1,[(0,.var d1.cells)]⟩):
 EJ n lems tys hyps d k:=by
 have hb:=x6 n;have hbs:=xp n;have hbl:=v8 (show n<=4 by omega);have hl:=uo hc;obtain⟨p1,d2,m1,ok2,hp1⟩:=H lems tys hyps d1 (k-1) (by omega) ok1 hc hs;have fp1:=m1.full;obtain⟨x,us,e,hxe,hI⟩:=Li hc hs m1 (by omega);by_cases he:e=0;case neg=>
  obtain⟨p,d',hm,ok',hA⟩:=Iq (n+1) lems tys hyps hc hs d2 ok2 k;refine⟨p,d',hm,ok',?_⟩;show AW _ _ _ (Code.seq _ _) _ _ _;(repeat' first|refine M.go ?_|refine M.gs ?_ ?_<;>intro h|refine M.z1 3 ?_|refine M.cs ?_ ?_<;>intro h|refine M.gk ?_|fail);all_goals first
   |(exfalso;simp at h;omega)
   |skip
  (repeat' first|refine M.go ?_|refine M.cb (hx) [0] 0 ?_|refine M.cb (hp1) [0] 0 ?_|refine M.c2 (hI) ?_|refine M.z1 61 ?_|refine M.bl ?_|refine M.cs ?_ ?_<;>intro h|refine M.gk ?_|fail);all_goals first
   |exact AW.weak (M.W [some 0,some 1,some 2,some 3]) hA
   |(exfalso;simp at h;omega)
   |trace_state
 subst he;obtain⟨ex,ox⟩:=hxe rfl;have fx:=z9 ex;have hU:=Fg ox ((Fm.Ad _).1 ex).1 (by have:=((Fm.Ad _).1 ex).2;omega) (by omega) 0 1 (by omega) (by omega);have fl:=KH x 0 1;have sl:=QS ex;obtain⟨t,d6,ok6,et,it,h6⟩:=HR d2 tys Aa ok2 hs zi hl.1;have ti:=CR.of et it (by omega);have ft:=yl et;have hf:=Kz ex ox Aa (by omega);generalize x.A4 0 1=y at*;have hy:=K5 0;have mh:Made 10 (uv 0):=Made.hyp (by omega);have fh:=mh.full;have hli:=uz;have h9:=QK 16 y t p1 (uv 0) (by omega) (by omega) (by omega) (by omega);refine⟨_,d6,(Made.ind (k:=16) (by omega) hf ti m1 mh).up (by omega),ok6,?_⟩;show AW _ _ _ (Code.seq _ _) _ _ _;(repeat' first|refine M.go ?_|refine M.gs ?_ ?_<;>intro h|refine M.z1 3 ?_|refine M.cs ?_ ?_<;>intro h|refine M.gk ?_|fail);all_goals first
  |(exfalso;simp at h;omega)
  |skip
 (repeat' first|refine M.gw ?_|refine M.cb (hx) [0] 0 ?_|refine M.cb (hp1) [0] 0 ?_|refine M.c2 (hI) ?_|refine M.c2 (hU) ?_|refine M.cb (h6) [0] 0 ?_|refine M.c2 (hy) ?_|refine M.c2 (h9) ?_|refine M.bl ?_|fail);all_goals first|exact M.n2 [some 0] (h8:=(by simp[zk,V.wk,V.Ak,zd,Ty.view,Tm.view,Pf.view]))
theorem Zz5(n:Nat)(hn:n<=3)(H:Er n)(lems:List Fm)(tys:List Ty)(hyps:List Fm)(hc:(Ck.mk lems tys hyps).ok)(hs:Ai tys)(ht:tys.length<10)(hh:hyps.length<10)(d d1:Dk)(ok1:d1.ok)(k:Int)(hk:k=(n:Int)+1)
 (hx:AC E 51 [.ptr 0 0,.i 17] ⟨1,[(0,.var d.cells)]⟩ (.i 10) ⟨1,[(0,.var d1.cells)]⟩):
 EJ n lems tys hyps d k:=by
 have hb:=x6 n;have hbs:=xp n;have hbl:=v8 (show n<=4 by omega);have hl:=uo hc;obtain⟨p1,d2,m1,ok2,hp1⟩:=H lems tys hyps d1 (k-1) (by omega) ok1 hc hs;have fp1:=m1.full;obtain⟨x,us,e,hxe,hI⟩:=Li hc hs m1 (by omega);by_cases he:e=0;case neg=>
  obtain⟨p,d',hm,ok',hA⟩:=Iq (n+1) lems tys hyps hc hs d2 ok2 k;refine⟨p,d',hm,ok',?_⟩;show AW _ _ _ (Code.seq _ _) _ _ _;(repeat' first|refine M.go ?_|refine M.gs ?_ ?_<;>intro h|refine M.z1 3 ?_|refine M.cs ?_ ?_<;>intro h|refine M.gk ?_|fail);all_goals first
   |(exfalso;simp at h;omega)
   |skip
  (repeat' first|refine M.go ?_|refine M.cb (hx) [0] 0 ?_|refine M.cb (hp1) [0] 0 ?_|refine M.c2 (hI) ?_|refine M.z1 61 ?_|refine M.bl ?_|refine M.cs ?_ ?_<;>intro h|refine M.gk ?_|fail);all_goals first
   |exact AW.weak (M.W [some 0,some 1,some 2,some 3]) hA
   |(exfalso;simp at h;omega)
   |trace_state
 subst he;obtain⟨ex,ox⟩:=hxe rfl;have fx:=z9 ex;have hU:=Fg ox ((Fm.Ad _).1 ex).1 (by have:=((Fm.Ad _).1 ex).2;omega) (by omega) 0 1 (by omega) (by omega);have fl:=KH x 0 1;have sl:=QS ex;obtain⟨t,d6,ok6,et,it,h6⟩:=HR d2 tys Ah ok2 hs yy hl.1;have ti:=CR.of et it (by omega);have ft:=yl et;have hf:=Kz ex ox Aa (by omega);generalize x.A4 0 1=y at*;have hy:=K5 0;have mh:Made 10 (uv 0):=Made.hyp (by omega);have fh:=mh.full;have hli:=uz;have h9:=QK 17 y t p1 (uv 0) (by omega) (by omega) (by omega) (by omega);refine⟨_,d6,(Made.ind (k:=17) (by omega) hf ti m1 mh).up (by omega),ok6,?_⟩;show AW _ _ _ (Code.seq _ _) _ _ _;(repeat' first|refine M.go ?_|refine M.gs ?_ ?_<;>intro h|refine M.z1 3 ?_|refine M.cs ?_ ?_<;>intro h|refine M.gk ?_|fail);all_goals first
  |(exfalso;simp at h;omega)
  |skip
 (repeat' first|refine M.gw ?_|refine M.cb (hx) [0] 0 ?_|refine M.cb (hp1) [0] 0 ?_|refine M.c2 (hI) ?_|refine M.c2 (hU) ?_|refine M.c2 (hli) ?_|refine M.cb (h6) [0] 0 ?_|refine M.c2 (hy) ?_|refine M.c2 (h9) ?_|refine M.bl ?_|fail);all_goals first|exact M.n2 [some 0] (h8:=(by simp[zk,V.wk,V.Ak,zd,Ty.view,Tm.view,Pf.view]))
theorem Zxz(n:Nat)(hn:n<=3)(H:Er n)(lems:List Fm)(tys:List Ty)(hyps:List Fm)(hc:(Ck.mk lems tys hyps).ok)(hs:Ai tys)(ht:tys.length<10)(hh:hyps.length<10)(d d1:Dk)(ok1:d1.ok)(k:Int)(hk:k=(n:Int)+1)
 (hx:AC E 51 [.ptr 0 0,.i 17] ⟨1,[(0,.var d.cells)]⟩ (.i 11) ⟨1,[(0,.var d1.cells)]⟩):
 EJ n lems tys hyps d k:=by
 have hb:=x6 n;have hbs:=xp n;have hbl:=v8 (show n<=4 by omega);have hl:=uo hc;obtain⟨t,d4,ok4,et,it,h4⟩:=HR d1 tys Aa ok1 hs zi hl.1;have ti:=CR.of et it (by omega);have ft:=yl et;have h5:=Yb5 t (by omega);have mz:Made 2000000 (M0 t):=by
  have s1:Made 700000 BW:=(Made.sub (f:=AM (AP (EF.re (zn 0 1) 0) (Ce.re (zn 0 1) 0)) (AP (EF.re (zn 0 1) 0) (vT 0))) (SB _ (by decide+kernel) (by decide+kernel) (by decide+kernel)) (Made.hyp (i:=0) (by omega)) (Made.ref (t:=AP EF Ce) (Kv _ (by decide+kernel) (by decide+kernel) (by decide+kernel)))).up (by omega);exact(Made.ind (k:=16) (by omega) (f:=AM Ce (vT 0)) (t:=t) (SB _ (by decide+kernel) (by decide+kernel) (by decide+kernel)) ti (Made.ref (Kv zT (by decide) (by decide) (by decide))) s1).up (by omega)
 refine⟨_,d4,mz.up (by omega),ok4,?_⟩;unfold M0 at h5 ⊢;show AW _ _ _ (Code.seq _ _) _ _ _;(repeat' first|refine M.go ?_|refine M.gs ?_ ?_<;>intro h|refine M.z1 3 ?_|refine M.cs ?_ ?_<;>intro h|refine M.gk ?_|fail);all_goals first
  |(exfalso;simp at h;omega)
  |skip
 (repeat' first|refine M.gw ?_|refine M.cb (hx) [0] 0 ?_|refine M.cb (h4) [0] 0 ?_|refine M.c2 (h5) ?_|refine M.bl ?_|fail);all_goals first|exact M.n2 [some 0] (h8:=(by simp[zk,V.wk,V.Ak,zd,Ty.view,Tm.view,Pf.view]))
theorem Zyn(n:Nat)(hn:n<=3)(H:Er n)(lems:List Fm)(tys:List Ty)(hyps:List Fm)(hc:(Ck.mk lems tys hyps).ok)(hs:Ai tys)(ht:tys.length<10)(hh:hyps.length<10)(d d1:Dk)(ok1:d1.ok)(k:Int)(hk:k=(n:Int)+1)
 (hx:AC E 51 [.ptr 0 0,.i 17] ⟨1,[(0,.var d.cells)]⟩ (.i 12) ⟨1,[(0,.var d1.cells)]⟩):
 EJ n lems tys hyps d k:=by
 have hb:=x6 n;have hbs:=xp n;have hbl:=v8 (show n<=4 by omega);have hl:=uo hc;obtain⟨t,d4,ok4,et,it,h4⟩:=HR d1 tys Aa ok1 hs zi hl.1;have ti:=CR.of et it (by omega);have ft:=yl et;obtain⟨u,d5,ok5,eu,zu,iu,h5⟩:=OK d4 tys ok4 hs hl.1;have fu6:=JM u ((Tm.Ad u).1 eu).1;have ui:=CR.of eu iu (by omega);have fu:=yl eu;have hF:=O2 eu iu (by omega);obtain⟨l1,l2,l3⟩:=SF eu iu;have lf:=wj 0 1 u 0 ui.1;have hsz:=((Tm.Ad _).1 eu);have hf:DB (AM (u.re (zn 0 1) 0) (u.re (zn 0 1) 0)):=by
  have h1:=Jd l2 l2;refine⟨h1,fun q hq r hr=> ?_,by rw[NK];omega⟩;have:=Ok _ _ 0 h1 (Ci.2 ⟨l1,l1⟩) q hq r hr;rw[Iy,l3] at this;simp only[List.length_append,List.length_singleton] at this;omega
 generalize u.re (zn 0 1) 0=w at*;have h6:=FL w w (by omega) (by omega);have h7:=vh t (by omega);have h8:=vh u (by omega);have m1:=Made.ref ti;have m2:=Made.ref ui;have f1:=m1.full;have f2:=m2.full;have ff:=hf.2.2;have h9:=UF (AM w w) (.mk 18 0 (.mk 0 []) [t] [] []) (.mk 18 0 (.mk 0 []) [u] [] []) (by omega) (by omega) (by omega);refine⟨_,d5,(Made.sub hf m1 m2).up (by omega),ok5,?_⟩;show AW _ _ _ (Code.seq _ _) _ _ _;(repeat' first|refine M.go ?_|refine M.gs ?_ ?_<;>intro h|refine M.z1 3 ?_|refine M.cs ?_ ?_<;>intro h|refine M.gk ?_|fail);all_goals first
  |(exfalso;simp at h;omega)
  |skip
 (repeat' first|refine M.gw ?_|refine M.cb (hx) [0] 0 ?_|refine M.cb (h4) [0] 0 ?_|refine M.cb (h5) [0] 0 ?_|refine M.c2 (hF) ?_|refine M.c2 (h6) ?_|refine M.c2 (h7) ?_|refine M.c2 (h8) ?_|refine M.c2 (h9) ?_|refine M.bl ?_|fail);all_goals first|exact M.n2 [some 0] (h8:=(by simp[zk,V.wk,V.Ak,zd,Ty.view,Tm.view,Pf.view]))
theorem Zzu(n:Nat)(hn:n<=3)(H:Er n)(lems:List Fm)(tys:List Ty)(hyps:List Fm)(hc:(Ck.mk lems tys hyps).ok)(hs:Ai tys)(ht:tys.length<10)(hh:hyps.length<10)(d d1:Dk)(ok1:d1.ok)(k:Int)(hk:k=(n:Int)+1)
 (hx:AC E 51 [.ptr 0 0,.i 17] ⟨1,[(0,.var d.cells)]⟩ (.i 13) ⟨1,[(0,.var d1.cells)]⟩):
 EJ n lems tys hyps d k:=by
 have hb:=x6 n;have hbs:=xp n;have hbl:=v8 (show n<=4 by omega);have hl:=uo hc;obtain⟨s,d4,ok4,ss,h4⟩:=Qo d1 ok1;have es:=w6 ss;have hbe:=Km tys hyps [s] (fun f hf=>hc.hyps f hf) (by omega) (by simp) (by omega);have hc2:(Ck.mk lems (tys++[s]) (hyps.map fun f=>f.A4 0 [s].length)).ok:=hc.below (l:=[s]) (by simp only[List.length_singleton];omega) (w7 es);have hs2:Ai (tys++[s]):=zp hs (zj ss zo);have hl2:(tys++[s]).length<=16:=by simp;omega
 have h5:=(Ux d4 ok4 (tys++[s]) (hyps.map fun f=>f.A4 0 [s].length) hs2 hl2).2;have mn:=(u9 d4 hs2);have ok5:=Dk.B3 3 d4 (tys++[s]) Aa ok4;generalize Dk.tm 3 d4 (tys++[s]) Aa=T at*;obtain⟨t,d5⟩:=T;simp only at mn ok5;have ti:=CR.of mn.1.err mn.1.inf (by omega);obtain⟨ee,oe⟩:=OP mn.1.err mn.1.inf (by omega);have hsz:=((Fm.Ad _).1 ee);have hf:=Jg (k:=5) (.inl rfl) zi hsz.1 (by omega) oe (by omega);have m1:Made 1000000 (Hu (Im t) t (xd t)):=(Made.ex (k:=10) (by omega) hf ti (Made.ref ti)).up (by omega);have f1:=m1.full;unfold Hu at h5 m1 f1;have hA:=LM 8 s (.mk 10 0 (.mk 0 []) [t] [Im t] [xd t]) (by have:=Jm es;omega) (by omega);have m2:=Made.all (k:=8) (by omega) es m1;have f2:=m2.full;have hP:=Fo 20 [.mk 8 0 s [] [] [.mk 10 0 (.mk 0 []) [t] [Im t] [xd t]]] (by simp) (w7 (by omega));refine⟨_,d5,(Made.one (k:=20) (by omega) m2).up (by omega),ok5,?_⟩;show AW _ _ _ (Code.seq _ _) _ _ _;(repeat' first|refine M.go ?_|refine M.gs ?_ ?_<;>intro h|refine M.z1 3 ?_|refine M.cs ?_ ?_<;>intro h|refine M.gk ?_|fail);all_goals first
  |(exfalso;simp at h;omega)
  |skip
 (repeat' first|refine M.gw ?_|refine M.cb (hx) [0] 0 ?_|refine M.cb (h4) [0] 0 ?_|refine M.c2 (hbe) ?_|refine M.cb (h5) [0] 0 ?_|refine M.c2 (hA) ?_|refine M.c2 (hP) ?_|refine M.bl ?_|fail);all_goals first|exact M.n2 [some 0] (h8:=(by simp[zk,V.wk,V.Ak,zd,Ty.view,Tm.view,Pf.view]))
theorem L4{f:Fm}{g:List Ty}{k:Int}{s:Ty}(hk:k=5\/k=7)(hs:s.small)(h1:f.shape=true)(h2:f.size<=4400)(ho:f.A9 (g++[s]))(hg:g.length<=16):DB ((Be k s f).A4 0 1):=by
 have hq:=Gf.qu (g:=g) k (by omega) (w6 hs) ⟨h1,h2,ho⟩;have hq2:Gf (g++[]) (Be k s f) (4400+1):=by simpa using hq
 have hl:Gf (g++[Aa]++[]) ((Be k s f).A4 0 1) (4400+1):=Gf.A4 (h:=[]) [Aa] hq2;exact DB.size hl.sh (by have:=hl.sz;omega) hl.ok (by simp;omega)
theorem Yeg(n:Nat)(hn:n<=3)(H:Er n)(lems:List Fm)(tys:List Ty)(hyps:List Fm)(hc:(Ck.mk lems tys hyps).ok)(hs:Ai tys)(ht:tys.length<10)(hh:hyps.length<10)(d:Dk)(hd:d.ok)(k:Int)(hk:k=(n:Int)+1):
 ∃(p:Pf) (d':Dk),Made (Eh (n+1)) p/\d'.ok/\AC E 179 [.ptr 0 0,.s .fm lems,.agg [.s .ty tys,.s .fm hyps],.i k] ⟨1,[(0,.var d.cells)]⟩ (.agg p.view) ⟨1,[(0,.var d'.cells)]⟩:=by
 have hb:=x6 n;have hbs:=xp n;have hbl:=v8 (show n<=4 by omega);have hl:=uo hc;have h1:=(Ux d hd tys hyps hs hl.1).1;have mn:=u9 d hs;have ok1:=Dk.B3 3 d tys Aa hd;generalize Dk.tm 3 d tys Aa=T at*;obtain⟨t,d1⟩:=T;simp only at mn ok1;have ti:=CR.of mn.1.err mn.1.inf (by omega);have ft:=yl mn.1.err;obtain⟨ee,oe⟩:=OP mn.1.err mn.1.inf (by omega);have hsz:=((Fm.Ad _).1 ee);have fe:=z9 ee;obtain⟨i,d2,ok2,hi,h2⟩:=He d1 3 ok1 (by omega);have hnat:=vz;have hbe:=Km tys hyps [Aa] (fun f hf=>hc.hyps f hf) (by omega) (by simp) (by omega);have hc2:(Ck.mk lems (tys++[Aa]) (hyps.map fun f=>f.A4 0 [Aa].length)).ok:=hc.below (l:=[Aa]) (by simp only[List.length_singleton];omega) (w7 (w6 zi));have hs2:Ai (tys++[Aa]):=zp hs (zj zi zo);have hm1:=Made.ref ti;have f1:=hm1.full;have hhl:(hyps.map fun f=>f.A4 0 [Aa].length).length<10:=by simpa using hh
 generalize hH2:(hyps.map fun f=>f.A4 0 [Aa].length)=H2 at*;have q1:=Jg (k:=5) (.inl rfl) zi hsz.1 (by omega) oe (by omega);have q2:=Jg (k:=7) (.inr rfl) zi hsz.1 (by omega) oe (by omega);have hU1:=Fg (f:=Be 5 Aa (AM (t.re (zn 0 1) 0) (vT 0))) (g:=tys) (Gf.qu (n:=4096) 5 (by omega) (by decide) ⟨hsz.1,hsz.2,oe⟩).ok q1.1 (by have:=(Gf.qu (g:=tys) (n:=4096) 5 (by omega) (show Aa.err=0 by decide) ⟨hsz.1,hsz.2,oe⟩).sz;omega) (by omega) 0 1 (by omega) (by omega);have hU2:=Fg (f:=Be 7 Aa (AM (t.re (zn 0 1) 0) (vT 0))) (g:=tys) (Gf.qu (n:=4096) 7 (by omega) (by decide) ⟨hsz.1,hsz.2,oe⟩).ok q2.1 (by have:=(Gf.qu (g:=tys) (n:=4096) 7 (by omega) (show Aa.err=0 by decide) ⟨hsz.1,hsz.2,oe⟩).sz;omega) (by omega) 0 1 (by omega) (by omega);have l1:=KH (Be 5 Aa (AM (t.re (zn 0 1) 0) (vT 0))) 0 1;have l2:=KH (Be 7 Aa (AM (t.re (zn 0 1) 0) (vT 0))) 0 1;have i1:DB ((Be 5 Aa (AM (t.re (zn 0 1) 0) (vT 0))).A4 0 1):=L4 (.inl rfl) zi hsz.1 (by omega) oe (by omega);have i2:DB ((Be 7 Aa (AM (t.re (zn 0 1) 0) (vT 0))).A4 0 1):=L4 (.inr rfl) zi hsz.1 (by omega) oe (by omega);unfold Im at h1;generalize t.re (zn 0 1) 0=u at*;have g1:=q1.2.2;have g2:=q2.2.2;have hw:=Pu (tys++[Aa]) H2 (AM u (vT 0)) (by omega);have hc3:(Ck.mk lems (tys++[Aa]) (H2++[AM u (vT 0)])).ok:=hc2.Au (by simp only;omega) ee oe;obtain⟨p1,d3,m1,ok3,hp1⟩:=H lems (tys++[Aa]) (H2++[AM u (vT 0)]) d2 (k-1) (by omega) ok2 hc3 hs2;have fp1:=m1.full;obtain⟨j,d4,ok4,hj,h4⟩:=He d3 2 ok3 (by omega);have hv:=DI 0;have hy:=K5 0;have mh:Made 10 (uv 0):=Made.hyp (by omega);have fh:=mh.full;have tv:CR (vT 0):=Kv _ (by decide) (by decide) (by decide);generalize (Be 5 Aa (AM u (vT 0))).A4 0 1=w1 at*;generalize (Be 7 Aa (AM u (vT 0))).A4 0 1=w2 at*;have e1:=I2 10 w1 (vT 0) (uv 0) (by omega) (by decide) (by omega);have e2:=I2 14 w2 (vT 0) (uv 0) (by omega) (by decide) (by omega);have r1:Made 1000000 (.mk 10 0 (.mk 0 []) [t] [Be 5 Aa (AM u (vT 0))] [xd t]):=(Made.ex (k:=10) (by omega) q1 ti hm1).up (by omega);have r2:Made 1000000 (.mk 14 0 (.mk 0 []) [t] [Be 7 Aa (AM u (vT 0))] [xd t]):=(Made.ex (k:=14) (by omega) q2 ti hm1).up (by omega);have s1:Made 700000 (.mk 10 0 (.mk 0 []) [vT 0] [w1] [uv 0]):=(Made.ex (k:=10) (by omega) i1 tv mh).up (by omega);have s2:Made 700000 (.mk 14 0 (.mk 0 []) [vT 0] [w2] [uv 0]):=(Made.ex (k:=14) (by omega) i2 tv mh).up (by omega);have a1:=r1.full;have a2:=r2.full;have b1:=s1.full;have b2:=s2.full;by_cases hi0:i=0
 ·by_cases hj0:j=0
  ·subst hi0 hj0;have hP:=Fo 15 [(.mk 14 0 (.mk 0 []) [t] [Be 7 Aa (AM u (vT 0))] [xd t]),(.mk 14 0 (.mk 0 []) [vT 0] [w2] [uv 0])] (by simp) (GR (by omega) (by omega));refine⟨_,d4,(Made.two (k:=15) (by omega) r2 s2).up (by omega),ok4,?_⟩;refine M.F Tryz.func179 ?_;(repeat' first|refine M.gw ?_|refine M.cb (h1) [0] 1 ?_|refine M.cb (h2) [0] 0 ?_|fail);all_goals first
    |(exfalso;simp at h;omega)
    |skip
   refine L.Dm 0 rfl rfl rfl rfl rfl (by omega) rfl ?_;(repeat' first|refine M.gw ?_|fail);refine L.Dm 0 rfl rfl rfl rfl rfl (by omega) rfl ?_;(repeat' first|refine M.go ?_|refine M.c2 (hnat) ?_|refine M.c2 (hbe) ?_|refine M.c2 (hw) ?_|refine M.cb (hp1) [0] 0 ?_|refine M.cb (h4) [0] 0 ?_|refine M.z1 11 ?_|refine M.gk ?_|fail);all_goals first
    |(exfalso;simp at h;omega)
    |skip
   refine L.Dm 0 rfl rfl rfl rfl rfl (by omega) rfl ?_;(repeat' first|refine M.go ?_|refine M.c2 (hU2) ?_|refine M.c2 (hv) ?_|refine M.c2 (hy) ?_|refine M.c2 (e2) ?_|refine M.z1 11 ?_|refine M.gk ?_|fail);refine AW.BU (c:= .fm) 3 1 [Be 7 Aa (AM u (vT 0))] U (by simp) (by(repeat'(first|exact trivial|exact fun _=>rfl|exact fun h=>absurd U h|exact fun h=>absurd h (by decide)|refine And.intro ?_ ?_|intro _));done) (by(repeat'(first|exact trivial|exact fun _=>rfl|exact fun h=>absurd U h|exact fun h=>absurd h (by decide)|refine And.intro ?_ ?_|intro _));done) ?_;(repeat' first|refine M.gw ?_|refine M.c2 (hP) ?_|fail)
   (exact M.n2 [some 0] (h8:=(by simp[zk,V.wk,V.Ak,zd,Ty.view,Tm.view,Pf.view])))
  ·subst hi0;obtain⟨pk,pi,⟨sk,sa⟩,pt,pf,pa⟩:=p1;have hP:=Fo 15 [(.mk 14 0 (.mk 0 []) [t] [Be 7 Aa (AM u (vT 0))] [xd t]),(.mk pk pi (.mk sk sa) pt pf pa)] (by simp) (GR (by omega) (by omega));refine⟨_,d4,(Made.two (k:=15) (by omega) r2 m1).up (by omega),ok4,?_⟩;refine M.F Tryz.func179 ?_;(repeat' first|refine M.gw ?_|refine M.cb (h1) [0] 1 ?_|refine M.cb (h2) [0] 0 ?_|fail);all_goals first
    |(exfalso;simp at h;omega)
    |skip
   refine L.Dm 0 rfl rfl rfl rfl rfl (by omega) rfl ?_;(repeat' first|refine M.gw ?_|fail);refine L.Dm 0 rfl rfl rfl rfl rfl (by omega) rfl ?_;(repeat' first|refine M.go ?_|refine M.c2 (hnat) ?_|refine M.c2 (hbe) ?_|refine M.c2 (hw) ?_|refine M.cb (hp1) [0] 0 ?_|refine M.cb (h4) [0] 0 ?_|refine M.z1 11 ?_|refine M.cs ?_ ?_<;>intro h|refine M.gk ?_|fail);all_goals first
    |(exfalso;simp at h;omega)
    |skip
   refine AW.BU (c:= .fm) 3 1 [Be 7 Aa (AM u (vT 0))] U (by simp) (by(repeat'(first|exact trivial|exact fun _=>rfl|exact fun h=>absurd U h|exact fun h=>absurd h (by decide)|refine And.intro ?_ ?_|intro _));done) (by(repeat'(first|exact trivial|exact fun _=>rfl|exact fun h=>absurd U h|exact fun h=>absurd h (by decide)|refine And.intro ?_ ?_|intro _));done) ?_;(repeat' first|refine M.gw ?_|refine M.c2 (hP) ?_|fail)
   (exact M.n2 [some 0] (h8:=(by simp[zk,V.wk,V.Ak,zd,Ty.view,Tm.view,Pf.view])))
 ·by_cases hj0:j=0
  ·subst hj0;have hP:=Fo 11 [(.mk 10 0 (.mk 0 []) [t] [Be 5 Aa (AM u (vT 0))] [xd t]),(.mk 10 0 (.mk 0 []) [vT 0] [w1] [uv 0])] (by simp) (GR (by omega) (by omega));refine⟨_,d4,(Made.two (k:=11) (by omega) r1 s1).up (by omega),ok4,?_⟩;refine M.F Tryz.func179 ?_;(repeat' first|refine M.gw ?_|refine M.cb (h1) [0] 1 ?_|refine M.cb (h2) [0] 0 ?_|refine M.cs ?_ ?_<;>intro h|fail);all_goals first
    |(exfalso;simp at h;omega)
    |skip
   refine L.Dm 0 rfl rfl rfl rfl rfl (by omega) rfl ?_;(repeat' first|refine M.go ?_|refine M.c2 (hnat) ?_|refine M.c2 (hbe) ?_|refine M.c2 (hw) ?_|refine M.cb (hp1) [0] 0 ?_|refine M.cb (h4) [0] 0 ?_|refine M.z1 11 ?_|refine M.gk ?_|fail);all_goals first
    |(exfalso;simp at h;omega)
    |skip
   refine L.Dm 0 rfl rfl rfl rfl rfl (by omega) rfl ?_;(repeat' first|refine M.go ?_|refine M.c2 (hU1) ?_|refine M.c2 (hv) ?_|refine M.c2 (hy) ?_|refine M.c2 (e1) ?_|refine M.z1 11 ?_|refine M.gk ?_|fail);refine AW.BU (c:= .fm) 3 1 [Be 5 Aa (AM u (vT 0))] U (by simp) (by(repeat'(first|exact trivial|exact fun _=>rfl|exact fun h=>absurd U h|exact fun h=>absurd h (by decide)|refine And.intro ?_ ?_|intro _));done) (by(repeat'(first|exact trivial|exact fun _=>rfl|exact fun h=>absurd U h|exact fun h=>absurd h (by decide)|refine And.intro ?_ ?_|intro _));done) ?_;(repeat' first|refine M.gw ?_|refine M.c2 (hP) ?_|fail)
   (exact M.n2 [some 0] (h8:=(by simp[zk,V.wk,V.Ak,zd,Ty.view,Tm.view,Pf.view])))
  ·obtain ⟨pk,pi,⟨sk,sa⟩,pt,pf,pa⟩:=p1;have hP:=Fo 11 [(.mk 10 0 (.mk 0 []) [t] [Be 5 Aa (AM u (vT 0))] [xd t]),(.mk pk pi (.mk sk sa) pt pf pa)] (by simp) (GR (by omega) (by omega));refine⟨_,d4,(Made.two (k:=11) (by omega) r1 m1).up (by omega),ok4,?_⟩;refine M.F Tryz.func179 ?_;(repeat' first|refine M.gw ?_|refine M.cb (h1) [0] 1 ?_|refine M.cb (h2) [0] 0 ?_|refine M.cs ?_ ?_<;>intro h|fail);all_goals first
    |(exfalso;simp at h;omega)
    |skip
   refine L.Dm 0 rfl rfl rfl rfl rfl (by omega) rfl ?_;(repeat' first|refine M.go ?_|refine M.c2 (hnat) ?_|refine M.c2 (hbe) ?_|refine M.c2 (hw) ?_|refine M.cb (hp1) [0] 0 ?_|refine M.cb (h4) [0] 0 ?_|refine M.z1 11 ?_|refine M.cs ?_ ?_<;>intro h|refine M.gk ?_|fail);all_goals first
    |(exfalso;simp at h;omega)
    |skip
   refine AW.BU (c:= .fm) 3 1 [Be 5 Aa (AM u (vT 0))] U (by simp) (by(repeat'(first|exact trivial|exact fun _=>rfl|exact fun h=>absurd U h|exact fun h=>absurd h (by decide)|refine And.intro ?_ ?_|intro _));done) (by(repeat'(first|exact trivial|exact fun _=>rfl|exact fun h=>absurd U h|exact fun h=>absurd h (by decide)|refine And.intro ?_ ?_|intro _));done) ?_;(repeat' first|refine M.gw ?_|refine M.c2 (hP) ?_|fail)
   (exact M.n2 [some 0] (h8:=(by simp[zk,V.wk,V.Ak,zd,Ty.view,Tm.view,Pf.view])))
theorem SC:∀n,n<=4->Er n
 |0,_=>fun lems tys hyps d k hk hd hc hs=>by
  obtain rfl:k=0:=by simpa using hk
  obtain⟨p,d',hm,ok',hA⟩:=Iq 0 lems tys hyps hc hs d hd 0;refine⟨p,d',hm,ok',?_⟩;have hn:=vz;refine M.F Tryz.func106 ?_;(repeat' first|refine M.go ?_|refine M.c2 (hn) ?_|refine M.z2 3 61 ?_|refine M.gk ?_|fail);all_goals first
   |exact AW.weak (M.W [some 0,some 1,some 2,some 3]) hA
   |(exfalso;simp at h;omega)
   |trace_state
 |n+1,h4=>fun lems tys hyps d k hk hd hc hs=>by
  have H:=SC n (by omega);have hn:=vz;by_cases hg:tys.length<10/\hyps.length<10;case neg=>
   obtain⟨p,d',hm,ok',hA⟩:=Iq (n+1) lems tys hyps hc hs d hd k;refine⟨p,d',hm,ok',?_⟩;refine M.F Tryz.func106 ?_;(repeat' first|refine M.go ?_|refine M.c2 (hn) ?_|refine M.gs ?_ ?_<;>intro h|refine M.z2 3 61 ?_|refine M.cs ?_ ?_<;>intro h|refine M.gk ?_|fail);all_goals first
    |exact AW.weak (M.W [some 0,some 1,some 2,some 3]) hA
    |(exfalso;apply hg;simp at*;omega)
    |trace_state
  obtain⟨g1,g2⟩:=hg;obtain⟨j,d1,ok1,hj,hx⟩:=He d 17 hd (by omega);have key:∃(p:Pf) (d':Dk),Made (Eh (n+1)) p/\d'.ok/\AW E Tryz.f106.ntmps 1 (FZ [1,1] (Ly Tryz.f106)) [(0,.ptr 0 0),(1,.s .fm lems),(3,.i k),(6,.ptr 1 0),(8,.ptr 2 0),(9,.ptr 3 0)] ⟨4,[(0,.var d.cells),(1,.var [.s .ty tys,.s .fm hyps]),(2,.var [.i 0,.i 0,.i 0,.slice .nil (.t .ty []),.slice .nil (.t .tm []),.slice .nil (.t .fm []),.slice .nil (.t .pf [])]),(3,.var Aa.view)]⟩ (EL E 1 Tryz.f106.results.toList (.agg p.view) ⟨1,[(0,.var d'.cells)]⟩):=by
   have hk':k=(n:Int)+1:=by omega
   rcases(show j=0\/j=1\/j=2\/j=3\/j=4\/j=5\/j=6\/j=7\/j=8\/j=9\/j=10\/j=11\/j=12\/j=13\/j=14\/j=15\/j=16 by omega) with rfl|rfl|rfl|rfl|rfl|rfl|rfl|rfl|rfl|rfl|rfl|rfl|rfl|rfl|rfl|rfl|rfl
   ·exact Yct n (by omega) H lems tys hyps hc hs g1 g2 d d1 ok1 k hk' hx
   ·exact Yds n (by omega) H lems tys hyps hc hs g1 g2 d d1 ok1 k hk' hx
   ·exact Ybq n (by omega) H lems tys hyps hc hs g1 g2 d d1 ok1 k hk' hx
   ·exact Yep n (by omega) H lems tys hyps hc hs g1 g2 d d1 ok1 k hk' hx
   ·exact Ybt n (by omega) H lems tys hyps hc hs g1 g2 d d1 ok1 k hk' hx
   ·exact Yd6 n (by omega) H lems tys hyps hc hs g1 g2 d d1 ok1 k hk' hx
   ·exact Ybk n (by omega) H lems tys hyps hc hs g1 g2 d d1 ok1 k hk' hx
   ·exact Yc6 n (by omega) H lems tys hyps hc hs g1 g2 d d1 ok1 k hk' hx
   ·obtain ⟨p,d',hm,ok',hA⟩:=Yeg n (by omega) H lems tys hyps hc hs g1 g2 d1 ok1 k hk';refine⟨p,d',hm,ok',?_⟩;show AW _ _ _ (Code.seq _ _) _ _ _;(repeat' first|refine M.go ?_|refine M.gs ?_ ?_<;>intro h|refine M.z1 3 ?_|refine M.cs ?_ ?_<;>intro h|refine M.gk ?_|fail);all_goals first
     |(exfalso;simp at h;omega)
     |skip
    (repeat' first|refine M.gw ?_|refine M.cb (hx) [0] 0 ?_|refine M.cb (hA) [0] 0 ?_|refine M.bl ?_|fail);all_goals first|exact M.n2 [some 0] (h8:=(by simp[zk,V.wk,V.Ak,zd,Ty.view,Tm.view,Pf.view]))
   ·exact Yeu n (by omega) H lems tys hyps hc hs g1 g2 d d1 ok1 k hk' hx
   ·exact Zz5 n (by omega) H lems tys hyps hc hs g1 g2 d d1 ok1 k hk' hx
   ·exact Zxz n (by omega) H lems tys hyps hc hs g1 g2 d d1 ok1 k hk' hx
   ·exact Zyn n (by omega) H lems tys hyps hc hs g1 g2 d d1 ok1 k hk' hx
   ·exact Zzu n (by omega) H lems tys hyps hc hs g1 g2 d d1 ok1 k hk' hx
   ·exact Zyc n (by omega) H lems tys hyps hc hs g1 g2 d d1 ok1 k hk' hx
   ·exact Zxx n (by omega) H lems tys hyps hc hs g1 g2 d d1 ok1 k hk' hx
   ·obtain ⟨p,d',hm,ok',hA⟩:=Iq (n+1) lems tys hyps hc hs d1 ok1 k;refine⟨p,d',hm,ok',?_⟩;show AW _ _ _ (Code.seq _ _) _ _ _;(repeat' first|refine M.go ?_|refine M.gs ?_ ?_<;>intro h|refine M.z1 3 ?_|refine M.cs ?_ ?_<;>intro h|refine M.gk ?_|fail);all_goals first
     |(exfalso;simp at h;omega)
     |skip
    (repeat' first|refine M.go ?_|refine M.cb (hx) [0] 0 ?_|refine M.z1 61 ?_|refine M.bl ?_|refine M.gk ?_|fail);all_goals first
     |exact AW.weak (M.W [some 0,some 1,some 2,some 3]) hA
     |trace_state
  obtain⟨p,d',hm,ok',hA⟩:=key;refine⟨p,d',hm,ok',?_⟩;refine M.F Tryz.func106 ?_;(repeat' first|refine M.go ?_|refine M.c2 (hn) ?_|refine M.z1 2 ?_|refine M.gk ?_|fail);exact AW.weak (M.W [some 0,some 1,some 2,some 3]) hA
def exI(i:Int):Pf:= .mk 6 0 (.mk 0 []) [] [KR] [uv i]
def exA:Pf:= .mk 18 0 (.mk 0 []) [wh 0] [] []
def exB:Pf:= .mk 18 0 (.mk 0 []) [wh 1] [] []
def exD:Pf:= .mk 4 0 (.mk 0 []) [] [] [.mk 3 0 (.mk 0 []) [] [] [exA,exB]]
theorem Yie(n:Nat)(hn:n<=4)(lems:List Fm)(tys:List Ty)(hyps:List Fm)(hc:(Ck.mk lems tys hyps).ok)(hs:Ai tys)(d:Dk)(hd:d.ok):
 ∃(pf:Nat->Pf) (dk:Nat->Dk) (xf:Nat->Fm) (us:Nat->List Int) (er:Nat->Int),dk 0=d/\∀m,(dk m).ok/\Made (Eh n) (pf m)/\(er m=0->(xf m).err=0/\(xf m).A9 tys)/\
  AC E 106 [.ptr 0 0,.s .fm lems,.agg [.s .ty tys,.s .fm hyps],.i n] ⟨1,[(0,.var (dk m).cells)]⟩ (.agg (pf m).view) ⟨1,[(0,.var (dk (m+1)).cells)]⟩/\
  PC E 9 [.s .fm lems,.agg [.s .ty tys,.s .fm hyps],.agg (pf m).view] (Di (xf m) (us m) (er m)):=by
 have H:∀x:{d:Dk // d.ok},∃q:Pf×{d:Dk // d.ok},Made (Eh n) q.1/\AC E 106 [.ptr 0 0,.s .fm lems,.agg [.s .ty tys,.s .fm hyps],.i n] ⟨1,[(0,.var x.1.cells)]⟩ (.agg q.1.view) ⟨1,[(0,.var q.2.1.cells)]⟩:=fun x=>by
  obtain⟨p,d',hm,ok',hA⟩:=SC n hn lems tys hyps x.1 n rfl x.2 hc hs;exact⟨(p,⟨d',ok'⟩),hm,hA⟩
 have G:∀x:{d:Dk // d.ok},∃q:Fm×List Int×Int,(q.2.2=0->q.1.err=0/\q.1.A9 tys)/\PC E 9 [.s .fm lems,.agg [.s .ty tys,.s .fm hyps],.agg (Classical.choose (H x)).1.view] (Di q.1 q.2.1 q.2.2):=fun x=>by
  obtain⟨x,us,e,h1,h2⟩:=Li hc hs (Classical.choose_spec (H x)).1 (by have:=v8 hn;omega);exact⟨(x,us,e),h1,h2⟩
 obtain⟨D,D0,DS⟩:∃D:Nat->{d:Dk // d.ok},D 0=⟨d,hd⟩/\∀m,D (m+1)=(Classical.choose (H (D m))).2:=⟨fun m=>Nat.rec ⟨d,hd⟩ (fun _ x=>(Classical.choose (H x)).2) m,rfl,fun m=>rfl⟩;refine⟨fun m=>(Classical.choose (H (D m))).1,fun m=>(D m).1,fun m=>(Classical.choose (G (D m))).1,fun m=>(Classical.choose (G (D m))).2.1,fun m=>(Classical.choose (G (D m))).2.2,by simp only[D0],
  fun m=>⟨(D m).2,(Classical.choose_spec (H (D m))).1,(Classical.choose_spec (G (D m))).1,?_,(Classical.choose_spec (G (D m))).2⟩⟩
 simp only[DS m];exact(Classical.choose_spec (H (D m))).2
theorem Zz9(n:Nat)(lems:List Fm)(tys:List Ty)(hyps:List Fm)(pf:Nat->Pf)(dk:Nat->Dk)(xf:Nat->Fm)(us:Nat->List Int)(er:Nat->Int)(Mx:Nat)(hM:Mx<4)(h0:er Mx=0)(hl:∀m,m<Mx->er m≠0)
 (hA:∀m,AC E 106 [.ptr 0 0,.s .fm lems,.agg [.s .ty tys,.s .fm hyps],.i n] ⟨1,[(0,.var (dk m).cells)]⟩ (.agg (pf m).view) ⟨1,[(0,.var (dk (m+1)).cells)]⟩)
 (hI:∀m,PC E 9 [.s .fm lems,.agg [.s .ty tys,.s .fm hyps],.agg (pf m).view] (Di (xf m) (us m) (er m))):
 AC E 54 [.ptr 0 0,.s .fm lems,.agg [.s .ty tys,.s .fm hyps],.i n] ⟨1,[(0,.var (dk 0).cells)]⟩ (.Ax [.agg (pf Mx).view,.agg ((xf Mx).view++[.s .int (us Mx)])]) ⟨1,[(0,.var (dk (Mx+1)).cells)]⟩:=by
 refine M.F Tryz.func54 ?_;(repeat' first|refine M.gw ?_|fail);refine AW.block (AW.loop (ι:={m:Nat // m<=Mx})
  (fun m=>([(0,.ptr 0 0),(1,.s .fm lems),(3,.i n),(6,.ptr 1 0),(8,.ptr 2 0),(9,.ptr 3 0),(16,.i m.1)],⟨4,[(0,.var (dk m.1).cells),(1,.var [.s .ty tys,.s .fm hyps]),
   (2,.var [.i 0,.i 0,.i 0,.slice .nil (.t .ty []),.slice .nil (.t .tm []),.slice .nil (.t .fm []),.slice .nil (.t .pf [])]),
   (3,.var [.i 0,.i 0,.slice .nil (.t .ty []),.slice .nil (.t .tm []),.slice .nil (.t .fm []),.slice .nil (.t .int [])])]⟩))
  (fun m=>Mx-m.1) ⟨0,Nat.zero_le _⟩ (M.W [some 0,some 1,some 2,some 3]) fun x=> ?_)
 obtain⟨m,hm⟩:∃m,m=x.1:=⟨_,rfl⟩;have hmM:x.1<=Mx:=x.2;have hA1:=hA x.1;have hI1:=hI x.1;by_cases e:er x.1=0
 ·have hx:x.1=Mx:=by
   refine Nat.le_antisymm hmM (Nat.le_of_not_lt fun hc=>hl _ hc e)
  rw[e] at hI1;rw[show pf Mx=pf x.1 by rw[hx],show xf Mx=xf x.1 by rw[hx],show us Mx=us x.1 by rw[hx],show dk (Mx+1)=dk (x.1+1) by rw[hx]];(repeat' first|refine M.gw ?_|refine M.cb (hA1) [0] 0 ?_|refine M.c2 (hI1) ?_|refine M.zb ?_|refine M.ks ?_ ?_<;>intro h|fail);all_goals first|exfalso;simp at h;omega|exact M.n2 [some 0] (h8:=(by simp[zk,V.wk,V.Ak,zd,Ty.view,Tm.view,Pf.view,Fm.view]))
 ·have hx:x.1<Mx:=by
   refine Nat.lt_of_le_of_ne hmM fun hc=>e (by rw[hc];exact h0)
  (repeat' first|refine M.gw ?_|refine M.cb (hA1) [0] 0 ?_|refine M.c2 (hI1) ?_|refine M.zb ?_|refine M.ks ?_ ?_<;>intro h|refine M.cs ?_ ?_<;>intro h|fail);all_goals first
   |(exfalso;simp at h;omega)
   |(exfalso;simp at h;exact e h)
   |skip
  refine⟨⟨x.1+1,hx⟩,by simp only;omega,?_⟩;exact(M.W [some 0,some 1,some 2,some 3])
theorem Ztw(n:Nat)(lems:List Fm)(tys:List Ty)(hyps:List Fm)(pf:Nat->Pf)(dk:Nat->Dk)(xf:Nat->Fm)(us:Nat->List Int)(er:Nat->Int)(hl:∀m,m<4->er m≠0)
 (hA:∀m,AC E 106 [.ptr 0 0,.s .fm lems,.agg [.s .ty tys,.s .fm hyps],.i n] ⟨1,[(0,.var (dk m).cells)]⟩ (.agg (pf m).view) ⟨1,[(0,.var (dk (m+1)).cells)]⟩)
 (hI:∀m,PC E 9 [.s .fm lems,.agg [.s .ty tys,.s .fm hyps],.agg (pf m).view] (Di (xf m) (us m) (er m)))
 {d':Dk} {i:Int} {p:Pf} {x:Fm} {u:List Int} {e:Int} (h1:AC E 51 [.ptr 0 0,.i 4] ⟨1,[(0,.var (dk 4).cells)]⟩ (.i i) ⟨1,[(0,.var d'.cells)]⟩)
 (h2:PC E 7 [.i i] (.agg (wh i).view)) (h3:PC E 23 [.agg (wh i).view] (.agg p.view))
 (h4:PC E 9 [.s .fm lems,.agg [.s .ty tys,.s .fm hyps],.agg p.view] (Di x u e)):
 AC E 54 [.ptr 0 0,.s .fm lems,.agg [.s .ty tys,.s .fm hyps],.i n] ⟨1,[(0,.var (dk 0).cells)]⟩ (.Ax [.agg p.view,.agg (x.view++[.s .int u])]) ⟨1,[(0,.var d'.cells)]⟩:=by
 generalize wh i=N at*;refine M.F Tryz.func54 ?_;(repeat' first|refine M.gw ?_|fail);refine AW.block (AW.loop (ι:={m:Nat // m<=4})
  (fun m=>([(0,.ptr 0 0),(1,.s .fm lems),(3,.i n),(6,.ptr 1 0),(8,.ptr 2 0),(9,.ptr 3 0),(16,.i m.1)],⟨4,[(0,.var (dk m.1).cells),(1,.var [.s .ty tys,.s .fm hyps]),
   (2,.var [.i 0,.i 0,.i 0,.slice .nil (.t .ty []),.slice .nil (.t .tm []),.slice .nil (.t .fm []),.slice .nil (.t .pf [])]),
   (3,.var [.i 0,.i 0,.slice .nil (.t .ty []),.slice .nil (.t .tm []),.slice .nil (.t .fm []),.slice .nil (.t .int [])])]⟩))
  (fun m=>4-m.1) ⟨0,Nat.zero_le _⟩ (M.W [some 0,some 1,some 2,some 3]) fun y=> ?_)
 have hmM:y.1<=4:=y.2;have hA1:=hA y.1;have hI1:=hI y.1;by_cases hy:y.1<4
 ·have e:=hl _ hy;(repeat' first|refine M.gw ?_|refine M.cb (hA1) [0] 0 ?_|refine M.c2 (hI1) ?_|refine M.zb ?_|refine M.ks ?_ ?_<;>intro h|refine M.cs ?_ ?_<;>intro h|fail);all_goals first
   |(exfalso;simp at h;omega)
   |(exfalso;simp at h;exact e h)
   |skip
  refine⟨⟨y.1+1,hy⟩,by simp only;omega,?_⟩;exact(M.W [some 0,some 1,some 2,some 3])
 ·rw[show dk 4=dk y.1 by rw[show y.1=4 by omega]] at h1;(repeat' first|refine M.gw ?_|refine M.cb (h1) [0] 0 ?_|refine M.c2 (h2) ?_|refine M.c2 (h3) ?_|refine M.c2 (h4) ?_|refine M.zb ?_|refine M.ks ?_ ?_<;>intro h|fail);all_goals first|exfalso;simp at h;omega|exact M.n2 [some 0] (h8:=(by simp[zk,V.wk,V.Ak,zd,Ty.view,Tm.view,Pf.view,Fm.view]))
end Go.Ab
