/- A part of this seat's proofs. No conditions. -/
import Derived.Test.YtgjekifepogehaaGreatDoorPST6
namespace Go.Ab
open Go Go.Proofs
set_option maxRecDepth 100000
set_option maxHeartbeats 4000000
set_option linter.all false
theorem Ow(i:Int):PC E 39 [.i i] (.agg (x8 i).view):=by
 refine M.F Tryz.func39 ?_;refine M.w0 ?_
 rfl
theorem W5(t:Tm)(he:t.shape=true)(hf:t.full<100000000000)(hix:∀p∈t.vars 0,0<=p.1/\p.1<549755813888):PC E 242 [.agg t.view,.i 1] (.agg (t.re (z8 0 1) 0).view):=by
 have h:=O6 1 dY _ t 0 (ZB _) dY dY dY he hix;generalize t.re (z8 0 1) 0=u at*;refine M.F Tryz.func242 ?_;refine M.w1 @h ?_;simp[zh,V.wk,V.An,za,Ty.view,Tm.view]
theorem Zuj(g s:Tm)(p:Pf)(hg:Ec g)(hs:Ec s)(hp:p.full<100000000000):PC E 202 [.agg g.view,.agg s.view,.agg p.view] (.agg (JT g s p).view):=by
 have f1:=hg.2.2;have f2:=hs.2.2;have l1:=KE 0 1 g 0 hg.1;have l2:=KE 0 1 s 0 hs.1;have h1:=W5 g hg.1 dY (fun q hq=>by have:=hg.2.1 q hq;omega);have h2:=W5 s hs.1 dY (fun q hq=>by have:=hs.2.1 q hq;omega);have h3:=E7 0;have h4:=Dh 3 [g,s] eB;unfold JT V8 ub;generalize g.re (z8 0 1) 0=g1 at*;generalize s.re (z8 0 1) 0=s1 at*;have h5:=Dh 3 [g1,s1] eB;have h6:=Dh 3 [g1,vT 0] (by simp[Lo];omega);have h7:=HW (Bd g1 s1) (Bd g1 (vT 0)) (by rw[LF];omega) (by rw[LF,Lo];omega);have h8:=u9 (Bd g s) (by rw[LF];omega);have h9:=WI (Bv (Bd g1 s1) (Bd g1 (vT 0))) p (.mk 18 0 (.mk 0 []) [Bd g s] [] []) (by rw[Pu,LF,LF,Lo];omega) dY (by rw[wy,HM];simp[LF];omega);refine M.F Tryz.func202 ?_;(repeat' first|refine M.w6 @h1 @h2 @h3 @h4 @h5 @h6 ?_|refine M.c2 (h7) ?_|refine M.c2 (h8) ?_|refine M.c2 (h9) ?_|fail);all_goals first
  |rfl
  |trace_state
theorem Zp8(ts:List Tm)(p:Pf)(ht:∀t∈ts,t.err=0)(hp:p.err=0)(hpf:p.full<500000000000)(hl:ts.length<=1000):PC E 203 [.s .tm ts,.s .fm [],.s .pf [p]] (.i 0):=by
 have hk:=we p dY;rw[hp] at hk;refine M.F Tryz.func203 ?_;refine M.w0 ?_;refine M.rt ts.length (fun m=>([(1,.s .fm []),(2,.s .pf [p]),(16,.s .tm ts),(17,.i ts.length),(18,.i m)],⟨0,[]⟩))
  (M.W []) ?_ ?_
 .intro m hm _;have hc:=ua ts[m] (by have:=yd (ht _ (ZA hm));omega);rw[ht _ (ZA hm)] at hc;refine M.w1 @hc ?_;exact⟨rfl,trivial,(M.W [])⟩
 intro _;refine M.w0 ?_;refine AW.range ([]:List Fm).length (fun m=>True) (fun m=>([(2,.s .pf [p]),(28,.s .fm []),(29,.i ([]:List Fm).length),(30,.i m)],⟨0,[]⟩))
  dZ (fun m=>rfl) (fun m=>rfl) rfl trivial (M.W []) ?_ ?_
 .intro m hm _;exact absurd hm dZ
 intro _;refine M.w0 ?_;refine AW.range ([p]:List Pf).length (fun m=>True) (fun m=>([(40,.s .pf [p]),(41,.i ([p]:List Pf).length),(42,.i m)],⟨0,[]⟩))
  dZ (fun m=>rfl) (fun m=>rfl) rfl trivial (M.W []) ?_ ?_
 .intro m hm _;obtain rfl:m=0:=by simpa using hm
  refine M.w1 @hk ?_;exact⟨rfl,trivial,(M.W [])⟩
 intro _;refine M.w0 ?_
 rfl
theorem Zt1(p:Pf)(hp:p.err=0)(hpf:p.full<500000000000):PC E 201 [.agg p.view,.i 0] (.AM [.agg p.view,.i 0]):=by
 have h1:=Sl p dY;have h2:=(Pf.Ad p).1 hp;have e:(p.small&&decide (p.size<=16384))=true:=by simp[h2.2.1,h2.2.2]
 rw[e] at h1;have h3:=LP _ p (ZB _) dY;refine M.F Tryz.func201 ?_;refine M.w2 @h1 @h3 ?_
 rfl
theorem Zwz(g s t:Tm)(p:Pf)(hg:Ec g)(hs:Ec s)(eg:g.err=0)(es:s.err=0)(et:t.err=0)(ep:p.err=0)(hp:p.full<100000000000)(ec:(JT g s p).err=0):
 PC E 140 [.agg g.view,.agg s.view,.agg t.view,.agg p.view] (.AM [.agg (JT g s p).view,.i 0]):=by
 have f1:=hg.2.2;have f2:=hs.2.2;have h1:=Zuj g s p hg hs hp;have h2:=Zp8 [g,s,t] p (by simp[eg,es,et]) ep dY dZ;have h3:=Zt1 (JT g s p) ec (by have:=Lu _ ((Pf.Ad _).1 ec).1;have:=((Pf.Ad _).1 ec).2.2;omega);generalize JT g s p=P at*;refine M.F Tryz.func140 ?_;refine M.w3 @h1 @h2 @h3 ?_;all_goals first
  |rfl
  |trace_state
def Db:Tm:=Bd (Bd CV zT) (vT 0)
def CW:Pf:=JT Hw Db (x8 0)
def PL(t:Tm):Pf:= .mk 16 0 (.mk 0 []) [t] [Bv Db (vT 0)] [ub zT,CW]
theorem MY(t:Tm)(h1:t.shape=true)(h2:(t.vars 0).all (fun q=>decide (0<=q.1/\q.1<10000))=true)(h3:t.full<=300000):Ec t:=
 ⟨h1,fun q hq=>by simpa using List.all_eq_true.1 h2 q hq,h3⟩
theorem Ygq(t:Tm)(ht:t.full<100000000000):PC E 62 [.agg t.view] (.agg (PL t).view):=by
 have h1:=X5;have h2:=Pb 0;have e0:HG 0=zT:=ej
 rw[e0] at h2;have h3:=E7 0;have h4:=Q5 CV [zT,vT 0] ej;have h5:=HW Db (vT 0) ej ej;have h6:=uq;have h7:=Dh 5 [vT 0] ej;have h8:=GX 2 Ae [sT (vT 0)] ej ej;have h9:=Ow 0;have h10:=Zwz Hw Db (vT 0) (x8 0) (MY _ eN eN eN) (MY _ eN eN eN) eN eN eN eN eN eN;have hz:CW.full<1000:=eN
 have h11:=u9 zT ej;have h12:=Ry 16 (Bv Db (vT 0)) t (.mk 18 0 (.mk 0 []) [zT] [] []) CW eN dY eN dY;have e1:JT Hw Db (x8 0)=CW:=rfl;rw[e1] at h10;have e2:List.foldl Bd CV [zT,vT 0]=Db:=rfl;rw[e2] at h4;unfold PL;generalize CW=Z at*;generalize x8 0=H at*;generalize Db=P0 at*;refine M.F Tryz.func62 ?_;(repeat' first|refine M.w6 @h1 @h2 @h3 @h4 @h5 @h6 ?_|refine M.c2 (h7) ?_|refine M.c2 (h8) ?_|refine M.c2 (h9) ?_|refine M.c2 (h10) ?_|refine M.c2 (h11) ?_|refine M.c2 (h12) ?_|fail);all_goals first
  |rfl
  |trace_state
def KM(t:Tm):Fm:=BK 5 Ae (Bv (t.re (z8 0 1) 0) (vT 0))
theorem Wa(d:Dk)(hd:d.ok)(g:List Ty)(hyps:List Fm)(hg:Am g)(hl:g.length<=16):
 AC E 64 [.ptr 0 0,.agg [.s .ty g,.s .fm hyps]] ⟨1,[(0,.var d.cells)]⟩ (.agg [.i 10,.i 0,.i 0,.s .ty [],.s .tm [(Dk.tm 3 d g Ae).1],.arr 1 1 5,.s .pf [ub (Dk.tm 3 d g Ae).1]])
  ⟨2,[(0,.var (Dk.tm 3 d g Ae).2.cells),(1,.var (KM (Dk.tm 3 d g Ae).1).view)]⟩/\
 AC E 64 [.ptr 0 0,.agg [.s .ty g,.s .fm hyps]] ⟨1,[(0,.var d.cells)]⟩ (.agg (MP (KM (Dk.tm 3 d g Ae).1) (Dk.tm 3 d g Ae).1 (ub (Dk.tm 3 d g Ae).1)).view)
  ⟨1,[(0,.var (Dk.tm 3 d g Ae).2.cells)]⟩:=by
 have h1:=uq;have h2:=JV 3 dY d g Ae 1 dY hd hg zi dY dY dY;have hm:=(JR d hg).1;have hf:=yd hm.err;generalize Dk.tm 3 d g Ae=T at*;obtain⟨t,d2⟩:=T;simp only at hm hf;have h3:=Tf (g:=g) hm.err hm.inf dY;have h4:=E7 0;have l1:=KE 0 1 t 0 hm.shape;have h7:=u9 t dY;unfold KM MP ub;generalize t.re (z8 0 1) 0=u at*;have h5:=HW u (vT 0) dY (by rw[Lo];omega);have h6:=G9 5 Ae (Bv u (vT 0)) ej (by rw[Pu,Lo];omega);have fq:(BK 5 Ae (Bv u (vT 0))).full<1000000:=by have e:Ae.size=1:=rfl;simp only[BK,Fm.full,Fm.Av,Z2,aN];rw[Pu,Lo,e];omega
 have fr:(Pf.mk 18 0 (.mk 0 []) [t] [] []).full<1000000:=by rw[wy,HM];simp;omega
 have h8:=Yat 10 (BK 5 Ae (Bv u (vT 0))) t (.mk 18 0 (.mk 0 []) [t] [] []) dY dY dY;have h9:=Ln 10 (BK 5 Ae (Bv u (vT 0))) t (.mk 18 0 (.mk 0 []) [t] [] []) dY dY dY;constructor
 .refine M.F Tryz.func64 ?_;(repeat' first|refine M.w6 @h1 @h2 @h3 @h4 @h5 @h6 ?_|refine M.c2 (h7) ?_|refine M.cb (h8) [] 1 ?_|fail);refine K.rt [some 0,some 5] rfl rfl rfl rfl rfl ?_ rfl ?_
  .exact ⟨⟨_,rfl,_,rfl,_,rfl,Bb.refl _⟩,⟨_,rfl,_,rfl,_,rfl,Bb.refl _⟩,trivial⟩
  .exact mZ
 .refine M.F Tryz.func64 ?_;(repeat' first|refine M.w6 @h1 @h2 @h3 @h4 @h5 @h6 ?_|refine M.c2 (h7) ?_|refine M.c2 (h9) ?_|fail)
  (exact M.n2 Ay (h8:=eG))
def Dk.Si(d:Dk):Nat:=(d.next 3).1.toNat
def Dk.lm(d:Dk):List Fm×Dk:=Dk.DB d.Si (d.next 3).2 []
theorem Dk.KB(d:Dk):d.lm.1.length<=2:=by
 have:=Dk.Bh d 3 dY;unfold Dk.lm Dk.Si;rw[Dk.DO];omega
theorem Dk.J8{d:Dk}(h:d.ok):d.lm.2.ok:=Dk.Ey _ _ _ (Dk.AG h 3)
theorem Yas(d:Dk)(hd:d.ok):AC E 9 [.ptr 0 0] ⟨1,[(0,.var d.cells)]⟩ (.s .fm d.lm.1) ⟨1,[(0,.var d.lm.2.cells)]⟩:=by
 have h1:=vd d 3 hd dY;have hb:=Dk.Bh d 3 dY;obtain⟨c,hc⟩:∃c:Nat,(d.next 3).1=c:=⟨(d.next 3).1.toNat,dY⟩;have hx:d.lm=Dk.DB c (d.next 3).2 []:=by unfold Dk.lm Dk.Si;rw[hc];rfl
 rw[hc] at h1 hb;rw[hx];have hdo:=Dk.AG hd 3;generalize (d.next 3).2=d2 at*;refine M.F Tryz.func9 ?_;refine M.w1 @h1 ?_;refine AW.down c (fun m=>m<=c)
  (fun m=>([(0,.ptr 0 0),(3,.slice (.own 1) (.t .fm (Dk.DB (c-m) d2 []).1)),(4,.i m)],⟨2,[(0,.var (Dk.DB (c-m) d2 []).2.cells),(1,.row)]⟩))
  dY (fun m=>rfl) rfl (ZB _) ?_ ?_ ?_
 .simp only[cw];exact(M.W PM)
 .intro m hm hP;have e:=Dk.Ek (c-(m+1)) d2 [];rw[show c-(m+1)+1=c-m by omega] at e;have h3:=T9 2 (Dk.DB (c-(m+1)) d2 []).2 [] 2 dY rfl (Dk.Ey _ _ _ hdo) zn dZ;have hl:=Dk.DO (c-(m+1)) d2 [];refine M.w1 @h3 ?_;refine⟨rfl,dY,?_⟩;simp only[e];exact(M.W [some 0,some 2])
 .intro _;simp only[dK];refine M.w0 ?_
  (exact M.n2 Ay (h8:=eM))
def GI(n:Nat):Nat:=4000000*3^n
theorem W4:∀n:Nat,1<=3^n
 |0=>ej
 |n+1=>by rw[cM];have:=W4 n;omega
theorem wr(n:Nat):4000000<=GI n:=by unfold GI;have:=W4 n;omega
theorem x6(n:Nat):GI (n+1)=3*GI n:=by unfold GI;rw[cM];omega
theorem F7{n:Nat}(h:n<=4):GI n<=400000000:=by unfold GI;have:3^n<=3^4:=ct dY h;omega
theorem Ob(f:Fm)(fr by_:Int):(f.Bi fr by_).full<=f.full:=Fm.Eg (fun b t=>Tm.Eg (fun i c=>by simp[z8,Tm.full,Tm.Av,Ty.size,Ty.sizes]) t 0) f 0
theorem JX(d:Dk)(g:List Ty)(s:Ty)(hd:d.ok)(hg:Am g)(hs:s.small)(hl:g.length<=16):∃(t:Tm) (d':Dk),d'.ok/\t.err=0/\t.inf g=(s,0)/\
 AC E 12 [.ptr 0 0,.s .ty g,.agg s.view,.i 1] ⟨1,[(0,.var d.cells)]⟩ (.agg t.view) ⟨1,[(0,.var d'.cells)]⟩:=by
 have hm:=Dk.De 3 d g s hg hs dY dY;exact⟨_,_,Dk.C5 3 d g s hd,hm.err hg hs dY,hm.inf hg hs,JV 3 dY d g s 1 dY hd hg hs dY dY dY⟩
theorem QG(d:Dk)(g:List Ty)(hd:d.ok)(hg:Am g)(hl:g.length<=16):∃(t:Tm) (d':Dk),d'.ok/\t.err=0/\t.size<=60/\t.inf g=(Ae,0)/\
 AC E 12 [.ptr 0 0,.s .ty g,.agg Ae.view,.i 1] ⟨1,[(0,.var d.cells)]⟩ (.agg t.view) ⟨1,[(0,.var d'.cells)]⟩:=
 ⟨_,_,Dk.C5 3 d g Ae hd,(JR d hg).1.err,(JR d hg).2,(JR d hg).1.inf,JV 3 dY d g Ae 1 dY hd hg zi dY dY dY⟩
theorem YB(f:Fm)(h1:f.shape=true)(h2:(f.AZ 0).all (fun q=>(q.1.vars 0).all fun r=>decide (0<=r.1/\r.1<10000))=true)(h3:f.full<=300000):ES f:=
 ⟨h1,fun q hq r hr=>by simpa using List.all_eq_true.1 (ZH.1 h2 q hq) r hr,h3⟩
theorem Ma(d:Dk)(hd:d.ok):∃(s:Ty) (d':Dk),d'.ok/\s.small/\AC E 13 [.ptr 0 0,.i 1] ⟨1,[(0,.var d.cells)]⟩ (.agg s.view) ⟨1,[(0,.var d'.cells)]⟩:=
 ⟨_,_,Dk.BC 1 d hd,d.type1,LO 1 1 d dY dY dY hd⟩
theorem Ug(d:Dk)(hd:d.ok):∃(s:Ty) (d':Dk),d'.ok/\s.small/\AC E 13 [.ptr 0 0,.i 0] ⟨1,[(0,.var d.cells)]⟩ (.agg s.view) ⟨1,[(0,.var d'.cells)]⟩:=
 ⟨_,_,Dk.BC 0 d hd,⟨d.type0.1,by rw[d.type0.2];omega⟩,LO 0 0 d dY dY dY hd⟩
theorem JA(d:Dk)(n:Int)(hd:d.ok)(hn:0<n/\n<1099511627776):∃(i:Int) (d':Dk),d'.ok/\(0<=i/\i<n)/\AC E 42 [.ptr 0 0,.i n] ⟨1,[(0,.var d.cells)]⟩ (.i i) ⟨1,[(0,.var d'.cells)]⟩:=
 ⟨_,_,Dk.AG hd n,Dk.Bh d n hn.1,vd d n hd hn.2⟩
theorem Tq(d:Dk)(g:List Ty)(hd:d.ok)(hg:Am g)(hl:g.length<=16):∃(f:Fm) (d':Dk),d'.ok/\f.err=0/\f.BF g/\
 AC E 43 [.ptr 0 0,.s .ty g,.i 1] ⟨1,[(0,.var d.cells)]⟩ (.agg f.view) ⟨1,[(0,.var d'.cells)]⟩:=by
 have gf:=Dk.Ff 1 d g hg;have h:(Dk.fm 1 d g).1.err=0:=(Fm.Ad _).2 ⟨gf.1,by have:=gf.2.1;omega⟩;exact⟨_,_,Dk.FG 1 d g hd,h,Dk.Ix 1 d g hg,T9 1 d g 1 dY rfl hd hg dY⟩
theorem OB{lems:List Fm}{tys:List Ty}{hyps:List Fm}(hc:(Ck.mk lems tys hyps).ok)(hs:Am tys){n:Nat}{p:Pf}(hp:Made n p)(hn:n<=1000000000):∃(x:Fm) (us:List Int) (e:Int),(e=0->x.err=0/\x.BF tys)/\
 PC E 48 [.s .fm lems,.agg [.s .ty tys,.s .fm hyps],.agg p.view] (FD x us e):=by
 have hf:=hp.full;have h0:=hc.sum;have h:=Zzy lems hyps tys p (fun f hf=>by have:=yw (hc.lems f hf).1;omega) (fun f hf=>by have:=yw (hc.hyps f hf).1;omega) (by simp only at h0;omega) (by have:=hc.nl;simp only at this;omega) (by have:=hc.nh;simp only at this;omega) dY;refine⟨_,_,_,fun he=> ?_,h⟩;unfold N9 at he ⊢;rw[if_neg (by rw[show I2 lems tys hyps=0 from Ygg hc];simp)] at he ⊢;by_cases h1:p.err≠0
 .rw[if_pos h1] at he;exact absurd he h1
 .rw[if_neg h1] at he ⊢;have h2:=((Ql p hp.shape) _ hc).1 he;exact⟨h2.1,h2.2.1⟩
theorem ES.size{g:List Ty}{f:Fm}(hs:f.shape=true)(hz:f.size<=4500)(ho:f.BF g)(hg:g.length<=20):ES f:=by
 have h1:=JK f hs;refine⟨hs,fun q hq r hr=> ?_,dY⟩;have:=Tz f g 0 hs ho q hq r hr;omega
theorem RI{f:Fm}(hf:f.err=0):(f.Bi 0 1).shape=true/\(f.Bi 0 1).size<=4096:=(Fm.Ad _).1 (Mr hf dY)
theorem SE{f:Fm}{g:List Ty}(hf:f.err=0)(ho:f.BF g)(s:Ty):(f.Bi 0 1).BF (g++[s]):=by
 have h:=Ld (g:=g) (h:=[]) [s] ((Fm.Ad f).1 hf).1 (by simpa using ho);simpa using h
theorem KI{f:Fm}{g:List Ty}{k:Int}{s:Ty}(hk:k=5\/k=7)(hs:s.small)(h1:f.shape=true)(h2:f.size<=4400)(ho:f.BF (g++[s]))(hg:g.length<=16):ES (BK k s f):=by
 have he:=vb hs;have hq:=Gf.qu (g:=g) k dY he ⟨h1,h2,ho⟩;exact ES.size hq.sh (by have:=hq.sz;omega) hq.ok dY
theorem MK{f:Fm}{g:List Ty}(hf:f.err=0)(ho:f.BF g)(s:Ty)(hg:g.length<=16):ES (f.Bi 0 1):=
 ES.of (g:=g++[s]) (Mr hf dY) (SE hf ho s) eB
theorem Zi{t:Tm}{g:List Ty}(he:t.err=0)(hi:t.inf g=(Ae,0)):(t.re (z8 0 1) 0).inf (g++[Ae])=(Ae,0)/\(t.re (z8 0 1) 0).shape=true/\(t.re (z8 0 1) 0).size=t.size:=by
 have hs:=(Tm.Ad t).1 he;have h1:=SE (f:=Bv t t) (g:=g);have h2:=Ld (f:=Bv t t) (g:=g) (h:=[]) [Ae] (KO hs.1 hs.1) (by simpa using DE.2 ⟨hi,hi⟩);have e:(Bv t t).Bi ([]:List Ty).length [Ae].length=Bv (t.re (z8 0 1) 0) (t.re (z8 0 1) 0):=rfl;rw[e] at h2;have h3:=(DE.1 h2).1;refine⟨by simpa using h3,?_,?_⟩
 .exact NN 0 hs.1 dY
 .exact OW 0 1 t 0 hs.1
theorem Ui{t:Tm}{g:List Ty}(he:t.err=0)(hi:t.inf g=(Ae,0))(hz:t.size<=2000):(Bv (t.re (z8 0 1) 0) (vT 0)).err=0/\(Bv (t.re (z8 0 1) 0) (vT 0)).BF (g++[Ae]):=by
 obtain⟨h1,h2,h3⟩:=Zi he hi;exact⟨(Fm.Ad _).2 ⟨KO h2 (Nb 0 dY),by rw[K6,h3];have h9:=(show(vT 0).size=1 by decide);omega⟩,DE.2 ⟨h1,VK g Ae⟩⟩
def FM(n:Nat):Prop:=∀(lems:List Fm) (tys:List Ty) (hyps:List Fm) (d:Dk) (k:Int),k=n->d.ok->(Ck.mk lems tys hyps).ok->Am tys->
 ∃(p:Pf) (d':Dk),Made (GI n) p/\d'.ok/\AC E 11 [.ptr 0 0,.s .fm lems,.agg [.s .ty tys,.s .fm hyps],.i k] ⟨1,[(0,.var d.cells)]⟩ (.agg p.view) ⟨1,[(0,.var d'.cells)]⟩
theorem FX{lems:List Fm}{tys:List Ty}{hyps:List Fm}(hc:(Ck.mk lems tys hyps).ok):tys.length<=16/\hyps.length<=16/\lems.length<=32:=⟨hc.len,hc.nh,hc.nl⟩
theorem Ku(n:Nat)(lems:List Fm)(tys:List Ty)(hyps:List Fm)(hc:(Ck.mk lems tys hyps).ok)(hs:Am tys)(d:Dk)(hd:d.ok)(k:Int):
 ∃(p:Pf) (d':Dk),Made (GI n) p/\d'.ok/\AW E Tryz.f11.ntmps 1 (HE [1,1,1] (Of Tryz.f11)) [(0,.ptr 0 0),(1,.s .fm lems),(3,.i k),(6,.ptr 1 0),(8,.ptr 2 0),(9,.ptr 3 0)] ⟨4,[(0,.var d.cells),(1,.var [.s .ty tys,.s .fm hyps]),(2,.var [.i 0,.i 0,.i 0,.slice .nil (.t .ty []),.slice .nil (.t .tm []),.slice .nil (.t .fm []),.slice .nil (.t .pf [])]),(3,.var Ae.view)]⟩ (FV E 1 Tryz.f11.results.toList (.agg p.view) ⟨1,[(0,.var d'.cells)]⟩):=by
 have hb:=wr n;have hl:=FX hc;obtain⟨j,d1,ok1,hj,h1⟩:=JA d 4 hd dY;obtain⟨t,d2,ok2,et,it,h2⟩:=JX d1 tys Ae ok1 hs zi hl.1;have ti:=Ec.of et it dY;have h3:=u9 t (by have:=ti.2.2;omega);by_cases a1:j=0/\0<hyps.length
 .obtain ⟨rfl,a2⟩:=a1;obtain⟨i,d3,ok3,hi,h4⟩:=JA d1 hyps.length ok1 dY;have h5:=Ow i;refine⟨x8 i,d3,(Made.hyp dY).up dY,ok3,?_⟩;show AW _ _ _ (Code.seq _ _) _ _ _;(repeat' first|refine M.v3 @h1 @h4 @h5 ?_|refine M.cs ?_ ?_<;>intro h|fail);all_goals first|exfalso;simp_all;done|exact M.n2 Ay (h8:=eG)
 by_cases a3:j=1/\0<lems.length
 .obtain ⟨rfl,a2⟩:=a3;obtain⟨i,d3,ok3,hi,h4⟩:=JA d1 lems.length ok1 dY;refine⟨.mk 2 i (.mk 0 []) [] [] [],d3,(Made.lem dY).up dY,ok3,?_⟩;show AW _ _ _ (Code.seq _ _) _ _ _;(repeat' first|refine M.v2 @h1 @h4 ?_|refine M.cs ?_ ?_<;>intro h|fail);all_goals first|exfalso;simp_all;done|exact M.n2 Ay (h8:=eG)
 refine⟨.mk 18 0 (.mk 0 []) [t] [] [],d2,(Made.ref ti).up dY,ok2,?_⟩;have q3:Ae.size=1:=rfl;show AW _ _ _ (Code.seq _ _) _ _ _;rcases(show j=0\/j=1\/(j≠0/\j≠1) by omega) with rfl|rfl|hj2
 .have a4:hyps.length=0:=dY
  obtain rfl:=ZS a4;refine M.v3 @h1 @h2 @h3 ?_;all_goals first|exfalso;simp at h;done|exact M.n2 Ay (h8:=eG)
 .have a4:lems.length=0:=dY
  obtain rfl:=ZS a4;refine M.v3 @h1 @h2 @h3 ?_;all_goals first|exfalso;simp at h;done|exact M.n2 Ay (h8:=eG)
 .repeat' (first|refine M.v3 @h1 @h2 @h3 ?_|refine M.cs ?_ ?_<;>intro h|fail)
  all_goals first|exfalso;simp at h;omega|exfalso;simp_all;done|exact M.n2 Ay (h8:=eG)
abbrev Gs(n:Nat)(lems:List Fm)(tys:List Ty)(hyps:List Fm)(d:Dk)(k:Int):Prop:=
 ∃(p:Pf) (d':Dk),Made (GI (n+1)) p/\d'.ok/\AW E Tryz.f11.ntmps 1 (HE [1,1] (Of Tryz.f11)) [(0,.ptr 0 0),(1,.s .fm lems),(3,.i k),(6,.ptr 1 0),(8,.ptr 2 0),(9,.ptr 3 0)] ⟨4,[(0,.var d.cells),(1,.var [.s .ty tys,.s .fm hyps]),(2,.var [.i 0,.i 0,.i 0,.slice .nil (.t .ty []),.slice .nil (.t .tm []),.slice .nil (.t .fm []),.slice .nil (.t .pf [])]),(3,.var Ae.view)]⟩ (FV E 1 Tryz.f11.results.toList (.agg p.view) ⟨1,[(0,.var d'.cells)]⟩)
theorem Yfu(n:Nat)(hn:n<=3)(H:FM n)(lems:List Fm)(tys:List Ty)(hyps:List Fm)(hc:(Ck.mk lems tys hyps).ok)(hs:Am tys)(ht:tys.length<10)(hh:hyps.length<10)(d d1:Dk)(ok1:d1.ok)(k:Int)(hk:k=(n:Int)+1)
 (hx:AC E 42 [.ptr 0 0,.i 17] ⟨1,[(0,.var d.cells)]⟩ (.i 0) ⟨1,[(0,.var d1.cells)]⟩):
 Gs n lems tys hyps d k:=by
 have hb:=wr n;have hbs:=x6 n;have hbl:=F7 (show n<=4 by omega);have hl:=FX hc;obtain⟨p1,d2,m1,ok2,hp1⟩:=H lems tys hyps d1 (k-1) dY ok1 hc hs;have fp1:=m1.full;obtain⟨p2,d3,m2,ok3,hp2⟩:=H lems tys hyps d2 (k-1) dY ok2 hc hs;have fp2:=m2.full;have hP:=G3 3 [p1,p2] dZ (I3 dY dY);refine⟨_,d3,(Made.two (k:=3) dY m1 m2).up dY,ok3,?_⟩;show AW _ _ _ (Code.seq _ _) _ _ _;(repeat' first|refine M.o0 ?_|refine M.gs ?_ ?_<;>intro h|refine M.z1 3 ?_|refine M.cs ?_ ?_<;>intro h|refine M.gk ?_|fail);all_goals first
  |(exfalso;simp at h;omega)
  |skip
 refine M.v4 @hx @hp1 @hp2 @hP ?_;all_goals first|exact M.n2 Ay (h8:=eG)
theorem Yfa(n:Nat)(hn:n<=3)(H:FM n)(lems:List Fm)(tys:List Ty)(hyps:List Fm)(hc:(Ck.mk lems tys hyps).ok)(hs:Am tys)(ht:tys.length<10)(hh:hyps.length<10)(d d1:Dk)(ok1:d1.ok)(k:Int)(hk:k=(n:Int)+1)
 (hx:AC E 42 [.ptr 0 0,.i 17] ⟨1,[(0,.var d.cells)]⟩ (.i 1) ⟨1,[(0,.var d1.cells)]⟩):
 Gs n lems tys hyps d k:=by
 have hb:=wr n;have hbs:=x6 n;have hbl:=F7 (show n<=4 by omega);have hl:=FX hc;obtain⟨i,d4,ok4,hi,h4⟩:=JA d1 2 ok1 dY;obtain⟨p1,d2,m1,ok2,hp1⟩:=H lems tys hyps d4 (k-1) dY ok4 hc hs;have fp1:=m1.full;obtain⟨p2,d3,m2,ok3,hp2⟩:=H lems tys hyps d2 (k-1) dY ok2 hc hs;have fp2:=m2.full;have hP:=G3 3 [p1,p2] dZ (I3 dY dY);have hm:=Made.two (k:=3) dY m1 m2;have fm:=hm.full;have hP2:=G3 (4+i) [.mk 3 0 (.mk 0 []) [] [] [p1,p2]] dZ (ve dY);refine⟨_,d3,(Made.one (k:=4+i) dY hm).up dY,ok3,?_⟩;show AW _ _ _ (Code.seq _ _) _ _ _;(repeat' first|refine M.o0 ?_|refine M.gs ?_ ?_<;>intro h|refine M.z1 3 ?_|refine M.cs ?_ ?_<;>intro h|refine M.gk ?_|fail);all_goals first
  |(exfalso;simp at h;omega)
  |skip
 refine M.v6 @hx @h4 @hp1 @hp2 @hP @hP2 ?_;all_goals first|exact M.n2 Ay (h8:=eG)
theorem Yeg(n:Nat)(hn:n<=3)(H:FM n)(lems:List Fm)(tys:List Ty)(hyps:List Fm)(hc:(Ck.mk lems tys hyps).ok)(hs:Am tys)(ht:tys.length<10)(hh:hyps.length<10)(d d1:Dk)(ok1:d1.ok)(k:Int)(hk:k=(n:Int)+1)
 (hx:AC E 42 [.ptr 0 0,.i 17] ⟨1,[(0,.var d.cells)]⟩ (.i 2) ⟨1,[(0,.var d1.cells)]⟩):
 Gs n lems tys hyps d k:=by
 have hb:=wr n;have hbs:=x6 n;have hbl:=F7 (show n<=4 by omega);have hl:=FX hc;obtain⟨f,d4,ok4,ef,of_,h4⟩:=Tq d1 tys ok1 hs hl.1;have ff:=yw ef;have hw:=Sn tys hyps f dY;obtain⟨p1,d2,m1,ok2,hp1⟩:=H lems tys (hyps++[f]) d4 (k-1) dY ok4 (hc.AH fT ef of_) hs;have fp1:=m1.full;have hI:=Qb f p1 dY dY;refine⟨_,d2,(Made.imp (ES.of ef of_ dY) m1).up dY,ok2,?_⟩;show AW _ _ _ (Code.seq _ _) _ _ _;(repeat' first|refine M.o0 ?_|refine M.gs ?_ ?_<;>intro h|refine M.z1 3 ?_|refine M.cs ?_ ?_<;>intro h|refine M.gk ?_|fail);all_goals first
  |(exfalso;simp at h;omega)
  |skip
 refine M.v5 @hx @h4 @hw @hp1 @hI ?_;all_goals first|exact M.n2 Ay (h8:=eG)
theorem Yga(n:Nat)(hn:n<=3)(H:FM n)(lems:List Fm)(tys:List Ty)(hyps:List Fm)(hc:(Ck.mk lems tys hyps).ok)(hs:Am tys)(ht:tys.length<10)(hh:hyps.length<10)(d d1:Dk)(ok1:d1.ok)(k:Int)(hk:k=(n:Int)+1)
 (hx:AC E 42 [.ptr 0 0,.i 17] ⟨1,[(0,.var d.cells)]⟩ (.i 3) ⟨1,[(0,.var d1.cells)]⟩):
 Gs n lems tys hyps d k:=by
 have hb:=wr n;have hbs:=x6 n;have hbl:=F7 (show n<=4 by omega);have hl:=FX hc;obtain⟨p1,d2,m1,ok2,hp1⟩:=H lems tys hyps d1 (k-1) dY ok1 hc hs;have fp1:=m1.full;obtain⟨x,us,e,hxe,hI⟩:=OB hc hs m1 dY;by_cases he:e=0;case neg=>
  exact j4
 subst he;obtain⟨ex,ox⟩:=hxe rfl;have fx:=yw ex;have hw:=Sn tys hyps x dY;obtain⟨p2,d3,m2,ok3,hp2⟩:=H lems tys (hyps++[x]) d2 (k-1) dY ok2 (hc.AH fT ex ox) hs;have fp2:=m2.full;have hIm:=Qb x p2 dY dY;have hm:=Made.imp (ES.of ex ox dY) m2;have fm:=hm.full;have hP:=G3 7 [.mk 6 0 (.mk 0 []) [] [x] [p2],p1] dZ (I3 dY dY);refine⟨_,d3,(Made.two (k:=7) dY hm m1).up dY,ok3,?_⟩;show AW _ _ _ (Code.seq _ _) _ _ _;(repeat' first|refine M.o0 ?_|refine M.gs ?_ ?_<;>intro h|refine M.z1 3 ?_|refine M.cs ?_ ?_<;>intro h|refine M.gk ?_|fail);all_goals first
  |(exfalso;simp at h;omega)
  |skip
 (repeat' first|refine M.w6 @hx @hp1 @hI @hw @hp2 @hIm ?_|refine M.c2 (hP) ?_|refine M.bl ?_|fail);all_goals first|exact M.n2 Ay (h8:=eG)
theorem Yg2(n:Nat)(hn:n<=3)(H:FM n)(lems:List Fm)(tys:List Ty)(hyps:List Fm)(hc:(Ck.mk lems tys hyps).ok)(hs:Am tys)(ht:tys.length<10)(hh:hyps.length<10)(d d1:Dk)(ok1:d1.ok)(k:Int)(hk:k=(n:Int)+1)
 (hx:AC E 42 [.ptr 0 0,.i 17] ⟨1,[(0,.var d.cells)]⟩ (.i 4) ⟨1,[(0,.var d1.cells)]⟩):
 Gs n lems tys hyps d k:=by
 have hb:=wr n;have hbs:=x6 n;have hbl:=F7 (show n<=4 by omega);have hl:=FX hc;obtain⟨s,d4,ok4,ss,h4⟩:=Ma d1 ok1;have es:=vb ss;have hbe:=Mm tys hyps [s] (fun f hf=>hc.hyps f hf) dY dZ dY;have hc2:(Ck.mk lems (tys++[s]) (hyps.map fun f=>f.Bi 0 [s].length)).ok:=hc.below (l:=[s]) gp (ve es);have hs2:Am (tys++[s]):=zo hs (zj ss zn);obtain⟨p1,d2,m1,ok2,hp1⟩:=H lems (tys++[s]) (hyps.map fun f=>f.Bi 0 [s].length) d4 (k-1) dY ok4 hc2 hs2;have fp1:=m1.full;have hA:=NU 8 s p1 gH dY;refine⟨_,d2,(Made.all (k:=8) dY es m1).up dY,ok2,?_⟩;show AW _ _ _ (Code.seq _ _) _ _ _;(repeat' first|refine M.o0 ?_|refine M.gs ?_ ?_<;>intro h|refine M.z1 3 ?_|refine M.cs ?_ ?_<;>intro h|refine M.gk ?_|fail);all_goals first
  |(exfalso;simp at h;omega)
  |skip
 refine M.v5 @hx @h4 @hbe @hp1 @hA ?_;all_goals first|exact M.n2 Ay (h8:=eG)
theorem Ycs(n:Nat)(hn:n<=3)(H:FM n)(lems:List Fm)(tys:List Ty)(hyps:List Fm)(hc:(Ck.mk lems tys hyps).ok)(hs:Am tys)(ht:tys.length<10)(hh:hyps.length<10)(d d1:Dk)(ok1:d1.ok)(k:Int)(hk:k=(n:Int)+1)
 (hx:AC E 42 [.ptr 0 0,.i 17] ⟨1,[(0,.var d.cells)]⟩ (.i 14) ⟨1,[(0,.var d1.cells)]⟩):
 Gs n lems tys hyps d k:=by
 have hb:=wr n;have hbs:=x6 n;have hbl:=F7 (show n<=4 by omega);have hl:=FX hc;obtain⟨s,d4,ok4,ss,h4⟩:=Ma d1 ok1;have es:=vb ss;have hbe:=Mm tys hyps [s] (fun f hf=>hc.hyps f hf) dY dZ dY;have hc2:(Ck.mk lems (tys++[s]) (hyps.map fun f=>f.Bi 0 [s].length)).ok:=hc.below (l:=[s]) gp (ve es);have hs2:Am (tys++[s]):=zo hs (zj ss zn);obtain⟨p1,d2,m1,ok2,hp1⟩:=H lems (tys++[s]) (hyps.map fun f=>f.Bi 0 [s].length) d4 (k-1) dY ok4 hc2 hs2;have fp1:=m1.full;have hA:=NU 12 s p1 gH dY;refine⟨_,d2,(Made.all (k:=12) dY es m1).up dY,ok2,?_⟩;show AW _ _ _ (Code.seq _ _) _ _ _;(repeat' first|refine M.o0 ?_|refine M.gs ?_ ?_<;>intro h|refine M.z1 3 ?_|refine M.cs ?_ ?_<;>intro h|refine M.gk ?_|fail);all_goals first
  |(exfalso;simp at h;omega)
  |skip
 refine M.v5 @hx @h4 @hbe @hp1 @hA ?_;all_goals first|exact M.n2 Ay (h8:=eG)
theorem Ygv(n:Nat)(hn:n<=3)(H:FM n)(lems:List Fm)(tys:List Ty)(hyps:List Fm)(hc:(Ck.mk lems tys hyps).ok)(hs:Am tys)(ht:tys.length<10)(hh:hyps.length<10)(d d1:Dk)(ok1:d1.ok)(k:Int)(hk:k=(n:Int)+1)
 (hx:AC E 42 [.ptr 0 0,.i 17] ⟨1,[(0,.var d.cells)]⟩ (.i 5) ⟨1,[(0,.var d1.cells)]⟩):
 Gs n lems tys hyps d k:=by
 have hb:=wr n;have hbs:=x6 n;have hbl:=F7 (show n<=4 by omega);have hl:=FX hc;obtain⟨s,d4,ok4,ss,h4⟩:=Ma d1 ok1;obtain⟨t,d5,ok5,et,it,h5⟩:=JX d4 tys s ok4 hs ss hl.1;have ti:=Ec.of et it dY;have ft:=yd et;have es:=vb ss;have hbe:=Mm tys hyps [s] (fun f hf=>hc.hyps f hf) dY dZ dY;have hc2:(Ck.mk lems (tys++[s]) (hyps.map fun f=>f.Bi 0 [s].length)).ok:=hc.below (l:=[s]) gp (ve es);have hs2:Am (tys++[s]):=zo hs (zj ss zn);obtain⟨p1,d2,m1,ok2,hp1⟩:=H lems (tys++[s]) (hyps.map fun f=>f.Bi 0 [s].length) d5 (k-1) dY ok5 hc2 hs2;have fp1:=m1.full;have hA:=NU 8 s p1 gH dY;have hm:=Made.all (k:=8) dY es m1;have fm:=hm.full;have hT:=Oy 9 t (.mk 8 0 s [] [] [p1]) dY dY;refine⟨_,d2,(Made.at_ (k:=9) dY ti hm).up dY,ok2,?_⟩;show AW _ _ _ (Code.seq _ _) _ _ _;(repeat' first|refine M.o0 ?_|refine M.gs ?_ ?_<;>intro h|refine M.z1 3 ?_|refine M.cs ?_ ?_<;>intro h|refine M.gk ?_|fail);all_goals first
  |(exfalso;simp at h;omega)
  |skip
 (repeat' first|refine M.w6 @hx @h4 @h5 @hbe @hp1 @hA ?_|refine M.c2 (hT) ?_|refine M.bl ?_|fail);all_goals first|exact M.n2 Ay (h8:=eG)
theorem Ycj(n:Nat)(hn:n<=3)(H:FM n)(lems:List Fm)(tys:List Ty)(hyps:List Fm)(hc:(Ck.mk lems tys hyps).ok)(hs:Am tys)(ht:tys.length<10)(hh:hyps.length<10)(d d1:Dk)(ok1:d1.ok)(k:Int)(hk:k=(n:Int)+1)
 (hx:AC E 42 [.ptr 0 0,.i 17] ⟨1,[(0,.var d.cells)]⟩ (.i 15) ⟨1,[(0,.var d1.cells)]⟩):
 Gs n lems tys hyps d k:=by
 have hb:=wr n;have hbs:=x6 n;have hbl:=F7 (show n<=4 by omega);have hl:=FX hc;obtain⟨s,d4,ok4,ss,h4⟩:=Ma d1 ok1;obtain⟨t,d5,ok5,et,it,h5⟩:=JX d4 tys s ok4 hs ss hl.1;have ti:=Ec.of et it dY;have ft:=yd et;have es:=vb ss;have hbe:=Mm tys hyps [s] (fun f hf=>hc.hyps f hf) dY dZ dY;have hc2:(Ck.mk lems (tys++[s]) (hyps.map fun f=>f.Bi 0 [s].length)).ok:=hc.below (l:=[s]) gp (ve es);have hs2:Am (tys++[s]):=zo hs (zj ss zn);obtain⟨p1,d2,m1,ok2,hp1⟩:=H lems (tys++[s]) (hyps.map fun f=>f.Bi 0 [s].length) d5 (k-1) dY ok5 hc2 hs2;have fp1:=m1.full;have hA:=NU 12 s p1 gH dY;have hm:=Made.all (k:=12) dY es m1;have fm:=hm.full;have hT:=Oy 13 t (.mk 12 0 s [] [] [p1]) dY dY;refine⟨_,d2,(Made.at_ (k:=13) dY ti hm).up dY,ok2,?_⟩;show AW _ _ _ (Code.seq _ _) _ _ _;(repeat' first|refine M.o0 ?_|refine M.gs ?_ ?_<;>intro h|refine M.z1 3 ?_|refine M.cs ?_ ?_<;>intro h|refine M.gk ?_|fail);all_goals first
  |(exfalso;simp at h;omega)
  |skip
 (repeat' first|refine M.w6 @hx @h4 @h5 @hbe @hp1 @hA ?_|refine M.c2 (hT) ?_|refine M.bl ?_|fail);all_goals first|exact M.n2 Ay (h8:=eG)
theorem Yg6(n:Nat)(hn:n<=3)(H:FM n)(lems:List Fm)(tys:List Ty)(hyps:List Fm)(hc:(Ck.mk lems tys hyps).ok)(hs:Am tys)(ht:tys.length<10)(hh:hyps.length<10)(d d1:Dk)(ok1:d1.ok)(k:Int)(hk:k=(n:Int)+1)
 (hx:AC E 42 [.ptr 0 0,.i 17] ⟨1,[(0,.var d.cells)]⟩ (.i 6) ⟨1,[(0,.var d1.cells)]⟩):
 Gs n lems tys hyps d k:=by
 have hb:=wr n;have hbs:=x6 n;have hbl:=F7 (show n<=4 by omega);have hl:=FX hc;obtain⟨t,d4,ok4,et,it,h4⟩:∃(t:Tm) (d':Dk),d'.ok/\(t.err=0/\t.size<=60)/\t.inf tys=(Ae,0)/\AC E 12 [.ptr 0 0,.s .ty tys,.agg Ae.view,.i 1] ⟨1,[(0,.var d1.cells)]⟩ (.agg t.view) ⟨1,[(0,.var d'.cells)]⟩:=
  ⟨_,_,Dk.C5 3 d1 tys Ae ok1,⟨(JR d1 hs).1.err,(JR d1 hs).2⟩,(JR d1 hs).1.inf,JV 3 dY d1 tys Ae 1 dY ok1 hs zi dY dY dY⟩
 have tz:=et.2;have et:=et.1;have ti:=Ec.of et it dY;have ft:=yd et;obtain⟨i,d5,ok5,hi,h5⟩:=JA d4 2 ok4 dY;have hF:=Tf et it dY;obtain⟨ee,oe⟩:=Ui et it dY;have hR:=u9 t dY;have h6:=E7 0;have fe:=yw ee;have lf:=KE 0 1 t 0 ti.1;have hmr:=Made.ref ti;have fmr:=hmr.full;generalize t.re (z8 0 1) 0=u at*;have h7:=HW u (vT 0) dY ej;have hsz:=((Fm.Ad _).1 ee);rcases(show i=0\/i=1 by omega) with rfl|rfl
 .have hf:=KI (k:=5) (.inl rfl) zi hsz.1 dY oe dY;have ff:=hf.2.2;have h8:=G9 5 Ae (Bv u (vT 0)) ej dY;have h9:=Ln 10 (BK 5 Ae (Bv u (vT 0))) t (.mk 18 0 (.mk 0 []) [t] [] []) dY dY dY;refine⟨_,d5,(Made.ex (k:=10) dY hf ti hmr).up dY,ok5,?_⟩;show AW _ _ _ (Code.seq _ _) _ _ _;(repeat' first|refine M.o0 ?_|refine M.gs ?_ ?_<;>intro h|refine M.z1 3 ?_|refine M.cs ?_ ?_<;>intro h|refine M.gk ?_|fail);all_goals first
   |(exfalso;simp at h;omega)
   |skip
  (repeat' first|refine M.w6 @hx @h4 @h5 @hF @h6 @h7 ?_|refine M.c2 (h8) ?_|refine M.c2 (hR) ?_|refine M.c2 (h9) ?_|refine M.bl ?_|fail);all_goals first|exact M.n2 Ay (h8:=eG)
 .have hf:=KI (k:=7) (.inr rfl) zi hsz.1 dY oe dY;have ff:=hf.2.2;have h8:=G9 7 Ae (Bv u (vT 0)) ej dY;have h9:=Ln 14 (BK 7 Ae (Bv u (vT 0))) t (.mk 18 0 (.mk 0 []) [t] [] []) dY dY dY;refine⟨_,d5,(Made.ex (k:=14) dY hf ti hmr).up dY,ok5,?_⟩;show AW _ _ _ (Code.seq _ _) _ _ _;(repeat' first|refine M.o0 ?_|refine M.gs ?_ ?_<;>intro h|refine M.z1 3 ?_|refine M.cs ?_ ?_<;>intro h|refine M.gk ?_|fail);all_goals first
   |(exfalso;simp at h;omega)
   |skip
  (repeat' first|refine M.w6 @hx @h4 @h5 @hF @h6 @h7 ?_|refine M.c2 (h8) ?_|refine M.c2 (hR) ?_|refine M.c2 (h9) ?_|refine M.bl ?_|fail);all_goals first|exact M.n2 Ay (h8:=eG)
theorem Yen(n:Nat)(hn:n<=3)(H:FM n)(lems:List Fm)(tys:List Ty)(hyps:List Fm)(hc:(Ck.mk lems tys hyps).ok)(hs:Am tys)(ht:tys.length<10)(hh:hyps.length<10)(d d1:Dk)(ok1:d1.ok)(k:Int)(hk:k=(n:Int)+1)
 (hx:AC E 42 [.ptr 0 0,.i 17] ⟨1,[(0,.var d.cells)]⟩ (.i 7) ⟨1,[(0,.var d1.cells)]⟩):
 Gs n lems tys hyps d k:=by
 have hb:=wr n;have hbs:=x6 n;have hbl:=F7 (show n<=4 by omega);have hl:=FX hc;obtain⟨p1,d2,m1,ok2,hp1⟩:=H lems tys hyps d1 (k-1) dY ok1 hc hs;have fp1:=m1.full;obtain⟨x,us,e,hxe,hI⟩:=OB hc hs m1 dY;by_cases he:e=0;case neg=>
  exact j4
 subst he;obtain⟨ex,ox⟩:=hxe rfl;have fx:=yw ex;have hU:=GZ ox ((Fm.Ad _).1 ex).1 iX dY 0 1 dY dY;have fl:=Ob x 0 1;have sl:=RI ex;obtain⟨s,d4,ok4,ss,h4⟩:=Ma d2 ok2;obtain⟨i,d5,ok5,hi,h5⟩:=JA d4 2 ok4 dY;obtain⟨t,d6,ok6,et,it,h6⟩:=JX d5 tys s ok5 hs ss hl.1;have ti:=Ec.of et it dY;have ft:=yd et;have ox2:=SE ex ox s;have es:=Ll (vb ss);generalize x.Bi 0 1=y at*;rcases(show i=0\/i=1 by omega) with rfl|rfl
 .have hf:=KI (k:=5) (.inl rfl) ss sl.1 dY ox2 dY;have ff:=hf.2.2;have h8:=G9 5 s y dY dY;have h9:=Ln 10 (BK 5 s y) t p1 dY dY dY;refine⟨_,d6,(Made.ex (k:=10) dY hf ti m1).up dY,ok6,?_⟩;show AW _ _ _ (Code.seq _ _) _ _ _;(repeat' first|refine M.o0 ?_|refine M.gs ?_ ?_<;>intro h|refine M.z1 3 ?_|refine M.cs ?_ ?_<;>intro h|refine M.gk ?_|fail);all_goals first
   |(exfalso;simp at h;omega)
   |skip
  (repeat' first|refine M.w6 @hx @hp1 @hI @h4 @h5 @hU ?_|refine M.c2 (h8) ?_|refine M.cb (h6) [0] 0 ?_|refine M.c2 (h9) ?_|refine M.bl ?_|fail);all_goals first|exact M.n2 Ay (h8:=eG)
 .have hf:=KI (k:=7) (.inr rfl) ss sl.1 dY ox2 dY;have ff:=hf.2.2;have h8:=G9 7 s y dY dY;have h9:=Ln 14 (BK 7 s y) t p1 dY dY dY;refine⟨_,d6,(Made.ex (k:=14) dY hf ti m1).up dY,ok6,?_⟩;show AW _ _ _ (Code.seq _ _) _ _ _;(repeat' first|refine M.o0 ?_|refine M.gs ?_ ?_<;>intro h|refine M.z1 3 ?_|refine M.cs ?_ ?_<;>intro h|refine M.gk ?_|fail);all_goals first
   |(exfalso;simp at h;omega)
   |skip
  (repeat' first|refine M.w6 @hx @hp1 @hI @h4 @h5 @hU ?_|refine M.c2 (h8) ?_|refine M.cb (h6) [0] 0 ?_|refine M.c2 (h9) ?_|refine M.bl ?_|fail);all_goals first|exact M.n2 Ay (h8:=eG)
theorem Yfr(n:Nat)(hn:n<=3)(H:FM n)(lems:List Fm)(tys:List Ty)(hyps:List Fm)(hc:(Ck.mk lems tys hyps).ok)(hs:Am tys)(ht:tys.length<10)(hh:hyps.length<10)(d d1:Dk)(ok1:d1.ok)(k:Int)(hk:k=(n:Int)+1)
 (hx:AC E 42 [.ptr 0 0,.i 17] ⟨1,[(0,.var d.cells)]⟩ (.i 9) ⟨1,[(0,.var d1.cells)]⟩):
 Gs n lems tys hyps d k:=by
 have hb:=wr n;have hbs:=x6 n;have hbl:=F7 (show n<=4 by omega);have hl:=FX hc;obtain⟨p1,d2,m1,ok2,hp1⟩:=H lems tys hyps d1 (k-1) dY ok1 hc hs;have fp1:=m1.full;obtain⟨x,us,e,hxe,hI⟩:=OB hc hs m1 dY;by_cases he:e=0;case neg=>
  exact j4
 subst he;obtain⟨ex,ox⟩:=hxe rfl;have fx:=yw ex;have hU:=GZ ox ((Fm.Ad _).1 ex).1 iX dY 0 1 dY dY;have fl:=Ob x 0 1;have sl:=RI ex;obtain⟨t,d6,ok6,et,it,h6⟩:=JX d2 tys Ae ok2 hs zi hl.1;have ti:=Ec.of et it dY;have ft:=yd et;have hf:=MK ex ox Ae dY;generalize x.Bi 0 1=y at*;have hy:=Ow 0;have mh:Made 10 (x8 0):=Made.hyp dY;have fh:=mh.full;have hli:=Ga;have h9:=Ry 16 y t p1 (x8 0) dY dY dY dY;refine⟨_,d6,(Made.ind (k:=16) dY hf ti m1 mh).up dY,ok6,?_⟩;show AW _ _ _ (Code.seq _ _) _ _ _;(repeat' first|refine M.o0 ?_|refine M.gs ?_ ?_<;>intro h|refine M.z1 3 ?_|refine M.cs ?_ ?_<;>intro h|refine M.gk ?_|fail);all_goals first
  |(exfalso;simp at h;omega)
  |skip
 (repeat' first|refine M.w6 @hx @hp1 @hI @hU @h6 @hy ?_|refine M.c2 (h9) ?_|refine M.bl ?_|fail);all_goals first|exact M.n2 Ay (h8:=eG)
theorem Zzp(n:Nat)(hn:n<=3)(H:FM n)(lems:List Fm)(tys:List Ty)(hyps:List Fm)(hc:(Ck.mk lems tys hyps).ok)(hs:Am tys)(ht:tys.length<10)(hh:hyps.length<10)(d d1:Dk)(ok1:d1.ok)(k:Int)(hk:k=(n:Int)+1)
 (hx:AC E 42 [.ptr 0 0,.i 17] ⟨1,[(0,.var d.cells)]⟩ (.i 10) ⟨1,[(0,.var d1.cells)]⟩):
 Gs n lems tys hyps d k:=by
 have hb:=wr n;have hbs:=x6 n;have hbl:=F7 (show n<=4 by omega);have hl:=FX hc;obtain⟨p1,d2,m1,ok2,hp1⟩:=H lems tys hyps d1 (k-1) dY ok1 hc hs;have fp1:=m1.full;obtain⟨x,us,e,hxe,hI⟩:=OB hc hs m1 dY;by_cases he:e=0;case neg=>
  exact j4
 subst he;obtain⟨ex,ox⟩:=hxe rfl;have fx:=yw ex;have hU:=GZ ox ((Fm.Ad _).1 ex).1 iX dY 0 1 dY dY;have fl:=Ob x 0 1;have sl:=RI ex;obtain⟨t,d6,ok6,et,it,h6⟩:=JX d2 tys Ao ok2 hs y8 hl.1;have ti:=Ec.of et it dY;have ft:=yd et;have hf:=MK ex ox Ae dY;generalize x.Bi 0 1=y at*;have hy:=Ow 0;have mh:Made 10 (x8 0):=Made.hyp dY;have fh:=mh.full;have hli:=Ga;have h9:=Ry 17 y t p1 (x8 0) dY dY dY dY;refine⟨_,d6,(Made.ind (k:=17) dY hf ti m1 mh).up dY,ok6,?_⟩;show AW _ _ _ (Code.seq _ _) _ _ _;(repeat' first|refine M.o0 ?_|refine M.gs ?_ ?_<;>intro h|refine M.z1 3 ?_|refine M.cs ?_ ?_<;>intro h|refine M.gk ?_|fail);all_goals first
  |(exfalso;simp at h;omega)
  |skip
 (repeat' first|refine M.w6 @hx @hp1 @hI @hU @hli @h6 ?_|refine M.c2 (hy) ?_|refine M.c2 (h9) ?_|refine M.bl ?_|fail);all_goals first|exact M.n2 Ay (h8:=eG)
theorem Ybg(n:Nat)(hn:n<=3)(H:FM n)(lems:List Fm)(tys:List Ty)(hyps:List Fm)(hc:(Ck.mk lems tys hyps).ok)(hs:Am tys)(ht:tys.length<10)(hh:hyps.length<10)(d d1:Dk)(ok1:d1.ok)(k:Int)(hk:k=(n:Int)+1)
 (hx:AC E 42 [.ptr 0 0,.i 17] ⟨1,[(0,.var d.cells)]⟩ (.i 11) ⟨1,[(0,.var d1.cells)]⟩):
 Gs n lems tys hyps d k:=by
 have hb:=wr n;have hbs:=x6 n;have hbl:=F7 (show n<=4 by omega);have hl:=FX hc;obtain⟨t,d4,ok4,et,it,h4⟩:=JX d1 tys Ae ok1 hs zi hl.1;have ti:=Ec.of et it dY;have ft:=yd et;have h5:=Ygq t dY;have mz:Made 2000000 (PL t):=by
  have s1:Made 700000 CW:=(Made.sub (f:=Bv (Bd (Hw.re (z8 0 1) 0) (Db.re (z8 0 1) 0)) (Bd (Hw.re (z8 0 1) 0) (vT 0))) (YB _ eN eN eN) (Made.hyp (i:=0) dY) (Made.ref (t:=Bd Hw Db) (MY _ eN eN eN))).up dY;exact(Made.ind (k:=16) dY (f:=Bv Db (vT 0)) (t:=t) (YB _ eN eN eN) ti (Made.ref (MY zT ej ej ej)) s1).up dY
 refine⟨_,d4,mz.up dY,ok4,?_⟩;unfold PL at h5 ⊢;show AW _ _ _ (Code.seq _ _) _ _ _;(repeat' first|refine M.o0 ?_|refine M.gs ?_ ?_<;>intro h|refine M.z1 3 ?_|refine M.cs ?_ ?_<;>intro h|refine M.gk ?_|fail);all_goals first
  |(exfalso;simp at h;omega)
  |skip
 refine M.v3 @hx @h4 @h5 ?_;all_goals first|exact M.n2 Ay (h8:=eG)
theorem Ybk(n:Nat)(hn:n<=3)(H:FM n)(lems:List Fm)(tys:List Ty)(hyps:List Fm)(hc:(Ck.mk lems tys hyps).ok)(hs:Am tys)(ht:tys.length<10)(hh:hyps.length<10)(d d1:Dk)(ok1:d1.ok)(k:Int)(hk:k=(n:Int)+1)
 (hx:AC E 42 [.ptr 0 0,.i 17] ⟨1,[(0,.var d.cells)]⟩ (.i 12) ⟨1,[(0,.var d1.cells)]⟩):
 Gs n lems tys hyps d k:=by
 have hb:=wr n;have hbs:=x6 n;have hbl:=F7 (show n<=4 by omega);have hl:=FX hc;obtain⟨t,d4,ok4,et,it,h4⟩:=JX d1 tys Ae ok1 hs zi hl.1;have ti:=Ec.of et it dY;have ft:=yd et;obtain⟨u,d5,ok5,eu,zu,iu,h5⟩:=QG d4 tys ok4 hs hl.1;have fu6:=Mx u ((Tm.Ad u).1 eu).1;have ui:=Ec.of eu iu dY;have fu:=yd eu;have hF:=Tf eu iu dY;obtain⟨l1,l2,l3⟩:=Zi eu iu;have lf:=KE 0 1 u 0 ui.1;have hsz:=((Tm.Ad _).1 eu);have hf:ES (Bv (u.re (z8 0 1) 0) (u.re (z8 0 1) 0)):=by
  have h1:=KO l2 l2;refine⟨h1,fun q hq r hr=> ?_,by rw[Pu];omega⟩;have:=Tz _ _ 0 h1 (DE.2 ⟨l1,l1⟩) q hq r hr;rw[K6,l3] at this;simp only[ZR,bg] at this;omega
 generalize u.re (z8 0 1) 0=w at*;have h6:=HW w w dY dY;have h7:=u9 t dY;have h8:=u9 u dY;have m1:=Made.ref ti;have m2:=Made.ref ui;have f1:=m1.full;have f2:=m2.full;have ff:=hf.2.2;have h9:=WI (Bv w w) (.mk 18 0 (.mk 0 []) [t] [] []) (.mk 18 0 (.mk 0 []) [u] [] []) dY dY dY;refine⟨_,d5,(Made.sub hf m1 m2).up dY,ok5,?_⟩;show AW _ _ _ (Code.seq _ _) _ _ _;(repeat' first|refine M.o0 ?_|refine M.gs ?_ ?_<;>intro h|refine M.z1 3 ?_|refine M.cs ?_ ?_<;>intro h|refine M.gk ?_|fail);all_goals first
  |(exfalso;simp at h;omega)
  |skip
 (repeat' first|refine M.w6 @hx @h4 @h5 @hF @h6 @h7 ?_|refine M.c2 (h8) ?_|refine M.c2 (h9) ?_|refine M.bl ?_|fail);all_goals first|exact M.n2 Ay (h8:=eG)
theorem Yb3(n:Nat)(hn:n<=3)(H:FM n)(lems:List Fm)(tys:List Ty)(hyps:List Fm)(hc:(Ck.mk lems tys hyps).ok)(hs:Am tys)(ht:tys.length<10)(hh:hyps.length<10)(d d1:Dk)(ok1:d1.ok)(k:Int)(hk:k=(n:Int)+1)
 (hx:AC E 42 [.ptr 0 0,.i 17] ⟨1,[(0,.var d.cells)]⟩ (.i 13) ⟨1,[(0,.var d1.cells)]⟩):
 Gs n lems tys hyps d k:=by
 have hb:=wr n;have hbs:=x6 n;have hbl:=F7 (show n<=4 by omega);have hl:=FX hc;obtain⟨s,d4,ok4,ss,h4⟩:=Ug d1 ok1;have es:=vb ss;have hbe:=Mm tys hyps [s] (fun f hf=>hc.hyps f hf) dY dZ dY;have hc2:(Ck.mk lems (tys++[s]) (hyps.map fun f=>f.Bi 0 [s].length)).ok:=hc.below (l:=[s]) gp (ve es);have hs2:Am (tys++[s]):=zo hs (zj ss zn);have hl2:(tys++[s]).length<=16:=eB
 have h5:=(Wa d4 ok4 (tys++[s]) (hyps.map fun f=>f.Bi 0 [s].length) hs2 hl2).2;have mn:=(JR d4 hs2);have ok5:=Dk.C5 3 d4 (tys++[s]) Ae ok4;generalize Dk.tm 3 d4 (tys++[s]) Ae=T at*;obtain⟨t,d5⟩:=T;simp only at mn ok5;have ti:=Ec.of mn.1.err mn.1.inf dY;obtain⟨ee,oe⟩:=Ui mn.1.err mn.1.inf dY;have hsz:=((Fm.Ad _).1 ee);have hf:=KI (k:=5) (.inl rfl) zi hsz.1 dY oe dY;have m1:Made 1000000 (MP (KM t) t (ub t)):=(Made.ex (k:=10) dY hf ti (Made.ref ti)).up dY;have f1:=m1.full;unfold MP at h5 m1 f1;have hA:=NU 8 s (.mk 10 0 (.mk 0 []) [t] [KM t] [ub t]) gH dY;have m2:=Made.all (k:=8) dY es m1;have f2:=m2.full;have hP:=G3 20 [.mk 8 0 s [] [] [.mk 10 0 (.mk 0 []) [t] [KM t] [ub t]]] dZ (ve dY);refine⟨_,d5,(Made.one (k:=20) dY m2).up dY,ok5,?_⟩;show AW _ _ _ (Code.seq _ _) _ _ _;(repeat' first|refine M.o0 ?_|refine M.gs ?_ ?_<;>intro h|refine M.z1 3 ?_|refine M.cs ?_ ?_<;>intro h|refine M.gk ?_|fail);all_goals first
  |(exfalso;simp at h;omega)
  |skip
 refine M.v6 @hx @h4 @hbe @h5 @hA @hP ?_;all_goals first|exact M.n2 Ay (h8:=eG)
end Go.Ab
