/- A part of this seat's proofs. No conditions. -/
import Derived.Test.YtmhcohcihajegaaGreatDoorCS1
namespace Go.Ab
open Go Go.Proofs
set_option maxRecDepth 100000
set_option linter.all false
theorem Fg(i:Int):PC E 62 [.i i] (.agg (Tm.mk 1 i (.mk 0 []) []).view):=by
 refine M.F Tryz.func62 ?_;refine M.w0 ?_;simp[zn,V.wk,V.Ar,za,Ty.view,Tm.view]
theorem TW(i:Int):PC E 181 [.i i] (.agg (Tm.mk 1 i (.mk 0 []) []).view):=by
 refine M.F Tryz.func181 ?_;refine M.w0 ?_;simp[zn,V.wk,V.Ar,za,Ty.view,Tm.view]
theorem DR:PC E 52 [] (.agg (Ty.mk 1 []).view):=by
 refine M.F Tryz.func52 ?_;refine M.w0 ?_;simp[zn,V.wk,V.Ar,za,Ty.view,Tm.view]
theorem Gu:PC E 65 [] (.agg (Ty.mk 2 []).view):=by
 refine M.F Tryz.func65 ?_;refine M.w0 ?_;simp[zn,V.wk,V.Ar,za,Ty.view,Tm.view]
theorem VS:PC E 114 [] (.agg (Ty.mk 5 []).view):=by
 refine M.F Tryz.func114 ?_;refine M.w0 ?_;simp[zn,V.wk,V.Ar,za,Ty.view,Tm.view]
theorem cF(x y:Ty)(hx:x.size<1099511627776)(hy:y.size<1099511627776):PC E 115 [.agg x.view,.agg y.view] (.agg (Ty.mk 3 [x,y]).view):=by
 have h1:=uh _ x (fB _) hx;have h2:=uh _ y (fB _) hy;refine M.F Tryz.func115 ?_;refine M.w2 @h1 @h2 ?_;simp[zn,V.wk,V.Ar,za,Ty.view,Tm.view]
theorem L5(x y:Ty)(hx:x.size<1099511627776)(hy:y.size<1099511627776):PC E 116 [.agg x.view,.agg y.view] (.agg (Ty.mk 4 [x,y]).view):=by
 have h1:=uh _ x (fB _) hx;have h2:=uh _ y (fB _) hy;refine M.F Tryz.func116 ?_;refine M.w2 @h1 @h2 ?_;simp[zn,V.wk,V.Ar,za,Ty.view,Tm.view]
theorem Vh(t:Ty):PC E 200 [.agg t.view] (.bool t.Bv):=by
 refine M.F Tryz.func200 ?_;(repeat' first|refine M.w0 ?_|refine M.gs ?_ ?_<;>intro h|fail);all_goals simp_all[zn,V.wk,V.Ar,za,Ty.Bv]
 rw[ig];simp
theorem Ymk(k:Int):PC E 245 [.i k] (.bool (x9 k)):=by
 refine M.F Tryz.func245 ?_;(repeat' first|refine M.w0 ?_|refine M.gs ?_ ?_<;>intro h|fail);all_goals simp_all[zn,V.wk,V.Ar,za,x9]
theorem ZM(n:Int):PC E 232 [.i n] (.bool (decide (0<=n/\n<=4096))):=by
 refine M.F Tryz.func232 ?_;(repeat' first|refine M.w0 ?_|refine M.gs ?_ ?_<;>intro h|fail);all_goals simp_all[zn,V.wk,V.Ar,za]
 omega
theorem Vk(t:Ty)(ht:t.size<1099511627776):PC E 199 [.agg t.view] (.AP [.i t.num,.i t.err]):=by
 have h1:=Zsh _ t (fB _) ht;refine M.F Tryz.func199 ?_;(repeat' first|refine M.w1 @h1 ?_|refine M.zb ?_|refine M.cs ?_ ?_<;>intro h|fail);all_goals simp_all[zn,V.wk,V.Ar,za,Ty.num,Ty.err,Ty.nodes]
 all_goals(first|omega|(split<;>first|omega|simp_all))
theorem Yke(k:Int):PC E 244 [.i k] (.AP [.i ((CV k).getD 0),.bool (CV k).isSome]):=by
 refine M.F Tryz.func244 ?_;(repeat' first|refine M.w0 ?_|refine M.gs ?_ ?_<;>intro h|refine M.cs ?_ ?_<;>intro h|fail)
 .exact rZ
 .exact rZ
 .rename_i h0;simp at h h0;have:k=1\/k=2\/k=3\/k=4\/k=5\/k=6\/k=7\/k=8\/k=9\/k=10\/k=11\/k=12\/k=13:=kn
  rcases this with rfl|rfl|rfl|rfl|rfl|rfl|rfl|rfl|rfl|rfl|rfl|rfl|rfl
  .refine L.Dq 1 rfl rfl rfl rfl rfl ?_ ?_ rfl ?_
   .decide
   .decide
   refine M.w0 ?_
   rfl
  .refine L.Dq 2 rfl rfl rfl rfl rfl ?_ ?_ rfl ?_
   .decide
   .decide
   refine M.w0 ?_
   rfl
  .refine L.Dq 3 rfl rfl rfl rfl rfl ?_ ?_ rfl ?_
   .decide
   .decide
   refine M.w0 ?_
   rfl
  .refine L.Dq 4 rfl rfl rfl rfl rfl ?_ ?_ rfl ?_
   .decide
   .decide
   refine M.w0 ?_
   rfl
  .refine L.Dq 5 rfl rfl rfl rfl rfl ?_ ?_ rfl ?_
   .decide
   .decide
   refine M.w0 ?_
   rfl
  .refine L.Dq 6 rfl rfl rfl rfl rfl ?_ ?_ rfl ?_
   .decide
   .decide
   refine M.w0 ?_
   rfl
  .refine L.Dq 7 rfl rfl rfl rfl rfl ?_ ?_ rfl ?_
   .decide
   .decide
   refine M.w0 ?_
   rfl
  .refine L.Dq 8 rfl rfl rfl rfl rfl ?_ ?_ rfl ?_
   .decide
   .decide
   refine M.w0 ?_
   rfl
  .refine L.Dq 9 rfl rfl rfl rfl rfl ?_ ?_ rfl ?_
   .decide
   .decide
   refine M.w0 ?_
   rfl
  .refine L.Dq 10 rfl rfl rfl rfl rfl ?_ ?_ rfl ?_
   .decide
   .decide
   refine M.w0 ?_
   rfl
  .refine L.Dq 11 rfl rfl rfl rfl rfl ?_ ?_ rfl ?_
   .decide
   .decide
   refine M.w0 ?_
   rfl
  .refine L.Dq 12 rfl rfl rfl rfl rfl ?_ ?_ rfl ?_
   .decide
   .decide
   refine M.w0 ?_
   rfl
  .refine L.Dq 13 rfl rfl rfl rfl rfl ?_ ?_ rfl ?_
   .decide
   .decide
   refine M.w0 ?_
   rfl
end Go.Ab
namespace Go.Ab
open Go Go.Proofs
set_option maxRecDepth 100000
set_option maxHeartbeats 4000000
set_option linter.all false
theorem Kp:∀(b:Nat) (t:Tm),t.full<=b->b<1099511627776->PC E 86 [.agg t.view] (.agg t.view):=by
 intro b;induction b with
 |zero=>intro t h;have:=t.Ad;omega
 |succ b ih=>
 intro t hsz hb;have hsz':=Tm.Ag t;have hlen:=ze Tm.full Tm.Ad t.args;have hty:=uh _ t.ty (fB _) kn;refine M.F Tryz.func86 ?_;refine M.w0 ?_;refine M.rt t.args.length
  (fun m=>([(1,.ptr 0 0),(2,.ptr 1 0),(3,.slice (.own 2) (.t .tm (t.args.take m))),(7,.s .tm t.args),(8,.i t.args.length),(9,.i m)],⟨3,[(0,.var t.view),(1,.var [.i 0,.i 0,.i 0,.slice .nil (.t .ty []),.slice .nil (.t .tm [])]),(2,.row)]⟩))
  (M.W RG) ?_ ?_
 .intro m hm hP;have hs2:=zc Tm.full (fA hm);(repeat' first|refine M.w0 ?_|refine M.c2 (ih _ ?_ ?_) ?_|exact M.le|exact M.lt|fail);exact⟨rfl,trivial,(M.W [some 0,some 1,some 4] (hf:=(by(repeat'(first|exact trivial|refine And.intro ?_ ?_|refine⟨_,U,_,U,?_⟩|exact Ap.refl _|exact Ap.of_eq kQ));done)))⟩
 .intro hP;refine M.w1 @hty ?_;simp[zn,V.wk,V.Ar,za,Ty.view,Tm.view]
theorem Dj(k:Int)(l:List Tm)(hl:(l.map Tm.full).sum<1099511627776):PC E 37 [.i k,.s .tm l] (.agg (Tm.mk k 0 (.mk 0 []) l).view):=by
 have hlen:=ze Tm.full Tm.Ad l;refine M.F Tryz.func37 ?_;refine M.w0 ?_;refine M.rt l.length
  (fun m=>([(0,.i k),(4,.ptr 0 0),(5,.slice (.own 1) (.t .tm (l.take m))),(8,.s .tm l),(9,.i l.length),(10,.i m)],⟨2,[(0,.var [.i 0,.i 0,.i 0,.slice .nil (.t .ty []),.slice .nil (.t .tm [])]),(1,.row)]⟩))
  (M.W Rb) ?_ ?_
 .intro m hm hP;have hs2:=zc Tm.full (fA hm);(repeat' first|refine M.w0 ?_|refine M.c2 (Kp _ _ (fB _) ?_) ?_|exact M.lt|fail);exact⟨rfl,trivial,(M.W [some 0,some 3] (hf:=(by(repeat'(first|exact trivial|refine And.intro ?_ ?_|refine⟨_,U,_,U,?_⟩|exact Ap.refl _|exact Ap.of_eq kQ));done)))⟩
 .exact qJ
theorem G9(k:Int)(s:Ty)(l:List Tm)(hl:(l.map Tm.full).sum<1099511627776)(hs:s.size<1099511627776):PC E 96 [.i k,.agg s.view,.s .tm l] (.agg (Tm.mk k 0 s l).view):=by
 have h1:=Dj k l hl;have h2:=uh _ s (fB _) hs;refine M.F Tryz.func96 ?_;refine M.w2 @h1 @h2 ?_;simp[zn,V.wk,V.Ar,za,Ty.view,Tm.view]
theorem Ty.Fq(t:Ty):t.ok=(t.err==0):=by
 simp only[Ty.ok,Ty.err];cases t.shape
 .simp
 .by_cases h:t.size<=64
  .have:¬t.size>64:=kn
   simp[h,this]
  .have:t.size>64:=kn
   simp[h,this]
theorem Tm.He(t:Tm):t.head=(!(!(CV t.kind).isSome)&& !((t.args.length:Int) !=(((CV t.kind).getD 0:Nat):Int))&& !decide (t.index<0)&&(!(t.index !=0)|| !(t.kind !=1))&&(bif x9 t.kind then !(t.ty.err !=0) else !(!t.ty.Bv))):=by
 simp only[Tm.head,Ty.Fq];cases hk:CV t.kind with
 |none=>simp
 |some n=>
  have h1:(t.args.length==n)= !((t.args.length:Int) !=((n:Nat):Int)):=m6
  have h2:decide (0<=t.index)= !decide (t.index<0):=by rw[ig];simp
  simp[h1,h2,bne]
theorem eR:∀(b:Nat) (t:Tm),t.full<=b->b<1099511627776->PC E 222 [.agg t.view] (LN t):=by
 intro b;induction b with
 |zero=>intro t h;have:=t.Ad;omega
 |succ b ih=>
 intro t hsz hb;have hsz':=Tm.Ag t;have hszz:=Tm.size_eq t;have hle:=Tm.An t;have hlen:=ze Tm.full Tm.Ad t.args;have hsh:=Tm.Ak t;have h1:=Yke t.kind;have h2:=Ymk t.kind;have h3:=Vh t.ty;have h4:=Vk t.ty kn;have bad:t.shape=false->(V.AP [.i 0,.bool false])=LN t:=fun h=>by simp[LN,Tm.nodes,h]
 refine M.F Tryz.func222 ?_;(repeat' first|refine M.w4 @h1 @h2 @h3 @h4 ?_|refine M.gs ?_ ?_<;>intro h|refine M.cs ?_ ?_<;>intro h|fail);all_goals first
  |(have hd:t.head=false:=by rw[t.He];simp_all
    have:t.shape=false:=by rw[hsh,hd,iz]
    simp[Tm.nodes,this,zn,za,V.wk,V.Ar];done)
  |(have hd:t.head=true:=by rw[t.He];simp_all
    refine M.rp t.args.length (fun m=>∀j (hj:j<t.args.length),j<m->(t.args[j]).shape=true)
     (fun m=>([(1,.ptr 0 0),(8,.i (1+((t.args.take m).map Tm.size).sum)),(59,.s .tm t.args),(60,.i t.args.length),(61,.i m)],⟨1,[(0,.var t.view)]⟩))
     lI (M.W AJ) ?_ ?_
    .intro m hm hP;have hs1:=yz Tm.size t.args m hm;have hs2:=zc Tm.full (fA hm);have hs3:=zw Tm.size t.args (m+1);have hs4:=Tm.Ep t.args[m];have hs5:=Tm.An t.args[m];(repeat' first|refine M.w0 ?_|refine M.c2 (ih _ ?_ ?_) ?_|refine M.cs ?_ ?_<;>intro h|exact M.le|exact M.lt|fail)
     .have h1:(t.args[m]).shape=false:=ku
      have:t.shape=false:=by rw[hsh,u2 Tm.shape hm h1,jF]
      simp[Tm.nodes,this,zn,za,V.wk,V.Ar]
     .have hh:(t.args[m]).shape=true:=ku
      refine⟨rfl,ym (p:=fun t=>Tm.shape t=true) hm hP hh,?_⟩;have e:(1+((((t.args.take (m+1)).map Tm.size).sum:Nat):Int))=1+(((t.args.take m).map Tm.size).sum:Nat)+t.args[m].nodes:=by simp only[Tm.nodes,hh,hs1];simp;omega
      simp only[e];exact(M.W AJ)
    .intro hP;have:t.shape=true:=oH
     refine M.w0 ?_;simp[Tm.nodes,this,zn,za,hszz,V.wk,V.Ar])
theorem O8(t:Tm)(ht:t.full<1099511627776):PC E 202 [.agg t.view] (.AP [.i t.num,.i t.err]):=by
 have h1:=eR _ t (fB _) ht;refine M.F Tryz.func202 ?_;(repeat' first|refine M.w1 @h1 ?_|refine M.zb ?_|refine M.cs ?_ ?_<;>intro h|fail);all_goals simp_all[zn,V.wk,V.Ar,za,Tm.num,Tm.err,Tm.nodes]
 all_goals(first|omega|(split<;>first|omega|simp_all))
theorem Yq2(t:Tm)(ht:t.full<1099511627776):PC E 224 [.agg t.view] (.AP [.i t.num,.i t.err]):=by
 have h1:=O8 t ht;refine M.F Tryz.func224 ?_;refine M.w1 @h1 ?_;simp[zn,V.wk,V.Ar,za,Ty.view,Tm.view]
theorem Yma(t:Tm)(ht:t.full<1099511627776):PC E 231 [.agg t.view] (.i t.err):=by
 have h1:=O8 t ht;refine M.F Tryz.func231 ?_;refine M.w1 @h1 ?_;simp[zn,V.wk,V.Ar,za,Ty.view,Tm.view]
end Go.Ab
