/- A part of the proofs of this seat. No conditions. -/
import Derived.Test.YtpnbmjgblakifaaGreatDoorS4
namespace Go.Ab
open Go Go.Proofs
set_option maxRecDepth 100000
set_option maxHeartbeats 4000000
set_option linter.all false
abbrev mE(ho:Int)(s:Gn):Es:=[(0,.var [.i ho,.mp 1,.bool s.2]),(1,.map .tm (s.1.map (·.1)) (s.1.map (·.2)))]
theorem Yj0(at_:Int)(s:Tm)(hat:0<=at_/\at_<137438953472)(hs:s.shape=true)(hsf:s.full<137438953472)(hsi:∀p∈s.vars 0,0<=p.1/\p.1<274877906944):∀(n:Nat) (f:Fm) (dp:Int),f.full<=n->n<137438953472->0<=dp->dp+n<274877906944->f.shape=true->(∀p∈f.A2 0,∀q∈p.1.vars 0,0<=q.1/\q.1<274877906944)->
 PC E 267 [.agg f.view,.i at_,.i dp,.agg s.view] (.agg (f.re (fun b t=>t.re (xd at_ s) b) dp).view):=by
 intro n;induction n with
 |zero=>intro f dp h;have:=f.Aa;omega
 |succ n ih=>
 intro f dp hsz hn h1 h2 hf hix;have hsz':=f.Ag;have hlen:=zd Fm.full Fm.Aa f.args;have hlen2:=zd Tm.full Tm.Aa f.terms;have hup:=Ke f.kind dp;have hpl:=Nz f.kind dp;have hb:=OG f;have he:=Fm.Bj (fun b t=>t.re (xd at_ s) b) dp f;have htm:=f.A5 0;refine M.F Tryz.func267 ?_;(repeat' first|refine M.gw ?_|fail);refine AW.range f.terms.length (fun m=>True) (fun m=>([(1,.i at_),(2,.i dp),(4,.ptr 0 0),(7,.ptr 1 0),(8,.ptr 2 0),(9,.ptr 3 0),(20,.s .tm f.terms),(21,.i f.terms.length),(22,.i m)],⟨5,[(0,.var f.view),(1,.var s.view),(2,.var [.i 0,.i 0,.slice .nil (.t .ty []),.slice .nil (.t .tm []),.slice .nil (.t .fm [])]),(3,.var [.i f.kind,.i f.ty.kind,.s .ty f.ty.args,.slice (.own 4) (.t .tm ((f.terms.take m).map fun t=>t.re (xd at_ s) dp)),.slice .nil (.t .fm [])]),(4,.row)]⟩))
  (by omega) (fun m=>rfl) (fun m=>rfl) rfl trivial (M.W [some 0,some 1,some 2,some 3,none]) ?_ ?_
 ·intro m hm _;have hs2:=zc Tm.full (List.getElem_mem hm);have hc:=Wx at_ s hat hs hsf hsi _ f.terms[m] dp (Nat.le_refl _) (by omega) (by omega) (by omega) (ye hf (List.getElem_mem hm)) (fun p hp=>hix (f.terms[m],0) (by rw[htm];exact List.mem_append_left _ (List.mem_map.2 ⟨_,List.getElem_mem hm,rfl⟩)) p hp);(repeat' first|refine M.gw ?_|refine M.c2 (hc) ?_|fail);exact⟨rfl,trivial,(M.W [some 0,some 1,some 2,some 3,some 6] (he:=(by(repeat'(first|exact trivial|exact Or.inr ⟨_,U,rfl⟩|refine And.intro ?_ ?_|refine⟨_,U,_,U,_,U,?_⟩|exact An.refl _|exact An.of_eq (by simp[Ao.Ax,z8 _ _ _ hm])));done)))⟩
 ·intro _;simp only[List.take_length];(repeat' first|refine M.gw ?_|fail);refine AW.range f.args.length (fun m=>True) (fun m=>([(1,.i at_),(2,.i dp),(4,.ptr 0 0),(7,.ptr 1 0),(8,.ptr 2 0),(9,.ptr 3 0),(38,.s .fm f.args),(39,.i f.args.length),(40,.i m)],⟨6,[(0,.var f.view),(1,.var s.view),(2,.var [.i 0,.i 0,.slice .nil (.t .ty []),.slice .nil (.t .tm []),.slice .nil (.t .fm [])]),(3,.var [.i f.kind,.i f.ty.kind,.s .ty f.ty.args,.slice (.own 4) (.t .tm (f.terms.map fun t=>t.re (xd at_ s) dp)),.slice (.own 5) (.t .fm ((f.args.take m).map fun x=>x.re (fun b t=>t.re (xd at_ s) b) (A3 f.kind dp)))]),(4,.row),(5,.row)]⟩))
   (by omega) (fun m=>rfl) (fun m=>rfl) rfl trivial (M.W [some 0,some 1,some 2,some 3,some 4,none]) ?_ ?_
  ·intro m hm _;have hs2:=zc Fm.full (List.getElem_mem hm);have hc:=ih f.args[m] (A3 f.kind dp) (by omega) (by omega) (by omega) (by omega) (zw hf (List.getElem_mem hm)) (fun p hp q hq=>by
    obtain⟨p',hp',hpe⟩:=VL (b':=A3 f.kind 0) p hp;rw[<-hpe] at hq;exact hix p' (by rw[htm];exact List.mem_append_right _ (List.mem_flatMap.2 ⟨_,List.getElem_mem hm,hp'⟩)) q hq)
   rw[<-hpl] at hc;simp only[<-hpl];(repeat' first|refine M.gw ?_|refine M.c2 (hb) ?_|refine M.c2 (hc) ?_|fail);exact⟨rfl,trivial,(M.W [some 0,some 1,some 2,some 3,some 4,some 7] (he:=(by(repeat'(first|exact trivial|exact Or.inr ⟨_,U,rfl⟩|refine And.intro ?_ ?_|refine⟨_,U,_,U,_,U,?_⟩|exact An.refl _|exact An.of_eq (by simp[Ao.Ax,z8 _ _ _ hm])));done)))⟩
  ·intro _;simp only[List.take_length];(repeat' first|refine M.gw ?_|fail);rw[he]
   rfl
theorem Ygo(f:Fm)(at_:Int)(s:Tm)(hf:f.full<549755813888)(hs:s.full<549755813888):PC E 259 [.agg f.view,.i at_,.agg s.view] (.Az [.agg (if yq f at_ s=0 then f.put at_ s else A1).view,.i (yq f at_ s)]):=by
 have h1:=KI f hf;have h2:=vo s (by omega);by_cases he:f.err=0;case neg=>
  have e:yq f at_ s=f.err:=by simp only[yq];rw[if_pos he]
  rw[e,if_neg he];refine M.F Tryz.func259 ?_;(repeat' first|refine M.go ?_|refine M.c2 (h1) ?_|refine M.z1 4 ?_|refine M.cs ?_ ?_<;>intro h|refine M.gk ?_|fail);all_goals first
   |rfl
   |(exfalso;simp at h;exact he h)
 rw[he] at h1;by_cases ha:0<=at_/\at_<=4096;case neg=>
  have e:yq f at_ s=1:=by simp only[yq];rw[if_neg (by simp[he]),if_pos ha]
  rw[e,if_neg (by decide)];refine M.F Tryz.func259 ?_;(repeat' first|refine M.go ?_|refine M.c2 (h1) ?_|refine M.gs ?_ ?_<;>intro h|refine M.z1 6 ?_|refine M.cs ?_ ?_<;>intro h|refine M.gk ?_|fail);all_goals first
   |rfl
   |(exfalso;simp at h;omega)
   |(exfalso;simp at*;omega)
 by_cases hse:s.err=0;case neg=>
  have e:yq f at_ s=s.err:=by simp only[yq];rw[if_neg (by simp[he]),if_neg (by simp;omega),if_pos hse]
  rw[e,if_neg hse];refine M.F Tryz.func259 ?_;(repeat' first|refine M.go ?_|refine M.c2 (h1) ?_|refine M.c2 (h2) ?_|refine M.gs ?_ ?_<;>intro h|refine M.z2 5 9 ?_|refine M.cs ?_ ?_<;>intro h|refine M.gk ?_|fail);all_goals first
   |rfl
   |(exfalso;simp at h;omega)
   |(exfalso;simp at*;omega)
   |(exfalso;simp at h;exact hse h)
 rw[hse] at h2;obtain⟨hfs,hfz⟩:=(Fm.Ae f).1 he;obtain⟨hss,hsz⟩:=vt hse;have hff:=yf he;have hsf:=z9 hse;have h3:=Zy7 536870912 (by omega) _ f (Nat.le_refl _) (by omega) hfs;have h4:=Rf 536870912 (by omega) _ s (Nat.le_refl _) (by omega) hss;rw[<-Zpn] at h3;rw[<-Te] at h4;by_cases hn:f.near=true/\s.near=true;case neg=>
  have hn':f.near=false\/s.near=false:=by
   cases h5:f.near with
   |false=>exact .inl rfl
   |true=>cases h6:s.near with
    |false=>exact .inr rfl
    |true=>exact absurd ⟨h5,h6⟩ hn
  have e:yq f at_ s=1:=by simp only[yq];rw[if_neg (by simp[he]),if_neg (by simp;omega),if_neg (by simp[hse]),if_pos hn']
  rw[e,if_neg (by decide)];cases h5:f.near with
  |false=>
   rw[h5] at h3;refine M.F Tryz.func259 ?_;(repeat' first|refine M.go ?_|refine M.c2 (h1) ?_|refine M.c2 (h2) ?_|refine M.c2 (h3) ?_|refine M.gs ?_ ?_<;>intro h|refine M.z1 5 ?_|refine M.cs ?_ ?_<;>intro h|refine M.gk ?_|fail);all_goals first
    |rfl
    |(exfalso;simp at h;omega)
    |(exfalso;simp at*;omega)
  |true=>
   have h6:s.near=false:=hn'.resolve_left (by simp[h5]);rw[h5] at h3;rw[h6] at h4;refine M.F Tryz.func259 ?_;(repeat' first|refine M.go ?_|refine M.c2 (h1) ?_|refine M.c2 (h2) ?_|refine M.c2 (h3) ?_|refine M.c2 (h4) ?_|refine M.gs ?_ ?_<;>intro h|refine M.z1 5 ?_|refine M.cs ?_ ?_<;>intro h|refine M.gk ?_|fail);all_goals first
    |rfl
    |(exfalso;simp at h;omega)
    |(exfalso;simp at*;omega)
 obtain⟨hn1,hn2⟩:=hn;rw[hn1] at h3;rw[hn2] at h4;have h5:=NP _ f (Nat.le_refl _) (by omega);have h6:=Zx9 _ f at_ (Nat.le_refl _) (by omega) (by omega) (by omega) hfs;have h7:=yu _ s (Nat.le_refl _) (by omega);have htl:=SP at_ f;have hsp:=s.size_pos;have hsl:=s.Aj;have hfl:=f.Aj;have hm:=VF (y8 at_ f) (s.size-1) (by omega) (by omega);have hm': -9223372036854775808<=(y8 at_ f:Int)*(s.size-1)/\(y8 at_ f:Int)*(s.size-1)<=9223372036854775807:=by omega
 have ee:yq f at_ s=if(f.size:Int)+y8 at_ f*(s.size-1)>4096 then 4 else 0:=by
  simp only[yq,y8];rw[if_neg (by simp[he]),if_neg (by simp;omega),if_neg (by simp[hse]),if_neg (by simp[hn1,hn2])]
  rfl
 have hput:f.put at_ s=f.re (fun b t=>t.re (xd at_ s) b) 0:=Yfs at_ s 0 f;have h8:=Yj0 at_ s (by omega) hss (by omega) (fun p hp=>⟨s.AJ hss 0 p hp,by have:=RU hn2 p hp;omega⟩) _ f 0 (Nat.le_refl _) (by omega) (by omega) (by omega) hfs (fun p hp q hq=>by have:=XU he hn1 p hp q hq;have h9:=List.all_eq_true.1 hn1 p hp;have:=RU h9 q hq;omega);rw[<-hput] at h8;by_cases hz:(f.size:Int)+y8 at_ f*(s.size-1)>4096
 ·rw[if_pos hz] at ee;rw[ee,if_neg (by decide)];clear h8 hput;refine M.F Tryz.func259 ?_;(repeat' first|refine M.go ?_|refine M.c2 (h1) ?_|refine M.c2 (h2) ?_|refine M.c2 (h3) ?_|refine M.c2 (h4) ?_|refine M.c2 (h5) ?_|refine M.c2 (h6) ?_|refine M.c2 (h7) ?_|refine M.gs ?_ ?_<;>intro h|refine M.z2 5 13 ?_|refine M.cs ?_ ?_<;>intro h|refine M.gk ?_|fail);all_goals first
   |rfl
   |(exfalso;simp at h;omega)
   |(exfalso;simp at*;omega)
 ·rw[if_neg hz] at ee;have h9:=vx _ (f.put at_ s) (Nat.le_refl _) (by have:=U4 ee;omega);rw[ee,if_pos rfl];refine M.F Tryz.func259 ?_;(repeat' first|refine M.go ?_|refine M.c2 (h1) ?_|refine M.c2 (h2) ?_|refine M.c2 (h3) ?_|refine M.c2 (h4) ?_|refine M.c2 (h5) ?_|refine M.c2 (h6) ?_|refine M.c2 (h7) ?_|refine M.c2 (h8) ?_|refine M.c2 (h9) ?_|refine M.gs ?_ ?_<;>intro h|refine M.z2 5 12 ?_|refine M.cs ?_ ?_<;>intro h|refine M.gk ?_|fail);all_goals first
   |rfl
   |(exfalso;simp at h;omega)
   |(exfalso;simp at*;omega)
theorem Zp1(l:List Fm)(h:(l.map Fm.full).sum<1099511627776):PC E 51 [.s .fm l,.s .fm l] (.bool true):=by
 have hlen:=zd Fm.full Fm.Aa l;refine M.F Tryz.func51 ?_;(repeat' first|refine M.gw ?_|refine M.cs ?_ ?_<;>intro h|fail)
 ·exfalso;simp at h
 refine AW.range l.length (fun m=>True) (fun m=>([(0,.s .fm l),(1,.s .fm l),(11,.s .fm l),(12,.i l.length),(13,.i m)],⟨0,[]⟩))
  (by omega) (fun m=>rfl) (fun m=>rfl) rfl trivial (M.W []) ?_ ?_
 ·intro m hm _;have hs2:=zc Fm.full (List.getElem_mem hm);have hc:=Zzs _ l[m] (Nat.le_refl _) (by omega);(repeat' first|refine M.gw ?_|refine M.c2 (hc) ?_|fail);exact⟨rfl,trivial,(M.W [])⟩
 ·intro _;(repeat' first|refine M.gw ?_|fail)
  rfl
end Go.Ab
