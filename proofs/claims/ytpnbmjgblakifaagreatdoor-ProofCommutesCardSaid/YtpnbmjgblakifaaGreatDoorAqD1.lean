/- A part of the proofs of this seat. No conditions. -/
import Derived.Test.YtpnbmjgblakifaaGreatDoorD1
namespace Go.Ab
set_option linter.all false
theorem Fm.Ci(G G':Int->Tm->Tm)(f:Fm):∀b,(f.re G b).re G' b=f.re (fun b t=>G' b (G b t)) b:=by
 induction f using Fm.ind with
 |h f ih=>
  intro b;rw[Fm.Bj,Fm.Bj,Fm.Bj];simp only[Fm.Ah,Fm.AL,Fm.Ai,Fm.Ad,List.map_map];congr 1;exact List.map_congr_left fun x hx=>ih x hx _
theorem Fm.FJ{G:Int->Tm->Tm}(f:Fm):∀b,(∀p∈f.A2 b,G p.2 p.1=p.1)->f.re G b=f:=by
 induction f using Fm.ind with
 |h f ih=>
  intro b h;rw[Fm.Bj];have h1:f.terms.map (G b)=f.terms:=by
   conv=>rhs;rw[<-List.map_id f.terms]
   exact List.map_congr_left fun x hx=>h (x,b) (by rw[Fm.A5];exact List.mem_append_left _ (List.mem_map.2 ⟨x,hx,rfl⟩))
  have h2:f.args.map (Fm.re G (A3 f.kind b))=f.args:=by
   conv=>rhs;rw[<-List.map_id f.args]
   exact List.map_congr_left fun x hx=>ih x hx _ fun p hp=>h p (by rw[Fm.A5];exact List.mem_append_right _ (List.mem_flatMap.2 ⟨x,hx,hp⟩))
  rw[h1,h2];cases f;rfl
end Go.Ab
