/- core: step. -/
import Derived.Test.YtlahmbhimhmoaaaVWhX
namespace Go.Proofs.Ytlahmbhimhmoaaa
set_option linter.unusedVariables false
set_option linter.unusedSimpArgs false
open Go.RowKit
section
variable {lo g : Nat}{w w' : OE}{f : Fc}{A B a1 a2 : OC}{n c m d n1 c1 n2 c2 : Nat}
theorem a6.box{R R':Nat->Prop}{l:List Nd}(h:a6 R w A n c l)(Y:0<l.length)(U:aW w g 109 #[.slice a1 n1 c1,.slice a2 n2 c2])(G:∀q,q≠g->w'.heap[q]? = w.heap[q]?)(hR:∀q,R q->q≠g->R' q):a6 R' w' A n c l:=by
 refine⟨h.len,h.cap,h.few,h.nul,fun Z=>?_⟩;obtain⟨b,off,e,O,I⟩:=h.mem Z;have F:b≠g:=by
  rintro rfl;have D:=(I 0 Y).1;rw[U.cell]at D;generalize off+0*3=z at D
  match z,D with
  | 0,D=>simp at D
  | 1,D=>simp at D
  | z+2,D=>simp at D
 refine⟨b,off,e,hR b O F,fun p o=>?_⟩;obtain⟨x,y,z⟩:=I p o;exact⟨(aP (G b F) _).trans x,(aP (G b F) _).trans y,(aP (G b F) _).trans z⟩
theorem a8.box{R R':Nat->Prop}(F:aW w g 109 #[.slice a1 n1 c1,.slice a2 n2 c2])(G:∀q,q≠g->w'.heap[q]? = w.heap[q]?)(hR:∀q,R q->q≠g->R' q):∀{D:List Value} {L:List TT},a8 R w D (L.map aT)->a8 R' w' D (L.map aT)
 | [],[],_=>trivial
 | [],_::_,h=>h.elim
 | _::_,[],h=>h.elim
 | x::D,y::ys,h=>by
  obtain⟨⟨I,Y,O,e,ht⟩,U⟩:=h;exact⟨⟨I,Y,O,e,ht.box (eJ y) F G hR⟩,a8.box F G hR U⟩
theorem KF:(109:TypeId) ≠ 29:=by decide
theorem G4{base z k:Nat}{v:Value}{Y:List Value}(h:w.ownsRow base 29 z v k Y){cs:Array Value}(O:aW w g 109 cs):∀q,v.ownBlock=some q->q≠g:=by
 rintro q F rfl;rcases h.2 with⟨hv,_⟩|⟨b,cap,G,hv,_,U,_⟩
 . subst hv;cases F
 subst hv;have e:b=q:=Option.some.inj (show some b=some q from F);subst e;have D:=U.symm.trans O;injection D with D;injection D with _ I _;exact KF I.symm
theorem dM.box(h:dM lo w f A n c B m d)(F:aW w g 109 #[.slice a1 n1 c1,.slice a2 n2 c2])(G:∀q,q≠g->w'.heap[q]? = w.heap[q]?)(O:w'.heap.size=w.heap.size):dM lo w' f A n c B m d:=by
 obtain⟨U,Z,I,Y⟩:=h;refine⟨U.box (eJ _) F G fun q D _=>⟨D.1,by rw[O];exact D.2.1,D.2.2⟩,Z,vO I fun q D=>G q (G4 I F q D),a8.box F G (fun q D _=>⟨D.1,by rw[O];exact D.2.1,D.2.2⟩) Y⟩
theorem dM.box2(h:dM lo w f A n c B m d)(F:aW w g 109 #[.slice a1 n1 c1,.slice a2 n2 c2])(u0 u1:Value):dM lo ((w.setCell ⟨g,0,none⟩ u0).setCell ⟨g,1,none⟩ u1) f A n c B m d :=
 h.box F (fun q D=>(MH _ ⟨g,1,none⟩ u1 q D).trans (MH w ⟨g,0,none⟩ u0 q D)) (by rw[dI,dI])
end
end Go.Proofs.Ytlahmbhimhmoaaa
