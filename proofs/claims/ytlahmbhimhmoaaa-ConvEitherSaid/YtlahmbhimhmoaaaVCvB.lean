/- Merged: WhL, CvK, CvB. -/
import Derived.Test.YtlahmbhimhmoaaaVWhH
import Derived.Test.YtlahmbhimhmoaaaVSame
namespace Go.Proofs.Ytlahmbhimhmoaaa
set_option linter.unusedVariables false
set_option linter.unusedSimpArgs false
open Go.RowKit
open Go.Value renaming int → O
open Go.IntKind renaming i64 → X
open Option renaming none → Y
def F5:Bk:=⟨0,[],[],-1,[]⟩
abbrev KV:bA:=⟨Y,0,0,Y,0,0,Y,0,0⟩
theorem JG(w:OE):bO w KV F5:=by
 refine⟨⟨rfl,MF _,by decide,fun _=>rfl,fun h=>absurd h aE⟩,?_,?_,by decide,by decide,(fun x F=>by cases F),(fun p D=>by cases D)⟩
 . exact⟨rfl,by decide,fun h=>absurd h aE⟩
 exact⟨rfl,by decide,fun h=>absurd h aE⟩
theorem JL(w:OE):gZ (· < w.heap.size) w Y 0 0 []:=⟨rfl,MF _,by decide,fun _=>rfl,fun h=>absurd h aE⟩
section
set_option maxRecDepth 100000
theorem LF:gB F5 [] [⟨2,1,1⟩,⟨3,0,0⟩] [⟨2,1,1⟩,⟨3,0,1⟩] 5 true=(true,4,0):=by kernel_rfl
theorem LG:gB F5 [] [⟨2,1,1⟩,⟨3,0,0⟩] [⟨2,1,1⟩,⟨3,0,1⟩] 5 false=(false,4,0):=by kernel_rfl
theorem LH:gB F5 [] [⟨2,1,1⟩,⟨3,0,1⟩] [⟨2,1,1⟩,⟨3,0,0⟩] 0 true=(false,0,10):=by kernel_rfl
end
section
open Go.Lib renaming hid->aB
abbrev wO(v:bA)(b:Bk)(cA:OC)(cn cc:Nat)(f er:Int):Array Value:=#[O X b.vars,.slice v.Ao v.no v.co,.slice v.Ae v.ne v.ce,O X b.nat,.slice v.Ap v.np v.cp,.slice cA cn cc,O X f,O X er]
structure lW (w0:OE) (g:Nat) (v:bA) (b:Bk) (cA:OC) (cn cc:Nat) (cv:OD) (f:Nat) (w:OE):Prop where
 bel:OB w0 w
 blk:aW w g 60 (wO v b cA cn cc (f:Int) 0)
 ge:w0.heap.size<=g
 ctx:oI (fun q=>q<w.heap.size/\q≠g) w cA cn cc cv
section
variable {w0 w w' : OE}{g f cn cc : Nat}{v : bA}{b : Bk}{cA : OC}{cv : OD}
theorem lW.lt(h:lW w0 g v b cA cn cc cv f w):g<w.heap.size:=h.blk.lt
theorem lW.below(h:lW w0 g v b cA cn cc cv f w)(D:OB w w'):lW w0 g v b cA cn cc cv f w':=⟨h.bel.trans (D.mono h.bel.size),h.blk.below D h.blk.lt,h.ge,h.ctx.keep fun q F=>⟨⟨MD F.1 D.size,F.2⟩,fun o=>D.cell (p:=⟨q,o,Y⟩) F.1⟩⟩
theorem lW.moved{G:Nat}(h:lW w0 g v b cA cn cc cv f w)(D:aS (fun q=>q=g) Y w w')(I:aW w' g 60 (wO v b cA cn cc (G:Int) 0)):lW w0 g v b cA cn cc cv G w' :=
 ⟨⟨D.os.trans h.bel.os,D.tape.trans h.bel.tape,D.output.trans h.bel.output,MO h.bel.size D.size,fun q F=>(D.block q (MD F h.bel.size) (fun e=>by have:=h.ge;omega) aD).trans (h.bel.block q F)⟩,I,h.ge,h.ctx.keep fun q F=>⟨⟨MD F.1 D.size,F.2⟩,fun o=>aP (D.block q F.1 F.2 aD) o⟩⟩
end
theorem KI{w D:OE}{g:Nat}(h:OB w D)(i j:Nat)(u x:Value):aS (fun q=>q=g) Y w ((D.setCell ⟨g,i,Y⟩ u).setCell ⟨g,j,Y⟩ x) :=
 aS.setCell (S:=fun q=>q=g) (aS.setCell (S:=fun q=>q=g) (aS.of_below h) (p:=⟨g,i,Y⟩) rfl u) (p:=⟨g,j,Y⟩) rfl x
def LV(g:Nat)(v:bA)(b:Bk)(cA:OC)(cn cc:Nat)(r:I9)(w:OE)(e:Ending)(w':OE):Prop:=aS (fun q=>q=g) Y w w'/\((∃z,r=.bad z/\e=.returned (.tuple #[.slice Y 0 0,.bool false])/\aW w' g 60 (wO v b cA cn cc 0 z))\/∃l k A n c,r=.done l k/\e=.returned (.tuple #[.slice A n c,.bool true])/\bG w' w.heap.size (.slice A n c) l/\aW w' g 60 (wO v b cA cn cc (k:Int) 0))
set_option maxRecDepth 100000 in
set_option maxHeartbeats 4000000 in
theorem uJ{w0 w:OE}{g:Nat}{v:bA}{b:Bk}{cA:OC}{cn cc:Nat}{cv:OD}(hr:bD b=0)(hb:bO w0 v b)(hc:fA b cv){k:Nat}(hk:k<=100000)(hw:lW w0 g v b cA cn cc cv k w){A:OC}{n c:Nat}{x:TT}(ht:a6 (fun q=>q<w.heap.size/\q≠g) w A n c (aT x))(hx:bJ b (cv.length:Int) x):
 Calls Try.prog 25 #[.pointer (some ⟨g,0,Y⟩),.slice A n c] w (LV g v b cA cn cc (DD b cv x k) w):=by
 have hg:=hw.lt;have a3:bU (k:Int)=k:=by unfold bU;omega
 have a4:(cv.length:Int)<=990000:=by have:=hc.few;omega
 have a2:=aB (fun (W:OE) (hB:OB w W)=>sX (A:=A) (n:=n) (c:=c) hr ((hb.below hw.bel).below hB) hc a4 (hw.ctx.keep (R':=(· < W.heap.size)) fun q hq=>⟨MD hq.1 hB.size,fun o=>hB.cell (p:=⟨q,o,Y⟩) hq.1⟩) (ht.keep (R':=(· < W.heap.size)) fun q hq=>⟨MD hq.1 hB.size,fun o=>hB.cell (p:=⟨q,o,Y⟩) hq.1⟩) hx (k:Int));have a1:Hid (∀z,DD b cv x k=.bad z->z≠0):=aB (by
  intro z h;unfold DD zD at h;split at h
  . injection h with h;subst h;exact lS _ _ _ _ _ aI
  cases h)
 rw[a3]at a2;generalize DD b cv x k=rr at *;obtain⟨D,Z⟩:=OF hw.blk hg;clear hr hb hc hk hw ht hx a3 a4;go_in;go_upto_region 1 with fail
 refine wp_region_held_drew (S:=(fun w'=>OB w w')) aC ?_ (fun F=>?_)
 . (try dsimp only);exact aU (MC _ _) 1
 have s:Hid (OB w w.drew):=aB (aU (MC _ _) 1);generalize w.drew=W1 at *;refine wpAnyH_take (i:=0) (v:=?_) rfl aC aC aC (fun _ _ _ h=>h) (Or.inl ⟨by rfl,fun U hSw=>?_⟩) F ?_;rotate_left
 . (go_simp;try with_reducible rfl)
 try simp only[p7]
 refine wpAnyH_take (i:=1) (v:=?_) rfl aC aC aC (fun _ _ _ h=>h) (Or.inl ⟨by rfl,fun U hSw=>?_⟩) F ?_;rotate_left
 . (go_simp;try with_reducible rfl)
 try simp only[p7]
 refine wpAnyH_take (i:=2) (v:=?_) rfl aC aC aC (fun _ _ _ h=>h) (Or.inl ⟨by rfl,fun U hSw=>?_⟩) F ?_;rotate_left
 . (go_simp;try with_reducible rfl)
 try simp only[p7]
 refine tk 3 ?_ (fun U hSw=>?_) F ?_;rotate_left
 . have z0:=(hSw.cell (p:=⟨g,0,Y⟩) Z.o).trans (D.o.cell 0);have z1:=(hSw.cell (p:=⟨g,1,Y⟩) Z.o).trans (D.o.cell 1);have z2:=(hSw.cell (p:=⟨g,2,Y⟩) Z.o).trans (D.o.cell 2);have z3:=(hSw.cell (p:=⟨g,3,Y⟩) Z.o).trans (D.o.cell 3);have z4:=(hSw.cell (p:=⟨g,4,Y⟩) Z.o).trans (D.o.cell 4);go_simp;try with_reducible rfl
 try simp only[p7]
 refine wpAnyH_take (i:=4) (v:=?_) rfl aC aC aC (fun _ _ _ h=>h) (Or.inl ⟨by rfl,fun U hSw=>?_⟩) F ?_;rotate_left
 . (go_simp;try with_reducible rfl)
 try simp only[p7]
 refine wpAnyH_take (i:=5) (v:=?_) rfl aC aC aC (fun _ _ _ h=>h) (Or.inl ⟨by rfl,fun U hSw=>?_⟩) F ?_;rotate_left
 . (go_simp;try with_reducible rfl)
 try simp only[p7]
 refine wpAnyH_take (i:=6) (v:=?_) rfl aC aC aC (fun _ _ _ h=>h) (Or.inl ⟨by rfl,fun U hSw=>?_⟩) F ?_;rotate_left
 . (go_simp;try with_reducible rfl)
 try simp only[p7]
 refine tk 7 ?_ (fun U hSw=>?_) F ?_;rotate_left
 . have z5:=(hSw.cell (p:=⟨g,5,Y⟩) Z.o).trans (D.o.cell 5);go_simp;try with_reducible rfl
 try simp only[p7]
 refine wpAnyH_take (i:=8) (v:=?_) rfl aC aC aC (fun _ _ _ h=>h) (Or.inl ⟨by rfl,fun U hSw=>?_⟩) F ?_;rotate_left
 . (go_simp;try with_reducible rfl)
 try simp only[p7]
 refine wpAnyH_take (i:=9) (v:=?_) rfl aC aC aC (fun _ _ _ h=>h) (Or.inl ⟨by rfl,fun U hSw=>?_⟩) F ?_;rotate_left
 . (go_simp;try with_reducible rfl)
 try simp only[p7]
 refine wpAnyH_take (i:=10) (v:=?_) rfl aC aC aC (fun _ _ _ h=>h) (Or.inl ⟨by rfl,fun U hSw=>?_⟩) F ?_;rotate_left
 . (go_simp;try with_reducible rfl)
 try simp only[p7]
 refine wpAnyH_take (i:=11) (v:=?_) rfl aC aC aC (fun _ _ _ h=>h) (Or.inl ⟨by rfl,fun U hSw=>?_⟩) F ?_;rotate_left
 . (go_simp;try with_reducible rfl)
 try simp only[p7]
 refine tk 12 ?_ (fun U hSw=>?_) F ?_;rotate_left
 . have z6:=(hSw.cell (p:=⟨g,6,Y⟩) Z.o).trans (D.o.cell 6);go_simp;try with_reducible rfl
 try simp only[p7]
 refine r1 13 fun K hK=>?_;go_simp;go_at_call 43
 refine (a2.o _ s.o).mono ?_;rintro e w2 ⟨a0,h4⟩;have I:=bK s a0;rcases h4 with⟨z,hz,rfl⟩|⟨l,j,A7,n7,c7,hd,rfl,ho⟩
 . have HD:=aB hz;clear a0 hz;go_wp2_with fail;refine hK.o _ _ (by exact I.o) fun F=>?_;clear hK K;try simp only[p7]
   refine aL 14 F ?_;refine aL 15 F ?_;refine aL 16 F ?_;refine aL 17 F ?_;refine aL 18 F ?_;refine aL 19 F ?_;refine aL 20 F ?_;refine wpAnyH_done aC ?_ _;have G:=aB (D.o.below I.o Z.o);have z2:=aW.cell G.o;have a5:=aW.frozen G.o;have a7:(z==0)=false:=MM.2 (a1.o z HD.o);go_wp2_with fail;go_ret2;have HM:aS (fun q=>q=g) Y w ((w2.setCell ⟨g,6,Y⟩ (O X 0)).setCell ⟨g,7,Y⟩ (O X z)):=KI I.o 6 7 _ _;have HX:aW ((w2.setCell ⟨g,6,Y⟩ (O X 0)).setCell ⟨g,7,Y⟩ (O X z)) g 60 (wO v b cA cn cc 0 z):=by
    have:=(G.o.set_ 6 (O X 0)).set_ 7 (O X z);simpa using this
   exact⟨HM,.inl ⟨z,HD.o,rfl,HX⟩⟩
 obtain⟨HD,HO⟩:=OF hd ho;clear a0 hd ho;go_wp2_with fail;refine hK.o _ _ (by exact I.o) fun F=>?_;clear hK K;try simp only[p7]
 refine aL 14 F ?_;refine aL 15 F ?_;refine aL 16 F ?_;refine aL 17 F ?_;refine aL 18 F ?_;refine aL 19 F ?_;refine aL 20 F ?_;refine wpAnyH_done aC ?_ _;have G:=aB (D.o.below I.o Z.o);have z2:=aW.cell G.o;have a5:=aW.frozen G.o;go_wp2_with fail;go_ret2;have HM:aS (fun q=>q=g) Y w ((w2.setCell ⟨g,6,Y⟩ (O X (j:Int))).setCell ⟨g,7,Y⟩ (O X 0)):=KI I.o 6 7 _ _;have HX:aW ((w2.setCell ⟨g,6,Y⟩ (O X (j:Int))).setCell ⟨g,7,Y⟩ (O X 0)) g 60 (wO v b cA cn cc (j:Int) 0):=by
  have:=(G.o.set_ 6 (O X (j:Int))).set_ 7 (O X 0);simpa using this
 exact⟨HM,.inr ⟨l,j,A7,n7,c7,HD.o,rfl,((iI HO.o s.o.size).setCell (a:=⟨g,6,Y⟩) Z.o _).setCell (a:=⟨g,7,Y⟩) Z.o _,HX⟩⟩
end
end Go.Proofs.Ytlahmbhimhmoaaa
