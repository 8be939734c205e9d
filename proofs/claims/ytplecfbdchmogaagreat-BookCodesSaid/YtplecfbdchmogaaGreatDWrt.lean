/- Merged: Short3, OctR, Wrt. -/
import Derived.Test.YtplecfbdchmogaaGreatDBase
import Derived.Test.YtplecfbdchmogaaGreatDShort2
import Derived.Test.YtplecfbdchmogaaGreatDOctW
import Derived.Deep.RegionHeld
import Derived.Test.YtplecfbdchmogaaGreatDRdC
namespace Go.Proofs.YtplecfbdchmogaaGreat
open Go.Value renaming int → O, slice → Z
open Go.IntKind renaming i64 → X
open Option renaming none → Y
section
open Go.RowKit
section
variable {P : Program} {ops : Array Oper} {Q : Exit->Act->World->Prop} {md : Region.Mode} {S : World->Prop} {l : Nat}
theorem te (i:Nat) {v:Value} {oi:Oper} {fuel:Nat} {done:Array Bool} {a:Act} {w:World} (hS:S w) (h:gH P md ops Q S l fuel (done.setIfInBounds i true) (a.put oi.dst v) w)
 (hi:ops[i]? = some oi:=by exact rfl) (hy:∀ w,S w->(execOp a.eval oi).run P w=.ok (.value v) w:=by (intro w hSw;(try dsimp only at hSw);go_simp;try with_reducible rfl)) (hw:sF md ops i 8 l=true:=by kernel_rfl) (hsh:CK md ops done=true:=by kernel_rfl)
 (hs:Region.noSelect ops=true:=by kernel_rfl) (hf:Region.free md ops done i=true:=by kernel_rfl) (hr:(Region.ready md ops done).contains i=true:=by kernel_rfl)
 (hQ:∀ c a w,Q (.panic c) (a.put oi.dst v) w->Q (.panic c) a w:=by exact fun _ _ _ h=>h) (hwn:Region.wanted oi (yielded ops a.tmps)=true:=by rfl):gH P md ops Q S l (fuel+1) done a w :=
 bE hi hw hsh hs hf hr hQ (.inl ⟨hwn,hy⟩) hS h
end
end
section
open Go.Lib (hid)
open Go.RowKit
def lY (n:Nd):Bool:=decide (0<=n.op)&&decide (n.op<=255)&&decide (0<=n.a)&&decide (n.a<=1048576)&&decide (0<=n.b)&&decide (n.b<=1048576)
def iJ (l:List Nat) (t:List Nd):List Nat×Int:=if t.all lY then (l++t.flatMap gG,0) else ([],1)
def vG (bs:List Nat) (t:List Nd):List Nat×Int:=if 4096<t.length then ([],9) else iJ (bs++aH t.length) t
theorem vH {l:List Nat} {n:Nd} {r:List Nd} (h:lY n=true):iJ l (n::r)=iJ (l++gG n) r:=by
 unfold iJ;simp [h]
theorem yA {l:List Nat} {n:Nd} {r:List Nd} (h:lY n=false):iJ l (n::r)=([],1):=by
 unfold iJ;simp [h]
theorem yB (l:List Nat):iJ l []=(l,0):=by simp [iJ]
theorem cB {B:Nat} {a w:World} (h:Below B a w):Below B a w.drew:=⟨h.os,h.tape,h.output,h.size,h.block⟩
theorem cX {w:World} {g:Nat} {t:TypeId} {cs:Array Value} (h:aE w g t cs):aE w.drew g t cs:=h
theorem nL (n:Nd):(gG n).length<=30:=by
 have h1:=(aW n.op.toNat).2;have h2:=(aW n.a.toNat).2;have h3:=(aW n.b.toNat).2;simp only [gG,List.length_append];omega
set_option linter.unusedSimpArgs false in
set_option linter.unusedVariables false in
set_option maxRecDepth 100000 in
set_option maxHeartbeats 4000000 in
theorem G3 {w:World} {A B:Option Addr} {n c m d:Nat} {bs:List Nat} {t:List Nd} (h:gC w A n c bs) (ht:aQ w B m d t) (hn:n<=4500000000000) :
 Calls Tryz.prog 99 #[Z A n c,Z B m d] w (pN (vG bs t) w):=by
 have HCL:=hid (j4 h);have HT:=hid (fun (w':World) (hb:Below w.heap.size w w')=>ht.below hb);obtain rfl:=h.len;obtain rfl:=ht.len;obtain ⟨q,hq⟩ : ∃ q,q=vG bs t:=⟨_,rfl⟩;rw [<-hq];have HQ:=hid hq;clear h ht hq;go_in;by_cases hbig:4096<t.length
 · have d1:decide ((t.length:Int)>4096)=true:=decide_eq_true aA;have d2:decide (4096<(t.length:Int))=true:=decide_eq_true aA;have d3:decide (4096<t.length)=true:=decide_eq_true hbig;go_wp2_with fail
   go_ret2;have e:q=([],9):=by rw [HQ.o];exact if_pos hbig
   rw [e];exact ⟨Below.refl _ _,Y,0,rfl,bM.nil _ _⟩
 have d1:decide ((t.length:Int)>4096)=false:=decide_eq_false aA;have d2:decide (4096<(t.length:Int))=false:=decide_eq_false aA;have d3:decide (4096<t.length)=false:=decide_eq_false hbig;go_wp2_with fail
 refine (HCL.o).mono ?_;rintro e w1 ⟨hb1,A1,c1,rfl,ho1⟩;have HB1:=hid hb1;have HF1:=hid (rG ho1 hb1.size aA (m:=t.length) aA);clear hb1 ho1;go_wp2_with fail
 refine (HF1.o).mono ?_;rintro e w2 ⟨hb2,A2,c2,rfl,ho2⟩;have HB2:=hid (HB1.o.trans hb2);have HO2:=hid ho2;have HQ2:=hid (HQ.o.trans (if_neg hbig));have hfl:=(aW t.length).2;obtain ⟨l0,hl0⟩ : ∃ l0,l0=bs++aH t.length:=⟨_,rfl⟩;have hlen0:l0.length<=4500000000010:=by rw [hl0,List.length_append];omega
 rw [<-hl0] at HQ2 HO2 ⊢;clear hb2 ho2 hl0 hfl;go_wp2_with fail
 go_loopw [6,20] (fun sv iv wr=>∃ (A2:Option Addr) (c2 k:Nat) (l:List Nat),sv=Z A2 l.length c2/\iv=O X (k:Int)/\k<=t.length/\l.length<=l0.length+30*k/\Hid (iJ l0 t=iJ l (t.drop k))/\Hid (bM wr w.heap.size (Z A2 l.length c2) l)/\Hid (Below w.heap.size w wr)) (fun _ iv _=>t.length-(intOf iv).toNat)
 case atStart=>exact ⟨A2,c2,0,l0,rfl,rfl,Nat.zero_le _,by omega,hid rfl,HO2,HB2⟩
 case round =>
  obtain ⟨A3,c3,k,l,rfl,rfl,hk,hll,HP,HO3,HB3⟩:=hrel;by_cases hkm:k<t.length;rotate_left
  · have hkk:k=t.length:=aA;subst hkk;have d4:decide ((t.length:Int)<(t.length:Int))=false:=decide_eq_false aA;have d5:decide (t.length<t.length)=false:=decide_eq_false aA;go_wp2_with fail
    go_ret2;have e:q=(l,0):=by
     rw [HQ2.o,HP.o,List.drop_length,yB]
    rw [e];exact ⟨HB3.o,A3,c3,rfl,HO3.o⟩
  have d4:decide ((k:Int)<(t.length:Int))=true:=decide_eq_true aA;have d5:decide (k<t.length)=true:=decide_eq_true hkm;obtain ⟨b,off,e,hlt,hc0,hc1,hc2⟩:=(HT.o _ HB3.o).at_ hkm;subst e;have hdr:t.drop k=aL t k::t.drop (k+1):=by
   rw [List.drop_eq_getElem_cons hkm];unfold aL;rw [List.getD_eq_getElem?_getD,List.getElem?_eq_getElem hkm];rfl
  rw [hdr] at HP;obtain ⟨⟨x,y,z⟩,hnd⟩ : ∃ n,n=aL t k:=⟨_,rfl⟩;rw [<-hnd] at hc0 hc1 hc2 HP;simp only at hc0 hc1 hc2;have HHK:=hid hkm;clear hnd hdr;by_cases hw:lY ⟨x,y,z⟩=true;rotate_left
  · have hwf:lY ⟨x,y,z⟩=false:=by simpa using hw
    have HBAD:Hid (q=([],1)):=hid ((HQ2.o.trans HP.o).trans (yA hwf));have hor:¬ (0<=x/\x<=255/\0<=y/\y<=1048576/\0<=z/\z<=1048576):=fun hh=>hw (by simp only [lY,Bool.and_eq_true,decide_eq_true_eq];omega);have HBB:Hid (Below w.heap.size w (wr.alloc (.cells #[O X x,O X y,O X z] 53))):=hid (HB3.o.trans ((aB wr _).mono HB3.o.size));clear hw hwf;by_cases x1:x<0
    · have dx1:decide (x<0)=true:=decide_eq_true x1;clear x1 hor;go_wp2_with fail
      go_ret2;rw [HBAD.o];exact ⟨HBB.o,Y,0,rfl,bM.nil _ _⟩
    have dx1:decide (x<0)=false:=decide_eq_false x1;by_cases x2:x>255
    · have dx2:decide (x>255)=true:=decide_eq_true x2;clear x2 hor;go_wp2_with fail
      go_ret2;rw [HBAD.o];exact ⟨HBB.o,Y,0,rfl,bM.nil _ _⟩
    have dx2:decide (x>255)=false:=decide_eq_false x2;by_cases y1:y<0
    · have dy1:decide (y<0)=true:=decide_eq_true y1;clear y1 hor;go_wp2_with fail
      go_ret2;rw [HBAD.o];exact ⟨HBB.o,Y,0,rfl,bM.nil _ _⟩
    have dy1:decide (y<0)=false:=decide_eq_false y1;by_cases y2:y>1048576
    · have dy2:decide (y>1048576)=true:=decide_eq_true y2;clear y2 hor;go_wp2_with fail
      go_ret2;rw [HBAD.o];exact ⟨HBB.o,Y,0,rfl,bM.nil _ _⟩
    have dy2:decide (y>1048576)=false:=decide_eq_false y2;by_cases z1:z<0
    · have dz1:decide (z<0)=true:=decide_eq_true z1;clear z1 hor;go_wp2_with fail
      go_ret2;rw [HBAD.o];exact ⟨HBB.o,Y,0,rfl,bM.nil _ _⟩
    have dz1:decide (z<0)=false:=decide_eq_false z1;by_cases z2:z>1048576
    · have dz2:decide (z>1048576)=true:=decide_eq_true z2;clear z2 hor;go_wp2_with fail
      go_ret2;rw [HBAD.o];exact ⟨HBB.o,Y,0,rfl,bM.nil _ _⟩
    have dz2:decide (z>1048576)=false:=decide_eq_false z2;exact absurd hor (fun hh=>hh aA)
  have hw':=hw;simp only [lY,Bool.and_eq_true,decide_eq_true_eq] at hw';have HPW:=hid (HP.o.trans (vH hw));obtain ⟨x,rfl⟩ : ∃ n:Nat,x=(n:Int):=⟨x.toNat,by omega⟩;obtain ⟨y,rfl⟩ : ∃ n:Nat,y=(n:Int):=⟨y.toNat,by omega⟩;obtain ⟨z,rfl⟩ : ∃ n:Nat,z=(n:Int):=⟨z.toNat,by omega⟩;have x1:decide ((x:Int)<0)=false:=decide_eq_false aA;have x2:decide ((x:Int)>255)=false:=decide_eq_false aA;have y1:decide ((y:Int)<0)=false:=decide_eq_false aA;have y2:decide ((y:Int)>1048576)=false:=decide_eq_false aA;have z1:decide ((z:Int)<0)=false:=decide_eq_false aA;have z2:decide ((z:Int)>1048576)=false:=decide_eq_false aA;have hwx:IntKind.u64.wrap (x:Int)=(x:Int):=by rw [IntKind.wrap_u64];omega
  have hwy:IntKind.u64.wrap (y:Int)=(y:Int):=by rw [IntKind.wrap_u64];omega
  have hwz:IntKind.u64.wrap (z:Int)=(z:Int):=by rw [IntKind.wrap_u64];omega
  have hxb:x<=255:=aA;have hyb:y<=1048576:=aA;have hzb:z<=1048576:=aA;clear hw hw';have hal:=aB wr (.cells #[O X (x:Int),O X (y:Int),O X (z:Int)] 53);have HBS:=hid HB3.o.size;have HWd:=hid (cB (HB3.o.trans (hal.mono HB3.o.size)));have HKd:=hid (cX (aE.new wr 53 #[O X (x:Int),O X (y:Int),O X (z:Int)]));have HOd:Hid (bM (wr.alloc (.cells #[O X (x:Int),O X (y:Int),O X (z:Int)] 53)).drew w.heap.size (Z A3 l.length c3) l):=hid (by have h:=HO3.o.below hal;exact h);have HNEd:Hid (∀ g,(Value.slice A3 l.length c3).ownBlock=some g->g ≠ wr.heap.size):=hid (fun g hg=>by have:=(aC HO3.o hg).2.1;omega);have HLd:Hid (l.length<=4600000000000):=hid aA;clear hal;go_wp2_with fail
  refine wp_region_held_drew (S:=(fun w'=>w'.cell? ⟨wr.heap.size,0,Y⟩=some (O X (x:Int))/\w'.cell? ⟨wr.heap.size,1,Y⟩=some (O X (y:Int))/\w'.cell? ⟨wr.heap.size,2,Y⟩=some (O X (z:Int)))) (by kernel_rfl) ?_ (fun hHeld => ?_)
  · (try dsimp only);exact ⟨HKd.o.cell 0,HKd.o.cell 1,HKd.o.cell 2⟩
  refine tq 0 hHeld ?_;try simp only [p7]
  refine tq 1 hHeld ?_;try simp only [p7]
  refine tq 2 hHeld ?_;try simp only [p7]
  refine tq 3 hHeld ?_;try simp only [p7]
  refine tq 5 hHeld ?_;try simp only [p7]
  refine tq 6 hHeld ?_;try simp only [p7]
  refine tq 7 hHeld ?_;try simp only [p7]
  refine tq 9 hHeld ?_;try simp only [p7]
  refine tq 10 hHeld ?_;try simp only [p7]
  refine tq 11 hHeld ?_;try simp only [p7]
  refine r1 4 fun K hK => ?_;go_simp;go_at_call 125
  refine (mM HOd.o HWd.o.size (by have:=HLd.o;omega) (m:=x) aA).mono ?_;rintro e5 w5 ⟨hd5,hm5,A5,c5,rfl,ho5,hr5⟩;have HL5:Hid ((l++aH x).length<=4600000000010):=hid (by have h1:=HLd.o;have h2:=(aW x).2;rw [List.length_append];omega);obtain ⟨l5,hl5⟩ : ∃ q,q=l++aH x:=⟨_,rfl⟩;rw [<-hl5] at ho5 hr5 HL5 ⊢;have HE5:=hid hl5;have HW5:=hid (HWd.o.trans hd5);have HK5:=hid (HKd.o.moved hm5 (fun h=>h) (fun e=>HNEd.o _ e rfl));have HNE5:Hid (∀ g,(Value.slice A5 l5.length c5).ownBlock=some g->g ≠ wr.heap.size):=hid (fun g hg=>by rcases hr5 g hg with h | h;exact HNEd.o g h;have:=HKd.o.lt;omega);have HO5:=hid ho5;clear hd5 hm5 ho5 hr5 hl5;go_wp2_with fail
  refine hK.o _ _ (by exact ⟨HK5.o.cell 0,HK5.o.cell 1,HK5.o.cell 2⟩) fun hHeld => ?_;clear hK K;try simp only [p7]
  refine r1 8 fun K hK => ?_;go_simp;go_at_call 125
  refine (mM HO5.o HW5.o.size (by have:=HL5.o;omega) (m:=y) aA).mono ?_;rintro e6 w6 ⟨hd6,hm6,A6,c6,rfl,ho6,hr6⟩;have HL6:Hid ((l5++aH y).length<=4600000000020):=hid (by have h1:=HL5.o;have h2:=(aW y).2;rw [List.length_append];omega);obtain ⟨l6,hl6⟩ : ∃ q,q=l5++aH y:=⟨_,rfl⟩;rw [<-hl6] at ho6 hr6 HL6 ⊢;have HE6:=hid hl6;have HW6:=hid (HW5.o.trans hd6);have HK6:=hid (HK5.o.moved hm6 (fun h=>h) (fun e=>HNE5.o _ e rfl));have HNE6:Hid (∀ g,(Value.slice A6 l6.length c6).ownBlock=some g->g ≠ wr.heap.size):=hid (fun g hg=>by rcases hr6 g hg with h | h;exact HNE5.o g h;have:=HK5.o.lt;omega);have HO6:=hid ho6;clear hd6 hm6 ho6 hr6 hl6;go_wp2_with fail
  refine hK.o _ _ (by exact ⟨HK6.o.cell 0,HK6.o.cell 1,HK6.o.cell 2⟩) fun hHeld => ?_;clear hK K;try simp only [p7]
  refine r1 12 fun K hK => ?_;go_simp;go_at_call 125
  refine (mM HO6.o HW6.o.size (by have:=HL6.o;omega) (m:=z) aA).mono ?_;rintro e7 w7 ⟨hd7,hm7,A7,c7,rfl,ho7,hr7⟩;have HL7:Hid ((l6++aH z).length<=4600000000030):=hid (by have h1:=HL6.o;have h2:=(aW z).2;rw [List.length_append];omega);obtain ⟨l7,hl7⟩ : ∃ q,q=l6++aH z:=⟨_,rfl⟩;rw [<-hl7] at ho7 hr7 HL7 ⊢;have HE7:=hid hl7;have HW7:=hid (HW6.o.trans hd7);have HK7:=hid (HK6.o.moved hm7 (fun h=>h) (fun e=>HNE6.o _ e rfl));have HNE7:Hid (∀ g,(Value.slice A7 l7.length c7).ownBlock=some g->g ≠ wr.heap.size):=hid (fun g hg=>by rcases hr7 g hg with h | h;exact HNE6.o g h;have:=HK6.o.lt;omega);have HO7:=hid ho7;clear hd7 hm7 ho7 hr7 hl7;go_wp2_with fail
  refine hK.o _ _ (by exact ⟨HK7.o.cell 0,HK7.o.cell 1,HK7.o.cell 2⟩) fun hHeld => ?_;clear hK K;try simp only [p7]
  refine tq 13 hHeld ?_;try simp only [p7]
  refine wpAnyH_done (by kernel_rfl) ?_ _;go_wp2_with fail
  go_roundw
  case measure=>simp [intOf];omega
  have e7:l7=l++gG ⟨x,y,z⟩:=by rw [HE7.o,HE6.o,HE5.o];simp [gG]
  refine ⟨A7,c7,k+1,l7,rfl,by simp,HHK.o,?_,hid ?_,HO7,HW7⟩
  · rw [e7,List.length_append];have:=nL ⟨(x:Int),(y:Int),(z:Int)⟩;omega
  rw [e7];exact HPW.o
end
section
open Go.Lib (hid)
set_option maxHeartbeats 2000000
set_option maxRecDepth 100000
open Go.RowKit
structure lH (w0:World) (g:Nat) (bs:List Nat) (w:World):Prop where
 bel:Below w0.heap.size w0 w
 row:∃ A c,aE w g 74 #[Z A bs.length c]/\bM w (g+1) (Z A bs.length c) bs
 ge:w0.heap.size<=g
 byte:∀ x ∈ bs,x<256
def yQ (w0:World) (g:Nat) (bs:List Nat) (w:World) (e:Ending) (w':World):Prop:=e=.returned (.tuple #[])/\aG (fun q=>q=g) Y w w'/\lH w0 g bs w'
section
variable {w0 w w1 w' : World} {g c : Nat} {A : Option Addr} {bs q : List Nat}
theorem lH.lt (h:lH w0 g bs w):g<w.heap.size:=by
 obtain ⟨A,c,hb,_⟩:=h.row;exact hb.lt
theorem lH.below (h:lH w0 g bs w) (hb:Below w.heap.size w w'):lH w0 g bs w':=by
 obtain ⟨A,c,h1,h2⟩:=h.row;exact ⟨h.bel.trans (hb.mono h.bel.size),⟨A,c,h1.below hb h1.lt,h2.below hb⟩,h.ge,h.byte⟩
theorem lH.drew (h:lH w0 g bs w):lH w0 g bs w.drew:=h.below (cB (Below.refl _ _))
theorem bM.setCell {base:Nat} {v:Value} (h:bM w base v bs) {a:Addr} (ha:a.block<base) (u:Value):bM (w.setCell a u) base v bs:=ownsRow_setCell_below h ha u
theorem kN {B B':Nat} {v:Value} (h:bM w B v bs) (hB:B'<=B):bM w B' v bs:=by
 obtain ⟨h1,h2⟩:=h;refine ⟨h1,?_⟩;rcases h2 with h2 | ⟨b,cap,cur,hv,hb,r⟩
 · exact Or.inl h2
 exact Or.inr ⟨b,cap,cur,hv,Nat.le_trans hB hb,r⟩
theorem lH.put (h:lH w0 g bs w) (hb:Below w.heap.size w w1) (ho:bM w1 w.heap.size (Z A q.length c) q) (hq:∀ x ∈ q,x<256) :
 lH w0 g q (w1.setCell ⟨g,0,Y⟩ (Z A q.length c))/\aG (fun q=>q=g) Y w (w1.setCell ⟨g,0,Y⟩ (Z A q.length c)):=by
 obtain ⟨B,d,h1,_⟩:=h.row;have hl:=h.lt;have hge:=h.ge;have hs:=h.bel.size;have h3:=(h1.below hb hl).set_ 0 (Z A q.length c);refine ⟨⟨(h.bel.trans (hb.mono hs)).setCell hge _,⟨A,c,by simpa using h3,bM.setCell (kN ho hl) (Nat.lt_succ_self g) _⟩,hge,hq⟩,(aG.of_below hb).trans (row':=Y) (moved_setW _ _ _ _) (fun _ e=>by cases e)⟩
where moved_setW (w:World) (g i:Nat) (u:Value):aG (fun q=>q=g) Y w (w.setCell ⟨g,i,Y⟩ u):=aG.setCell (S:=fun q=>q=g) (aG.refl _ _ _) (p:=⟨g,i,Y⟩) rfl _
end
theorem wN (zs:List Int) : ∀ x ∈ cO zs,x<256:=fun x hx=>by
 simp only [cO,List.mem_flatMap] at hx;obtain ⟨z,_,h⟩:=hx;exact dJ _ x h
theorem r8 (t:List Nd) : ∀ x ∈ bU t,x<256:=fun x hx=>fQ.bytes t x hx
theorem i7 {a b:List Nat} (ha:∀ x ∈ a,x<256) (hb:∀ x ∈ b,x<256) : ∀ x ∈ a++b,x<256:=fun x hx=>by
 rcases List.mem_append.1 hx with h | h
 · exact ha x h
 exact hb x h
theorem jZ {w0 w:World} {g m d:Nat} {bs:List Nat} {B:Option Addr} {zs:List Int} (h:lH w0 g bs w) (hz:iZ (· < w.heap.size) w B m d zs) (hw:∀ z ∈ zs,0<=z/\z<=9223372036854775807) (hl:bs.length<=4500000000000) (hm:m<=1000000) :
 Calls Tryz.prog 36 #[.pointer (some ⟨g,0,Y⟩),Z B m d] w (yQ w0 g (bs++cO zs) w):=by
 obtain ⟨A,c,hblk,hown⟩:=h.row;have hbyt:gC w A bs.length c bs:=(hown.byt h.byte aA).keep fun b hb=>⟨hb.2,fun _=>rfl⟩;have hpu:=JU hbyt hz (fun z hz=>(hw z hz).2) hl hm;have e:qE bs zs=(bs++cO zs,0):=by
  unfold qE;rw [if_pos];rw [List.all_eq_true];intro z hz;exact decide_eq_true (hw z hz).1
 rw [e] at hpu;have HPU:=hid hpu;have HS:=hid h;have z0:=hblk.cell 0;obtain ⟨q,hq⟩ : ∃ q,q=bs++cO zs:=⟨_,rfl⟩;have HQB:Hid (∀ x ∈ q,x<256):=hid (by rw [hq];exact i7 h.byte (wN zs));rw [<-hq] at HPU ⊢;have HBL:=hid hblk;clear hpu h hz hw hbyt hown hblk e hq;go_in;go_wp2_with fail
 refine (HPU.o).mono ?_;rintro e w1 ⟨hb1,A1,c1,rfl,ho1⟩;obtain ⟨h2,h3⟩:=HS.o.put hb1 ho1 HQB.o;have HS2:=hid h2;have HM2:=hid h3;have hk:=HBL.o.below hb1 HBL.o.lt;have z1:=hk.cell 0;have f1:=hk.frozen 0;clear z0 hb1 ho1 h2 h3 hk;go_wp2_with fail
 refine bodyPost_end (results_none rfl _ _ _) rfl ⟨rfl,HM2.o,HS2.o⟩
theorem kU {w0 w:World} {g m d:Nat} {bs:List Nat} {B:Option Addr} {t:List Nd} (h:lH w0 g bs w) (ht:aQ w B m d t) (hw:m5 t) (hl:bs.length<=4500000000000) :
 Calls Tryz.prog 43 #[.pointer (some ⟨g,0,Y⟩),Z B m d] w (yQ w0 g (bs++bU t) w):=by
 obtain ⟨A,c,hblk,hown⟩:=h.row;have hbyt:gC w A bs.length c bs:=(hown.byt h.byte aA).keep fun b hb=>⟨hb.2,fun _=>rfl⟩;have hpu:=G3 hbyt ht hl;have e:vG bs t=(bs++bU t,0):=by
  unfold vG iJ;rw [if_neg (by have:=hw.1;omega),if_pos]
  · rw [bU,List.append_assoc]
  rw [List.all_eq_true];intro z hz;obtain ⟨⟨h1,h2⟩,⟨h3,h4⟩,h5,h6⟩:=hw.2 z hz;simp only [lY,Bool.and_eq_true,decide_eq_true_eq];exact ⟨⟨⟨⟨⟨h1,h2⟩,h3⟩,h4⟩,h5⟩,h6⟩
 rw [e] at hpu;have HPU:=hid hpu;have HS:=hid h;have z0:=hblk.cell 0;obtain ⟨q,hq⟩ : ∃ q,q=bs++bU t:=⟨_,rfl⟩;have HQB:Hid (∀ x ∈ q,x<256):=hid (by rw [hq];exact i7 h.byte (r8 t));rw [<-hq] at HPU ⊢;have HBL:=hid hblk;clear hpu h ht hw hbyt hown hblk e hq;go_in;go_wp2_with fail
 refine (HPU.o).mono ?_;rintro e w1 ⟨hb1,A1,c1,rfl,ho1⟩;obtain ⟨h2,h3⟩:=HS.o.put hb1 ho1 HQB.o;have HS2:=hid h2;have HM2:=hid h3;have hk:=HBL.o.below hb1 HBL.o.lt;have z1:=hk.cell 0;have f1:=hk.frozen 0;clear z0 hb1 ho1 h2 h3 hk;go_wp2_with fail
 refine bodyPost_end (results_none rfl _ _ _) rfl ⟨rfl,HM2.o,HS2.o⟩
end
end Go.Proofs.YtplecfbdchmogaaGreat
