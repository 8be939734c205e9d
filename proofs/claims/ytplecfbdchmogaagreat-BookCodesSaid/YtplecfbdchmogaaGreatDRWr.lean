/- The writing of bytes: the reference's octets. -/
import Derived.Test.YtplecfbdchmogaaGreatDWrtF
import Derived.Test.YtplecfbdchmogaaGreatDWrt
namespace Go.Proofs.YtplecfbdchmogaaGreat
open Go.Value renaming slice → O
open Go.Lib (hid)
set_option maxHeartbeats 4000000
set_option maxRecDepth 100000
set_option linter.unusedVariables false
set_option linter.unusedSimpArgs false
open Go.RowKit
theorem J4 (a b:List Nat):sJ a++sJ b=sJ (a++b):=by simp [sJ]
structure f9 (base:Nat) (A:Option Addr) (c:Nat) (bs:List Nat) (w:World) (A':Option Addr) (c':Nat) (bs':List Nat) (w':World):Prop where
 moved:aG (fun _=>False) (Value.slice A bs.length c).ownBlock w w'
 own:bM w' base (O A' bs'.length c') bs'
 new:∀ g,(Value.slice A' bs'.length c').ownBlock=some g->(Value.slice A bs.length c).ownBlock=some g\/w.heap.size<=g
def KP (base:Nat) (A:Option Addr) (c:Nat) (bs bs':List Nat) (w:World) (e:Ending) (w':World):Prop:=∃ A' c',e=.returned (O A' bs'.length c')/\f9 base A c bs w A' c' bs' w'
def gR (bs:List Nat) (w:World) (e:Ending) (w':World):Prop:=Below w.heap.size w w'/\∃ A c,e=.returned (O A bs.length c)/\bM w' w.heap.size (O A bs.length c) bs
section
variable {base : Nat} {A A' A1 A3 : Option Addr} {c c' c1 c3 : Nat} {bs b1 b3 more : List Nat} {w w1 w2 w3 : World}
theorem f9.app (hb:Below w.heap.size w w1) (ha:dQ w1 w2 base 5 1 (O A bs.length c) A' (bs.length+more.length) c' (sJ bs++sJ more)):f9 base A c bs w A' c' (bs++more) w2:=by
 have e:(bs++more).length=bs.length+more.length:=List.length_append;refine ⟨(aG.of_below hb).trans (aG.of_grown ha.grown) (fun _ hg=>.inl hg),?_,?_⟩
 · have h:=ha.own;rw [J4] at h;unfold bM;rw [e];exact h
 rw [e];exact fun g hg=>(ha.new g hg).imp id fun h=>Nat.le_trans hb.size h
theorem f9.trans (h:f9 base A c bs w A1 c1 b1 w1) (hb:Below w1.heap.size w1 w2) (h2:f9 base A1 c1 b1 w2 A3 c3 b3 w3):f9 base A c bs w A3 c3 b3 w3:=by
 have s1:=h.moved.size;have s2:=hb.size;refine ⟨(h.moved.trans (aG.of_below hb) (row':=none) (fun _ e=>by cases e)).trans h2.moved h.new,h2.own,fun g hg => ?_⟩;rcases h2.new g hg with h3 | h3
 · exact h.new g h3
 exact .inr aA
theorem f9.refl (h:bM w base (O A bs.length c) bs):f9 base A c bs w A c bs w:=⟨aG.refl _ _ _,h,fun _ hg=>.inl hg⟩
theorem f9.below (h:f9 base A c bs w A1 c1 b1 w1) (ho:bM w base (O A bs.length c) bs) (hB:base<=w.heap.size):Below base w w1:=h.moved.to_below hB (fun _ h=>h.elim) (fun _ hg=>(aC ho hg).1)
theorem f9.then_below (h:f9 base A c bs w A1 c1 b1 w1) (hb:Below w1.heap.size w1 w2):f9 base A c bs w A1 c1 b1 w2 :=
 ⟨h.moved.trans (aG.of_below hb) (row':=none) (fun _ e=>by cases e),h.own.below hb,h.new⟩
theorem f9.after (hb:Below w.heap.size w w1) (h:f9 base A c bs w1 A1 c1 b1 w2):f9 base A c bs w A1 c1 b1 w2 :=
 ⟨(aG.of_below hb).trans h.moved (fun _ hg=>.inl hg),h.own,fun g hg=>(h.new g hg).imp id fun h=>Nat.le_trans hb.size h⟩
theorem f9.fresh (hb:Below w.heap.size w w1) (h:bM w1 w.heap.size (O A1 b1.length c1) b1) (hB:base<=w.heap.size):f9 base A c bs w A1 c1 b1 w1 :=
 ⟨aG.of_below hb,kN h hB,fun _ hg=>.inr (aC h hg).1⟩
theorem gR.byt (h:bM w1 base (O A bs.length c) bs) (hx:∀ x ∈ bs,x<256) (hl:bs.length<=5000000000010):gC w1 A bs.length c bs:=(h.byt hx aA).keep fun b hb=>⟨hb.2,fun _=>rfl⟩
end
theorem jC.none {R:Nat->Prop} {w:World} {A:Option Addr} {n c:Nat} {bs:List Nat} (h:jC R w A n c bs):A=none->n=0/\c=0:=fun e=>by
 have h1:=h.cap;have h2:=h.nul e;omega
theorem bV {o:Oper} {a:Act} {w:World} {K:Act->World->Prop} {Q:Exit->Act->World->Prop} (s x:Operand) (hop:o.op=Op.call { callee:=Callee.builtin Builtin.append,args:=#[s,x],argTypes:=#[37,37] })
 (base:Nat) {A:Option Addr} {c:Nat} {bs:List Nat} (hs:a.eval s=O A bs.length c) (ho:bM w base (O A bs.length c) bs) {B:Option Addr} {d:Nat} {more:List Nat} (hx:a.eval x=O B more.length d) (hy:gC w B more.length d more) (hl:bs.length+more.length<=100000000000000) (hb:base<=w.heap.size)
 (hK:∀ A' c' w' l,l=bs++more->f9 base A c bs w A' c' l w'->K (a.put o.dst (O A' l.length c')) w'):Oper.wp Tryz.prog o a w K Q:=by
 obtain ⟨i0,hi,hy0,hy1,hy2⟩:=info_parts uS;refine cR s x 37 hop base 5 i0 _ 1 1 Tryz.underlying37 hi hy0 hy1 hy2 rfl (by decide) _ _ (sJ bs) hs ho B more.length d (sJ more) hx (by rw [vK];omega) hy.none hy.cells (CM _) (by unfold maxLen;omega) aA hb (fun A' c' w' h => ?_);have h2:=hK A' c' w' _ rfl (f9.app (Below.refl _ _) h)
 rwa [List.length_append] at h2
theorem IQ (w:World):gC w none 0 0 []:=⟨rfl,Nat.le_refl _,aA,(fun _=>rfl),(fun x hx=>by cases hx),(fun h=>by omega)⟩
theorem xG {w:World} {base:Nat} (hb:base<=w.heap.size) (x:Nat):bM (w.alloc (.cells #[.int .u8 (x:Int)] 5)) base (O (some ⟨w.heap.size,0,none⟩) 1 1) [x] :=
 ⟨rfl,.inr ⟨w.heap.size,1,#[.int .u8 (x:Int)],rfl,hb,heap_alloc_new w _,Nat.le_refl _,by unfold maxLen;omega,rfl,rfl⟩⟩
theorem oN {w:World} {base:Nat} (hb:base<=w.heap.size):bM (w.alloc (.cells #[] 5)) base (O (some ⟨w.heap.size,0,none⟩) 0 0) [] :=
 World.ownsRow_made w #[] 0 hb (Nat.zero_le _) rfl
theorem E8 (m:Nat) (w:World) (hm:m<18446744073709551616):Calls Tryz.prog 127 #[.int .u64 (m:Int)] w (gR (aH m) w):=by
 induction m using Nat.strongRecOn generalizing w with
 | ind m ih =>
  obtain ⟨i0,hi,hy0,hy1,hy2⟩:=info_parts uS;have HI0:=hid hi;have HY0:=hid hy0;have HY1:=hid hy1;have HY2:=hid hy2;clear hi hy0 hy1 hy2;by_cases h1:m<128
  · have d1:decide ((m:Int)<128)=true:=decide_eq_true aA;have d2:decide (m<128)=true:=decide_eq_true h1;have HFL:=hid (pU h1);have hw:IntKind.u8.wrap (m:Int)=(m:Int):=by rw [IntKind.wrap_u8];omega
    have hw2:(m:Int) % 256=(m:Int):=aA;clear ih;go_in;go_wp2_with fail
    go_ret;refine ⟨aB w _,some ⟨w.heap.size,0,none⟩,1,?_,?_⟩
    · rw [HFL.o];rfl
    rw [HFL.o];exact xG (Nat.le_refl _) m
  have d1:decide ((m:Int)<128)=false:=decide_eq_false aA;have d2:decide (m<128)=false:=decide_eq_false h1;have HS:=hid (rF aA hm);obtain ⟨k,hkk⟩ : ∃ k,k=m / 128:=⟨_,rfl⟩;obtain ⟨x,hx⟩ : ∃ x:Nat,x=m % 128+128:=⟨_,rfl⟩;have hx2:x<256:=aA;have e1:IntKind.u64.wrap (((m:Int) % 128)+128)=(x:Int):=by rw [IntKind.wrap_u64,hx];omega
  have e1b:((m:Int) % 128)+128=(x:Int):=by rw [hx];omega
  have e1c:Int.tmod (m:Int) 128=(m:Int) % 128:=by rw [Int.tmod_eq_emod_of_nonneg aA]
  have e2:IntKind.u8.wrap (x:Int)=(x:Int):=by rw [IntKind.wrap_u8];omega
  have e2b:(x:Int) % 256=(x:Int):=aA;have e3:(m:Int) / 128=(k:Int):=by rw [hkk];omega
  have e3b:Int.tdiv (m:Int) 128=(k:Int):=by rw [Int.tdiv_eq_ediv_of_nonneg aA];exact e3
  have e4:IntKind.u64.wrap (k:Int)=(k:Int):=by rw [IntKind.wrap_u64];omega
  rw [<-hkk] at HS;rw [<-hx] at HS;have HR:=hid (ih k aA (w.alloc (.cells #[.int .u8 (x:Int)] 5)) aA);have HX:=hid hx;have HKK:=hid hkk;have hln:=(aW k).2;have HBY:=hid (dJ k);have HB1:=hid (aB w (.cells #[.int .u8 (x:Int)] 5));have HO1:=hid (xG (w:=w) (Nat.le_refl _) x);clear ih hm h1 hx hkk;go_in;go_wp2_with fail
  refine (HR.o).mono ?_;rintro e w2 ⟨hb2,A2,c2,rfl,ho2⟩;have HB2:=hid hb2;have HO2:=hid ho2;have HY:=hid (gR.byt ho2 HBY.o aA);have HO3:=hid (HO1.o.below hb2);have HSZ:Hid (w.heap.size<=w2.heap.size):=hid (Nat.le_trans HB1.o.size hb2.size);clear hb2 ho2;go_wp2_with (at_builtin;go_loud (refine aN rfl (bV (.tmp 12) (.tmp 15) rfl w.heap.size (bs:=[x]) rfl HO3.o rfl HY.o (by simp;omega) HSZ.o ?_));intro A4 c4 w4 l4 hl4 hap;have HAP:=hid hap;have HL4:=hid hl4;clear hap hl4)
  go_ret;refine ⟨HB1.o.trans ((HB2.o.mono HB1.o.size).trans (HAP.o.below HO3.o HSZ.o)),A4,c4,by rw [HS.o,HL4.o];rfl,?_⟩;rw [HS.o];have h9:=HAP.o.own
  rwa [HL4.o] at h9
theorem uD (m:Nat) (w:World) (hm:m<18446744073709551616):Calls Tryz.prog 127 #[.int .u64 (m:Int)] w (gR (aH m) w):=E8 m w hm
theorem E7 {w:World} (z:Int) (h1 : -9223372036854775808<=z) (h2:z<=9223372036854775807):Calls Tryz.prog 128 #[.int .i64 z] w (fun e w'=>e=.returned (.int .u64 ((mZ z:Nat):Int))/\w=w'):=by
 by_cases h0:0<=z
 · have d1:decide (z ≥ 0)=true:=decide_eq_true h0;have d2:decide (0<=z)=true:=decide_eq_true h0;have e1:IntKind.u64.wrap z=z:=by rw [IntKind.wrap_u64];omega
   have e2:IntKind.u64.wrap (2*z)=((mZ z:Nat):Int):=by rw [IntKind.wrap_u64];unfold mZ;rw [if_pos h0];omega
   clear h0 h1 h2;go_in;go_wp2_with fail
   go_ret;exact ⟨rfl,rfl⟩
 have d1:decide (z ≥ 0)=false:=decide_eq_false h0;have d2:decide (0<=z)=false:=decide_eq_false h0;have e1:IntKind.i64.wrap (z+1)=z+1:=by rw [IntKind.wrap_i64];omega
 have e2:IntKind.i64.wrap (-(z+1)) = -(z+1):=by rw [IntKind.wrap_i64];omega
 have e3:IntKind.u64.wrap (-(z+1)) = -(z+1):=by rw [IntKind.wrap_u64];omega
 have e4:IntKind.u64.wrap (2 * -(z+1))=2 * -(z+1):=by rw [IntKind.wrap_u64];omega
 have e5:IntKind.u64.wrap (2 * -(z+1)+1)=((mZ z:Nat):Int):=by rw [IntKind.wrap_u64];unfold mZ;rw [if_neg h0];omega
 clear h0 h1 h2;go_in;go_wp2_with fail
 go_ret;exact ⟨rfl,rfl⟩
theorem IF {w:World} {A B:Option Addr} {n c m d:Nat} {bs:List Nat} {zs:List Int} (h:gC w A n c bs) (hz:iZ (· < w.heap.size) w B m d zs) (hw:∀ z ∈ zs,0<=z/\z<=9223372036854775807) (hn:n<=4500000000000) (hm:m<=1000) :
 Calls Tryz.prog 143 #[O A n c,O B m d] w (pN (bs++cO zs,0) w):=by
 obtain rfl:=h.len;have hzl:=hz.len;have HB1:=hid (aB w (.cells #[] 5));have HO1:=hid (oN (w:=w) (Nat.le_refl _));have HY1:=hid (h.below HB1.o);have HZ:=hid hz;have HW:=hid hw;have HZL:=hid hzl;have HS1:=hid HB1.o.size;have HFL:Hid (∀ k,(cO (zs.take k)).length<=10000):=hid (fun k=>by have h1:=zP (zs.take k);have h2:(zs.take k).length<=zs.length:=(by rw [List.length_take];exact Nat.min_le_right _ _);omega);clear h hz hw hzl;go_in;go_wp2_with (at_builtin;go_loud (refine aN rfl (bV (.tmp 8) (.tmp 9) rfl w.heap.size (bs:=[]) rfl HO1.o rfl HY1.o (by simp;omega) HS1.o ?_));intro A2 c2 w2 l2 hl2 hap;rw [List.nil_append] at hl2;have hl3:=hl2.symm;subst hl3;have HAP:=hid hap;clear hap)
 have HB2:Hid (Below w.heap.size w w2):=hid (HB1.o.trans (HAP.o.below HO1.o HS1.o));have HO2:=hid HAP.o.own;go_loopw [6,7] (fun ov iv wr=>∃ (k:Nat) (A1:Option Addr) (c1:Nat) (l:List Nat),ov=O A1 l.length c1/\iv=.int .i64 (k:Int)/\k<=m/\Hid (l=bs++cO (zs.take k))/\Hid (bM wr w.heap.size (O A1 l.length c1) l)/\Hid (Below w.heap.size w wr)) (fun _ iv _=>m-(intOf iv).toNat)
 case atStart=>exact ⟨0,A2,c2,bs,rfl,rfl,Nat.zero_le _,hid (by simp [cO]),HO2,HB2⟩
 case round =>
  obtain ⟨k,A1,c1,l,rfl,rfl,hk,HL,HOl,HBl⟩:=hrel;by_cases hlt:k<m;rotate_left
  · have d1:decide ((k:Int)<(m:Int))=false:=decide_eq_false aA;have d2:decide (k<m)=false:=decide_eq_false hlt;have HE:Hid (l=bs++cO zs):=hid (by rw [HL.o,List.take_of_length_le (by rw [HZL.o];omega)]);clear hlt;go_wp2_with fail
    go_ret2;refine ⟨HBl.o,A1,c1,?_,?_⟩
    · show _=Ending.returned (.tuple #[O A1 (bs++cO zs).length c1,.int .i64 0]);rw [<-HE.o];rfl
    show bM wr w.heap.size (O A1 (bs++cO zs).length c1) (bs++cO zs);rw [<-HE.o];exact HOl.o
  have d1:decide ((k:Int)<(m:Int))=true:=decide_eq_true aA;have d2:decide (k<m)=true:=decide_eq_true hlt;have hlt2:(k:Int)<(m:Int):=aA;have hkl:k<zs.length:=by rw [HZL.o];exact hlt
  obtain ⟨b,off,e,hlb,hcs⟩:=HZ.o.mem aA;subst e;have hcell:=(HBl.o.cell (p:=⟨b,off+k,none⟩) hlb).trans (hcs k hlt);have hq:=HW.o (zs.getD k 0) (by rw [List.getD_eq_getElem?_getD,List.getElem?_eq_getElem hkl];exact List.getElem_mem hkl);obtain ⟨q,hqq⟩ : ∃ q:Nat,zs.getD k 0=(q:Int):=⟨(zs.getD k 0).toNat,by omega⟩;have HT:Hid (zs.take (k+1)=zs.take k++[(q:Int)]):=hid (by rw [List.take_succ_eq_append_getElem hkl,<-hqq,List.getD_eq_getElem?_getD,List.getElem?_eq_getElem hkl];rfl);rw [hqq] at hcell hq;have d3:decide ((q:Int)<0)=false:=decide_eq_false aA;have e1:IntKind.u64.wrap (q:Int)=(q:Int):=by rw [IntKind.wrap_u64];omega
  have HFO:=hid (uD q wr aA);have hfq:=(aW q).2;have hll:l.length<=4500000010000:=by rw [HL.o,List.length_append];have:=HFL.o k;omega
  have HBY:=hid (dJ q);clear hqq hcs hkl hq;go_wp2_with fail
  refine (HFO.o).mono ?_;rintro e w3 ⟨hb3,A3,c3,rfl,ho3⟩;have HB3:=cN HBl hb3;have HY3:=hid (gR.byt ho3 HBY.o aA);have HO3:=hid (HOl.o.below hb3);have HS3:=hid HB3.o.size;clear hb3 ho3;go_wp2_with (at_builtin;go_loud (refine aN rfl (bV (.tmp 22) (.tmp 28) rfl w.heap.size rfl HO3.o rfl HY3.o aA HS3.o ?_));intro A4 c4 w4 l4 hl4 hap;have HAP4:=hid hap;have HL4:=hid hl4;clear hap hl4)
  go_roundw
  case rel=>exact ⟨k+1,A4,c4,l4,rfl,by go_num,by omega,hid (by rw [HL4.o,HT.o,HL.o];simp [cO]),hid HAP4.o.own,hid (HB3.o.trans (HAP4.o.below HO3.o HS3.o))⟩
  case measure=>simp [intOf];omega
theorem yM {w:World} {A:Option Addr} {n c:Nat} {bs:List Nat} (h:gC w A n c bs) (z:Int) (h1 : -9223372036854775808<=z) (h2:z<=9223372036854775807) (hn:n<=4500000000000) :
 Calls Tryz.prog 101 #[O A n c,.int .i64 z] w (gR (bs++aH (mZ z)) w):=by
 obtain rfl:=h.len;have HB1:=hid (aB w (.cells #[] 5));have HO1:=hid (oN (w:=w) (Nat.le_refl _));have HY1:=hid (h.below HB1.o);have HS1:=hid HB1.o.size;have HFD:=hid (fun W:World=>E7 (w:=W) z h1 h2);have HFO:=hid (fun W:World=>uD (mZ z) W (IE h1 h2));have hfl:=(aW (mZ z)).2;have HBY:=hid (dJ (mZ z));generalize mZ z=q at *;clear h h1 h2;go_in;go_wp2_with (at_builtin;go_loud (refine aN rfl (bV (.tmp 5) (.tmp 6) rfl w.heap.size (bs:=[]) rfl HO1.o rfl HY1.o (by simp;omega) HS1.o ?_));intro A2 c2 w2 l2 hl2 hap;rw [List.nil_append] at hl2;have hl3:=hl2.symm;subst hl3;have HAP:=hid hap;clear hap)
 have HB2:Hid (Below w.heap.size w w2):=hid (HB1.o.trans (HAP.o.below HO1.o HS1.o));have HO2:=hid HAP.o.own;refine (HFD.o _).mono ?_;rintro e w3 ⟨rfl,rfl⟩;go_wp2_with fail
 refine (HFO.o _).mono ?_;rintro e w3 ⟨hb3,A3,c3,rfl,ho3⟩;have HB3:=cN HB2 hb3;have HY3:=hid (gR.byt ho3 HBY.o aA);have HO3:=hid (HO2.o.below hb3);have HS3:=hid HB3.o.size;clear hb3 ho3;go_wp2_with (at_builtin;go_loud (refine aN rfl (bV (.tmp 7) (.tmp 10) rfl w.heap.size rfl HO3.o rfl HY3.o aA HS3.o ?_));intro A4 c4 w4 l4 hl4 hap;have HAP4:=hid hap;have HL4:=hid hl4;clear hap hl4)
 go_ret;rw [<-HL4.o];exact ⟨HB3.o.trans (HAP4.o.below HO3.o HS3.o),A4,c4,rfl,HAP4.o.own⟩
theorem fM {w:World} {base:Nat} {A:Option Addr} {c:Nat} {bs:List Nat} (ho:bM w base (O A bs.length c) bs) (hb:base<=w.heap.size) (z:Int) (h1:0<=z) (h2:z<=9223372036854775807) (hn:bs.length<=4500000000000) :
 Calls Tryz.prog 100 #[O A bs.length c,.int .i64 z] w (KP base A c bs (bs++aH z.toNat) w):=by
 obtain ⟨q,rfl⟩ : ∃ q:Nat,z=(q:Int):=⟨z.toNat,by omega⟩;have e1:IntKind.u64.wrap (q:Int)=(q:Int):=by rw [IntKind.wrap_u64];omega
 have HFO:=hid (uD q w aA);have hfl:=(aW q).2;have HBY:=hid (dJ q);have HO:=hid ho;have HS:=hid hb;rw [show ((q:Int)).toNat=q from by omega];clear ho hb h1 h2;go_in;go_wp2_with fail
 refine (HFO.o).mono ?_;rintro e w3 ⟨hb3,A3,c3,rfl,ho3⟩;have HB3:=hid hb3;have HY3:=hid (gR.byt ho3 HBY.o aA);have HO3:=hid (HO.o.below hb3);have HS3:=hid (Nat.le_trans HS.o HB3.o.size);clear hb3 ho3;go_wp2_with (at_builtin;go_loud (refine aN rfl (bV (.tmp 5) (.tmp 8) rfl base rfl HO3.o rfl HY3.o aA HS3.o ?_));intro A4 c4 w4 l4 hl4 hap;have HAP4:=hid hap;have HL4:=hid hl4;clear hap hl4)
 go_ret;rw [<-HL4.o];exact ⟨A4,c4,rfl,f9.after HB3.o HAP4.o⟩
end Go.Proofs.YtplecfbdchmogaaGreat
