/- Merged: OctM, OctO. -/
import Derived.Test.YtplecfbdchmogaaGreatDShort2
import Derived.Test.YtplecfbdchmogaaGreatDRdP
namespace Go.Proofs.YtplecfbdchmogaaGreat
open Option renaming none → O
section
open Go.Lib (hid)
set_option maxHeartbeats 2000000
set_option maxRecDepth 100000
open Go.RowKit
theorem wY:∀ (l:List Nat) (most i n:Nat),(bZ most i n l).2.1<=most
 | [],most,i,n=>by simp [bZ]
 | c::r,most,i,n=>by
  simp only [bZ];split
  · simp
  · rename_i h
    split
    · show n+c % 128*2 ^ (7*i)<=most;have:=fun h2=>h (Or.inr (Or.inl h2));omega
    split
    · simp
    exact wY r most (i+1) _
theorem bD (most:Nat) (s:Rd):(aJ most s).1<=most:=by
 unfold aJ;split
 · exact Nat.zero_le _
 split
 · exact Nat.zero_le _
 exact wY _ _ _ _
section
variable {R : Nat->Prop} {w0 w w1 w' : World} {g n c k : Nat} {A : Option Addr} {bs : List Nat} {z : Int} {q : Rd}
end
def MA (R:Nat->Prop) (w0:World) (g:Nat) (A:Option Addr) (n c:Nat) (bs:List Nat) (r:Int×Rd) (w:World) (e:Ending) (w':World):Prop:=e=.returned (.int .i64 r.1)/\KC R w0 g A n c bs r.2 w w'
theorem lZ {R:Nat->Prop} {w0 w:World} {g n c k:Nat} {A:Option Addr} {bs:List Nat} {z:Int} (h:nG R w0 g A n c bs k z w) (o:Bool) (most:Nat) (hm:most<=100000000) :
 Calls Tryz.prog 105 #[.pointer (some ⟨g,0,O⟩),.int .i64 (most:Int)] w (MA R w0 g A n c bs (aZ most ⟨bs.drop k,z,o⟩) w):=by
 have HN:=hid (tO h o most aA);have hle:=bD most ⟨bs.drop k,z,o⟩;unfold aZ;obtain ⟨q,hq⟩ : ∃ q,q=aJ most ⟨bs.drop k,z,o⟩:=⟨_,rfl⟩;rw [<-hq] at HN hle ⊢;obtain ⟨v,s⟩:=q;simp only at HN hle ⊢;have hw:IntKind.u64.wrap (most:Int)=(most:Int):=by rw [IntKind.wrap_u64];omega
 have hw2:IntKind.i64.wrap (v:Int)=(v:Int):=by rw [IntKind.wrap_i64];omega
 have d1:decide ((most:Int)<0)=false:=decide_eq_false aA;clear h hq;go_in;go_wp2_with fail
 refine (HN.o).mono ?_;rintro e w1 ⟨rfl,h1⟩;have H1:=hid h1;clear h1;go_wp2_with fail
 go_ret;exact ⟨rfl,H1.o⟩
theorem J6 (x:Nat) (hx:x<9223372036854775808):bits .xor .i64 (x:Int) (-1) = -(x:Int)-1:=by
 show IntKind.i64.wrap ((BitVec.ofInt 64 (x:Int) ^^^ BitVec.ofInt 64 (-1)).toNat:Int)=_;have h1:(BitVec.ofInt 64 (-1)).toNat=2 ^ 64-1:=by decide
 have h2:(BitVec.ofInt 64 (x:Int)).toNat=x:=by
  rw [BitVec.ofInt_natCast,BitVec.toNat_ofNat];exact Nat.mod_eq_of_lt aA
 rw [BitVec.toNat_xor,h1,h2,Nat.xor_comm,Lib.xor_ones64 x aA,IntKind.wrap_i64];omega
theorem BM (x:Nat) (hx:x<9223372036854775808):bits .xor .i64 (x:Int) 0=(x:Int):=by
 show IntKind.i64.wrap ((BitVec.ofInt 64 (x:Int) ^^^ BitVec.ofInt 64 0).toNat:Int)=_;have h1:(BitVec.ofInt 64 0).toNat=0:=by decide
 have h2:(BitVec.ofInt 64 (x:Int)).toNat=x:=by
  rw [BitVec.ofInt_natCast,BitVec.toNat_ofNat];exact Nat.mod_eq_of_lt aA
 rw [BitVec.toNat_xor,h1,h2,Nat.xor_zero,IntKind.wrap_i64];omega
theorem xF {R:Nat->Prop} {w0 w:World} {g n c k:Nat} {A:Option Addr} {bs:List Nat} {z:Int} (h:nG R w0 g A n c bs k z w) (o:Bool) :
 Calls Tryz.prog 107 #[.pointer (some ⟨g,0,O⟩)] w (MA R w0 g A n c bs (gM ⟨bs.drop k,z,o⟩) w):=by
 have HN:=hid (tO h o 18446744073709551615 (by decide));have hle:=bD 18446744073709551615 ⟨bs.drop k,z,o⟩;unfold gM;obtain ⟨q,hq⟩ : ∃ q,q=aJ 18446744073709551615 ⟨bs.drop k,z,o⟩:=⟨_,rfl⟩;rw [<-hq] at HN hle ⊢;obtain ⟨v,s⟩:=q;simp only at HN hle ⊢;have hand:bits BinOp.and IntKind.u64 (v:Int) 1=((v % 2:Nat):Int):=by rw [Lib.u64_and1 _ aA aA];omega
 obtain ⟨d,hd⟩ : ∃ d,d=v / 2:=⟨_,rfl⟩;obtain ⟨r,hr⟩ : ∃ r,r=v % 2:=⟨_,rfl⟩;have hdiv:(v:Int) / 2=(d:Int):=aA;have hw:IntKind.i64.wrap (d:Int)=(d:Int):=by rw [IntKind.wrap_i64];omega
 rw [<-hr] at hand;have hw2:IntKind.i64.wrap (r:Int)=(r:Int):=by rw [IntKind.wrap_i64];omega
 have HV:Hid (E6 v=if r=0 then (d:Int) else -(d:Int)-1):=hid (by unfold E6;rw [hr,hd]);have hr2:r=0\/r=1:=aA;have hdl:d<9223372036854775808:=aA;clear h hq hle hd hr;rcases hr2 with rfl | rfl;all_goals
  have hx0:=BM d hdl;have hx1:=J6 d hdl;clear hdl;go_in;go_wp2_with fail
  refine (HN.o).mono ?_;rintro e w1 ⟨rfl,h1⟩;have H1:=hid h1;clear h1;go_wp2_with fail
  go_ret;refine ⟨?_,H1.o⟩;rw [HV.o];first | rfl | (rw [if_pos rfl]) | (rw [if_neg (by decide)])
theorem GY {R:Nat->Prop} {w0 w:World} {g n c k:Nat} {A:Option Addr} {bs:List Nat} {z:Int} (h:nG R w0 g A n c bs k z w) :
 Calls Tryz.prog 55 #[.pointer (some ⟨g,0,O⟩)] w (fun e w'=>e=.returned (.int .i64 z)/\w'=w):=by
 have z2:=h.blk.cell 2;clear h;go_in;go_wp2_with fail
 go_ret;exact ⟨rfl,rfl⟩
theorem D6 {R:Nat->Prop} {w0 w:World} {g n c k:Nat} {A:Option Addr} {bs:List Nat} {z:Int} (h:nG R w0 g A n c bs k z w) :
 Calls Tryz.prog 56 #[.pointer (some ⟨g,0,O⟩)] w (fun e w'=>e=.returned (.int .i64 ((n-k:Nat):Int))/\Below w.heap.size w w'):=by
 have HL:=hid (rK h);obtain ⟨m,hm⟩ : ∃ m,m=n-k:=⟨_,rfl⟩;rw [<-hm] at HL ⊢;clear h hm;go_in;go_wp2_with fail
 refine (HL.o).mono ?_;rintro e w1 ⟨hb1,A',c',rfl,_⟩;have HB1:=hid hb1;clear hb1;go_wp2_with fail
 go_ret;exact ⟨rfl,HB1.o⟩
def L3 (bs:List Nat) (w:World) (e:Ending) (w':World):Prop:=∃ (R:Nat->Prop) (g:Nat) (A:Option Addr) (c:Nat),e=.returned (.pointer (some ⟨g,0,O⟩))/\nG R w g A bs.length c bs 0 0 w'/\∀ q,R q->w.heap.size<=q
theorem GZ {A:Option Addr} {n c:Nat} {bs:List Nat} {w:World} (h:gC w A n c bs) :
 Calls Tryz.prog 46 #[.slice A n c] w (L3 bs w):=by
 have HCL:=hid (j4 h);have HB:=hid h.byte;have HF:Hid (bs.length<=140737488355328):=hid (by have:=h.len;have:=h.few;omega);clear h;go_in;go_wp2_with fail
 refine (HCL.o).mono ?_;rintro e w1 ⟨hb1,A1,c1,rfl,ho1⟩;have HB1:=hid hb1;have HO1:=hid ho1;clear hb1 ho1;go_wp2_with fail
 go_ret;have hy:=(HO1.o.byt HB.o HF.o);have hba:=aB w1 (.cells #[.slice A1 bs.length c1,.int .i64 0,.int .i64 0] 147);refine ⟨fun b=>w.heap.size<=b/\b<w1.heap.size,w1.heap.size,A1,c1,rfl,⟨HB1.o.trans (hba.mono HB1.o.size),aE.new _ _ _,HB1.o.size,hy.keep fun q hq=>⟨hq,fun o=>hba.cell (p:=⟨q,o,O⟩) hq.2⟩,fun q hq=>⟨by have:=hq.2;simp;omega,by have:=hq.2;omega⟩,Nat.zero_le _⟩,fun q hq=>hq.1⟩
end
section
open Go.Lib (hid)
open Go.RowKit
def eE {α:Type} (chk:Rd->Bool) (f:bL α) (acc:List α) (k:Nat) (s:Rd):List α×Rd:=if chk (aP chk f k s).2 then ([],(aP chk f k s).2) else (acc++(aP chk f k s).1,(aP chk f k s).2)
section
variable {α : Type} {chk : Rd->Bool} {f : bL α} {acc : List α} {k : Nat} {s : Rd}
theorem xU:∀ (k:Nat) (s:Rd),chk (aP chk f k s).2=true->(aP chk f k s).1=[]
 | 0,s,_=>rfl
 | k+1,s,h=>by
  simp only [aP] at h ⊢;by_cases h1:chk (f s).2=true
  · rw [if_pos h1]
  · rw [if_neg h1] at h ⊢;by_cases h2:chk (aP chk f k (f s).2).2=true
    · rw [if_pos h2]
    rw [if_neg h2] at h;exact absurd h h2
theorem eV:eE chk f [] k s=aP chk f k s:=by
 unfold eE;by_cases h:chk (aP chk f k s).2=true
 · rw [if_pos h,<-xU k s h]
 rw [if_neg h,List.nil_append]
theorem fO (h:chk (f s).2=true):eE chk f acc (k+1) s=([],(f s).2):=by
 have e:aP chk f (k+1) s=([],(f s).2):=by
  simp only [aP];rw [if_pos h]
 simp only [eE,e,h,if_true]
theorem fJ (h:chk (f s).2=false):eE chk f acc (k+1) s=eE chk f (acc++[(f s).1]) k (f s).2:=by
 unfold eE;simp only [aP,h];by_cases h2:chk (aP chk f k (f s).2).2=true
 · simp [h2]
 simp [h2]
theorem gB (h:chk s=true->acc=[]):eE chk f acc 0 s=(acc,s):=by
 by_cases h1:chk s=true
 · simp [eE,aP,h1,h h1]
 simp [eE,aP,h1]
theorem i9 (hf:∀ s,(f s).2.odd=s.odd) : ∀ (k:Nat) (s:Rd),(aP chk f k s).2.odd=s.odd
 | 0,s=>rfl
 | k+1,s=>by
  simp only [aP];split
  · exact hf s
  · split
    · exact (i9 hf k _).trans (hf s)
    exact (i9 hf k _).trans (hf s)
end
theorem iU (most:Nat) (s:Rd):(aZ most s).2.odd=s.odd:=bI most s
theorem AM (s:Rd):(iW s).2.odd=s.odd:=by
 simp only [iW,bL.seq,bL.pure,iU]
theorem eP (s:Rd):(bT s).2.odd=s.odd:=by
 simp only [bT,bO,bL.seq];rw [i9 AM,bI]
section
variable {R : Nat->Prop} {w0 w w1 w' : World} {g n c k : Nat} {A : Option Addr} {bs : List Nat} {z : Int} {q : Rd}
theorem KC.eq_ (h:KC R w0 g A n c bs q w w') {o:Bool} (ho:q.odd=o):aG (fun q=>q=g) O w w'/\∃ k z,nG R w0 g A n c bs k z w'/\q=⟨bs.drop k,z,o⟩:=by
 obtain ⟨h1,k,z,h2,h3,h4⟩:=h;exact ⟨h1,k,z,h2,by obtain ⟨a,b,d⟩:=q;simp only at h3 h4 ho;rw [h3,h4,ho]⟩
theorem fZ {base sz:Nat} {e:TypeId} {v:Value} {m:Nat} {xs:List Value} (h:w.ownsRow base e sz v m xs) (hm:aG (fun q=>q=g) O w w') (hg:g<base):w'.ownsRow base e sz v m xs:=by
 obtain ⟨h1,h2⟩:=h;refine ⟨h1,?_⟩;rcases h2 with h2 | ⟨b,cap,cur,hv,hb,hh,r⟩
 · exact Or.inl h2
 subst hv;exact Or.inr ⟨b,cap,cur,rfl,hb,(hm.block b (Array.getElem?_eq_some_iff.1 hh).1 aA (by simp)).trans hh,r⟩
theorem nG.grown {base:Nat} {row:Option Nat} (h:nG R w0 g A n c bs k z w) (hg:w.grownBy w' row) (hne:∀ b,row=some b->base<=b) (hR:∀ q,R q->q<base) (hgb:g<base) (hb0:w0.heap.size<=base):nG R w0 g A n c bs k z w':=by
 have hsz:=hg.size;refine ⟨h.bel.grown hg h.bel.size (fun b e=>Nat.le_trans hb0 (hne b e)),h.blk.grown hg (fun e=>by have:=hne g e.symm;omega),h.ge,h.byt.keep fun q hq=>⟨hq,fun o=>aF (hg.block q (h.off q hq).1 (fun e=>by have:=hne q e.symm;have:=hR q hq;omega)) o⟩,fun q hq=>⟨Nat.lt_of_lt_of_le (h.off q hq).1 hsz,(h.off q hq).2⟩,h.le⟩
theorem j6 {row:Option Nat} (hm:aG (fun q=>q=g) O w w1) (hg:w1.grownBy w' row) (hne:∀ b,row=some b->w.heap.size<=b):aG (fun q=>q=g) O w w' :=
 hm.trans (aG.of_grown hg) (fun b e=>Or.inr (hne b e))
end
def MI (R:Nat->Prop) (w0:World) (g:Nat) (A:Option Addr) (n c:Nat) (bs:List Nat) (r:List Nd×Rd) (w:World) (e:Ending) (w':World):Prop :=
 KC R w0 g A n c bs r.2 w w'/\∃ A' n' c',e=.returned (.slice A' n' c')/\bJ (fresh w w') w' A' n' c' r.1
theorem DO (n:Nat) (hn:n<=1000000) : ∃ cur:Array Value,cur.size=n*3/\∀ w:World,(Instr.makeSlice 28 (.int .i64 0) (.int .i64 (n:Int))).run Tryz.prog w=.ok (.slice (some ⟨w.heap.size,0,O⟩) 0 n) (w.alloc (.cells cur 53)):=by
 obtain ⟨i,hi,h1,h2,h3⟩:=info_parts nI;refine ⟨madeCells (Value.agg #[Value.int .i64 0,Value.int .i64 0,Value.int .i64 0]).cells (n*3),by simp [madeCells],fun w => ?_⟩;rw [run_make (P:=Tryz.prog) w 28 53 i _ Tryz.underlying28 hi h1 .i64 .i64 0 n aA aA (by rw [h3];omega) aA,h2];rfl
set_option maxRecDepth 100000 in
set_option maxHeartbeats 4000000 in
theorem D5 {R:Nat->Prop} {w0 w:World} {g n c k:Nat} {A:Option Addr} {bs:List Nat} {z:Int} (h:nG R w0 g A n c bs k z w) (o:Bool) :
 Calls Tryz.prog 54 #[.pointer (some ⟨g,0,O⟩)] w (MI R w0 g A n c bs (bT ⟨bs.drop k,z,o⟩) w):=by
 obtain ⟨i0,hi,hy0,hy1,hy2⟩:=info_parts nI;have HI0:=hid hi;have HY0:=hid hy0;have HY1:=hid hy1;have HY2:=hid hy2;have hHN:=lZ h o 4096 (by decide);have hle:=bD 4096 ⟨bs.drop k,z,o⟩;have hod:=bI 4096 ⟨bs.drop k,z,o⟩;have HRR:Hid (bT ⟨bs.drop k,z,o⟩=aP jH iW (aJ 4096 ⟨bs.drop k,z,o⟩).1 (aJ 4096 ⟨bs.drop k,z,o⟩).2):=hid rfl;unfold aZ at hHN;obtain ⟨q,hq⟩ : ∃ q,q=aJ 4096 ⟨bs.drop k,z,o⟩:=⟨_,rfl⟩;rw [<-hq] at hHN hle hod HRR;obtain ⟨v,s⟩:=q;simp only at hHN hle hod HRR;obtain ⟨res,hres⟩ : ∃ r,r=bT ⟨bs.drop k,z,o⟩:=⟨_,rfl⟩;rw [<-hres] at HRR ⊢;have HN:=hid hHN;have HOD:=hid hod;have hgl:=h.lt;have hw0:=h.bel.size;have hR:∀ q,R q->q<w.heap.size:=fun q hq=>(h.off q hq).1;clear h hq hres hHN hod hi hy0 hy1 hy2;go_in;go_wp2_with fail
 refine (HN.o).mono ?_;rintro e w1 ⟨rfl,h1⟩;obtain ⟨hm1,k1,z1,hs1,hse⟩:=h1.eq_ HOD.o;subst hse;have HM1:=hid hm1;have HS1:=hid hs1;have HL:=hid (rK hs1);clear h1 hm1 hs1;go_wp2_with fail
 refine (HL.o).mono ?_;rintro e w2 ⟨hb2,A',c',rfl,hy2⟩;have hn1:=HS1.o.byt.few;obtain ⟨m,hm⟩ : ∃ m,m=n-k1:=⟨_,rfl⟩;rw [<-hm];obtain ⟨p,hp⟩ : ∃ p,p=min v m:=⟨_,rfl⟩;have hmin:min (v:Int) (m:Int)=(p:Int):=aA;have hmin2:min v m=p:=hp.symm;have hpl:p<=4096:=aA;obtain ⟨cur,hcur,hmk⟩:=DO p aA;have HM2:=hid (HM1.o.trans (row':=O) (aG.of_below (S:=fun q=>q=g) hb2) (fun _ e=>by cases e));have hbm:=aB w2 (.cells cur 53);have HM3:=hid (HM2.o.trans (row':=O) (aG.of_below (S:=fun q=>q=g) hbm) (fun _ e=>by cases e));have HS3:=hid ((HS1.o.below hb2).below hbm);have HO3:Hid (cI (w2.alloc (.cells cur 53)) w.heap.size (.slice (some ⟨w2.heap.size,0,O⟩) 0 p) []):=hid (World.ownsRow_made w2 cur p HM2.o.size (by unfold maxLen;omega) hcur);have HRS:=hid hR;have HGL:=hid hgl;have HW0:=hid hw0;clear hb2 hy2 hcur hbm hR hgl hw0;rcases (show (m<v/\m=p)\/(v<=m/\v=p) from by omega) with ⟨hvm,hpe⟩ | ⟨hvm,hpe⟩;all_goals
  subst hpe;clear hm hmin2;try clear hp
  go_wp2_with fail
  go_loopw [4,16] (fun sv iv wr=>∃ (A2:Option Addr) (c2 i:Nat) (acc:List Nd) (k':Nat) (z':Int),sv=.slice A2 acc.length c2/\iv=.int .i64 (i:Int)/\i<=v/\Hid (acc.length=i)/\Hid (nG R w0 g A n c bs k' z' wr)/\Hid (aG (fun q=>q=g) O w wr)/\Hid (cI wr w.heap.size (.slice A2 acc.length c2) acc)/\Hid (res=eE jH iW acc (v-i) ⟨bs.drop k',z',o⟩)/\Hid (z'=0\/acc=[])) (fun _ iv _=>v-(intOf iv).toNat)
  case atStart=>exact ⟨some ⟨w2.heap.size,0,O⟩,_,0,[],k1,z1,rfl,rfl,Nat.zero_le _,hid rfl,HS3,HM3,HO3,hid (by rw [HRR.o,Nat.sub_zero,eV]),hid (Or.inr rfl)⟩
  case round =>
   obtain ⟨A2,c2,i,acc,k',z',rfl,rfl,hiv,HAL,HS4,HM4,HO4,HRES,HZ⟩:=hrel;by_cases hlt:i<v;rotate_left
   · have hiv2:i=v:=aA;have d1:decide ((i:Int)<(v:Int))=false:=decide_eq_false aA;have d2:decide (i<v)=false:=decide_eq_false hlt;have HRES2:Hid (res=(acc,⟨bs.drop k',z',o⟩)):=hid (by
      rw [HRES.o,hiv2,Nat.sub_self];exact gB (fun hc=>by
       rcases HZ.o with h | h
       · simp [jH,h] at hc
       exact h))
     have hacl:acc.length<=4096:=by have:=HAL.o;omega
     clear hiv2;go_wp2_with fail
     go_ret;rw [HRES2.o];obtain ⟨A9,n9,c9,e9,h9⟩:=cI.termS HO4.o aA;injection e9 with e1 e2 e3;subst e1 e2 e3;exact ⟨⟨HM4.o,k',z',HS4.o,rfl,rfl⟩,A2,acc.length,c2,rfl,h9.keep fun b hb=>⟨⟨(aC HO4.o hb).1,(aC HO4.o hb).2.1⟩,fun _=>rfl⟩⟩
   have d1:decide ((i:Int)<(v:Int))=true:=decide_eq_true aA;have d2:decide (i<v)=true:=decide_eq_true hlt;have HN5:=hid (lZ HS4.o o 255 (by decide));obtain ⟨q5,hq5⟩ : ∃ q,q=aZ 255 ⟨bs.drop k',z',o⟩:=⟨_,rfl⟩;have hod5:=iU 255 ⟨bs.drop k',z',o⟩;rw [<-hq5] at HN5 hod5;obtain ⟨x5,s5⟩:=q5;simp only at HN5 hod5;have HQ5:=hid hq5.symm;have HOD5:=hid hod5;clear hq5 hod5;go_wp2_with fail
   refine (HN5.o).mono ?_;rintro e w5 ⟨rfl,h5⟩;obtain ⟨hm5,k5,z5,hs5,hse5⟩:=h5.eq_ HOD5.o;simp only at hse5;subst hse5;have HM5:=hid (HM4.o.trans (row':=O) hm5 (fun _ e=>by cases e));have HS5:=hid hs5;have HO5:=hid (fZ HO4.o hm5 HGL.o);clear h5 hm5 hs5;have HN6:=hid (lZ HS5.o o 1048576 (by decide));obtain ⟨q6,hq6⟩ : ∃ q,q=aZ 1048576 ⟨bs.drop k5,z5,o⟩:=⟨_,rfl⟩;have hod6:=iU 1048576 ⟨bs.drop k5,z5,o⟩;rw [<-hq6] at HN6 hod6;obtain ⟨x6,s6⟩:=q6;simp only at HN6 hod6;have HQ6:=hid hq6.symm;have HOD6:=hid hod6;clear hq6 hod6;go_wp2_with fail
   refine (HN6.o).mono ?_;rintro e w6 ⟨rfl,h6⟩;obtain ⟨hm6,k6,z6,hs6,hse6⟩:=h6.eq_ HOD6.o;simp only at hse6;subst hse6;have HM6:=hid (HM5.o.trans (row':=O) hm6 (fun _ e=>by cases e));have HS6:=hid hs6;have HO6:=hid (fZ HO5.o hm6 HGL.o);clear h6 hm6 hs6;have HN7:=hid (lZ HS6.o o 1048576 (by decide));obtain ⟨q7,hq7⟩ : ∃ q,q=aZ 1048576 ⟨bs.drop k6,z6,o⟩:=⟨_,rfl⟩;have hod7:=iU 1048576 ⟨bs.drop k6,z6,o⟩;rw [<-hq7] at HN7 hod7;obtain ⟨x7,s7⟩:=q7;simp only at HN7 hod7;have HQ7:=hid hq7.symm;have HOD7:=hid hod7;clear hq7 hod7;go_wp2_with fail
   refine (HN7.o).mono ?_;rintro e w7 ⟨rfl,h7⟩;obtain ⟨hm7,k7,z7,hs7,hse7⟩:=h7.eq_ HOD7.o;simp only at hse7;subst hse7;have HM7:=hid (HM6.o.trans (row':=O) hm7 (fun _ e=>by cases e));have HS7:=hid hs7;have HO7:=hid (fZ HO6.o hm7 HGL.o);clear h7 hm7 hs7;have HND:Hid (iW ⟨bs.drop k',z',o⟩=(⟨x5,x6,x7⟩,⟨bs.drop k7,z7,o⟩)):=hid (by
    simp only [iW,bL.seq,bL.pure,HQ5.o,HQ6.o,HQ7.o])
   have HSZ:=hid HM7.o.size;have hacl:acc.length<=4096:=by have:=HAL.o;omega
   have HLL:Hid (acc.length+1=(acc++[(⟨x5,x6,x7⟩:Nd)]).length):=hid (by simp);by_cases hz7:z7=0
   · have dz:(z7 != 0)=false:=by rw [hz7];rfl
     have HZ7:=hid hz7;have HRES2:Hid (res=eE jH iW (acc++[⟨x5,x6,x7⟩]) (v-(i+1)) ⟨bs.drop k7,z7,o⟩):=hid (by
      rw [HRES.o,show v-i=(v-(i+1))+1 from by omega,fJ (by rw [HND.o];simp [jH,HZ7.o]),HND.o])
     clear hz7;go_wp2_with (at_builtin;go_loud (refine aN rfl (cS (.tmp 18) (.tmp 26) 28 rfl w.heap.size i0 Tryz.underlying28 HI0.o HY0.o HY1.o HY2.o (.slice A2 acc.length c2) acc ⟨x5,x6,x7⟩ w7 (by rfl) (by rfl) HO7.o _ (by rfl) (by rfl) aA HSZ.o ?_));intro A8 c8 w8 hown8 happ8;have HOWN8:=hid hown8;have HAPP8:=hid happ8;have z2:=(HS7.o.grown happ8.grown (base:=w.heap.size) (fun b e=>(aC HO7.o e).1) HRS.o HGL.o HW0.o).blk.cell 2;clear hown8 happ8)
     go_roundw
     case rel =>
      have hg8:=HAPP8.o.grown;have hne8:∀ b,(Value.slice A2 acc.length c2).ownBlock=some b->w.heap.size<=b:=fun b e=>(aC HO7.o e).1;exact ⟨A8,c8,i+1,acc++[⟨x5,x6,x7⟩],k7,z7,by rw [HLL.o],by go_num,by omega,hid (by rw [<-HLL.o,HAL.o]),hid (HS7.o.grown hg8 hne8 HRS.o HGL.o HW0.o),hid (j6 HM7.o hg8 hne8),by rw [<-HLL.o];exact HOWN8,HRES2,hid (Or.inl HZ7.o)⟩
     case measure=>simp [intOf];omega
   have dz:(z7 != 0)=true:=by simpa using hz7
   have HRES2:Hid (res=([],⟨bs.drop k7,z7,o⟩)):=hid (by
    rw [HRES.o,show v-i=(v-(i+1))+1 from by omega,fO (by rw [HND.o];simp [jH,hz7]),HND.o])
   clear hz7;go_wp2_with (at_builtin;go_loud (refine aN rfl (cS (.tmp 18) (.tmp 26) 28 rfl w.heap.size i0 Tryz.underlying28 HI0.o HY0.o HY1.o HY2.o (.slice A2 acc.length c2) acc ⟨x5,x6,x7⟩ w7 (by rfl) (by rfl) HO7.o _ (by rfl) (by rfl) aA HSZ.o ?_));intro A8 c8 w8 hown8 happ8;have HOWN8:=hid hown8;have HAPP8:=hid happ8;have z2:=(HS7.o.grown happ8.grown (base:=w.heap.size) (fun b e=>(aC HO7.o e).1) HRS.o HGL.o HW0.o).blk.cell 2;clear hown8 happ8)
   go_ret;rw [HRES2.o];have hg8:=HAPP8.o.grown;have hne8:∀ b,(Value.slice A2 acc.length c2).ownBlock=some b->w.heap.size<=b:=fun b e=>(aC HO7.o e).1;exact ⟨⟨j6 HM7.o hg8 hne8,k7,z7,HS7.o.grown hg8 hne8 HRS.o HGL.o HW0.o,rfl,rfl⟩,O,0,0,rfl,rfl,Nat.le_refl _,Nat.zero_le _,fun _=>rfl,fun h=>absurd h aA⟩
end
end Go.Proofs.YtplecfbdchmogaaGreat
