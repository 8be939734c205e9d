/- Merged: WhH, WhL, RlA, Join. -/
import Derived.Test.YtjoddliplahgkaaGreatPSized
import Derived.Test.YtjoddliplahgkaaGreatPGoT
import Derived.ProofKit
import Derived.SizedLaws
import Derived.Deep.Slices
import Derived.Deep.Fields
namespace Go.Proofs.YtjoddliplahgkaaGreat
set_option linter.unusedVariables false
set_option linter.unusedSimpArgs false
open Go.RowKit
open Option renaming none → O
section
open Go.Lib renaming hid->aB
set_option maxHeartbeats 4000000
set_option maxRecDepth 100000
def mW (lid:Int):Nat->List (List Nd×List Nd)->Nat
 | n,[]=>n
 | n,x::r=>if (n:Int)<lid then mW lid (n+1+x.1.length+x.2.length) r else n
theorem C9 {w:World} {cA:Option Addr} {cn cc:Nat} {bs:List (List Nd×List Nd)} (hc:jH (· < w.heap.size) w cA cn cc bs) (lid:Int) (hlid:lid<=1000000) :
 Calls Tryz.prog 24 #[.slice cA cn cc,.int .i64 lid] w (fun e w'=>e=.returned (.int .i64 (mW lid 0 bs:Int))/\Below w.heap.size w w'):=by
 have a3:=hc.len;have b2:=hc.few;have HC:=aB hc;have a4:=aB a3;obtain⟨res,a1⟩ : ∃r,r=mW lid 0 bs:=⟨_,rfl⟩;rw[<-a1];have a7:=aB a1;clear hc a3 a1;go_in;go_wp2_with fail;go_loopw [5,6] (fun sv iv wr=>∃i s:Nat,i<=cn/\s<=20000000000000/\iv=.int .i64 (i:Int)/\sv=.int .i64 (s:Int)/\Hid (res=mW lid s (bs.drop i))/\Hid (Below w.heap.size w wr)) (fun _ iv _=>cn-(intOf iv).toNat)
 case atStart=>exact⟨0,0,by omega,by omega,rfl,rfl,aB a7.o,aB (Below.refl _ _)⟩
 case round =>
  obtain⟨i,s,hi,hs,rfl,rfl,a2,a0⟩:=hrel;by_cases hlt:i<cn;rotate_left
  · have e1:decide ((i:Int)<(cn:Int))=false:=decide_eq_false aA;have e2:decide (i<cn)=false:=decide_eq_false hlt;have HR:Hid (res=s):=aB (by
     have h:=a2.o;rw[List.drop_of_length_le (by rw[a4.o];omega)] at h;exact h)
    have a5:=aB a0.o;clear a2 a0 hlt;go_wp2_with fail;go_ret;rw[HR.o];exact⟨rfl,a5.o⟩
  have e1:decide ((i:Int)<(cn:Int))=true:=decide_eq_true aA;have e2:decide (i<cn)=true:=decide_eq_true hlt;have e3:(i:Int)<(cn:Int):=aA;have il:i<bs.length:=by rw[a4.o];exact hlt
  have a6:bs.drop i=bs.getD i ([],[])::bs.drop (i+1):=by
   rw[List.drop_eq_getElem_cons il,List.getD_eq_getElem?_getD,List.getElem?_eq_getElem il];rfl
  have h9:=a2.o;rw[a6] at h9;simp only[mW] at h9;by_cases hsl:(s:Int)<lid;rotate_left
  · have e4:decide ((s:Int)<lid)=false:=decide_eq_false hsl;have HR:Hid (res=s):=aB (by rw[if_neg hsl] at h9;exact h9);have a5:=aB a0.o;clear a2 a0 hlt h9 a6 il hsl;go_wp2_with fail;go_ret;rw[HR.o];exact⟨rfl,a5.o⟩
  have e4:decide ((s:Int)<lid)=true:=decide_eq_true hsl;rw[if_pos hsl] at h9;obtain⟨bb,oo,b3,a9,hm⟩:=HC.o.mem aA;obtain⟨A1,n1,c1,A2,n2,c2,y1,y2,t1,t2⟩:=hm i hlt;generalize bs.getD i ([],[])=x at *;have l1:x.1.length=n1:=t1.len;have l2:x.2.length=n2:=t2.len;have g1:=t1.few;have g2:=t2.few;rw[l1,l2] at h9;have b0:=aB h9;have u1:=(a0.o.cell (p:=⟨bb,oo+i*2,O⟩) a9).trans y1;have u2:=(a0.o.cell (p:=⟨bb,oo+i*2+1,O⟩) a9).trans y2;have a5:=aB a0.o;obtain⟨s2,a8⟩ : ∃z:Nat,z=s+1+n1+n2:=⟨_,rfl⟩;have v1:IntKind.i64.wrap ((s:Int)+1)=(s:Int)+1:=by rw[IntKind.wrap_i64];omega
  have v2:IntKind.i64.wrap ((s:Int)+1+(n1:Int))=(s:Int)+1+(n1:Int):=by rw[IntKind.wrap_i64];omega
  have v3:IntKind.i64.wrap ((s:Int)+1+(n1:Int)+(n2:Int))=(s2:Int):=by rw[IntKind.wrap_i64];omega
  rw[<-a8] at b0;have b1:s2<=20000000000000:=aA;clear a2 a0 hm y1 y2 t1 t2 h9 a6 il l1 l2 a8 hsl;subst b3;go_upto_region 5 with fail
  go_quiet (fail)
  go_wp2_with fail;go_roundw
  case rel=>exact⟨i+1,s2,by omega,b1,by go_num,rfl,b0,aB (aT a5.o _)⟩
  case measure=>simp[intOf];omega
def tL (b:Bk) (bs:List (List Nd×List Nd)) (n:Nat) (fuel lim:Int):Bool:=decide (3000<=xV 3000 b)||decide (3000<=mW 3000 0 bs)||decide (300<bs.length)||decide (4500<n)||decide (lim<fuel)
theorem tM {w:World} {v:bO} {b:Bk} (hb:bX w v b) {cA:Option Addr} {cn cc:Nat} {bs:List (List Nd×List Nd)} (hc:jH (· < w.heap.size) w cA cn cc bs) {A:Option Addr} {n c:Nat} (fuel lim:Int) :
 Calls Tryz.prog 8 #[.agg #[.int .i64 b.vars,.slice v.Ao v.no v.co,.slice v.Ae v.ne v.ce,.int .i64 b.nat,.slice v.Ap v.np v.cp,.slice cA cn cc,.slice A n c,.int .i64 fuel],.int .i64 lim] w (gC (tL b bs n fuel lim) w):=by
 obtain⟨w1,a3⟩ : ∃w1:World,w1=w.alloc (.cells #[.int .i64 b.vars,.slice v.Ao v.no v.co,.slice v.Ae v.ne v.ce,.int .i64 b.nat,.slice v.Ap v.np v.cp,.slice cA cn cc,.slice A n c,.int .i64 fuel] 31):=⟨_,rfl⟩;have b2:Below w.heap.size w w1:=by rw[a3];exact aP _ _
 have b5:aS w1 w.heap.size 31 #[.int .i64 b.vars,.slice v.Ao v.no v.co,.slice v.Ae v.ne v.ce,.int .i64 b.nat,.slice v.Ap v.np v.cp,.slice cA cn cc,.slice A n c,.int .i64 fuel]:=by rw[a3];exact aS.new _ _ _
 have a9:=aB (NK (hb.below b2) 3000 aA);have b3:=aB (fun (W:World) (hB:Below w1.heap.size w1 W)=>C9 ((hc.below b2).below hB) 3000 aA);have b0:=aB b2;have a6:w.heap.size<w1.heap.size:=b5.lt;have b1:=b5.cell;have b7:=hc.len;have c1:=hc.few;have HR:Hid (tL b bs n fuel lim=(decide (3000<=xV 3000 b)||decide (3000<=mW 3000 0 bs)||decide (300<cn)||decide (4500<n)||decide (lim<fuel))):=aB (by rw[<-b7];rfl);generalize tL b bs n fuel lim=res at *;generalize xV 3000 b=sz at *;generalize mW 3000 0 bs=sc at *;clear hb hc b2 b5 b7;by_cases h1:3000<=sz
 · have d1:decide ((sz:Int) ≥ 3000)=true:=decide_eq_true aA;have HZ:Hid (res=true):=aB (by rw[HR.o,decide_eq_true h1];simp);clear h1;go_in;go_upto_region 1 with fail
   rw[<-a3];clear a3;go_wp2_with fail;refine (a9.o).mono ?_;rintro e w2 ⟨rfl,a0⟩;have a5:=bZ b0 a0;clear a0;go_wp2_with fail;go_ret;rw[HZ.o];exact⟨rfl,a5.o⟩
 have d1:decide ((sz:Int) ≥ 3000)=false:=decide_eq_false aA;have c0:Hid (res=(decide (3000<=sc)||decide (300<cn)||decide (4500<n)||decide (lim<fuel))):=aB (by rw[HR.o,decide_eq_false h1,Bool.false_or]);clear h1;by_cases h2:3000<=sc
 · have p1:decide ((sc:Int) ≥ 3000)=true:=decide_eq_true aA;have HZ:Hid (res=true):=aB (by rw[c0.o,decide_eq_true h2];simp);clear h2;go_in;go_upto_region 1 with fail
   rw[<-a3];clear a3;go_wp2_with fail;refine (a9.o).mono ?_;rintro e w2 ⟨rfl,a0⟩;have a5:=bZ b0 a0;have a4:=fun i=>(a0.cell (p:=⟨w.heap.size,i,O⟩) a6).trans (b1 i);have a7:w.heap.size<w2.heap.size:=Nat.lt_of_lt_of_le a6 a0.size;have a2:=aB (b3.o w2 a0);clear a0;go_wp2_with fail;refine (a2.o).mono ?_;rintro e w3 ⟨rfl,a1⟩;have a8:=bZ a5 a1;have b4:=fun i=>(a1.cell (p:=⟨w.heap.size,i,O⟩) a7).trans (a4 i);clear a1 a4;go_wp2_with fail;go_ret;rw[HZ.o];exact⟨rfl,a8.o⟩
 have p1:decide ((sc:Int) ≥ 3000)=false:=decide_eq_false aA;have b9:Hid (res=(decide (300<cn)||decide (4500<n)||decide (lim<fuel))):=aB (by rw[c0.o,decide_eq_false h2,Bool.false_or]);clear h2;by_cases h3:300<cn
 · have q1:decide ((cn:Int)>300)=true:=decide_eq_true aA;have HZ:Hid (res=true):=aB (by rw[b9.o,decide_eq_true h3];simp);clear h3;go_in;go_upto_region 1 with fail
   rw[<-a3];clear a3;go_wp2_with fail;refine (a9.o).mono ?_;rintro e w2 ⟨rfl,a0⟩;have a5:=bZ b0 a0;have a4:=fun i=>(a0.cell (p:=⟨w.heap.size,i,O⟩) a6).trans (b1 i);have a7:w.heap.size<w2.heap.size:=Nat.lt_of_lt_of_le a6 a0.size;have a2:=aB (b3.o w2 a0);clear a0;go_wp2_with fail;refine (a2.o).mono ?_;rintro e w3 ⟨rfl,a1⟩;have a8:=bZ a5 a1;have b4:=fun i=>(a1.cell (p:=⟨w.heap.size,i,O⟩) a7).trans (a4 i);clear a1 a4;go_wp2_with fail;go_ret;rw[HZ.o];exact⟨rfl,a8.o⟩
 have q1:decide ((cn:Int)>300)=false:=decide_eq_false aA;have b8:Hid (res=(decide (4500<n)||decide (lim<fuel))):=aB (by rw[b9.o,decide_eq_false h3,Bool.false_or]);clear h3;by_cases h4:4500<n
 · have r1:decide ((n:Int)>4500)=true:=decide_eq_true aA;have HZ:Hid (res=true):=aB (by rw[b8.o,decide_eq_true h4];simp);clear h4;go_in;go_upto_region 1 with fail
   rw[<-a3];clear a3;go_wp2_with fail;refine (a9.o).mono ?_;rintro e w2 ⟨rfl,a0⟩;have a5:=bZ b0 a0;have a4:=fun i=>(a0.cell (p:=⟨w.heap.size,i,O⟩) a6).trans (b1 i);have a7:w.heap.size<w2.heap.size:=Nat.lt_of_lt_of_le a6 a0.size;have a2:=aB (b3.o w2 a0);clear a0;go_wp2_with fail;refine (a2.o).mono ?_;rintro e w3 ⟨rfl,a1⟩;have a8:=bZ a5 a1;have b4:=fun i=>(a1.cell (p:=⟨w.heap.size,i,O⟩) a7).trans (a4 i);clear a1 a4;go_wp2_with fail;go_ret;rw[HZ.o];exact⟨rfl,a8.o⟩
 have r1:decide ((n:Int)>4500)=false:=decide_eq_false aA;have HZ:Hid (res=decide (lim<fuel)):=aB (by rw[b8.o,decide_eq_false h4,Bool.false_or]);clear h4;obtain⟨fb,b6⟩ : ∃q,q=decide (lim<fuel):=⟨_,rfl⟩;have d6:decide (fuel>lim)=fb:=b6.symm;have d7:decide (lim<fuel)=fb:=b6.symm;rw[d7] at HZ;clear b6;go_in;go_upto_region 1 with fail
 rw[<-a3];clear a3;go_wp2_with fail;refine (a9.o).mono ?_;rintro e w2 ⟨rfl,a0⟩;have a5:=bZ b0 a0;have a4:=fun i=>(a0.cell (p:=⟨w.heap.size,i,O⟩) a6).trans (b1 i);have a7:w.heap.size<w2.heap.size:=Nat.lt_of_lt_of_le a6 a0.size;have a2:=aB (b3.o w2 a0);clear a0;go_wp2_with fail;refine (a2.o).mono ?_;rintro e w3 ⟨rfl,a1⟩;have a8:=bZ a5 a1;have b4:=fun i=>(a1.cell (p:=⟨w.heap.size,i,O⟩) a7).trans (a4 i);clear a1 a4;go_wp2_with fail;go_ret;rw[HZ.o];exact⟨rfl,a8.o⟩
end
section
open Go.Lib renaming hid->aB
set_option maxRecDepth 100000
def BW:List Nd:=[⟨5,0,0⟩,⟨2,1,1⟩,⟨3,0,0⟩,⟨1,0,0⟩]
def SW:Bk:=⟨0,[],[],-1,[]⟩
abbrev TE:bO:=⟨O,0,0,O,0,0,O,0,0⟩
def SX:List (List Nd×List Nd):=[([⟨2,1,1⟩,⟨3,0,0⟩],[])]
theorem SU:i8 SW SX ([⟨6,0,0⟩]++BW++[⟨1,0,0⟩])=([⟨1,0,0⟩],true,0):=by kernel_rfl
theorem SV:nC SW [] ([⟨6,0,0⟩]++BW++BW) 3=(BW,2,0):=by kernel_rfl
theorem R6 (w:World):bX w TE SW:=by
 refine⟨⟨rfl,Nat.le_refl _,by decide,fun _=>rfl,fun h=>absurd h aE⟩,?_,?_,by decide,by decide,(fun x hx=>by cases hx),(fun p hp=>by cases hp)⟩
 · exact⟨rfl,by decide,fun h=>absurd h aE⟩
 exact⟨rfl,by decide,fun h=>absurd h aE⟩
theorem SY (w:World):jH (· < w.heap.size) w O 0 0 []:=⟨rfl,Nat.le_refl _,by decide,fun _=>rfl,fun h=>absurd h aE⟩
theorem SZ {W:World} {g1 g2:Nat} (h1:aS W g1 46 #[.int .i64 2,.int .i64 1,.int .i64 1,.int .i64 3,.int .i64 0,.int .i64 0]) (h2:aS W g2 51 #[.slice (some ⟨g1,0,O⟩) 2 2,.slice O 0 0]):jH (· < W.heap.size) W (some ⟨g2,0,O⟩) 1 1 SX:=by
 refine⟨rfl,Nat.le_refl _,by decide,(fun e=>by cases e),fun _=>⟨g2,0,rfl,h2.lt,fun k hk => ?_⟩⟩;obtain rfl:k=0:=aA;exact⟨_,_,_,_,_,_,h2.cell 0,h2.cell 1,tV h1 rfl aE aE,⟨rfl,Nat.le_refl _,by decide,fun _=>rfl,fun h=>absurd h aE⟩⟩
set_option maxHeartbeats 4000000 in
theorem tD {w:World}:Calls Tryz.prog 7 #[] w (gC true w):=by
 obtain⟨i0,hi,e8,e7,e6⟩:=info_parts mN;have c8:=aB hi;have c5:=aB e8;have c3:=aB e7;have c2:=aB e6;clear hi e8 e7 e6;obtain⟨W1,c1⟩ : ∃W1:World,W1=w.alloc (.cells #[.int .i64 5,.int .i64 0,.int .i64 0,.int .i64 2,.int .i64 1,.int .i64 1,.int .i64 3,.int .i64 0,.int .i64 0,.int .i64 1,.int .i64 0,.int .i64 0] 46):=⟨_,rfl⟩;have f5:Below w.heap.size w W1:=by rw[c1];exact aP _ _
 have f2:aS W1 w.heap.size 46 (O4 BW):=by rw[c1];exact aS.new _ _ _
 have g8:=aB c1.symm;have g2:=aB f5;have e0:Hid (∀w',Below W1.heap.size W1 w'->aY w' (some ⟨w.heap.size,0,O⟩) 4 4 BW):=aB (fun w' h=>(tV f2 rfl aE aE).below h)
 -- region 2
 obtain⟨W2,b1⟩ : ∃W2:World,W2=((W1.alloc (.cells #[.int .i64 2,.int .i64 1,.int .i64 1,.int .i64 3,.int .i64 0,.int .i64 0] 46)).alloc (.cells #[.slice (some ⟨W1.heap.size,0,O⟩) 2 2,.slice O 0 0] 51)).alloc (.cells #[.int .i64 6,.int .i64 0,.int .i64 0] 46):=⟨_,rfl⟩;have d7:Below W1.heap.size W1 W2:=by rw[b1];exact (a7 _ _ _).alloc aG _
 have f6:aS W2 W1.heap.size 46 #[.int .i64 2,.int .i64 1,.int .i64 1,.int .i64 3,.int .i64 0,.int .i64 0]:=by rw[b1];exact ((aS.new _ _ _).alloc _).alloc _
 have f3:aS W2 (W1.heap.size+1) 51 #[.slice (some ⟨W1.heap.size,0,O⟩) 2 2,.slice O 0 0]:=by rw[b1];exact (aS.new' aD).alloc _
 have f1:bN W2 (W1.heap.size+1+1) (.slice (some ⟨W1.heap.size+1+1,0,O⟩) 1 1) [⟨6,0,0⟩]:=by rw[b1];exact t7 aD aD ⟨6,0,0⟩
 have e9:W2.heap.size=W1.heap.size+3:=by rw[b1];simp
 have g7:=aB b1.symm;have h7:=aB d7;have h8:=aB f6;have h5:=aB f3;have f9:=aB f1;have b5:=aB e9;have h0:=aB (e0.o W2 d7);clear c1 f5 f2 b1 d7 f6 f3 f1 e9;go_in;go_upto_region 2 with fail
 rw[g8.o];go_wp2_with (first
  | (at_builtin;rw[g7.o];refine bL rfl (cE (.tmp 21) (.tmp 22) 29 29 rfl (W1.heap.size+1+1) i0 Tryz.underlying29 Tryz.underlying29 c8.o c5.o c3.o c2.o (.slice (some ⟨W1.heap.size+1+1,0,O⟩) 1 1) [⟨6,0,0⟩] BW aF f9.o aF h0.o aE (by have:=b5.o;omega) ?_);intro A4 c4 w4 a0 a8;go_loud (have b9:Hid (Below (W1.heap.size+1+1) W2 w4):=aB ((Below.refl _ _).grown a8.grown (by have:=b5.o;omega) (fun g hg=>(aU f9.o hg).1)));go_loud (have h3:=aB a0);go_loud (have e2:=aB (a0.alloc (.cells #[.int .i64 1,.int .i64 0,.int .i64 0] 46)));go_loud (have g0:Hid (aS (w4.alloc (.cells #[.int .i64 1,.int .i64 0,.int .i64 0] 46)) w4.heap.size 46 (O4 [⟨1,0,0⟩])):=aB (aS.new _ _ _));clear a0 a8)
  | (at_builtin;refine bL rfl (cE (.tmp 23) (.tmp 25) 29 29 rfl (W1.heap.size+1+1) i0 Tryz.underlying29 Tryz.underlying29 c8.o c5.o c3.o c2.o (.slice A4 5 c4) ([⟨6,0,0⟩]++BW) [⟨1,0,0⟩] aF e2.o aF (tV g0.o rfl (Nat.le_refl _) aE) aE (by have:=b9.o.size;have:=b5.o;simp;omega) ?_);intro A6 c6 w6 a4 a6;go_loud (have e5:Hid (Below (W1.heap.size+1+1) W2 w6):=aB ((b9.o.alloc (by have:=b9.o.size;have:=b5.o;omega) (.cells #[.int .i64 1,.int .i64 0,.int .i64 0] 46)).grown a6.grown (by have:=b9.o.size;have:=b5.o;simp;omega) (fun g hg=>(aU e2.o hg).1)));go_loud (have g9:Hid (aY w6 A6 (BW.length+1+1) c6 ([⟨6,0,0⟩]++BW++[⟨1,0,0⟩])):=aB (bN.termV a4 aE));clear a4 a6))
 have g5:Hid (jH (· < w6.heap.size) w6 (some ⟨W1.heap.size+1,0,O⟩) 1 1 SX):=aB (SZ (g1:=W1.heap.size) (h8.o.below e5.o aA) (h5.o.below e5.o aA));have d3:=xR (R6 w6) g5.o g9.o;rw[SU] at d3;have h1:=aB d3;have e3:Hid (Below W1.heap.size W1 w6):=aB (h7.o.trans (e5.o.mono aA));clear d3 b9 h3 e2 g0;refine (h1.o).mono ?_;rintro e w7 ⟨f4,A7,n7,c7,rfl,f0⟩;have d2:=lA f0 aE;have g3:n7=1:=d2.len.symm;subst g3;obtain⟨b7,o7,rfl,d6,d5,_,_⟩:=aY.at_ d2 (p:=0) aE;simp only[Nat.zero_mul,Nat.add_zero] at d5;have b4:w7.cell? ⟨b7,o7,O⟩=some (.int .i64 1):=d5;have h4:=aB b4;have e4:Hid (Below W1.heap.size W1 w7):=bZ e3 f4;have f7:=aB (e0.o w7 e4.o);have f8:Hid (bN (w7.alloc (.cells #[.int .i64 6,.int .i64 0,.int .i64 0] 46)) w7.heap.size (.slice (some ⟨w7.heap.size,0,O⟩) 1 1) [⟨6,0,0⟩]):=aB (t7 rfl (Nat.le_refl _) ⟨6,0,0⟩);have d0:Hid (Below w7.heap.size w7 (w7.alloc (.cells #[.int .i64 6,.int .i64 0,.int .i64 0] 46))):=aB (aP _ _);clear f4 f0 d2 d5 b4;go_upto_region 3 with fail
 go_wp2_with (first
  | (at_builtin;refine bL rfl (cE (.tmp 34) (.tmp 35) 29 29 rfl w7.heap.size i0 Tryz.underlying29 Tryz.underlying29 c8.o c5.o c3.o c2.o (.slice (some ⟨w7.heap.size,0,O⟩) 1 1) [⟨6,0,0⟩] BW aF f8.o aF (aY.below f7.o d0.o) aE d0.o.size ?_);intro A9 c9 w9 a3 a5;go_loud (have b8:Hid (Below w7.heap.size w7 w9):=aB (d0.o.grown a5.grown d0.o.size (fun g hg=>(aU f8.o hg).1)));go_loud (have e1:=aB a3);clear a3 a5)
  | (at_builtin;refine bL rfl (cE (.tmp 36) (.tmp 37) 29 29 rfl w7.heap.size i0 Tryz.underlying29 Tryz.underlying29 c8.o c5.o c3.o c2.o (.slice A9 5 c9) ([⟨6,0,0⟩]++BW) BW aF e1.o aF (aY.below f7.o b8.o) aE b8.o.size ?_);intro A10 c10 w10 a1 a2;go_loud (have b2:Hid (Below w7.heap.size w7 w10):=aB (b8.o.grown a2.grown b8.o.size (fun g hg=>(aU e1.o hg).1)));go_loud (have d9:Hid (aY w10 A10 (BW.length+1+BW.length) c10 ([⟨6,0,0⟩]++BW++BW)):=aB (bN.termV a1 aE));clear a1 a2))
 have d1:=xT (R6 w10) (SY w10) d9.o 3;rw[SV] at d1;have g6:=aB d1;have b6:Hid (Below W1.heap.size W1 w10):=aB (e4.o.trans (b2.o.mono e4.o.size));clear d1 b8 e1;refine (g6.o).mono ?_;rintro e w11 ⟨b0,A11,n11,c11,rfl,b3⟩;have a9:=lA b3 aE;have d4:n11=4:=a9.len.symm;subst d4;have d8:=aB a9;have c0:Hid (Below W1.heap.size W1 w11):=bZ b6 b0;have g4:w11.cell? ⟨b7,o7,O⟩=some (.int .i64 1):=((b2.o.trans (b0.mono b2.o.size)).cell (p:=⟨b7,o7,O⟩) d6).trans h4.o;have h2:=aB (mU w11 d8.o (e0.o w11 c0.o));have h6:Hid (Below w.heap.size w w11):=aB (g2.o.trans (c0.o.mono g2.o.size));clear b0 b3 a9;go_wp2_with fail;refine (h2.o).mono ?_;rintro e w12 ⟨rfl,m,rfl⟩;go_wp2_with fail;go_ret;exact⟨by simp,aT h6.o _⟩
end
section
open Go.Lib renaming hid->aB
set_option maxHeartbeats 4000000
set_option maxRecDepth 100000
theorem KF (b:Bk) (bs:List (List Nd×List Nd)) (l:List Nd):(i8 b bs l).1.length<=4096:=by
 by_cases h0:gN b bs l=0
 · rw[CG h0];cases iF b (AI bs) (bI (cP l)+1) (bU (cP l)) with
   | no=>simp[kE,MP]
   | bad=>simp[kE,MP]
   | yes y =>
    by_cases h9:4096<bI y
    · have e:kE (.yes y)=([],true,9):=by unfold kE;exact if_pos h9
      rw[e];simp[MP]
    · have e:kE (.yes y)=(aW y,true,0):=by unfold kE;exact if_neg h9
      rw[e];have h8:(aW y).length=bI y:=rfl;simp only[MP,if_true];omega
 unfold i8;rw[if_pos h0];simp
theorem KS (b:Bk) (bs:List (List Nd×List Nd)) (l:List Nd) (fuel:Int):(nC b bs l fuel).1.length<=4096:=by
 unfold nC vW;by_cases h0:gN b bs l=0
 · rw[if_neg (by rw[h0];simp)];obtain⟨q1,q2,q3,q4,q5⟩:=qT h0;have a1:=dJ q5;have h4:bI (cP l)<=4096:=q5.few;unfold N5;cases hn:oA b (AI bs) (gZ fuel) (bU (cP l)) 4096 with
   | bad z=>simp[F9]
   | done y m =>
    have a0:=ID q1 q3 (kI q5) aA aA hn;have h8:(aW (fI y)).length=bI (fI y):=rfl;have h7:=fY y;have:=a0.2.1;simp only[F9];omega
 rw[if_pos h0];simp
theorem EQ {w:World} {v:bO} {b:Bk} (hb:bX w v b) {cA:Option Addr} {cn cc:Nat} {bs:List (List Nd×List Nd)} (hc:jH (· < w.heap.size) w cA cn cc bs) {A:Option Addr} {n c:Nat} {l:List Nd} (ht:aY w A n c l) (fuel:Int) :
 Calls Tryz.prog 3 #[.agg #[.int .i64 b.vars,.slice v.Ao v.no v.co,.slice v.Ae v.ne v.ce,.int .i64 b.nat,.slice v.Ap v.np v.cp,.slice cA cn cc,.slice A n c,.int .i64 fuel]] w (gC true w):=by
 obtain⟨w0,b1⟩ : ∃w0:World,w0=w.alloc (.cells #[.int .i64 b.vars,.slice v.Ao v.no v.co,.slice v.Ae v.ne v.ce,.int .i64 b.nat,.slice v.Ap v.np v.cp,.slice cA cn cc,.slice A n c,.int .i64 fuel] 31):=⟨_,rfl⟩;have d0:Below w.heap.size w w0:=by rw[b1];exact aP _ _
 have c7:aS w0 w.heap.size 31 #[.int .i64 b.vars,.slice v.Ao v.no v.co,.slice v.Ae v.ne v.ce,.int .i64 b.nat,.slice v.Ap v.np v.cp,.slice cA cn cc,.slice A n c,.int .i64 fuel]:=by rw[b1];exact aS.new _ _ _
 have e8:=aB d0;have d5:=aB c7;have d6:=aB (fun (W:World) (h:Below w.heap.size w W)=>tM (hb.below h) (hc.below h) (A:=A) (n:=n) (c:=c) fuel (4611686018427387904));have d1:=aB (fun (W:World) (h:Below w.heap.size w W)=>xR (hb.below h) (hc.below h) (ht.below h));have d3:=aB (fun (W:World) (h:Below w.heap.size w W)=>J2 (hb.below h) (hc.below h) (ht.below h));have d7:=aB (fun (W:World) (h:Below w.heap.size w W)=>rJ (hb.below h) (hc.below h) (ht.below h));have d2:=aB (fun (W:World) (h:Below w.heap.size w W)=>o6 (hb.below h) (hc.below h) (ht.below h));obtain⟨⟨ql,qi,qe⟩,hq⟩ : ∃q,q=i8 b bs l:=⟨_,rfl⟩;rw[<-hq] at d1 d3;have e7:Hid (ql.length<=4096):=aB (by have:=KF b bs l;rw[<-hq] at this;exact this);obtain⟨z,hz⟩ : ∃z,z=gN b bs l:=⟨_,rfl⟩;rw[<-hz] at d7 d2;clear hq hz;generalize tL b bs n fuel (4611686018427387904)=hv at *;clear hb hc ht d0 c7;go_in;go_upto_region 1 with fail
 rw[<-b1];clear b1;go_wp2_with fail;refine tD.mono ?_;rintro e w1 ⟨rfl,b6⟩;have b4:=bZ e8 b6;have c0:=aB (d5.o.below b6 d5.o.lt);have e3:=c0.o.cell;clear b6;cases hv with
 | true =>
  go_wp2_with fail;refine (d6.o w1 b4.o).mono ?_;rintro e w2 ⟨rfl,a9⟩;have b3:=bZ b4 a9;clear a9;go_wp2_with fail;go_ret;exact⟨rfl,b3.o⟩
 | false =>
 go_wp2_with fail;refine (d6.o w1 b4.o).mono ?_;rintro e w2 ⟨rfl,a9⟩;have b3:=bZ b4 a9;have b9:=aB (c0.o.below a9 c0.o.lt);have e2:=b9.o.cell;clear a9 e3;go_wp2_with fail;refine (d1.o w2 b3.o).mono ?_;rintro e w3 ⟨b5,A3,n3,c3,rfl,c6⟩;have e0:=bZ b3 b5;have b8:=aB (b9.o.below b5 b9.o.lt);have e1:=b8.o.cell;have e5:=aB (lA c6 (by have:=e7.o;simp only;omega));clear c6;clear b5 e2;go_wp2_with fail;refine (d3.o w3 e0.o).mono ?_;rintro e w4 ⟨b2,A4,n4,c4,rfl,c5⟩;have b0:=bZ e0 b2;have d4:=aB (b8.o.below b2 b8.o.lt);have a7:=d4.o.cell;have e4:=aB c5;have b7:=aB (e5.o.below b2);clear c5;clear b2 e1;have e6:=aB (fun (W:World) (h:Below w4.heap.size w4 W)=>mU W (b7.o.below h) (e4.o.below h));have a8:=d4.o.lt;go_upto_region 7 with fail
 refine wp_region_held_drew (S:=(fun w'=>Below w4.heap.size w4 w')) aC ?_ (fun hZ => ?_)
 · (try dsimp only);exact aT (Below.refl _ _) 1
 have d8:Hid (Below w4.heap.size w4 w4.drew):=aB (aT (Below.refl _ _) 1);generalize w4.drew=W1 at *;refine aL 0 hZ ?_;refine tk 1 ?_ (fun wq hSw => ?_) hZ ?_;rotate_left
 · have a0:=(hSw.cell (p:=⟨w.heap.size,0,O⟩) a8).trans (a7 0);have a1:=(hSw.cell (p:=⟨w.heap.size,1,O⟩) a8).trans (a7 1);have a2:=(hSw.cell (p:=⟨w.heap.size,2,O⟩) a8).trans (a7 2);have a3:=(hSw.cell (p:=⟨w.heap.size,3,O⟩) a8).trans (a7 3);have a4:=(hSw.cell (p:=⟨w.heap.size,4,O⟩) a8).trans (a7 4);go_simp;try with_reducible rfl
 try simp only[p7]
 refine aL 2 hZ ?_;refine tk 3 ?_ (fun wq hSw => ?_) hZ ?_;rotate_left
 · have a5:=(hSw.cell (p:=⟨w.heap.size,5,O⟩) a8).trans (a7 5);go_simp;try with_reducible rfl
 try simp only[p7]
 refine aL 4 hZ ?_;refine tk 5 ?_ (fun wq hSw => ?_) hZ ?_;rotate_left
 · have a6:=(hSw.cell (p:=⟨w.heap.size,6,O⟩) a8).trans (a7 6);go_simp;try with_reducible rfl
 try simp only[p7]
 refine aL 7 hZ ?_;refine tk 8 ?_ (fun wq hSw => ?_) hZ ?_;rotate_left
 · have a0:=(hSw.cell (p:=⟨w.heap.size,0,O⟩) a8).trans (a7 0);have a1:=(hSw.cell (p:=⟨w.heap.size,1,O⟩) a8).trans (a7 1);have a2:=(hSw.cell (p:=⟨w.heap.size,2,O⟩) a8).trans (a7 2);have a3:=(hSw.cell (p:=⟨w.heap.size,3,O⟩) a8).trans (a7 3);have a4:=(hSw.cell (p:=⟨w.heap.size,4,O⟩) a8).trans (a7 4);go_simp;try with_reducible rfl
 try simp only[p7]
 refine aL 9 hZ ?_;refine tk 10 ?_ (fun wq hSw => ?_) hZ ?_;rotate_left
 · have a5:=(hSw.cell (p:=⟨w.heap.size,5,O⟩) a8).trans (a7 5);go_simp;try with_reducible rfl
 try simp only[p7]
 refine aL 11 hZ ?_;refine tk 12 ?_ (fun wq hSw => ?_) hZ ?_;rotate_left
 · have a6:=(hSw.cell (p:=⟨w.heap.size,6,O⟩) a8).trans (a7 6);go_simp;try with_reducible rfl
 try simp only[p7]
 refine r1 6 fun K hK => ?_;go_simp;go_at_call 11
 refine (d7.o _ (b0.o.trans (d8.o.mono b0.o.size))).mono ?_;rintro e w5 ⟨rfl,c9⟩;have c2:=bZ d8 c9;clear c9;go_wp2_with fail;refine hK.o _ _ (by exact c2.o) fun hZ => ?_;clear hK K;try simp only[p7]
 refine r1 13 fun K hK => ?_;go_simp;go_at_call 12
 refine (d2.o _ (b0.o.trans (c2.o.mono b0.o.size))).mono ?_;rintro e w6 ⟨rfl,c8⟩;have c1:=bZ c2 c8;clear c8;go_wp2_with fail;refine hK.o _ _ (by exact c1.o) fun hZ => ?_;clear hK K;try simp only[p7]
 refine aL 14 hZ ?_;refine aL 15 hZ ?_;refine aL 16 hZ ?_;refine aL 17 hZ ?_;refine aL 18 hZ ?_;refine aL 19 hZ ?_;refine aL 20 hZ ?_;refine aL 21 hZ ?_;refine aL 22 hZ ?_;refine aL 23 hZ ?_;refine aL 24 hZ ?_;refine aL 25 hZ ?_;refine aL 26 hZ ?_;refine aL 27 hZ ?_;refine r1 28 fun K hK => ?_;go_simp;go_at_call 13
 refine (e6.o _ c1.o).mono ?_;rintro e w7 ⟨rfl,dm,rfl⟩;have d9:=aB (aT c1.o dm);go_wp2_with fail;refine hK.o _ _ (by exact d9.o) fun hZ => ?_;clear hK K;try simp only[p7]
 refine aL 29 hZ ?_;refine aL 30 hZ ?_;refine wpAnyH_done aC ?_ _;go_wp2_with fail;go_ret;exact⟨by simp,b0.o.trans (d9.o.mono b0.o.size)⟩
theorem JC {w:World} {v:bO} {b:Bk} (hb:bX w v b) {cA:Option Addr} {cn cc:Nat} {bs:List (List Nd×List Nd)} (hc:jH (· < w.heap.size) w cA cn cc bs) {A:Option Addr} {n c:Nat} {l:List Nd} (ht:aY w A n c l) (fuel:Int) :
 Calls Tryz.prog 4 #[.agg #[.int .i64 b.vars,.slice v.Ao v.no v.co,.slice v.Ae v.ne v.ce,.int .i64 b.nat,.slice v.Ap v.np v.cp,.slice cA cn cc,.slice A n c,.int .i64 fuel]] w (gC true w):=by
 obtain⟨w0,a1⟩ : ∃w0:World,w0=w.alloc (.cells #[.int .i64 b.vars,.slice v.Ao v.no v.co,.slice v.Ae v.ne v.ce,.int .i64 b.nat,.slice v.Ap v.np v.cp,.slice cA cn cc,.slice A n c,.int .i64 fuel] 31):=⟨_,rfl⟩;have b4:Below w.heap.size w w0:=by rw[a1];exact aP _ _
 have b3:aS w0 w.heap.size 31 #[.int .i64 b.vars,.slice v.Ao v.no v.co,.slice v.Ae v.ne v.ce,.int .i64 b.nat,.slice v.Ap v.np v.cp,.slice cA cn cc,.slice A n c,.int .i64 fuel]:=by rw[a1];exact aS.new _ _ _
 have d0:=aB b4;have b7:=aB b3;have b8:=aB (fun (W:World) (h:Below w.heap.size w W)=>tM (hb.below h) (hc.below h) (A:=A) (n:=n) (c:=c) fuel 300);have b5:=aB (fun (W:World) (h:Below w.heap.size w W)=>xT (hb.below h) (hc.below h) (ht.below h) fuel);have b6:=aB (fun (W:World) (h:Below w.heap.size w W)=>FM (hb.below h) (hc.below h) (ht.below h) fuel);obtain⟨⟨ql,qi,qe⟩,hq⟩ : ∃q,q=nC b bs l fuel:=⟨_,rfl⟩;rw[<-hq] at b5 b6;have c7:Hid (ql.length<=4096):=aB (by have:=KS b bs l fuel;rw[<-hq] at this;exact this);clear hq;generalize tL b bs n fuel 300=hv at *;clear hb hc ht b4 b3;go_in;go_upto_region 1 with fail
 rw[<-a1];clear a1;go_wp2_with fail;refine tD.mono ?_;rintro e w1 ⟨rfl,a6⟩;have a3:=bZ d0 a6;have b0:=aB (b7.o.below a6 b7.o.lt);have c2:=b0.o.cell;clear a6;cases hv with
 | true =>
  go_wp2_with fail;refine (b8.o w1 a3.o).mono ?_;rintro e w2 ⟨rfl,a0⟩;have a2:=bZ a3 a0;clear a0;go_wp2_with fail;go_ret;exact⟨rfl,a2.o⟩
 | false =>
 go_wp2_with fail;refine (b8.o w1 a3.o).mono ?_;rintro e w2 ⟨rfl,a0⟩;have a2:=bZ a3 a0;have a9:=aB (b0.o.below a0 b0.o.lt);have c1:=a9.o.cell;clear a0 c2;go_wp2_with fail;refine (b5.o w2 a2.o).mono ?_;rintro e w3 ⟨a5,A3,n3,c3,rfl,b2⟩;have b9:=bZ a2 a5;have c8:=aB (a9.o.below a5 a9.o.lt);have c0:=c8.o.cell;have c6:=aB (lA b2 (by have:=c7.o;simp only;omega));clear b2;clear a5 c1;go_wp2_with fail;refine (b6.o w3 b9.o).mono ?_;rintro e w4 ⟨a4,A4,n4,c4,rfl,b1⟩;have c9:=bZ b9 a4;have c5:=aB b1;have a7:=aB (c6.o.below a4);clear b1;clear a4 c0;have a8:=aB (mU w4 a7.o c5.o);go_wp2_with fail;refine (a8.o).mono ?_;rintro e w7 ⟨rfl,dm,rfl⟩;go_wp2_with fail;go_ret;exact⟨by simp,aT c9.o _⟩
end
section
open Go.ChangeShapes Go.WideShapes Go.ChangeAt Go.RowKit Go.Deep
theorem Tryz.own:ownKnob Tryz.prog.godebug=O:=by kernel_rfl
theorem Tryz.laidOut:laidOutB Tryz.prog=true:=by kernel_rfl
theorem wW:Tryz.prog.cellsOf 46=3:=by kernel_rfl
theorem JJ:Tryz.prog.bytesOf 46=24:=by kernel_rfl
theorem kX:Tryz.prog.cellsOf 3=1:=by kernel_rfl
section
variable {H : Type} {enc : TypeId × Value->H}
set_option maxRecDepth 100000 in
theorem O7 {w:World} {base:Nat} {spare:Nat->Bool} {held:Bool} {n:Nat} {cs:List Value} {x:DataW H×List MemPlace} (h:DataW.trod enc Tryz.prog w base spare held n 46 cs=some x) : ∃o a b:Int,cs=[.int .i64 o,.int .i64 a,.int .i64 b]:=by
 obtain⟨xs,m,_,_,a0,a1,hf⟩:=DataW.trod_struct Tryz.underlying46 h;rw[wW] at a0;have g0:DataW.trod enc Tryz.prog w base spare held m 3 ((cs.drop 0).take (Tryz.prog.cellsOf 3))=xs[0]?:=hf 0 _ rfl;have g1:DataW.trod enc Tryz.prog w base spare held m 3 ((cs.drop 1).take (Tryz.prog.cellsOf 3))=xs[1]?:=hf 1 _ rfl;have g2:DataW.trod enc Tryz.prog w base spare held m 3 ((cs.drop 2).take (Tryz.prog.cellsOf 3))=xs[2]?:=hf 2 _ rfl;have a2:xs.length=3:=a1;rw[kX] at g0 g1 g2
 match cs,a0 with
 | [c0,c1,c2],_ =>
  match xs,a2 with
  | [y0,y1,y2],_ =>
   obtain⟨o,ho,_⟩:=DataW.trod_int Tryz.underlying3 g0;obtain⟨a,ha,_⟩:=DataW.trod_int Tryz.underlying3 g1;obtain⟨b,hb,_⟩:=DataW.trod_int Tryz.underlying3 g2;simp at ho ha hb;subst ho ha hb;exact⟨o,a,b,rfl⟩
theorem xU {W:World} {base:Nat} {sp:Nat->Bool} {held:Bool}:DataW.Trod enc Tryz.prog W base sp held 4 (.bool true) (.lit (.bool true)) []:=⟨1,by simp[DataW.trod,Value.cells,Tryz.underlying4]⟩
end
end
end Go.Proofs.YtjoddliplahgkaaGreat
