/- Merged: WhH, WhL, RlN, Join. -/
import Derived.Test.YtjoddliplahgkaaGreatTSized
import Derived.ProofKit
import Derived.SizedLaws
import Derived.Deep.Slices
import Derived.Deep.Fields
namespace Go.Proofs.YtjoddliplahgkaaGreat
set_option maxHeartbeats 4000000
set_option maxRecDepth 100000
set_option linter.unusedVariables false
set_option linter.unusedSimpArgs false
open Go.RowKit
open Option renaming none → O
section
open Go.Lib renaming hid->aB
set_option maxHeartbeats 4000000
set_option maxRecDepth 100000
def oG(D:Int):Nat->List (List Nd×List Nd)->Nat
 | n,[]=>n
 | n,x::r=>if (n:Int)<D then oG D (n+1+x.1.length+x.2.length) r else n
theorem FY{w:aAB}{cA:ZZ}{cn cc:Nat}{bs:List (List Nd×List Nd)}(hc:kJ (· < w.heap.size) w cA cn cc bs)(F:Int)(b1:F<=1000000):
 Calls Tryz.prog 24 #[.slice cA cn cc,.int .i64 F] w (fun e w'=>e=.returned (.int .i64 (oG F 0 bs:Int))/\ZY w w'):=by
 have a1:=hc.len;have b0:=hc.few;obtain⟨HC,a0⟩:=aAC hc a1;obtain⟨a3,Z⟩:=aAJ (oG F 0 bs);rw[<-Z];have a5:=aB Z;clear hc a1 Z;go_in;go_wp2_with fail;go_loopw [5,6] (fun sv iv wr=>∃i s:Nat,i<=cn/\s<=20000000000000/\iv=.int .i64 (i:Int)/\sv=.int .i64 (s:Int)/\Hid (a3=oG F s (bs.drop i))/\Hid (ZY w wr)) (fun _ iv _=>cn-(intOf iv).toNat)
 case atStart=>exact⟨0,0,by omega,by omega,rfl,rfl,aB a5.o,aB (XS _ _)⟩
 case round =>
  obtain⟨i,s,hi,hs,rfl,rfl,Y,D⟩:=hrel;by_cases G:i<cn;rotate_left
  . have e1:decide ((i:Int)<(cn:Int))=false:=XQ aA;have e2:decide (i<cn)=false:=XQ G;have HR:Hid (a3=s):=aB (by
     have h:=Y.o;rw[YY (by rw[a0.o];omega)]at h;exact h)
    have U:=aB D.o;clear Y D G;go_wp2_with fail;go_ret;rw[HR.o];exact⟨rfl,U.o⟩
  have e1:decide ((i:Int)<(cn:Int))=true:=XR aA;have e2:decide (i<cn)=true:=XR G;have e3:(i:Int)<(cn:Int):=aA;have il:i<bs.length:=by rw[a0.o];exact G
  have a2:bs.drop i=bs.getD i ([],[])::bs.drop (i+1):=by
   rw[YX il,YD,YB il];rfl
  have z:=Y.o;rw[a2]at z;simp only[oG]at z;by_cases I:(s:Int)<F;rotate_left
  . have e4:decide ((s:Int)<F)=false:=XQ I;have HR:Hid (a3=s):=aB (by rw[XN I]at z;exact z);have U:=aB D.o;clear Y D G z a2 il I;go_wp2_with fail;go_ret;rw[HR.o];exact⟨rfl,U.o⟩
  have e4:decide ((s:Int)<F)=true:=XR I;rw[XP I]at z;obtain⟨bb,oo,a8,a6,hm⟩:=HC.o.mem aA;obtain⟨A1,n1,c1,A2,n2,c2,y1,y2,t1,t2⟩:=hm i G;generalize bs.getD i ([],[])=x at *;have l1:x.1.length=n1:=t1.len;have l2:x.2.length=n2:=t2.len;have g1:=t1.few;have g2:=t2.few;rw[l1,l2]at z;have a4:=aB z;have u1:=(D.o.cell (p:=⟨bb,oo+i*2,O⟩) a6).trans y1;have u2:=(D.o.cell (p:=⟨bb,oo+i*2+1,O⟩) a6).trans y2;have U:=aB D.o;obtain⟨s2,a7⟩:=aAJ (s+1+n1+n2);have v1:IntKind.i64.wrap ((s:Int)+1)=(s:Int)+1:=by rw[XV];omega
  have v2:IntKind.i64.wrap ((s:Int)+1+(n1:Int))=(s:Int)+1+(n1:Int):=by rw[XV];omega
  have v3:IntKind.i64.wrap ((s:Int)+1+(n1:Int)+(n2:Int))=(s2:Int):=by rw[XV];omega
  rw[<-a7]at a4;have a9:s2<=20000000000000:=aA;clear Y D hm y1 y2 t1 t2 z a2 il l1 l2 a7 I;subst a8;go_upto_region 5 with fail
  go_quiet (fail)
  go_wp2_with fail;go_roundw
  case rel=>exact⟨i+1,s2,by omega,a9,by go_num,rfl,a4,aB (aU U.o _)⟩
  case measure=>simp[intOf];omega
def sO(b:Bk)(bs:List (List Nd×List Nd))(n:Nat)(fuel lim:Int):Bool:=decide (3000<=AV 3000 b)||decide (3000<=oG 3000 0 bs)||decide (300<bs.length)||decide (4500<n)||decide (lim<fuel)
theorem IF{w:aAB}{v:bR}{b:Bk}(hb:cE w v b){cA:ZZ}{cn cc:Nat}{bs:List (List Nd×List Nd)}(hc:kJ (· < w.heap.size) w cA cn cc bs){A:ZZ}{n c:Nat}(fuel lim:Int):
 Calls Tryz.prog 8 #[.agg #[.int .i64 b.vars,.slice v.Ao v.no v.co,.slice v.Ae v.ne v.ce,.int .i64 b.nat,.slice v.Ap v.np v.cp,.slice cA cn cc,.slice A n c,.int .i64 fuel],.int .i64 lim] w (gT (sO b bs n fuel lim) w):=by
 obtain⟨w1,G⟩:=aAJ (w.alloc (.cells #[.int .i64 b.vars,.slice v.Ao v.no v.co,.slice v.Ae v.ne v.ce,.int .i64 b.nat,.slice v.Ap v.np v.cp,.slice cA cn cc,.slice A n c,.int .i64 fuel] 31));have a3:ZY w w1:=by rw[G];exact aQ _ _
 have a6:aT w1 w.heap.size 31 #[.int .i64 b.vars,.slice v.Ao v.no v.co,.slice v.Ae v.ne v.ce,.int .i64 b.nat,.slice v.Ap v.np v.cp,.slice cA cn cc,.slice A n c,.int .i64 fuel]:=by rw[G];exact aT.new _ _ _
 have a1:=aB (QV (hb.below a3) 3000 aA);have a2:=aB (fun (W:aAB) (hB:ZY w1 W)=>FY ((hc.below a3).below hB) 3000 aA);have a0:=aB a3;have Z:w.heap.size<w1.heap.size:=a6.lt;have a4:=a6.cell;have b1:=hc.len;have b2:=hc.few;have HR:Hid (sO b bs n fuel lim=(decide (3000<=AV 3000 b)||decide (3000<=oG 3000 0 bs)||decide (300<cn)||decide (4500<n)||decide (lim<fuel))):=aB (by rw[<-b1];rfl);generalize sO b bs n fuel lim=res at *;generalize AV 3000 b=sz at *;generalize oG 3000 0 bs=sc at *;clear hb hc a3 a6 b1;by_cases h1:3000<=sz
 . have d1:decide ((sz:Int) ≥ 3000)=true:=XR aA;have HZ:Hid (res=true):=aB (by rw[HR.o,XR h1];simp);clear h1;go_in;go_upto_region 1 with fail
   rw[<-G];clear G;go_wp2_with fail;refine (a1.o).mono ?_;rintro e z ⟨rfl,D⟩;have Y:=bY a0 D;clear D;go_wp2_with fail;go_ret;rw[HZ.o];exact⟨rfl,Y.o⟩
 have d1:decide ((sz:Int) ≥ 3000)=false:=XQ aA;have a8:Hid (res=(decide (3000<=sc)||decide (300<cn)||decide (4500<n)||decide (lim<fuel))):=aB (by rw[HR.o,XQ h1,ZP]);clear h1;by_cases h2:3000<=sc
 . have p1:decide ((sc:Int) ≥ 3000)=true:=XR aA;have HZ:Hid (res=true):=aB (by rw[a8.o,XR h2];simp);clear h2;go_in;go_upto_region 1 with fail
   rw[<-G];clear G;go_wp2_with fail;refine (a1.o).mono ?_;rintro e z ⟨rfl,D⟩;have Y:=bY a0 D;have U:=fun i=>(D.cell (p:=⟨w.heap.size,i,O⟩) Z).trans (a4 i);have s:w.heap.size<z.heap.size:=XT Z D.size;have I:=aB (a2.o z D);clear D;go_wp2_with fail;refine (I.o).mono ?_;rintro e w3 ⟨rfl,F⟩;have h:=bY Y F;have a7:=fun i=>(F.cell (p:=⟨w.heap.size,i,O⟩) s).trans (U i);clear F U;go_wp2_with fail;go_ret;rw[HZ.o];exact⟨rfl,h.o⟩
 have p1:decide ((sc:Int) ≥ 3000)=false:=XQ aA;have a9:Hid (res=(decide (300<cn)||decide (4500<n)||decide (lim<fuel))):=aB (by rw[a8.o,XQ h2,ZP]);clear h2;by_cases h3:300<cn
 . have q1:decide ((cn:Int)>300)=true:=XR aA;have HZ:Hid (res=true):=aB (by rw[a9.o,XR h3];simp);clear h3;go_in;go_upto_region 1 with fail
   rw[<-G];clear G;go_wp2_with fail;refine (a1.o).mono ?_;rintro e z ⟨rfl,D⟩;have Y:=bY a0 D;have U:=fun i=>(D.cell (p:=⟨w.heap.size,i,O⟩) Z).trans (a4 i);have s:w.heap.size<z.heap.size:=XT Z D.size;have I:=aB (a2.o z D);clear D;go_wp2_with fail;refine (I.o).mono ?_;rintro e w3 ⟨rfl,F⟩;have h:=bY Y F;have a7:=fun i=>(F.cell (p:=⟨w.heap.size,i,O⟩) s).trans (U i);clear F U;go_wp2_with fail;go_ret;rw[HZ.o];exact⟨rfl,h.o⟩
 have q1:decide ((cn:Int)>300)=false:=XQ aA;have b0:Hid (res=(decide (4500<n)||decide (lim<fuel))):=aB (by rw[a9.o,XQ h3,ZP]);clear h3;by_cases h4:4500<n
 . have r1:decide ((n:Int)>4500)=true:=XR aA;have HZ:Hid (res=true):=aB (by rw[b0.o,XR h4];simp);clear h4;go_in;go_upto_region 1 with fail
   rw[<-G];clear G;go_wp2_with fail;refine (a1.o).mono ?_;rintro e z ⟨rfl,D⟩;have Y:=bY a0 D;have U:=fun i=>(D.cell (p:=⟨w.heap.size,i,O⟩) Z).trans (a4 i);have s:w.heap.size<z.heap.size:=XT Z D.size;have I:=aB (a2.o z D);clear D;go_wp2_with fail;refine (I.o).mono ?_;rintro e w3 ⟨rfl,F⟩;have h:=bY Y F;have a7:=fun i=>(F.cell (p:=⟨w.heap.size,i,O⟩) s).trans (U i);clear F U;go_wp2_with fail;go_ret;rw[HZ.o];exact⟨rfl,h.o⟩
 have r1:decide ((n:Int)>4500)=false:=XQ aA;have HZ:Hid (res=decide (lim<fuel)):=aB (by rw[b0.o,XQ h4,ZP]);clear h4;obtain⟨fb,a5⟩:=aAJ (decide (lim<fuel));have d6:decide (fuel>lim)=fb:=a5.symm;have d7:decide (lim<fuel)=fb:=a5.symm;rw[d7]at HZ;clear a5;go_in;go_upto_region 1 with fail
 rw[<-G];clear G;go_wp2_with fail;refine (a1.o).mono ?_;rintro e z ⟨rfl,D⟩;have Y:=bY a0 D;have U:=fun i=>(D.cell (p:=⟨w.heap.size,i,O⟩) Z).trans (a4 i);have s:w.heap.size<z.heap.size:=XT Z D.size;have I:=aB (a2.o z D);clear D;go_wp2_with fail;refine (I.o).mono ?_;rintro e w3 ⟨rfl,F⟩;have h:=bY Y F;have a7:=fun i=>(F.cell (p:=⟨w.heap.size,i,O⟩) s).trans (U i);clear F U;go_wp2_with fail;go_ret;rw[HZ.o];exact⟨rfl,h.o⟩
theorem MX{b:Bk}{bs:List (List Nd×List Nd)}{n:Nat}{fuel lim:Int}(h:sO b bs n fuel lim=false):bs.length<=300/\n<=4500/\fuel<=lim:=by
 unfold sO at h;simp only[ZG,YM]at h;omega
end
section
open Go.Lib renaming hid->aB
set_option maxRecDepth 100000
def ET:List Nd:=[⟨5,0,0⟩,⟨2,1,1⟩,⟨3,0,0⟩,⟨1,0,0⟩]
def WV:Bk:=⟨0,[],[],-1,[]⟩
abbrev XM:bR:=⟨O,0,0,O,0,0,O,0,0⟩
def WW:List (List Nd×List Nd):=[([⟨2,1,1⟩,⟨3,0,0⟩],[])]
theorem WT:xW WV WW ([⟨6,0,0⟩]++ET++[⟨1,0,0⟩])=([⟨1,0,0⟩],true,0):=by kernel_rfl
theorem WU:RP WV [] ([⟨6,0,0⟩]++ET++ET) 3=(ET,2,0):=by kernel_rfl
theorem VW(w:aAB):cE w XM WV:=by
 refine⟨⟨rfl,XU _,by decide,fun _=>rfl,fun h=>absurd h aE⟩,?_,?_,by decide,by decide,(fun x F=>by cases F),(fun p D=>by cases D)⟩
 . exact⟨rfl,by decide,fun h=>absurd h aE⟩
 exact⟨rfl,by decide,fun h=>absurd h aE⟩
theorem WY(w:aAB):kJ (· < w.heap.size) w O 0 0 []:=⟨rfl,XU _,by decide,fun _=>rfl,fun h=>absurd h aE⟩
theorem WZ{W:aAB}{g1 D:Nat}(G:aT W g1 46 #[.int .i64 2,.int .i64 1,.int .i64 1,.int .i64 3,.int .i64 0,.int .i64 0])(F:aT W D 51 #[.slice (some ⟨g1,0,O⟩) 2 2,.slice O 0 0]):kJ (· < W.heap.size) W (some ⟨D,0,O⟩) 1 1 WW:=by
 refine⟨rfl,XU _,by decide,(fun e=>by cases e),fun _=>⟨D,0,rfl,F.lt,fun k I=>?_⟩⟩;obtain rfl:k=0:=aA;exact⟨_,_,_,_,_,_,F.cell 0,F.cell 1,rA G rfl aE aE,⟨rfl,XU _,by decide,fun _=>rfl,fun h=>absurd h aE⟩⟩
theorem GQ{w:aAB}:Calls Tryz.prog 7 #[] w (gT true w):=by
 obtain⟨i0,hi,f4,f5,f6⟩:=info_parts kP;obtain⟨b2,b3,b4,b5⟩:=aAE hi f4 f5 f6;clear hi f4 f5 f6;obtain⟨D,b6⟩:=aAJ (w.alloc (.cells #[.int .i64 5,.int .i64 0,.int .i64 0,.int .i64 2,.int .i64 1,.int .i64 1,.int .i64 3,.int .i64 0,.int .i64 0,.int .i64 1,.int .i64 0,.int .i64 0] 46));have e5:ZY w D:=by rw[b6];exact aQ _ _
 have e9:aT D w.heap.size 46 (PU ET):=by rw[b6];exact aT.new _ _ _
 obtain⟨g9,d6⟩:=aAC b6.symm e5;have d0:Hid (∀w',ZY D w'->aX w' (some ⟨w.heap.size,0,O⟩) 4 4 ET):=aB (fun w' h=>(rA e9 rfl aE aE).below h)
 -- region 2
 obtain⟨W2,F⟩:=aAJ (((D.alloc (.cells #[.int .i64 2,.int .i64 1,.int .i64 1,.int .i64 3,.int .i64 0,.int .i64 0] 46)).alloc (.cells #[.slice (some ⟨D.heap.size,0,O⟩) 2 2,.slice O 0 0] 51)).alloc (.cells #[.int .i64 6,.int .i64 0,.int .i64 0] 46));have d1:ZY D W2:=by rw[F];exact (bS _ _ _).alloc aG _
 have e4:aT W2 D.heap.size 46 #[.int .i64 2,.int .i64 1,.int .i64 1,.int .i64 3,.int .i64 0,.int .i64 0]:=by rw[F];exact ((aT.new _ _ _).alloc _).alloc _
 have e8:aT W2 (D.heap.size+1) 51 #[.slice (some ⟨D.heap.size,0,O⟩) 2 2,.slice O 0 0]:=by rw[F];exact (aT.new' aD).alloc _
 have f1:bK W2 (D.heap.size+1+1) (.slice (some ⟨D.heap.size+1+1,0,O⟩) 1 1) [⟨6,0,0⟩]:=by rw[F];exact oA aD aD ⟨6,0,0⟩
 have f3:W2.heap.size=D.heap.size+3:=by rw[F];simp
 obtain⟨h0,f9,f8,g2,d9,a0,g7⟩:=aAI F.symm d1 e4 e8 f1 f3 (d0.o W2 d1);clear b6 e5 e9 F d1 e4 e8 f1 f3;go_in;go_upto_region 2 with fail
 rw[g9.o];go_wp2_with (first
  | (at_builtin;rw[h0.o];refine a8 rfl (bG (.tmp 21) (.tmp 22) 29 29 rfl (D.heap.size+1+1) i0 Tryz.underlying29 Tryz.underlying29 b2.o b3.o b4.o b5.o (.slice (some ⟨D.heap.size+1+1,0,O⟩) 1 1) [⟨6,0,0⟩] ET aF d9.o aF g7.o aE (by have:=a0.o;omega) ?_);intro A4 c4 w4 G a1;go_loud (have s:Hid (Below (D.heap.size+1+1) W2 w4):=aB ((XS _ _).grown a1.grown (by have:=a0.o;omega) (fun g hg=>(aS d9.o hg).1)));go_loud (have g4:=aB G);go_loud (have c5:=aB (G.alloc (.cells #[.int .i64 1,.int .i64 0,.int .i64 0] 46)));go_loud (have d8:Hid (aT (w4.alloc (.cells #[.int .i64 1,.int .i64 0,.int .i64 0] 46)) w4.heap.size 46 (PU [⟨1,0,0⟩])):=aB (aT.new _ _ _));clear G a1)
  | (at_builtin;refine a8 rfl (bG (.tmp 23) (.tmp 25) 29 29 rfl (D.heap.size+1+1) i0 Tryz.underlying29 Tryz.underlying29 b2.o b3.o b4.o b5.o (.slice A4 5 c4) ([⟨6,0,0⟩]++ET) [⟨1,0,0⟩] aF c5.o aF (rA d8.o rfl (XU _) aE) aE (by have:=s.o.size;have:=a0.o;simp;omega) ?_);intro A6 c6 w6 a5 a2;go_loud (have c1:Hid (Below (D.heap.size+1+1) W2 w6):=aB ((s.o.alloc (by have:=s.o.size;have:=a0.o;omega) (.cells #[.int .i64 1,.int .i64 0,.int .i64 0] 46)).grown a2.grown (by have:=s.o.size;have:=a0.o;simp;omega) (fun g hg=>(aS c5.o hg).1)));go_loud (have g8:Hid (aX w6 A6 (ET.length+1+1) c6 ([⟨6,0,0⟩]++ET++[⟨1,0,0⟩])):=aB (bK.termV a5 aE));clear a5 a2))
 have h2:Hid (kJ (· < w6.heap.size) w6 (some ⟨D.heap.size+1,0,O⟩) 1 1 WW):=aB (WZ (g1:=D.heap.size) (f8.o.below c1.o aA) (g2.o.below c1.o aA));have d3:=NS (VW w6) h2.o g8.o;rw[WT]at d3;have g6:=aB d3;have d7:Hid (ZY D w6):=aB (f9.o.trans (c1.o.mono aA));clear d3 s g4 c5 d8;refine (g6.o).mono ?_;rintro e Y ⟨e6,A7,n7,c7,rfl,f2⟩;have d4:=l7 f2 aE;have h4:n7=1:=d4.len.symm;subst h4;obtain⟨b7,o7,rfl,e7,d2,_,_⟩:=aX.at_ d4 (p:=0) aE;simp only[YU,YF]at d2;have b9:Y.cell? ⟨b7,o7,O⟩=some (.int .i64 1):=d2;have g3:=aB b9;have c2:Hid (ZY D Y):=bY d7 e6;have e3:=aB (d0.o Y c2.o);have e0:Hid (bK (Y.alloc (.cells #[.int .i64 6,.int .i64 0,.int .i64 0] 46)) Y.heap.size (.slice (some ⟨Y.heap.size,0,O⟩) 1 1) [⟨6,0,0⟩]):=aB (oA rfl (XU _) ⟨6,0,0⟩);have b1:Hid (ZY Y (Y.alloc (.cells #[.int .i64 6,.int .i64 0,.int .i64 0] 46))):=aB (aQ _ _);clear e6 f2 d4 d2 b9;go_upto_region 3 with fail
 go_wp2_with (first
  | (at_builtin;refine a8 rfl (bG (.tmp 34) (.tmp 35) 29 29 rfl Y.heap.size i0 Tryz.underlying29 Tryz.underlying29 b2.o b3.o b4.o b5.o (.slice (some ⟨Y.heap.size,0,O⟩) 1 1) [⟨6,0,0⟩] ET aF e0.o aF (aX.below e3.o b1.o) aE b1.o.size ?_);intro A9 c9 w9 a6 a3;go_loud (have z:Hid (ZY Y w9):=aB (b1.o.grown a3.grown b1.o.size (fun g hg=>(aS e0.o hg).1)));go_loud (have c8:=aB a6);clear a6 a3)
  | (at_builtin;refine a8 rfl (bG (.tmp 36) (.tmp 37) 29 29 rfl Y.heap.size i0 Tryz.underlying29 Tryz.underlying29 b2.o b3.o b4.o b5.o (.slice A9 5 c9) ([⟨6,0,0⟩]++ET) ET aF c8.o aF (aX.below e3.o z.o) aE z.o.size ?_);intro f7 h3 a9 U I;go_loud (have Z:Hid (ZY Y a9):=aB (z.o.grown I.grown z.o.size (fun g hg=>(aS c8.o hg).1)));go_loud (have e1:Hid (aX a9 f7 (ET.length+1+ET.length) h3 ([⟨6,0,0⟩]++ET++ET)):=aB (bK.termV U aE));clear U I))
 have d5:=NU (VW a9) (WY a9) e1.o 3;rw[WU]at d5;have h1:=aB d5;have c3:Hid (ZY D a9):=aB (c2.o.trans (Z.o.mono c2.o.size));clear d5 z c8;refine (h1.o).mono ?_;rintro e b0 ⟨a4,h7,h5,h8,rfl,c0⟩;have a7:=l7 c0 aE;have f0:h5=4:=a7.len.symm;subst f0;have e2:=aB a7;have b8:Hid (ZY D b0):=bY c3 a4;have h6:b0.cell? ⟨b7,o7,O⟩=some (.int .i64 1):=((Z.o.trans (a4.mono Z.o.size)).cell (p:=⟨b7,o7,O⟩) e7).trans g3.o;have g5:=aB (rT b0 e2.o (d0.o b0 b8.o));have g0:Hid (ZY w b0):=aB (d6.o.trans (b8.o.mono d6.o.size));clear a4 c0 a7;go_wp2_with fail;refine (g5.o).mono ?_;rintro e h9 ⟨rfl,m,rfl⟩;go_wp2_with fail;go_ret;exact⟨by simp,aU g0.o _⟩
end
section
open Go.Lib renaming hid->aB
theorem M7(b:Bk)(bs:List (List Nd×List Nd))(l:List Nd)(fuel:Int)(hF:eR fuel<=480):(pQ b bs l fuel).1.length<=4096:=by
 unfold pQ uN;by_cases D:iB b bs l=0
 . rw[XN (by rw[D];simp)];have G:=UY D hF;obtain⟨I,U,Y,Z,h⟩:=sI D;unfold PX;cases hn:UX b (zO bs) (eR fuel) (cT l) with
   | bad z=>simp[IU]
   | done y m =>
    have F:=(SW I G hn).1.few;simp only[IU];omega
 rw[XP D];simp
theorem IX{w:aAB}{v:bR}{b:Bk}(hb:cE w v b){cA:ZZ}{cn cc:Nat}{bs:List (List Nd×List Nd)}(hc:kJ (· < w.heap.size) w cA cn cc bs){A:ZZ}{n c:Nat}{l:List Nd}(ht:aX w A n c l)(fuel:Int):
 Calls Tryz.prog 5 #[.agg #[.int .i64 b.vars,.slice v.Ao v.no v.co,.slice v.Ae v.ne v.ce,.int .i64 b.nat,.slice v.Ap v.np v.cp,.slice cA cn cc,.slice A n c,.int .i64 fuel]] w (gT true w):=by
 obtain⟨w0,Z⟩:=aAJ (w.alloc (.cells #[.int .i64 b.vars,.slice v.Ao v.no v.co,.slice v.Ae v.ne v.ce,.int .i64 b.nat,.slice v.Ap v.np v.cp,.slice cA cn cc,.slice A n c,.int .i64 fuel] 31));have a9:ZY w w0:=by rw[Z];exact aQ _ _
 have b1:aT w0 w.heap.size 31 #[.int .i64 b.vars,.slice v.Ao v.no v.co,.slice v.Ae v.ne v.ce,.int .i64 b.nat,.slice v.Ap v.np v.cp,.slice cA cn cc,.slice A n c,.int .i64 fuel]:=by rw[Z];exact aT.new _ _ _
 obtain⟨b4,a5,a4,b8⟩:=aAE a9 b1 (fun (W:aAB) (h:ZY w W)=>IF (hb.below h) (hc.below h) (A:=A) (n:=n) (c:=c) fuel 300) (fun h=>MX (b:=b) (bs:=bs) (n:=n) (fuel:=fuel) (lim:=300) h);have b0:fuel<=300->eR fuel<=480:=fun h=>by unfold eR;omega
 obtain⟨Y,U,a6⟩:=aAF (fun (hF:eR fuel<=480) (W:aAB) (h:ZY w W)=>NQ (hb.below h) (hc.below h) (ht.below h) fuel hF) (fun (hF:eR fuel<=480) (W:aAB) (h:ZY w W)=>JH (hb.below h) (hc.below h) (ht.below h) fuel hF) (M7 b bs l fuel);obtain⟨⟨ql,qi,qe⟩,hq⟩:∃q,q=pQ b bs l fuel:=⟨_,rfl⟩;rw[<-hq]at Y U a6;have b6:=aB b0;clear hq b0;generalize sO b bs n fuel 300=hv at *;clear hb hc ht a9 b1;go_in;go_upto_region 1 with fail
 rw[<-Z];clear Z;go_wp2_with fail;refine GQ.mono ?_;rintro e w1 ⟨rfl,a0⟩;have G:=bY b4 a0;have s:=aB (a5.o.below a0 a5.o.lt);have c2:=s.o.cell;clear a0;cases hv with
 | true =>
  go_wp2_with fail;refine (a4.o w1 G.o).mono ?_;rintro e w2 ⟨rfl,F⟩;have I:=bY G F;clear F;go_wp2_with fail;go_ret;exact⟨rfl,I.o⟩
 | false =>
 go_wp2_with fail;refine (a4.o w1 G.o).mono ?_;rintro e w2 ⟨rfl,F⟩;have I:=bY G F;have z:=aB (s.o.below F s.o.lt);have c5:=z.o.cell;clear F c2;have D:=b6.o (b8.o aD).2.2;have b9:Hid (ql.length<=4096):=aB (a6.o D)
 replace Y:=aB (Y.o D)
 replace U:=aB (U.o D)
 clear D;go_wp2_with fail;refine (Y.o w2 I.o).mono ?_;rintro e w3 ⟨a1,A3,n3,c3,rfl,b2⟩;have a3:=bY I a1;have b7:=aB (z.o.below a1 z.o.lt);have c6:=b7.o.cell;have c0:=aB (l7 b2 (by have:=b9.o;simp only;omega));clear b2;clear a1 c5;go_wp2_with fail;refine (U.o w3 a3.o).mono ?_;rintro e w4 ⟨a2,A4,n4,c4,rfl,b3⟩;have b5:=bY a3 a2;have c1:=aB b3;have a8:=aB (c0.o.below a2);clear b3;clear a2 c6;have a7:=aB (rT w4 a8.o c1.o);go_wp2_with fail;refine (a7.o).mono ?_;rintro e w7 ⟨rfl,dm,rfl⟩;go_wp2_with fail;go_ret;exact⟨by simp,aU b5.o _⟩
end
section
open Go.ChangeShapes Go.WideShapes Go.ChangeAt Go.RowKit Go.Deep
theorem Tryz.own:ownKnob Tryz.prog.godebug=O:=by kernel_rfl
theorem Tryz.laidOut:laidOutB Tryz.prog=true:=by kernel_rfl
theorem AC:Tryz.prog.cellsOf 46=3:=by kernel_rfl
theorem M3:Tryz.prog.bytesOf 46=24:=by kernel_rfl
theorem lZ:Tryz.prog.cellsOf 3=1:=by kernel_rfl
section
variable {H : Type}{enc : TypeId × Value->H}
theorem SY{w:aAB}{base:Nat}{D:Nat->Bool}{F:Bool}{n:Nat}{cs:List Value}{x:DataW H×List MemPlace}(h:DataW.trod enc Tryz.prog w base D F n 46 cs=some x):∃o a b:Int,cs=[.int .i64 o,.int .i64 a,.int .i64 b]:=by
 obtain⟨I,m,_,_,G,Z,U⟩:=DataW.trod_struct Tryz.underlying46 h;rw[AC]at G;have s:DataW.trod enc Tryz.prog w base D F m 3 ((cs.drop 0).take (Tryz.prog.cellsOf 3))=I[0]?:=U 0 _ rfl;have g1:DataW.trod enc Tryz.prog w base D F m 3 ((cs.drop 1).take (Tryz.prog.cellsOf 3))=I[1]?:=U 1 _ rfl;have z:DataW.trod enc Tryz.prog w base D F m 3 ((cs.drop 2).take (Tryz.prog.cellsOf 3))=I[2]?:=U 2 _ rfl;have Y:I.length=3:=Z;rw[lZ]at s g1 z
 match cs,G with
 | [c0,c1,c2],_ =>
  match I,Y with
  | [y0,y1,y2],_ =>
   obtain⟨o,ho,_⟩:=DataW.trod_int Tryz.underlying3 s;obtain⟨a,ha,_⟩:=DataW.trod_int Tryz.underlying3 g1;obtain⟨b,hb,_⟩:=DataW.trod_int Tryz.underlying3 z;simp at ho ha hb;subst ho ha hb;exact⟨o,a,b,rfl⟩
theorem NX{W:aAB}{base:Nat}{F:Nat->Bool}{D:Bool}:DataW.Trod enc Tryz.prog W base F D 4 (.bool true) (.lit (.bool true)) []:=⟨1,by simp[DataW.trod,Value.cells,Tryz.underlying4]⟩
end
end
end Go.Proofs.YtjoddliplahgkaaGreat
