/- Merged: CvM, Cv3. -/
import Derived.Test.YtlahmbhimhmoaaaVCv2
namespace Go.Proofs.Ytlahmbhimhmoaaa
set_option linter.unusedVariables false
set_option linter.unusedSimpArgs false
open Go.RowKit
open Go.Value renaming int → O, slice → X
open Go.IntKind renaming i64 → S
variable {b:Bk}{bs:List (List Nd×List Nd)}{k l:List Nd}{c cc cn d m n:Nat}{A B cA:OC}{w:OE}{v:bA}
section
open Go.Lib renaming hid->aB
set_option maxHeartbeats 4000000
set_option maxRecDepth 100000
theorem kB(s:bO w v b)(z:gZ (· < w.heap.size) w cA cn cc bs)(ht:aX w A n c l)(hu:aX w B m d k)(fuel:Int)(hF:bU fuel<=470)(H:zE v b):
 Calls Try.prog 8 #[.agg #[O S b.vars,X v.Ao v.no v.co,X v.Ae v.ne v.ce,O S b.nat,X v.Ap v.np v.cp],X cA cn cc,X A n c,X B m d,O S fuel] w (J4 (gB b bs l k fuel false) w):=by
 obtain⟨h,F⟩:=OM (w.alloc (.cells #[O S b.vars,X v.Ao v.no v.co,X v.Ae v.ne v.ce,O S b.nat,X v.Ap v.np v.cp] 26));have D:OB w h:=by rw[F];exact aQ _ _
 have k0:aW h w.heap.size 26 #[O S b.vars,X v.Ao v.no v.co,X v.Ae v.ne v.ce,O S b.nat,X v.Ap v.np v.cp]:=by rw[F];exact aW.new _ _ _
 obtain⟨I,Z,HC⟩:=OK D F.symm (wN (s.below D) (z.below D) (ht.below D) (hu.below D) fuel hF false H);generalize gB b bs l k fuel false=res at *;have Y:=aB k0;clear s z ht hu hF H D k0 F;go_in;go_upto_region 1 with fail
 rw[Z.o];have z0:=aW.cell Y.o;go_wp2_with fail;refine (HC.o).mono ?_;rintro e w2 ⟨G,rfl⟩;have U:=bK I G;clear G z0;go_wp2_with fail;go_ret3
 exact⟨U.o,rfl⟩
theorem dW(s:bO w v b)(z:gZ (· < w.heap.size) w cA cn cc bs)(ht:aX w A n c l)(hu:aX w B m d k)(fuel:Int)(hF:bU fuel<=470)(H:zE v b):
 Calls Try.prog 9 #[.agg #[O S b.vars,X v.Ao v.no v.co,X v.Ae v.ne v.ce,O S b.nat,X v.Ap v.np v.cp],X cA cn cc,X A n c,X B m d,O S fuel] w (J4 (gB b bs l k fuel true) w):=by
 obtain⟨h,F⟩:=OM (w.alloc (.cells #[O S b.vars,X v.Ao v.no v.co,X v.Ae v.ne v.ce,O S b.nat,X v.Ap v.np v.cp] 26));have D:OB w h:=by rw[F];exact aQ _ _
 have k0:aW h w.heap.size 26 #[O S b.vars,X v.Ao v.no v.co,X v.Ae v.ne v.ce,O S b.nat,X v.Ap v.np v.cp]:=by rw[F];exact aW.new _ _ _
 obtain⟨I,Z,HC⟩:=OK D F.symm (wN (s.below D) (z.below D) (ht.below D) (hu.below D) fuel hF true H);generalize gB b bs l k fuel true=res at *;have Y:=aB k0;clear s z ht hu hF H D k0 F;go_in;go_upto_region 1 with fail
 rw[Z.o];have z0:=aW.cell Y.o;go_wp2_with fail;refine (HC.o).mono ?_;rintro e w2 ⟨G,rfl⟩;have U:=bK I G;clear G z0;go_wp2_with fail;go_ret3
 exact⟨U.o,rfl⟩
end
section
open Go.Lib renaming hid->aB
set_option maxHeartbeats 4000000
set_option maxRecDepth 100000
def jL(b:Bk)(bs:List (List Nd×List Nd))(D:Nat)(fuel lim:Int):Bool:=decide (2000<=sB 2000 b)||decide (2000<=jP 2000 0 bs)||decide (300<bs.length)||decide (3000<D)||decide (lim<fuel)
theorem kM(hb:bO w v b)(hc:gZ (· < w.heap.size) w cA cn cc bs)(ht:aX w A n c l)(hu:aX w B m d k)(fuel lim:Int):
 Calls Try.prog 7 #[.agg #[O S b.vars,X v.Ao v.no v.co,X v.Ae v.ne v.ce,O S b.nat,X v.Ap v.np v.cp,X cA cn cc,X A n c,X B m d,O S fuel],O S lim] w (e8 (jL b bs (n+m) fuel lim) w):=by
 obtain⟨w1,G⟩:=OM (w.alloc (.cells #[O S b.vars,X v.Ao v.no v.co,X v.Ae v.ne v.ce,O S b.nat,X v.Ap v.np v.cp,X cA cn cc,X A n c,X B m d,O S fuel] 31));have a3:OB w w1:=by rw[G];exact aQ _ _
 have a6:aW w1 w.heap.size 31 #[O S b.vars,X v.Ao v.no v.co,X v.Ae v.ne v.ce,O S b.nat,X v.Ap v.np v.cp,X cA cn cc,X A n c,X B m d,O S fuel]:=by rw[G];exact aW.new _ _ _
 obtain⟨a1,a2,a0⟩:=OK (FJ (hb.below a3) 2000 aA) (fun (W:OE) (hB:OB w1 W)=>wB ((hc.below a3).below hB) 2000 aA) a3;have Z:w.heap.size<w1.heap.size:=a6.lt;have a4:=a6.cell;have b1:=hc.len;have b4:=hc.few;have b6:=ht.few;have b5:=hu.few;have b3:IntKind.i64.wrap ((n:Int)+(m:Int))=((n+m:Nat):Int):=by rw[MP];omega
 obtain⟨z,b2⟩:=OM (n+m);rw[<-b2]at b3 ⊢;have HR:Hid (jL b bs z fuel lim=(decide (2000<=sB 2000 b)||decide (2000<=jP 2000 0 bs)||decide (300<cn)||decide (3000<z)||decide (lim<fuel))):=aB (by rw[<-b1];rfl);generalize jL b bs z fuel lim=res at *;generalize sB 2000 b=sz at *;generalize jP 2000 0 bs=sc at *;clear hb hc a3 a6 b1 ht hu b2;by_cases h1:2000<=sz
 . have d1:decide ((sz:Int) ≥ 2000)=true:=MB aA;have d2:decide ((2000:Int)<=(sz:Int))=true:=MB aA;have HZ:Hid (res=true):=aB (by rw[HR.o,MB h1];simp);clear h1;go_in;go_upto_region 1 with fail
   rw[<-G];clear G;go_wp2_with fail;refine (a1.o).mono ?_;rintro e w2 ⟨rfl,D⟩;have Y:=bK a0 D;clear D;go_wp2_with fail;go_ret;rw[HZ.o];exact⟨rfl,Y.o⟩
 have d1:decide ((sz:Int) ≥ 2000)=false:=MA aA;have d2:decide ((2000:Int)<=(sz:Int))=false:=MA aA;have a8:Hid (res=(decide (2000<=sc)||decide (300<cn)||decide (3000<z)||decide (lim<fuel))):=aB (by rw[HR.o,MA h1,NK]);clear h1;by_cases h2:2000<=sc
 . have p1:decide ((sc:Int) ≥ 2000)=true:=MB aA;have p2:decide ((2000:Int)<=(sc:Int))=true:=MB aA;have p3:decide (sc ≥ 2000)=true:=MB aA;have p4:decide (2000<=sc)=true:=MB aA;have HZ:Hid (res=true):=aB (by rw[a8.o,MB h2];simp);clear h2;go_in;go_upto_region 1 with fail
   rw[<-G];clear G;go_wp2_with fail;refine (a1.o).mono ?_;rintro e w2 ⟨rfl,D⟩;have Y:=bK a0 D;have U:=fun i=>(D.cell (p:=⟨w.heap.size,i,none⟩) Z).trans (a4 i);have s:w.heap.size<w2.heap.size:=MD Z D.size;have I:=aB (a2.o w2 D);clear D;go_wp2_with fail;refine (I.o).mono ?_;rintro e w3 ⟨rfl,F⟩;have h:=bK Y F;have a7:=fun i=>(F.cell (p:=⟨w.heap.size,i,none⟩) s).trans (U i);clear F U;go_wp2_with fail;go_ret;rw[HZ.o];exact⟨rfl,h.o⟩
 have p1:decide ((sc:Int) ≥ 2000)=false:=MA aA;have p2:decide ((2000:Int)<=(sc:Int))=false:=MA aA;have p3:decide (sc ≥ 2000)=false:=MA aA;have p4:decide (2000<=sc)=false:=MA aA;have a9:Hid (res=(decide (300<cn)||decide (3000<z)||decide (lim<fuel))):=aB (by rw[a8.o,MA h2,NK]);clear h2;by_cases h3:300<cn
 . have q1:decide ((cn:Int)>300)=true:=MB aA;have q2:decide ((300:Int)<(cn:Int))=true:=MB aA;have q3:decide (cn>300)=true:=MB aA;have q4:decide (300<cn)=true:=MB aA;have HZ:Hid (res=true):=aB (by rw[a9.o,MB h3];simp);clear h3;go_in;go_upto_region 1 with fail
   rw[<-G];clear G;go_wp2_with fail;refine (a1.o).mono ?_;rintro e w2 ⟨rfl,D⟩;have Y:=bK a0 D;have U:=fun i=>(D.cell (p:=⟨w.heap.size,i,none⟩) Z).trans (a4 i);have s:w.heap.size<w2.heap.size:=MD Z D.size;have I:=aB (a2.o w2 D);clear D;go_wp2_with fail;refine (I.o).mono ?_;rintro e w3 ⟨rfl,F⟩;have h:=bK Y F;have a7:=fun i=>(F.cell (p:=⟨w.heap.size,i,none⟩) s).trans (U i);clear F U;go_wp2_with fail;go_ret;rw[HZ.o];exact⟨rfl,h.o⟩
 have q1:decide ((cn:Int)>300)=false:=MA aA;have q2:decide ((300:Int)<(cn:Int))=false:=MA aA;have q3:decide (cn>300)=false:=MA aA;have q4:decide (300<cn)=false:=MA aA;have b0:Hid (res=(decide (3000<z)||decide (lim<fuel))):=aB (by rw[a9.o,MA h3,NK]);clear h3;by_cases h4:3000<z
 . have r1:decide ((z:Int)>3000)=true:=MB aA;have r2:decide ((3000:Int)<(z:Int))=true:=MB aA;have r3:decide (z>3000)=true:=MB aA;have r4:decide (3000<z)=true:=MB aA;have HZ:Hid (res=true):=aB (by rw[b0.o,MB h4];simp);clear h4;go_in;go_upto_region 1 with fail
   rw[<-G];clear G;go_wp2_with fail;refine (a1.o).mono ?_;rintro e w2 ⟨rfl,D⟩;have Y:=bK a0 D;have U:=fun i=>(D.cell (p:=⟨w.heap.size,i,none⟩) Z).trans (a4 i);have s:w.heap.size<w2.heap.size:=MD Z D.size;have I:=aB (a2.o w2 D);clear D;go_wp2_with fail;refine (I.o).mono ?_;rintro e w3 ⟨rfl,F⟩;have h:=bK Y F;have a7:=fun i=>(F.cell (p:=⟨w.heap.size,i,none⟩) s).trans (U i);clear F U;go_wp2_with fail;go_ret;rw[HZ.o];exact⟨rfl,h.o⟩
 have r1:decide ((z:Int)>3000)=false:=MA aA;have r2:decide ((3000:Int)<(z:Int))=false:=MA aA;have r3:decide (z>3000)=false:=MA aA;have r4:decide (3000<z)=false:=MA aA;have HZ:Hid (res=decide (lim<fuel)):=aB (by rw[b0.o,MA h4,NK]);clear h4;obtain⟨fb,a5⟩:=OM (decide (lim<fuel));have d6:decide (fuel>lim)=fb:=a5.symm;have d7:decide (lim<fuel)=fb:=a5.symm;rw[d7]at HZ;clear a5;go_in;go_upto_region 1 with fail
 rw[<-G];clear G;go_wp2_with fail;refine (a1.o).mono ?_;rintro e w2 ⟨rfl,D⟩;have Y:=bK a0 D;have U:=fun i=>(D.cell (p:=⟨w.heap.size,i,none⟩) Z).trans (a4 i);have s:w.heap.size<w2.heap.size:=MD Z D.size;have I:=aB (a2.o w2 D);clear D;go_wp2_with fail;refine (I.o).mono ?_;rintro e w3 ⟨rfl,F⟩;have h:=bK Y F;have a7:=fun i=>(F.cell (p:=⟨w.heap.size,i,none⟩) s).trans (U i);clear F U;go_wp2_with fail;go_ret;rw[HZ.o];exact⟨rfl,h.o⟩
theorem mJ{fuel lim:Int}(h:jL b bs n fuel lim=false):fuel<=lim:=by
 unfold jL at h;simp only[NL,NY]at h;omega
theorem gA(v:bA)(b:Bk):zE v b:=fun G _ _ D F _=>uF G F D
def KS:List Nd:=[⟨2,1,1⟩,⟨3,0,0⟩]
def KM:List Nd:=[⟨2,1,1⟩,⟨3,0,1⟩]
theorem kJ:Calls Try.prog 6 #[] w (e8 true w):=by
 obtain⟨I,D⟩:=OM ((w.alloc (.cells #[O S 2,O S 1,O S 1,O S 3,O S 0,O S 0] 42)).alloc (.cells #[O S 2,O S 1,O S 1,O S 3,O S 0,O S 1] 42));have s:OB w I:=by rw[D];exact (aQ _ _).alloc aD _
 have a2:aW I w.heap.size 42 (G0 KS):=by rw[D];exact (aW.new _ _ _).alloc _
 have a3:aW I (w.heap.size+1) 42 (G0 KM):=by rw[D];exact aW.new' aD
 have F:Hid (∀w',OB I w'->aX w' (some ⟨w.heap.size,0,none⟩) 2 2 KS):=aB (fun w' h=>(vG a2 rfl aE aE).below h);have G:Hid (∀w',OB I w'->aX w' (some ⟨w.heap.size+1,0,none⟩) 2 2 KM):=aB (fun w' h=>(vG a3 rfl aE aE).below h);obtain⟨HU,HS,HV⟩:=OK (fun w' h=>dW (JG w') (JL w') (F.o w' h) (G.o w' h) 5 aE (gA KV F5)) (fun w' h=>kB (JG w') (JL w') (F.o w' h) (G.o w' h) 5 aE (gA KV F5)) (fun w' h=>dW (JG w') (JL w') (G.o w' h) (F.o w' h) 0 aE (gA KV F5));rw[show gB F5 [] KS KM 5 true=(true,4,0) from LF]at HU;rw[show gB F5 [] KS KM 5 false=(false,4,0) from LG]at HS;rw[show gB F5 [] KM KS 0 true=(false,0,10) from LH]at HV;obtain⟨U,a5⟩:=OF s D.symm;clear D s a2 a3;go_in;go_upto_region 2 with fail
 rw[a5.o];go_wp2_with fail;refine (HU.o I (MC _ _)).mono ?_;rintro e w2 ⟨z,rfl⟩;have Y:=aB z;clear z;go_wp2_with fail;refine (HS.o w2 Y.o).mono ?_;rintro e w3 ⟨a0,rfl⟩;have Z:=bK Y a0;clear a0;go_wp2_with fail;refine (HV.o w3 Z.o).mono ?_;rintro e w4 ⟨a1,rfl⟩;have a4:=bK Z a1;clear a1;go_wp2_with fail;go_ret;exact⟨rfl,U.o.trans (a4.o.mono U.o.size)⟩
theorem DO(z:bO w v b)(hc:gZ (· < w.heap.size) w cA cn cc bs)(ht:aX w A n c l)(hu:aX w B m d k)(fuel F:Int)(hF:bU F<=470)(u:Bool):
 Calls Try.prog 10 #[.agg #[O S b.vars,X v.Ao v.no v.co,X v.Ae v.ne v.ce,O S b.nat,X v.Ap v.np v.cp,X cA cn cc,X A n c,X B m d,O S fuel],O S F,.bool u] w (J4 (gB b bs l k F u) w):=by
 obtain⟨w1,I⟩:=OM (w.alloc (.cells #[O S b.vars,X v.Ao v.no v.co,X v.Ae v.ne v.ce,O S b.nat,X v.Ap v.np v.cp,X cA cn cc,X A n c,X B m d,O S fuel] 31));have D:OB w w1:=by rw[I];exact aQ _ _
 have Y:aW w1 w.heap.size 31 #[O S b.vars,X v.Ao v.no v.co,X v.Ae v.ne v.ce,O S b.nat,X v.Ap v.np v.cp,X cA cn cc,X A n c,X B m d,O S fuel]:=by rw[I];exact aW.new _ _ _
 obtain⟨h,s,Z⟩:=OK (kB (z.below D) (hc.below D) (ht.below D) (hu.below D) F hF (gA v b)) (dW (z.below D) (hc.below D) (ht.below D) (hu.below D) F hF (gA v b)) D;have z1:=Y.cell;have a0:w.heap.size<w1.heap.size:=Y.lt;clear z hc ht hu D Y hF;go_in;go_upto_region 1 with fail
 rw[<-I];clear I;cases u with
 | true =>
  generalize gB b bs l k F true=q at *;go_wp2_with fail;refine (s.o).mono ?_;rintro e w2 ⟨G,rfl⟩;have U:=bK Z G;clear G;go_wp2_with fail;go_ret3
  exact⟨U.o,rfl⟩
 | false =>
  generalize gB b bs l k F false=q at *;go_wp2_with fail;refine (h.o).mono ?_;rintro e w2 ⟨G,rfl⟩;have U:=bK Z G;clear G;go_wp2_with fail;go_ret3
  exact⟨U.o,rfl⟩
end
end Go.Proofs.Ytlahmbhimhmoaaa
