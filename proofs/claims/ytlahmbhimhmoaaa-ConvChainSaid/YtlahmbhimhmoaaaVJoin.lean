/- Merged: CvC, Join. -/
import Derived.Test.YtlahmbhimhmoaaaVCv3
import Derived.ProofKit
import Derived.SizedLaws
import Derived.Deep.Slices
import Derived.Deep.Fields
namespace Go.Proofs.Ytlahmbhimhmoaaa
set_option linter.unusedVariables false
set_option linter.unusedSimpArgs false
open Go.RowKit
section
open Go.Lib renaming hid->aB
set_option maxRecDepth 100000 in
set_option maxHeartbeats 4000000 in
theorem xF{w:OE}{v:bA}{b:Bk}(hb:bO w v b){cA:OC}{cn cc:Nat}{bs:List (List Nd×List Nd)}(hc:gZ (· < w.heap.size) w cA cn cc bs){A:OC}{n c:Nat}{l:List Nd}(ht:aX w A n c l){B:OC}{m d:Nat}{k:List Nd}(hu:aX w B m d k)(fuel:Int){Z:OC}{zn zc:Nat}{z:List Nd}(hz:aX w Z zn zc z):
 Calls Try.prog 4 #[.agg #[.int .i64 b.vars,.slice v.Ao v.no v.co,.slice v.Ae v.ne v.ce,.int .i64 b.nat,.slice v.Ap v.np v.cp,.slice cA cn cc,.slice A n c,.slice B m d,.int .i64 fuel],.slice Z zn zc] w (e8 true w):=by
 obtain⟨w0,b3⟩:=OM (w.alloc (.cells #[.int .i64 b.vars,.slice v.Ao v.no v.co,.slice v.Ae v.ne v.ce,.int .i64 b.nat,.slice v.Ap v.np v.cp,.slice cA cn cc,.slice A n c,.slice B m d,.int .i64 fuel] 31));have b9:OB w w0:=by rw[b3];exact aQ _ _
 have c0:aW w0 w.heap.size 31 #[.int .i64 b.vars,.slice v.Ao v.no v.co,.slice v.Ae v.ne v.ce,.int .i64 b.nat,.slice v.Ap v.np v.cp,.slice cA cn cc,.slice A n c,.slice B m d,.int .i64 fuel]:=by rw[b3];exact aW.new _ _ _
 obtain⟨c1,b7,a8,c2,H1,H2,H3⟩:=OL b9 c0 (fun (W:OE) (h:OB w W)=>kM (hb.below h) (hc.below h) (ht.below h) (hu.below h) fuel 300) (fun h=>mJ (b:=b) (bs:=bs) (n:=n+m) (fuel:=fuel) (lim:=300) h) (fun (W:OE) (h:OB w W) (hF:bU fuel<=470)=>dW (hb.below h) (hc.below h) (ht.below h) (hu.below h) fuel hF (gA v b)) (fun (W:OE) (h:OB w W) (hF:bU fuel<=470)=>dW (hb.below h) (hc.below h) (hu.below h) (hz.below h) fuel hF (gA v b)) (fun (W:OE) (h:OB w W) (hF:bU fuel<=470)=>dW (hb.below h) (hc.below h) (ht.below h) (hz.below h) fuel hF (gA v b));have HL:Hid (bU fuel<=470->∀n p c q,gB b bs l k fuel true=(true,n,0)->gB b bs k z fuel true=(true,p,0)->gB b bs l z fuel true=(c,q,0)->c=true):=aB (fun hF _ _ _ _ h1 h2 h3=>D6 hF h1 h2 h3);have c4:=hz.few;generalize jL b bs (n+m) fuel 300=hv at *;generalize gB b bs l k fuel true=r1 at *;generalize gB b bs k z fuel true=r2 at *;generalize gB b bs l z fuel true=r3 at *;clear hb hc ht hu hz b9 c0;go_in;go_upto_region 1 with fail
 rw[<-b3];clear b3;go_wp2_with fail;refine kJ.mono ?_;rintro e w1 ⟨rfl,b6⟩;have s:=bK c1 b6;have a0:=aB (b7.o.below b6 b7.o.lt);have b0:=a0.o.cell;clear b6;cases hv with
 | true =>
  go_wp2_with fail;refine (a8.o w1 s.o).mono ?_;rintro e w2 ⟨rfl,D⟩;have U:=bK s D;clear D;go_wp2_with fail;go_ret;exact⟨rfl,U.o⟩
 | false =>
 have hF:bU fuel<=470:=by have:=c2.o rfl;unfold bU;omega
 have b8:=aB (HL.o hF);by_cases b2:1500<zn
 . have g1:decide ((zn:Int)>1500)=true:=MB aA;have g2:decide ((1500:Int)<(zn:Int))=true:=MB aA;have g3:decide (1500<zn)=true:=MB b2;have g4:decide (zn>1500)=true:=MB b2;clear b2;go_wp2_with fail;refine (a8.o w1 s.o).mono ?_;rintro e w2 ⟨rfl,D⟩;have U:=bK s D;have F:=aB (a0.o.below D a0.o.lt);have a6:=F.o.cell;clear D b0;go_wp2_with fail;go_ret;exact⟨rfl,U.o⟩
 have g1:decide ((zn:Int)>1500)=false:=MA aA;have g2:decide ((1500:Int)<(zn:Int))=false:=MA aA;have g3:decide (1500<zn)=false:=MA b2;have g4:decide (zn>1500)=false:=MA b2;clear b2;obtain⟨a1,n1,e1⟩:=r1;obtain⟨a2,n2,e2⟩:=r2;obtain⟨a3,n3,e3⟩:=r3;by_cases z1:e1=0;rotate_left
 . have d1:(e1 != 0)=true:=by simpa using z1
   clear z1;go_wp2_with fail;refine (a8.o w1 s.o).mono ?_;rintro e w2 ⟨rfl,D⟩;have U:=bK s D;have F:=aB (a0.o.below D a0.o.lt);have a6:=F.o.cell;clear D b0;go_wp2_with fail;refine (H1.o w2 U.o hF).mono ?_;rintro e w3 ⟨I,rfl⟩;have Y:=bK U I;have G:=aB (F.o.below I F.o.lt);have a7:=G.o.cell;clear I a6;simp only;go_wp2_with fail;refine (H2.o w3 Y.o hF).mono ?_;rintro e w4 ⟨O,rfl⟩;have a5:=bK Y O;have a4:=aB (G.o.below O G.o.lt);have b1:=a4.o.cell;clear O a7;simp only;go_wp2_with fail;go_ret;exact⟨rfl,a5.o⟩
 have d1:(e1 != 0)=false:=by simpa using z1
 by_cases z2:e2=0;rotate_left
 . have d2:(e2 != 0)=true:=by simpa using z2
   clear z1 z2;go_wp2_with fail;refine (a8.o w1 s.o).mono ?_;rintro e w2 ⟨rfl,D⟩;have U:=bK s D;have F:=aB (a0.o.below D a0.o.lt);have a6:=F.o.cell;clear D b0;go_wp2_with fail;refine (H1.o w2 U.o hF).mono ?_;rintro e w3 ⟨I,rfl⟩;have Y:=bK U I;have G:=aB (F.o.below I F.o.lt);have a7:=G.o.cell;clear I a6;simp only;go_wp2_with fail;refine (H2.o w3 Y.o hF).mono ?_;rintro e w4 ⟨O,rfl⟩;have a5:=bK Y O;have a4:=aB (G.o.below O G.o.lt);have b1:=a4.o.cell;clear O a7;simp only;go_wp2_with fail;go_ret;exact⟨rfl,a5.o⟩
 have d2:(e2 != 0)=false:=by simpa using z2
 cases a1 with
 | false =>
  clear z1 z2;go_wp2_with fail;refine (a8.o w1 s.o).mono ?_;rintro e w2 ⟨rfl,D⟩;have U:=bK s D;have F:=aB (a0.o.below D a0.o.lt);have a6:=F.o.cell;clear D b0;go_wp2_with fail;refine (H1.o w2 U.o hF).mono ?_;rintro e w3 ⟨I,rfl⟩;have Y:=bK U I;have G:=aB (F.o.below I F.o.lt);have a7:=G.o.cell;clear I a6;simp only;go_wp2_with fail;refine (H2.o w3 Y.o hF).mono ?_;rintro e w4 ⟨O,rfl⟩;have a5:=bK Y O;have a4:=aB (G.o.below O G.o.lt);have b1:=a4.o.cell;clear O a7;simp only;go_wp2_with fail;go_ret;exact⟨rfl,a5.o⟩
 | true =>
 cases a2 with
 | false =>
  clear z1 z2;go_wp2_with fail;refine (a8.o w1 s.o).mono ?_;rintro e w2 ⟨rfl,D⟩;have U:=bK s D;have F:=aB (a0.o.below D a0.o.lt);have a6:=F.o.cell;clear D b0;go_wp2_with fail;refine (H1.o w2 U.o hF).mono ?_;rintro e w3 ⟨I,rfl⟩;have Y:=bK U I;have G:=aB (F.o.below I F.o.lt);have a7:=G.o.cell;clear I a6;simp only;go_wp2_with fail;refine (H2.o w3 Y.o hF).mono ?_;rintro e w4 ⟨O,rfl⟩;have a5:=bK Y O;have a4:=aB (G.o.below O G.o.lt);have b1:=a4.o.cell;clear O a7;simp only;go_wp2_with fail;go_ret;exact⟨rfl,a5.o⟩
 | true =>
 by_cases z3:e3=0;rotate_left
 . have d3:(e3 != 0)=true:=by simpa using z3
   clear z1 z2 z3;go_wp2_with fail;refine (a8.o w1 s.o).mono ?_;rintro e w2 ⟨rfl,D⟩;have U:=bK s D;have F:=aB (a0.o.below D a0.o.lt);have a6:=F.o.cell;clear D b0;go_wp2_with fail;refine (H1.o w2 U.o hF).mono ?_;rintro e w3 ⟨I,rfl⟩;have Y:=bK U I;have G:=aB (F.o.below I F.o.lt);have a7:=G.o.cell;clear I a6;simp only;go_wp2_with fail;refine (H2.o w3 Y.o hF).mono ?_;rintro e w4 ⟨O,rfl⟩;have a5:=bK Y O;have a4:=aB (G.o.below O G.o.lt);have b1:=a4.o.cell;clear O a7;simp only;go_wp2_with fail;refine (H3.o w4 a5.o hF).mono ?_;rintro e w5 ⟨a9,rfl⟩;have b4:=bK a5 a9;have b5:=aB (a4.o.below a9 a4.o.lt);have c3:=b5.o.cell;clear a9 b1;simp only;go_wp2_with fail;all_goals (go_ret;exact⟨by simp,b4.o⟩)
 subst z1;subst z2;subst z3;obtain rfl:=b8.o n1 n2 a3 n3 rfl rfl rfl;clear HL b8 d1 d2;go_wp2_with fail;refine (a8.o w1 s.o).mono ?_;rintro e w2 ⟨rfl,D⟩;have U:=bK s D;have F:=aB (a0.o.below D a0.o.lt);have a6:=F.o.cell;clear D b0;go_wp2_with fail;refine (H1.o w2 U.o hF).mono ?_;rintro e w3 ⟨I,rfl⟩;have Y:=bK U I;have G:=aB (F.o.below I F.o.lt);have a7:=G.o.cell;clear I a6;simp only;go_wp2_with fail;refine (H2.o w3 Y.o hF).mono ?_;rintro e w4 ⟨O,rfl⟩;have a5:=bK Y O;have a4:=aB (G.o.below O G.o.lt);have b1:=a4.o.cell;clear O a7;simp only;go_wp2_with fail;refine (H3.o w4 a5.o hF).mono ?_;rintro e w5 ⟨a9,rfl⟩;have b4:=bK a5 a9;have b5:=aB (a4.o.below a9 a4.o.lt);have c3:=b5.o.cell;clear a9 b1;simp only;go_wp2_with fail;go_ret;exact⟨by simp,b4.o⟩
end
section
set_option maxRecDepth 100000
open Go.ChangeShapes Go.WideShapes Go.ChangeAt Go.RowKit Go.Deep
theorem Try.own:ownKnob Try.prog.godebug=none:=by kernel_rfl
theorem Try.laidOut:laidOutB Try.prog=true:=by kernel_rfl
theorem mL:Try.prog.cellsOf 42=3:=by kernel_rfl
theorem rU:Try.prog.bytesOf 42=24:=by kernel_rfl
theorem iG:Try.prog.cellsOf 3=1:=by kernel_rfl
section
variable {H : Type}{enc : TypeId × Value->H}
theorem AC{w:OE}{base:Nat}{D:Nat->Bool}{F:Bool}{n:Nat}{cs:List Value}{x:DataW H×List MemPlace}(h:DataW.trod enc Try.prog w base D F n 42 cs=some x):∃o a b:Int,cs=[.int .i64 o,.int .i64 a,.int .i64 b]:=by
 obtain⟨I,m,_,_,G,Y,O⟩:=DataW.trod_struct Try.underlying42 h;rw[mL]at G;have Z:DataW.trod enc Try.prog w base D F m 3 ((cs.drop 0).take (Try.prog.cellsOf 3))=I[0]?:=O 0 _ rfl;have s:DataW.trod enc Try.prog w base D F m 3 ((cs.drop 1).take (Try.prog.cellsOf 3))=I[1]?:=O 1 _ rfl;have z:DataW.trod enc Try.prog w base D F m 3 ((cs.drop 2).take (Try.prog.cellsOf 3))=I[2]?:=O 2 _ rfl;have U:I.length=3:=Y;rw[iG]at Z s z
 match cs,G with
 | [c0,c1,c2],_ =>
  match I,U with
  | [y0,y1,y2],_ =>
   obtain⟨o,ho,_⟩:=DataW.trod_int Try.underlying3 Z;obtain⟨a,ha,_⟩:=DataW.trod_int Try.underlying3 s;obtain⟨b,hb,_⟩:=DataW.trod_int Try.underlying3 z;simp at ho ha hb;subst ho ha hb;exact⟨o,a,b,rfl⟩
theorem CR{W:OE}{base:Nat}{Z:Bool}{v:Value}{d:DataW H}{p:List MemPlace}(hv:Value.okWide Try.prog W .any base 29 v)(h:DataW.Trod enc Try.prog W 0 (fun _=>true) Z 29 v d p)
 (a2:∀es sp,d=.slice es sp->(es.length+sp.length)*Try.prog.bytesOf 42<=reachBytes) (s:∀x∈p,x.block<W.heap.size) :
 ∃A n c l,v=.slice A n c/\aX W A n c l:=by
 obtain⟨a0,len,cap,rfl⟩:=okWide_slice Try.underlying29 hv;obtain⟨fuel,hf⟩:=h;rcases open_slice Try.underlying29 hf with⟨G,hx⟩|⟨a,len',cap',m,n,D,Pl,G,_,hl,hm,z,hx,hi⟩
 . simp[Value.cells]at G;obtain⟨rfl,rfl,rfl⟩:=G;exact⟨none,0,0,[],rfl,rfl,MF _,by decide,fun _=>rfl,fun h=>absurd h aE⟩
 simp[Value.cells]at G;obtain⟨rfl,rfl,rfl⟩:=G;simp only[MZ]at hx;obtain⟨rfl,rfl⟩:=hx;simp only[if_true]at z;subst z;have F:=a2 _ _ rfl;rw[rU]at F;simp only[MX,List.length_range,reachBytes]at F;rw[mL]at hi s;obtain⟨b,off,spot⟩:=a;have Y:∀i:Nat,∃o x y:Int,i<m->W.cell? ((⟨b,off,spot⟩:Addr).add (i*3))=some (.int .i64 o)/\W.cell? (((⟨b,off,spot⟩:Addr).add (i*3)).add 1)=some (.int .i64 x)/\W.cell? (((⟨b,off,spot⟩:Addr).add (i*3)).add 2)=some (.int .i64 y):=by
  intro i;by_cases I:i<m
  . obtain⟨a4,Y,ht⟩:=hi i I;obtain⟨o,x,y,rfl⟩:=AC ht;obtain⟨_,_,O⟩:=World.cells?_some Y;refine⟨o,x,y,fun _=>⟨?_,O 1 aA,O 2 aA⟩⟩;have h0:=O 0 aA
    rwa [show (((⟨b,off,spot⟩:Addr).add (i*3)).add 0)=(⟨b,off,spot⟩:Addr).add (i*3) from by simp[Go.Deep.add_add]]at h0
  exact⟨0,0,0,fun h=>absurd h I⟩
 have hn:∃N:Nat->Nd,∀i,i<m->W.cell? ((⟨b,off,spot⟩:Addr).add (i*3))=some (.int .i64 (N i).op)/\W.cell? (((⟨b,off,spot⟩:Addr).add (i*3)).add 1)=some (.int .i64 (N i).a)/\W.cell? (((⟨b,off,spot⟩:Addr).add (i*3)).add 2)=some (.int .i64 (N i).b) :=
  ⟨fun i=>⟨(Y i).choose,(Y i).choose_spec.choose,(Y i).choose_spec.choose_spec.choose⟩,fun i I=>(Y i).choose_spec.choose_spec.choose_spec I⟩
 obtain⟨N,hN⟩:=hn;refine⟨_,_,_,(List.range len).map N,rfl,by simp,hl,by omega,(fun e=>by cases e),fun a3=>?_⟩;have U:spot=none:=by simpa[Addr.add] using World.cell?_spot (hN 0 aA).1
 subst U;have hb:b<W.heap.size:=s (.cell b off) (MW.2 (.inl (MemPlace.mem_row.2 ⟨0,by omega,by simp⟩)));refine⟨b,off,rfl,hb,fun k hk=>?_⟩;simp only[MX,List.length_range]at hk;have a1:bB ((List.range len).map N) k=N k:=by
  rw[pK (by simpa using hk)];simp
 obtain⟨q0,q1,q2⟩:=hN k aA;rw[add_plain]at q0 q1 q2;rw[add_plain]at q1 q2;rw[a1];exact⟨q0,q1,q2⟩
theorem mV{W:OE}{base:Nat}{F:Nat->Bool}{D:Bool}:DataW.Trod enc Try.prog W base F D 4 (.bool true) (.lit (.bool true)) []:=⟨1,by simp[DataW.trod,Value.cells,Try.underlying4]⟩
end
end
end Go.Proofs.Ytlahmbhimhmoaaa
