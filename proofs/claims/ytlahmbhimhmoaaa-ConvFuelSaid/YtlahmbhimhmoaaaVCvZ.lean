/- Merged: CvY, CvZ. -/
import Derived.Test.YtlahmbhimhmoaaaVNmB
namespace Go.Proofs.Ytlahmbhimhmoaaa
set_option maxHeartbeats 4000000
set_option maxRecDepth 100000
set_option linter.unusedVariables false
set_option linter.unusedSimpArgs false
open Go.RowKit
open Go.Value renaming int → O, slice → X
open Go.IntKind renaming i64 → S
section
open Go.Lib renaming hid->aB
def J4(q:Bool×Int×Int)(w:OE)(e:Ending)(w':OE):Prop:=OB w w'/\e=.returned (.tuple #[.bool q.1,O S q.2.1,O S q.2.2])
theorem sQ{w:OE}{v:bA}{b:Bk}(hb:bO w v b){cA:OC}{cn cc:Nat}{cv:OD}(b3:oI (· < w.heap.size) w cA cn cc cv){A:OC}{n c:Nat}{x:TT}(ht:aX w A n c (aT x)){B:OC}{m d:Nat}{y:TT}(hu:aX w B m d (aT y))(fuel:Int)(u:Bool)(a0:eZ b cv (bU fuel) x)(a1:eZ b cv (bU fuel) y)(H:GB w (w.heap.size+1) v b (bU fuel+1)):
 Calls Try.prog 16 #[.agg #[O S b.vars,X v.Ao v.no v.co,X v.Ae v.ne v.ce,O S b.nat,X v.Ap v.np v.cp],X cA cn cc,X A n c,X B m d,O S fuel,.bool u] w (J4 (KW (dJ b (bU fuel+1) cv u (bU fuel) x y)) w):=by
 obtain⟨W4,G⟩:=OM (w.alloc (.cells #[O S b.vars,X v.Ao v.no v.co,X v.Ae v.ne v.ce,O S b.nat,X v.Ap v.np v.cp] 26));have b1:OB w W4:=by rw[G];exact aQ _ _
 have c1:W4.heap.size=w.heap.size+1:=by rw[G];simp
 have k0:aW W4 w.heap.size 26 #[O S b.vars,X v.Ao v.no v.co,X v.Ae v.ne v.ce,O S b.nat,X v.Ap v.np v.cp]:=by rw[G];exact aW.new _ _ _
 obtain⟨a8,a5⟩:=OF G.symm k0;have c0:w.heap.size<W4.heap.size:=aA;obtain⟨F,hF⟩:=OM (bU fuel);have b0:min (max fuel 0) 100000=(F:Int):=by unfold bU at hF;omega
 have a9:F<=100000:=aA;rw[<-hF]at a0 a1 H ⊢;obtain⟨mx,a2⟩:∃mx:Int,mx=(if fuel<0 then 0 else fuel):=⟨_,rfl⟩;have b4:(if 100000<mx then 100000 else mx)=(F:Int):=by rw[a2,<-b0];split<;>split<;>omega
 obtain⟨a7,a4⟩:=OF a2 b4;obtain⟨Z,Y⟩:=OM (W4.alloc (.cells (wO v b cA cn cc (F:Int) 0) 60));have b2:OB W4 Z:=by rw[Y];exact aQ _ _
 obtain⟨g,hg⟩:=OM (w.heap.size+1);have b5:aW Z g 60 (wO v b cA cn cc (F:Int) 0):=by rw[Y];exact aW.new' aA
 have D:OB w Z:=b1.trans (b2.mono aA);have b7:Hid (lW w g v b cA cn cc cv F Z):=aB ⟨D,b5,by omega,b3.keep fun q U=>⟨⟨MD U D.size,by omega⟩,fun o=>D.cell (p:=⟨q,o,none⟩) U⟩⟩;have s:=aB D;rw[<-hg]at H;obtain⟨b8,a3⟩:=OF (H Z cA cn cc cv F u A n c x B m d y b7.o (a6.keep ht (R':=fun q=>q<Z.heap.size/\q≠g) (w':=Z) fun q U=>⟨⟨MD U D.size,by omega⟩,fun o=>D.cell (p:=⟨q,o,none⟩) U⟩) (a6.keep hu (R':=fun q=>q<Z.heap.size/\q≠g) (w':=Z) fun q U=>⟨⟨MD U D.size,by omega⟩,fun o=>D.cell (p:=⟨q,o,none⟩) U⟩) a0 a1 (NT _) a9) (fun z (h:dJ b (F+1) cv u F x y=.bad z)=>kX _ _ _ _ _ _ _ h);generalize dJ b (F+1) cv u F x y=rr at *;have HG:Hid (w.heap.size<=g):=aB aA;have b9:W4.heap.size=g:=aA;clear hb b3 ht hu a0 a1 H b1 G k0 b2 b5 D hF b0 a9 a2 b4;go_in;go_upto_region 1 with fail
 rw[a8.o];have z0:=aW.cell a5.o;go_upto_region 2 with fail
 rw[<-a7.o,a4.o,<-hg,<-Y];clear Y z0 c1 hg a7 a4 b9 c0 a5 a8;go_wp2_with fail;refine (b8.o).mono ?_;rintro e w7 ⟨b6,h7⟩;have I:Hid (OB w w7):=aB (s.o.trans (aS.to_below b6 s.o.size (fun q U=>by have:=HG.o;omega) (fun q e=>by cases e)));clear b6;rcases h7 with⟨z,f,hr,rfl,hk⟩|⟨is,k,hr,rfl,hk⟩
 . have hz:=a3.o z hr;have c2:(z != 0)=true:=by simpa using hz
   have zc:=aW.cell hk;have HR:=aB hr;clear hr hz;go_wp2_with fail;go_region
   go_wp2_with fail;go_ret3
   rw[HR.o];exact⟨I.o.trans (aU (MC _ _) 1 |>.mono I.o.size),rfl⟩
 have c2:((0:Int) != 0)=false:=by decide
 have zc:=aW.cell hk;have HR:=aB hr;clear hr;go_wp2_with fail;go_region
 go_wp2_with fail;go_ret3
 rw[HR.o];exact⟨I.o.trans (aU (MC _ _) 1 |>.mono I.o.size),rfl⟩
end
section
open Go.Lib renaming hid->aB
def zE(v:bA)(b:Bk):Prop:=bD b=0->∀(W:OE)(g D:Nat),bO W v b->W.heap.size<=g->GB W g v b D
theorem wN{w:OE}{v:bA}{b:Bk}(hb:bO w v b){cA:OC}{cn cc:Nat}{bs:List (List Nd×List Nd)}(hc:gZ (· < w.heap.size) w cA cn cc bs){A:OC}{n c:Nat}{l:List Nd}(ht:aX w A n c l){B:OC}{m d:Nat}{k:List Nd}(hu:aX w B m d k)(fuel:Int)(hF:bU fuel<=470)(u:Bool)(H:zE v b):
 Calls Try.prog 13 #[.agg #[O S b.vars,X v.Ao v.no v.co,X v.Ae v.ne v.ce,O S b.nat,X v.Ap v.np v.cp],X cA cn cc,X A n c,X B m d,O S fuel,.bool u] w (J4 (gB b bs l k fuel u) w):=by
 obtain⟨Z,I⟩:=OM ((w.alloc (.cells #[O S b.vars,X v.Ao v.no v.co,X v.Ae v.ne v.ce,O S b.nat,X v.Ap v.np v.cp] 26)).alloc (.cells #[X A n c,X B m d] 29));have a2:OB w Z:=by rw[I];exact cB _ _ _
 have k0:aW Z w.heap.size 26 #[O S b.vars,X v.Ao v.no v.co,X v.Ae v.ne v.ce,O S b.nat,X v.Ap v.np v.cp]:=by rw[I];exact (aW.new _ _ _).alloc _
 have k1:aW Z (w.heap.size+1) 29 #[X A n c,X B m d]:=by rw[I];exact aW.new' aD
 have z:=aB a2;have a9:=aB k0;have b0:=aB k1;have b5:=aB I.symm;have a0:=aB (fun (W:OE) (h:OB w W)=>rX (hb.below h) (hc.below h) (ht.below h));have a1:=aB (fun (W:OE) (h:OB w W)=>rX (hb.below h) (hc.below h) (hu.below h));have a8:=aB (fun (s:cY b bs l=0) (h2:cY b bs k=0) (W:OE) (h:OB w W)=>by
  obtain⟨q1,q2,q3,q4,q5⟩:=mG s;obtain⟨p1,p2,p3,p4,p5⟩:=mG h2;have a3:=hc.below h;have:=sQ (A:=A) (n:=n) (c:=c) (B:=B) (m:=m) (d:=d) (hb.below h) (cv:=xL bs) (a3.vals (by have:=a3.len;omega)) (x:=cI l) (by rw[<-q4];exact ht.below h) (y:=cI k) (by rw[<-p4];exact hu.below h) fuel u (mB s hF) (mB h2 hF) (H q1 W (W.heap.size+1) _ (hb.below h) aA);rw[<-zS fuel s h2]at this;exact this)
 have b3:Hid (cY b bs l≠0->gB b bs l k fuel u=(false,0,cY b bs l)):=aB (fun h=>by unfold gB;rw[LZ h]);have b4:Hid (cY b bs l=0->cY b bs k≠0->gB b bs l k fuel u=(false,0,cY b bs k)):=aB (fun h h'=>by unfold gB;rw[aN (by simpa using h),LZ h']);generalize gB b bs l k fuel u=res at *;generalize cY b bs l=e1 at *;generalize cY b bs k=e2 at *;have a5:w.heap.size<Z.heap.size:=k0.lt;have a6:w.heap.size+1<Z.heap.size:=k1.lt;have b1:=aB a5;have b2:=aB a6;clear hb hc ht hu hF H a2 k0 k1 I a5 a6;go_in;go_wp2_with fail;rw[b5.o];go_loopw [22] (fun iv wr=>∃(i:Nat),iv=O S (i:Int)/\i<=2/\Hid (1<=i->e1=0)/\Hid (2<=i->e2=0)/\Hid (OB Z wr)) (fun iv _=>2-(intOf iv).toNat)
 case atStart=>exact⟨0,rfl,by omega,aB (fun h=>absurd h aA),aB (fun h=>absurd h aA),aB (MC _ _)⟩
 case round =>
  obtain⟨i,rfl,hi,s,h2,U⟩:=hrel;have G:=aB (z.o.trans (U.o.mono z.o.size));have zb:=aW.cell (a9.o.below U.o b1.o);have zr:=aW.cell (b0.o.below U.o b2.o);have b6:i=0\/i=1\/i=2:=aA;rcases b6 with rfl|rfl|rfl;rotate_left 2
  . have d1:decide (((2:Nat):Int)<2)=false:=by decide
    have a7:=aB (a8.o (s.o aA) (h2.o (MF _)) wr G.o);clear zr;go_wp2_with fail;refine (a7.o).mono ?_;rintro e w2 ⟨D,rfl⟩;have F:=bK G D;clear D zb;go_wp2_with fail;go_ret3
    exact⟨F.o,rfl⟩
  . have d1:decide (((0:Nat):Int)<2)=true:=by decide
    by_cases he:e1=0
    . have d2:(e1 != 0)=false:=by simpa using he
      go_wp2_with fail;refine (a0.o wr G.o).mono ?_;rintro e w2 ⟨rfl,D⟩;have F:=bK U D;clear D zb zr;go_wp2_with fail;go_roundw
      case rel=>exact⟨1,by go_num,by omega,aB (fun _=>he),aB (fun h=>absurd h aA),F⟩
      case measure=>simp[intOf]
    have d2:(e1 != 0)=true:=by simpa using he
    have Y:=aB (b3.o he);go_wp2_with fail;refine (a0.o wr G.o).mono ?_;rintro e w2 ⟨rfl,D⟩;have F:=bK G D;clear D zb zr;go_wp2_with fail;go_ret3
    rw[Y.o];exact⟨F.o,rfl⟩
  have d1:decide (((1:Nat):Int)<2)=true:=by decide
  have a4:=s.o (MF _);by_cases he:e2=0
  . have d2:(e2 != 0)=false:=by simpa using he
    go_wp2_with fail;refine (a1.o wr G.o).mono ?_;rintro e w2 ⟨rfl,D⟩;have F:=bK U D;clear D zb zr;go_wp2_with fail;go_roundw
    case rel=>exact⟨2,by go_num,by omega,aB (fun _=>a4),aB (fun _=>he),F⟩
    case measure=>simp[intOf]
  have d2:(e2 != 0)=true:=by simpa using he
  have Y:=aB (b4.o a4 he);go_wp2_with fail;refine (a1.o wr G.o).mono ?_;rintro e w2 ⟨rfl,D⟩;have F:=bK G D;clear D zb zr;go_wp2_with fail;go_ret3
  rw[Y.o];exact⟨F.o,rfl⟩
end
end Go.Proofs.Ytlahmbhimhmoaaa
