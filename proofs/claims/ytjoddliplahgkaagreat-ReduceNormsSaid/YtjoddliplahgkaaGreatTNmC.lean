/- Merged: NmB, NmC. -/
import Derived.Test.YtjoddliplahgkaaGreatTNmA
import Derived.Deep.RegionLawGrows
import Derived.Deep.Upon
namespace Go.Proofs.YtjoddliplahgkaaGreat
set_option maxHeartbeats 4000000
set_option maxRecDepth 100000
set_option linter.unusedVariables false
set_option linter.unusedSimpArgs false
open Go.RowKit
open Go.Value renaming int → O, slice → Y
open Go.IntKind renaming i64 → X
open Option renaming none → Z, some → I
section
open Go.Lib renaming hid->aB
theorem C0{F D pre a1:List Nd}{n1:Nd}{k1 nx:Fo}{y:TT}{ys:List TT}(h:F++row (fH (.cons pre n1 a1 k1 nx) (y::ys))=D):(F++pre)++aW y++row (fH nx ys)=D:=by
 rw[<-h];simp[fH,row,aW]
theorem PP:∀{F:Fo},bH F=[]->F=.nil
 | .nil,_=>rfl
 | .cons _ _ _ _ _,h=>by simp[bH]at h
def VD(m i:Nat)(D:Fo):Prop:=Wf (List.replicate (m-i) false) D
def WI(tt:List Nd)(nb i p:Nat)(D:Fo):Prop:=(∃q,i=2*q/\q<=nb/\At tt p (O0 (nb-q)) D)\/(∃q n2 a2 k2 nx,i=2*q+1/\q<nb/\D=.cons [] n2 a2 k2 nx/\At tt p (O0 (nb-q-1)) nx)
def WP(R:Nat->Prop)(l:List Nd)(w:aAB)(e:Ending)(w':aAB):Prop:=ZY w w'/\∃A n c,e=.returned (Y A n c)/\bF (fun q=>R q\/(w.heap.size<=q/\q<w'.heap.size)) w' A n c l
theorem DA{R:Nat->Prop}{w:aAB}{A:ZZ}{n c:Nat}{ys:List TT}(h:fG R w A n c (ys.map aW)){i:Nat}(hi:i<n):∃(F:i<ys.length)(b o:Nat)(D:ZZ)(n1 c1:Nat),A=I ⟨b,o,Z⟩/\R b/\w.cell? ⟨b,o+i,Z⟩=I (Y D n1 c1)/\bF R w D n1 c1 (aW ys[i]):=by
 have F:i<ys.length:=by have:=h.len;rw[YR]at this;omega
 obtain⟨b,o,e,z,hm⟩:=h.mem aA;obtain⟨D,n1,c1,s,G⟩:=hm i hi;have U:(ys.map aW).getD i []=aW ys[i]:=by
  rw[YD,List.getElem?_map,YB F];rfl
 rw[U]at G;exact⟨F,b,o,D,n1,c1,e,z,s,G⟩
theorem sS{a b c:List Nd}(h:a++b=c):a.length<=c.length:=by rw[<-h,XX];omega
theorem BZ{R:Nat->Prop}{free:Int}{b:Bk}{t:TT}{A Ak:ZZ}{n c nk ck:Nat}{ys:List TT}{w:aAB}(ht:bF R w A n c (aW t))(hR:∀q,R q->q<w.heap.size)(ft:bO b free t)(j5:ys.length=(bH t.2.2).length)(hk:fG (· < w.heap.size) w Ak nk ck (ys.map aW))(g0:bL (cU t ys)<=100000000):
 Calls Tryz.prog 108 #[Y A n c,Y Ak nk ck] w (WP R (aW (cU t ys)) w):=by
 obtain⟨i0,hi,m9,e5,e6⟩:=info_parts kP;obtain⟨e9,f4,f5,f6⟩:=aAE hi m9 e5 e6;clear hi m9 e5 e6;have e4:aX w A n c (aW t):=ht.keep fun q hq=>⟨hR q hq,fun _=>rfl⟩;have o5:0<n:=by rw[<-ht.len];exact iH t
 have p9:n<=4096:=by rw[<-ht.len];exact ft.few
 have p0:=hk.few;have f7:nk=ys.length:=by have:=hk.len;rw[YR]at this;exact this.symm
 by_cases h0:nk=0
 . have i9:t.2.2=.nil:=PP (ZC aA);have n3:ys=[]:=ZC aA;have g9:cU t ys=t:=by
    obtain⟨a,b',k⟩:=t;simp only at i9;subst i9 n3;rfl
   rw[g9];have HT:=aB ht;have d0:((nk:Int)==0)=true:=by rw[h0];rfl
   clear ht e4 ft hk g9 n3 i9 h0 f7 j5 g0;go_in;go_wp2_with fail;go_ret;exact⟨XS _ _,A,n,c,rfl,HT.o.keep fun q hq=>⟨.inl hq,fun _=>rfl⟩⟩
 have d0:((nk:Int)==0)=false:=by rw[XY];omega
 have a4:t.2.1=[]:=by
  by_cases h2:t.1.op=2
  . have hw:=ft.okt.wf;have hd:ds t.1=[]:=by
     unfold ds;rw[XN aA,h2];rfl
    rw[hd]at hw;have:(bH t.2.2).length=0:=by
     cases hF:t.2.2 with
     | nil=>rfl
     | cons p n a k x=>rw[hF]at hw;exact hw.elim
    omega
  have h1:=ft.okt.at_;unfold iU at h1
  rwa [XN h2]at h1
 obtain⟨bs,os,rfl,l5,d6,i4,i5⟩:=e4.at_ o5;simp only[YU,YF]at d6 i4 i5;rw[show bC (aW t) 0=t.1 from rfl]at d6 i4 i5;obtain⟨so,e0⟩:=aAJ t.1.op;obtain⟨sa,f8⟩:=aAJ t.1.a;obtain⟨sb,f9⟩:=aAJ t.1.b;obtain⟨c5,b8⟩:=aAJ (aW (cU t ys));have j3:[t.1]++row (fH t.2.2 ys)=c5:=by
  rw[b8];show _=t.1::(t.2.1++row (fH t.2.2 ys));rw[a4];rfl
 have j4:c5.length<=100000000:=by rw[b8];exact g0
 rw[<-b8];rw[<-e0]at d6;rw[<-f8]at i4;rw[<-f9]at i5;obtain⟨f0,HK,l4,d4,k7,k4⟩:=aAH (fun (w':aAB) (h:ZY w w')=>e4.below h) hk j3 j4 ht.len f7;obtain⟨w1,c9⟩:=aAJ (w.alloc (.cells #[O X so,O X sa,O X sb] 46));have i2:ZY w w1:=by rw[c9];exact aQ _ _
 have j2:bK w1 w.heap.size (Y (I ⟨w.heap.size,0,Z⟩) 1 1) [t.1]:=by rw[c9,e0,f8,f9];exact oA rfl (XU _) t.1
 obtain⟨j9,k9⟩:=aAC i2 j2;by_cases j7:so=12;rotate_left
 . have p7:(so==12)=false:=by rw[XY];omega
   have a6:VD nk 0 t.2.2:=by
    have hw:=ft.okt.wf;have hd:ds t.1=List.replicate (dU t.1.op t.1.b).toNat false:=by unfold ds;rw[XN aA]
    rw[hd]at hw;have h9:=mZ hw;rw[ZT]at h9;unfold VD;rw[Nat.sub_zero,show nk=(dU t.1.op t.1.b).toNat from by omega];exact hw
   have o1:=aB a6;clear ht e4 ft hk f7 j5 g0 j3 j4 e0 f8 f9 b8 a4 i2 j2 a6 j7 h0;go_in;go_upto_region 4 with fail
   rw[<-c9];clear c9;go_wp2_with fail;go_loopw [5,19] (fun ov iv wr=>∃(i q c1:Nat)(A1:ZZ)(F:List Nd)(dF:Fo),i<=nk/\iv=O X (i:Int)/\ov=Y A1 q c1/\Hid (bK wr w.heap.size (Y A1 q c1) F)/\Hid (F++row (fH dF (ys.drop i))=c5)/\Hid (VD nk i dF)/\Hid (ZY w wr)) (fun _ iv _=>nk-(intOf iv).toNat)
   case atStart=>exact⟨0,1,1,_,[t.1],t.2.2,by omega,rfl,rfl,k9,l4,o1,j9⟩
   case round =>
    obtain⟨i,q,c1,A1,F,dF,hi,rfl,rfl,s,b3,b5,a5⟩:=hrel;by_cases b4:i<nk;rotate_left
    . have e1:decide ((i:Int)<(nk:Int))=false:=XQ aA;have e2:decide (i<nk)=false:=XQ b4;have a9:F=c5:=by
       have h9:=b3.o;have a6:=b5.o;unfold VD at a6;rw[show nk-i=0 from by omega]at a6;have m1:dF=.nil:=by
        match dF,a6 with
        | .nil,_=>rfl
       rw[m1]at h9;simpa[fH,row] using h9
      have h7:Hid (bF (eC w wr) wr A1 q c1 c5):=aB (by
       have h9:=jK s.o (by rw[a9];have:=d4.o;omega);rw[a9]at h9;exact h9)
      have a3:=aB a5.o;clear s b3 b5 a5 a9 b4;go_wp2_with fail;go_ret;exact⟨a3.o,A1,q,c1,rfl,h7.o.keep fun z hz=>⟨.inr hz,fun _=>rfl⟩⟩
    have e1:decide ((i:Int)<(nk:Int))=true:=XR aA;have e2:decide (i<nk)=true:=XR b4;have e3:(i:Int)<(nk:Int):=aA;obtain⟨d8,bb,oo,A2,n2,c2,hA,i3,d7,b6⟩:=DA HK.o b4;have a6:=b5.o;unfold VD at a6;rw[show nk-i=(nk-(i+1))+1 from by omega,ZX]at a6;obtain⟨pre,n1,a1,k1,nx,rfl,m6,b1⟩:∃pre n1 a1 k1 nx,dF=.cons pre n1 a1 k1 nx/\pre=[]/\Wf (List.replicate (nk-(i+1)) false) nx:=by
     match dF,a6 with
     | .cons pre n1 a1 k1 nx,a6=>exact⟨_,_,_,_,_,rfl,a6.1,a6.2.2.2.2⟩
    subst m6;have h9:=b3.o;rw[YX d8]at h9;have h8:=C0 h9;rw[YP]at h8;obtain⟨yr,b9⟩:=aAJ (aW ys[i]);rw[<-b9]at h8 b6;obtain⟨c0,D⟩:=aAJ (F++yr);rw[<-D]at h8;have d2:=aB h8;have U:=sS h8;have a7:yr.length=n2:=b6.len;have j1:F.length+n2<=100000000:=by have:=d4.o;rw[D,XX,a7]at U;omega
    have b7:=aB D;have n7:Hid (VD nk (i+1) nx):=aB b1;have hq:q=F.length:=by obtain⟨_,_,e⟩:=s.o.slice;simp only[Value.slice.injEq]at e;exact e.2.1
    have c7:Hid (bK wr w.heap.size (Y A1 F.length c1) F):=aB (by rw[<-hq];exact s.o);have h6:=aB (bF.keep b6 (R':=(· < wr.heap.size)) (w':=wr) fun z hz=>⟨XT hz a5.o.size,fun o=>a5.o.cell (p:=⟨z,o,Z⟩) hz⟩);have o2:=(a5.o.cell (p:=⟨bb,oo+i,Z⟩) i3).trans d7;have g7:=(a5.o.cell (p:=⟨bs,os,Z⟩) l5).trans d6;have a3:=aB a5.o;subst hA;subst hq;clear s b3 b5 a5 a6 b1 h9 h8 b9 U a7 D b6 d7 d8;go_wp2_with (at_builtin;refine a8 rfl (bG (.tmp 47) (.tmp 48) 29 29 rfl w.heap.size i0 Tryz.underlying29 Tryz.underlying29 e9.o f4.o f5.o f6.o (Y A1 F.length c1) F yr aF c7.o aF h6.o aA a3.o.size ?_);intro A4 c4 w4 a0 G)
    have d3:Hid (bK w4 w.heap.size (Y A4 (F.length+n2) c4) c0):=aB (by rw[b7.o];exact a0);have d1:Hid (ZY w w4):=aB (a3.o.grown G.grown a3.o.size (fun g hg=>(aS c7.o hg).1));clear a0 G;go_roundw
    case rel=>exact⟨i+1,F.length+n2,c4,A4,c0,nx,by omega,by go_num,rfl,d3,d2,n7,d1⟩
    case measure=>simp[intOf];omega
 have i1:t.1.op=12:=e0.symm.trans j7;obtain⟨p1,p2,p3,p4,p5⟩:=fN ft.okt i1;obtain⟨nb,l9⟩:∃nb:Nat,t.1.b=(nb:Int):=⟨t.1.b.toNat,by omega⟩;have c8:nk=2*nb:=aA;have g6:WI (aW t) nb 0 1 t.2.2:=by
  have h9:At (aW t) 1 (ds t.1) t.2.2:=At.first (n:=t.1) (a:=t.2.1) (k:=t.2.2) ft.rt aA;rw[O1 i1 l9]at h9;exact .inl ⟨0,rfl,ZA _,h9⟩
 obtain⟨j8,k8⟩:=aAC g6 c8;obtain⟨tt,h3⟩:=aAJ (aW t);rw[<-h3]at j8 f0 k7;subst j7;clear ht e4 ft hk f7 j5 g0 j3 j4 f8 f9 b8 a4 i2 j2 g6 h0 p1 p2 p3 p4 p5 l9 c8 e0 i1 h3;go_in;go_upto_region 4 with fail
 rw[<-c9];clear c9;go_wp2_with fail;go_loopw [5,6,19] (fun ov pv iv wr=>∃(i p q c1:Nat)(A1:ZZ)(F:List Nd)(dF:Fo),i<=nk/\iv=O X (i:Int)/\pv=O X (p:Int)/\ov=Y A1 q c1/\p<=n/\Hid (bK wr w.heap.size (Y A1 q c1) F)/\Hid (F++row (fH dF (ys.drop i))=c5)/\Hid (WI tt nb i p dF)/\Hid (ZY w wr)) (fun _ _ iv _=>nk-(intOf iv).toNat)
 case atStart=>exact⟨0,1,1,1,_,[t.1],t.2.2,by omega,rfl,rfl,rfl,by omega,k9,l4,j8,j9⟩
 case round =>
  obtain⟨i,p,q,c1,A1,F,dF,hi,rfl,rfl,rfl,o6,s,b3,b5,a5⟩:=hrel;by_cases b4:i<nk;rotate_left
  . have e1:decide ((i:Int)<(nk:Int))=false:=XQ aA;have e2:decide (i<nk)=false:=XQ b4;have a9:F=c5:=by
     have h9:=b3.o;have c8:=k8.o;rcases b5.o with⟨z,hz,e7,a4⟩|⟨z,_,_,_,_,hz,e7,_⟩
     . rw[show nb-z=0 from by omega]at a4;rw[a4.done]at h9;simpa[fH,row] using h9
     omega
    have h7:Hid (bF (eC w wr) wr A1 q c1 c5):=aB (by
     have h9:=jK s.o (by rw[a9];have:=d4.o;omega);rw[a9]at h9;exact h9)
    have a3:=aB a5.o;clear s b3 b5 a5 a9 b4;go_wp2_with fail;go_ret;exact⟨a3.o,A1,q,c1,rfl,h7.o.keep fun z hz=>⟨.inr hz,fun _=>rfl⟩⟩
  have e1:decide ((i:Int)<(nk:Int))=true:=XR aA;have e2:decide (i<nk)=true:=XR b4;have e3:(i:Int)<(nk:Int):=aA;obtain⟨d8,bb,oo,A2,n2,c2,hA,i3,d7,b6⟩:=DA HK.o b4;have o2:=(a5.o.cell (p:=⟨bb,oo+i,Z⟩) i3).trans d7;have g7:=(a5.o.cell (p:=⟨bs,os,Z⟩) l5).trans d6;have hq:q=F.length:=by obtain⟨_,_,e⟩:=s.o.slice;simp only[Value.slice.injEq]at e;exact e.2.1
  have c7:Hid (bK wr w.heap.size (Y A1 F.length c1) F):=aB (by rw[<-hq];exact s.o);have a3:=aB a5.o;have h9:=b3.o;rw[YX d8]at h9;obtain⟨yy,n4⟩:=aAJ (ys[i]);rw[<-n4]at h9 b6;have a7:(aW yy).length=n2:=b6.len;have f3:=aB (fun (W:aAB) (hB:ZY w W)=>bF.keep b6 (R':=(· < W.heap.size)) (w':=W) fun z hz=>⟨XT hz hB.size,fun o=>hB.cell (p:=⟨z,o,Z⟩) hz⟩);have m8:=b5.o;have c8:=k8.o;clear s b3 b5 a5 d7 n4 b6 d8;subst hA;subst hq;rcases m8 with⟨z,hz,e7,a4⟩|⟨z,m2,a2,k2,nx,hz,e7,o3,a4⟩;rotate_left
  . -- a function's body
    subst o3;have h8:=C0 h9;rw[YP]at h8;obtain⟨yr,b9⟩:=aAJ (aW yy);rw[<-b9]at h8 f3 a7;obtain⟨c0,D⟩:=aAJ (F++yr);rw[<-D]at h8;have d2:=aB h8;have U:=sS h8;have j1:F.length+n2<=100000000:=by have:=d4.o;rw[D,XX,a7]at U;omega
    have b7:=aB D;have h5:Hid (WI tt nb (i+1) p nx):=aB (.inl ⟨z+1,by omega,by omega,by rw[show nb-(z+1)=nb-z-1 from by omega];exact a4⟩);have o7:Int.tmod (i:Int) 2=1:=by rw[Int.tmod_eq_emod_of_nonneg aA];omega
    have o8:(i:Int) % 2=1:=aA;have h6:=aB (f3.o wr a3.o);clear h8 h9 b9 D U hz e7 a7 c8 a4;go_wp2_with (at_builtin;refine a8 rfl (bG (.tmp 47) (.tmp 48) 29 29 rfl w.heap.size i0 Tryz.underlying29 Tryz.underlying29 e9.o f4.o f5.o f6.o (Y A1 F.length c1) F yr aF c7.o aF h6.o aA a3.o.size ?_);intro A4 c4 w4 a0 G)
    have d3:Hid (bK w4 w.heap.size (Y A4 (F.length+n2) c4) c0):=aB (by rw[b7.o];exact a0);have d1:Hid (ZY w w4):=aB (a3.o.grown G.grown a3.o.size (fun g hg=>(aS c7.o hg).1));clear a0 G;go_roundw
    case rel=>exact⟨i+1,p,F.length+n2,c4,A4,c0,nx,by omega,by go_num,rfl,rfl,o6,d3,d2,h5,d1⟩
    case measure=>simp[intOf];omega
  -- a function's type: its node ahead
  have i8:=qK _ a4;obtain⟨r,hr⟩:∃r,nb-z=r+1:=⟨nb-z-1,by omega⟩;rw[hr]at a4 i8;rw[show O0 (r+1)=true::false::O0 r from rfl]at a4;obtain⟨p6,n1,a1,k1,q0,rfl,s1⟩:=a4.step;obtain⟨n5,g3,a2,k2,j6,rfl,s2⟩:=s1.next.step;obtain⟨fd,rfl,o4,m0⟩:=s1.fun_ rfl;have g8:n5.length=0:=s2.plen;obtain rfl:=ZC g8;have h8:=C0 h9;have b1:=s2.next;have b0:=qK _ b1;obtain⟨f1,l1⟩:=(⟨s1.end_,s1.le⟩:_/\_);obtain⟨f2,l2⟩:=(⟨s2.end_,s2.le⟩:_/\_);simp only[YA,ZD,YH,YF]at f1 l1 f2 l2 b1 b0;obtain⟨y1,e5⟩:=aAJ ((n1,a1,k1):TT);obtain⟨y2,e6⟩:=aAJ ((g3,a2,k2):TT);rw[<-e5]at f1 l1 f2 l2 b1 b0;rw[<-e6]at f2 l2 b1 b0;obtain⟨g1,l6⟩:=aAJ (p+1+(aW y1).length);obtain⟨g2,l7⟩:=aAJ (g1+(aW y2).length);rw[<-l6]at f1 l1 f2 l2 b1 b0;rw[<-l7]at f2 l2 b1 b0;rw[k7.o]at l1 l2 i8 b0;rw[show ((p+1:Nat):Int)=(p:Int)+1 from by omega]at f1;obtain⟨b',o',e',_,m3,m4,m5⟩:=aX.at_ (f0.o wr a3.o) (p:=p) aA;injection e' with e';injection e' with e1' e2';subst e1' e2';rw[m0]at m3 m4 m5;have g4:=aB (fun (wr:aAB) (h:ZY w wr)=>iZ (f0.o wr h) ((p:Int)+1));rw[f1]at g4;have g5:=aB (fun (wr:aAB) (h:ZY w wr)=>iZ (f0.o wr h) (g1:Int));rw[f2]at g5;have h5:Hid (WI tt nb (i+1) g2 (.cons [] g3 a2 k2 j6)):=aB (.inr ⟨z,g3,a2,k2,j6,by omega,by omega,rfl,by rw[show nb-z-1=r from by omega];exact b1⟩);obtain⟨b2,c6⟩:=aAJ (F++[fd]);rw[<-c6]at h8;obtain⟨yr,b9⟩:=aAJ (aW yy);rw[<-b9]at h8 f3 a7;obtain⟨c0,D⟩:=aAJ (b2++yr);rw[<-D]at h8;have d2:=aB h8;have U:=sS h8;have j0:b2.length=F.length+1:=by rw[c6,XX];rfl
  have j1:F.length+1+n2<=100000000:=by have:=d4.o;rw[D,XX,a7,j0]at U;omega
  obtain⟨k6,b7,k5⟩:=aAF c6 D j0;have l8:g2<=n:=aA;have p8:(0:Int)<=(p:Int):=aA;have o9:(p:Int)<(n:Int):=aA;have o7:Int.tmod (i:Int) 2=0:=by rw[Int.tmod_eq_emod_of_nonneg aA];omega
  have o8:(i:Int) % 2=0:=aA;have l3:Hid (bK (wr.alloc (.cells #[O X fd.op,O X fd.a,O X fd.b] 46)) w.heap.size (Y A1 F.length c1) F):=aB (c7.o.alloc _);have k4:Hid (aT (wr.alloc (.cells #[O X fd.op,O X fd.a,O X fd.b] 46)) wr.heap.size 46 (PU [fd])):=aB (aT.new _ _ _);have n6:Hid (aX (wr.alloc (.cells #[O X fd.op,O X fd.a,O X fd.b] 46)) (I ⟨wr.heap.size,0,Z⟩) 1 1 [fd]):=aB (rA k4.o rfl (XU _) aD);have h4:Hid (ZY w (wr.alloc (.cells #[O X fd.op,O X fd.a,O X fd.b] 46))):=aB (a3.o.alloc a3.o.size _);clear a4 i8 s1 s2 g8 b1 b0 f1 l1 f2 l2 e5 e6 l6 l7 hr m0 o4 h8 h9 b9 c6 D U j0 hz e7 a7 c8;go_wp2_with (at_builtin;refine a8 rfl (bG (.tmp 34) (.tmp 39) 29 29 rfl w.heap.size i0 Tryz.underlying29 Tryz.underlying29 e9.o f4.o f5.o f6.o (Y A1 F.length c1) F [fd] aF l3.o aF n6.o aA h4.o.size ?_);intro A3 c3 w3 d9 d5;go_loud (have n8:Hid (bK w3 w.heap.size (Y A3 (F.length+1) c3) b2):=aB (by rw[k6.o];exact d9));go_loud (have k0:Hid (ZY w w3):=aB (h4.o.grown d5.grown h4.o.size (fun g hg=>(aS l3.o hg).1)));clear d9 d5)
  refine (g4.o w3 k0.o).mono ?_;rintro e w5 ⟨rfl,i6⟩;have k3:=bY k0 i6;have n9:=aB (bI n8.o i6);clear i6 m3 m4 m5 g7;go_wp2_with fail;refine (g5.o w5 k3.o).mono ?_;rintro e w6 ⟨rfl,i7⟩;have e8:=bY k3 i7;have l0:Hid (bK w6 w.heap.size (Y A3 b2.length c3) b2):=aB (by rw[k5.o];exact bI n9.o i7);have o0:=aB (f3.o w6 e8.o);have m7:F.length+1=b2.length:=k5.o.symm;rw[m7]at j1;clear i7;go_upto_region 11 with fail
  clear m7;go_wp2_with (at_builtin;refine a8 rfl (bG (.tmp 47) (.tmp 48) 29 29 rfl w.heap.size i0 Tryz.underlying29 Tryz.underlying29 e9.o f4.o f5.o f6.o (Y A3 b2.length c3) b2 yr aF l0.o aF o0.o aA e8.o.size ?_);intro A4 c4 w4 a0 G)
  have d3:Hid (bK w4 w.heap.size (Y A4 (b2.length+n2) c4) c0):=aB (by rw[b7.o];exact a0);have d1:Hid (ZY w w4):=aB (e8.o.grown G.grown e8.o.size (fun g hg=>(aS l0.o hg).1));clear a0 G;go_roundw
  case rel=>exact⟨i+1,g2,b2.length+n2,c4,A4,c0,.cons [] g3 a2 k2 j6,by omega,by go_num,rfl,rfl,l8,d3,d2,h5,d1⟩
  case measure=>simp[intOf];omega
end
section
open Go.Lib renaming hid->aB
theorem NE{w:aAB}{base n c:Nat}{A:ZZ}{F:List Int}(h:w.ownsRow base 3 1 (Y A n c) n (F.map (Value.int .i64)))(s:n=F.length)(U:n<=5864062014805):qM (fun q=>base<=q/\q<w.heap.size) w A n c F:=by
 have D:=P6 h s U;refine⟨D.len,D.few,fun z=>?_⟩;obtain⟨b,off,e,G,o⟩:=D.mem z;subst e;exact⟨b,off,rfl,⟨(aS h rfl).1,G⟩,o⟩
def VN(D:List Int)(w:aAB)(e:Ending)(w':aAB):Prop:=ZY w w'/\∃A n c,e=.returned (Y A n c)/\qM (fun q=>w.heap.size<=q/\q<w'.heap.size) w' A n c D
theorem BR{A:ZZ}{nn c:Nat}{l:List Nd}{w:aAB}(h:aX w A nn c l)(hs:a6 l=0):
 Calls Tryz.prog 105 #[Y A nn c] w (VN (GB (gC l).1.op (gC l).1.b 0 (gC l).2) w):=by
 obtain⟨_,n,a9,k,s,a3,b0⟩:=eN hs;have U:gC l=(n,k):=by
  unfold gC;rw[XP hs,s]
 have a2:bE k<=4096:=by have:=eP k;omega
 have a0:=aB U;have z:=cR h;rw[hs]at z;have D:∀w2,ZY w w2->Calls Tryz.prog 130 #[Y A nn c] w2 (r9 n k w2):=fun w2 hb=>AE (h.below hb) hs s;have a5:=aB z;have G:=aB D;have a4:=aB a2;clear z D U hs s a3 a2 h;go_in;go_wp2_with fail;refine (a5.o).mono ?_;rintro e w2 ⟨rfl,a1⟩;have F:=aB a1;clear a1;go_wp2_with fail;refine (G.o _ F.o).mono ?_;rintro e w3 ⟨a7,A1,k1,A2,k2,b2,rfl,b1,a8,hr⟩;go_wp2_with fail;go_ret;rw[a0.o];refine⟨F.o.trans (a7.mono F.o.size),_,_,_,rfl,?_⟩;exact (NE a8 (by rw[BP]) (by have:=a4.o;omega)).keep fun q hq=>⟨⟨by have:=F.o.size;have:=hq.1;omega,hq.2⟩,fun _=>rfl⟩
theorem wC:∀(F:Fo),(bH F).length=bE F
 | .nil=>rfl
 | .cons _ _ _ _ x=>by simp only[bH,YA,bE,wC x]
theorem tQ{b:Bk}{free:Int}{x:TT}(D:bO b free x):(gC (aW x)).1=x.1/\(gC (aW x)).2=x.2.2:=by
 rw[xQ D.rt];exact⟨rfl,rfl⟩
theorem mM{b:Bk}{cv:aAA}{free:Int}{f:Fc}(U:dM b free f)(D:bT b cv f=false)(i:Nat):0<=aR f.1.1.op f.1.1.b (i:Int)/\(aR f.1.1.op f.1.1.b (i:Int)).toNat<=pY f.1.1:=by
 have s:f.1.1.op≠7:=fun h=>by
  unfold bT at D;rw[XN aA,XP (.inl h)]at D;cases D
 have F:=(U.head.okt.around (i:Int)).1;refine⟨F,?_⟩;unfold pY;unfold aR at F ⊢;split
 . rename_i G
   rw[XP aA];omega
 split
 . rename_i G o
   rw[XN aA,XP aA];omega
 omega
def DY(ys:List TT):WG->WG
 | .bad e=>.bad e
 | .done D k=>.done (ys++D) k
theorem LX(ys D:List TT)(r:WG):DY ys (DY D r)=DY (ys++D) r:=by cases r<;>simp[DY]
theorem wL{nm:List (List Nd)->Nat->TT->uO}{cvs:Nat->List (List Nd)}{i n:Nat}{x:TT}{r:List TT}:fV nm cvs i (x::r) n=match nm (cvs i) n x with
 | .bad e=>.bad e
 | .done y m=>DY [y] (fV nm cvs (i+1) r m):=by
 simp only[fV];cases nm (cvs i) n x with
 | bad e=>rfl
 | done y m =>
  simp only;cases fV nm cvs (i+1) r m<;>rfl
structure DS (nm:List (List Nd)->Nat->TT->uO) (cvs:Nat->List (List Nd)) (L:List TT) (n0 i:Nat) (ys:List TT) (n:Nat):Prop where
 len:ys.length=i
 le:n<=n0
 eq:fV nm cvs 0 L n0=DY ys (fV nm cvs i (L.drop i) n)
theorem DS.start(nm:List (List Nd)->Nat->TT->uO)(cvs:Nat->List (List Nd))(L:List TT)(n0:Nat):DS nm cvs L n0 0 [] n0:=by
 refine⟨rfl,XU _,?_⟩;rw[List.drop_zero];cases fV nm cvs 0 L n0<;>simp[DY]
section
variable {nm : List (List Nd)->Nat->TT->uO}{cvs : Nat->List (List Nd)}{L ys : List TT}{n0 i n : Nat}
theorem DS.bad(h:DS nm cvs L n0 i ys n){x:TT}(U:L[i]? = I x){e:Int}(G:nm (cvs i) n x=.bad e):fV nm cvs 0 L n0=.bad e:=by
 obtain⟨F,D⟩:=ZH.1 U;rw[h.eq,YX F,D,wL,G];rfl
theorem DS.next(h:DS nm cvs L n0 i ys n){x y:TT}(o:L[i]? = I x){m:Nat}(U:nm (cvs i) n x=.done y m)(G:m<=n):DS nm cvs L n0 (i+1) (ys++[y]) m:=by
 obtain⟨F,D⟩:=ZH.1 o;refine⟨by rw[XX,h.len];rfl,YE G h.le,?_⟩;rw[h.eq,YX F,D,wL,U];exact LX _ _ _
theorem DS.fin(h:DS nm cvs L n0 i ys n)(D:L.length<=i):fV nm cvs 0 L n0=.done ys n:=by
 rw[h.eq,YY D];simp[fV,DY]
end
theorem rU{ys L:List TT}{i:Nat}(F:ys.length=i){y:TT}(D:i<L.length):(ys++L.drop i).set i y=(ys++[y])++L.drop (i+1):=by
 rw[YX D,List.set_append_right _ _ aA,F,Nat.sub_self,List.set_cons_zero];simp
theorem uU{ys L:List TT}{i:Nat}(D:ys.length=i){x:TT}(F:L[i]? = I x):(ys++L.drop i).getD i (default,[],.nil)=x:=by
 rw[YD,List.getElem?_append_right aA,D,Nat.sub_self,List.getElem?_drop,YF,F];rfl
theorem rD{P:Program}{o:Oper}{a:Act}{w:aAB}{K:Act->World->Prop}{Q:Exit->Act->World->Prop}
 (hg:o.guard=Z) (s x:Operand) (t:TypeId) (a4:o.op=Op.call { callee:=Callee.builtin Builtin.append,args:=#[s,x],argTypes:=#[t,t] })
 (e:TypeId) (i:TypeInfo) (z:Value) (size F:Nat) (h1:P.underlying t=I (.slice e)) (h2:P.info? e=I i) (h3:i.zero=I z) (h4:i.size=size) (h5:i.bytes=F) (h6:z.cells.size=size) (h7:0<size)
 (ao:ZZ) (n cap:Nat) (G:List Value) (hs:a.eval s=Y ao n cap) (a0:ao=Z->n=0/\cap=0) (a3:G.length=n*size) (a1:∀b,ao=I b->∀j u,G[j]? = I u->w.cell? (b.add j)=I u)
 (ad:Addr) (m c:Nat) (D:List Value) (hx:a.eval x=Y (I ad) m c) (hn:D.length=m*size) (hc:∀j u,D[j]? = I u->w.cell? (ad.add j)=I u) (a2:∀u∈D,u.oneCell'=true)
 (U:cap<n+m) (b1:n+m<=maxLen) (b2:(n+m)*F<=140737488355328)
 (hK:∀v' w',w'.ownsRow w.heap.size e size v' (n+m) (G++D)->w.grownBy w' Z->K (a.put o.dst v') w'):Oper.wp P o a w K Q:=by
 have h:=step_append_grows (Q:=Q) (K:=K) (ops:=#[]) (E:=True) hg s x t a4 e i z size F h1 h2 h3 h4 h5 h6 h7 ao n cap G hs a0 a3 a1 ad m c D hx hn hc a2 U b1 b2 hK;have hw:Region.wanted o (yielded #[] a.tmps)=true:=by simp[Region.wanted,hg]
 rwa [XP hw]at h
theorem sX{P:Program}{o:Oper}{a:Act}{w:aAB}{K:Act->World->Prop}{Q:Exit->Act->World->Prop}
 (s x:Operand) (t:TypeId) (a1:o.op=Op.call { callee:=Callee.builtin Builtin.append,args:=#[s,x],argTypes:=#[t,t] })
 (e:TypeId) (i:TypeInfo) (z:P.underlying t=I (.slice e)) (h2:P.info? e=I i)
 (U:ZZ) (n cap:Nat) (hs:a.eval s=Y U n cap) (a0:n<=cap) (D:ZZ) (c:Nat) (hx:a.eval x=Y D 0 c)
 (hK:K (a.put o.dst (Y U n cap)) w):Oper.wp P o a w K Q:=by
 have G:Src P i.size t (Y D 0 c) 0 [] w:=by
  cases D with
  | none=>exact Src.ofNil w z c
  | some D=>exact Src.ofSlice w z D 0 c [] aD (fun j u h=>by simp at h) (fun u h=>by cases h)
 have F:=run_append_nothing (P:=P) w t t o.type e i z h2 U n cap a0 (Y D 0 c) G;unfold Oper.wp;simp[execOp,a1,resolve,invoke,builtin,hs,hx,F,Result.andThen];exact hK
theorem yD{w:aAB}{b off m:Nat}(h:∀j,j<m->∃u,w.cell? ⟨b,off+j,Z⟩=I u):∃F:List Value,F.length=m/\∀j,j<m->w.cell? ⟨b,off+j,Z⟩=F[j]?:=by
 refine⟨(List.range m).map fun j=>(w.cell? ⟨b,off+j,Z⟩).getD undef,by simp,fun j D=>?_⟩;obtain⟨u,G⟩:=h j D;rw[List.getElem?_map,List.getElem?_range D];simp[G]
structure GC (w:aAB) (Ad:ZZ) (nd cd:Nat) (xs:List Value):Prop where
 len:xs.length=nd
 cap:nd<=cd
 few:nd<=1000
 sl:∀x∈xs,∃A1 n1 c1,x=Value.slice A1 n1 c1
 mem:0<nd->∃gd,Ad=I ⟨gd,0,Z⟩/\gd<w.heap.size/\∀k,k<nd->w.cell? ⟨gd,k*2,Z⟩=xs[k]?/\w.cell? ⟨gd,k*2+1,Z⟩=I (Y Z 0 0)
theorem GC.moved{S:Nat->Prop}{w w':aAB}{D:ZZ}{nd U:Nat}{xs:List Value}(h:GC w D nd U xs)(z:aZ S Z w w')(hS:∀q,D=I ⟨q,0,Z⟩->¬ S q):GC w' D nd U xs :=
 ⟨h.len,h.cap,h.few,h.sl,fun hn=>by
  obtain⟨F,e,s,hk⟩:=h.mem hn;have o:=z.block F s (hS F e) aD;refine⟨F,e,XT s z.size,fun k G=>?_⟩;obtain⟨h1,h2⟩:=hk k G;exact⟨(aP o _).trans h1,(aP o _).trans h2⟩⟩
theorem FT:∀(F:Fo)(ys:List TT),(∀y∈ys,bL y<=4096)->(row (fH F ys)).length<=(row F).length+4096*ys.length
 | .nil,_,_=>by simp[fH]
 | .cons p n a k x,[],_=>by simp[fH]
 | .cons p n a k x,y::ys,h=>by
  have D:=FT x ys (fun z hz=>h z (by simp[hz]));have G:=h y aD;simp only[fH];rw[eG,eG,YA];have U:bL (y.1,y.2.1,y.2.2)=bL y:=rfl;omega
theorem BJ{x:TT}{ys:List TT}(h:∀y∈ys,bL y<=4096):bL (cU x ys)<=bL x+4096*ys.length:=by
 have G:=FT x.2.2 ys h;have D:bL (cU x ys)=1+x.2.1.length+(row (fH x.2.2 ys)).length:=cS _ _ _;have F:bL x=1+x.2.1.length+(row x.2.2).length:=cS x.1 x.2.1 x.2.2;omega
theorem GC.of_own{w:aAB}{base nd o:Nat}{U:ZZ}{D:List Value}(h:w.ownsRow base 51 2 (Y U nd o) nd (fT D))(hl:D.length=nd)(hs:∀x∈D,∃s n1 c1,x=Value.slice s n1 c1)(hf:nd<=1000):GC w U nd o D:=by
 refine⟨hl,?_,hf,hs,fun hn=>?_⟩
 . rcases h.2 with⟨hv,F⟩|⟨g,cap,G,hv,_,_,h2,_⟩
   . omega
   injection hv with _ _ e3;omega
 have F:=h;rcases h.2 with⟨_,h2⟩|⟨g,cap,G,hv,hg,hh,_⟩
 . omega
 injection hv with z e2 e3;subst z;refine⟨g,rfl,(aS F rfl).2.1,fun k hk=>?_⟩;obtain⟨p1,p2⟩:=o6 D k aA;exact⟨(F.cellAt (k*2) aA).trans p1,(F.cellAt (k*2+1) aA).trans p2⟩
theorem uK{o:Oper}{a:Act}{w:aAB}{K:Act->World->Prop}{Q:Exit->Act->World->Prop}
 (hg:o.guard=Z) (s x:Operand) (b2:o.op=Op.call { callee:=Callee.builtin Builtin.append,args:=#[s,x],argTypes:=#[27,27] })
 {R:Nat->Prop} {cA:ZZ} {cn cc:Nat} {cv:aAA} (G:jU R w cA cn cc cv) (hR:∀q,R q->q<w.heap.size) (c4:cn<=990000) (hs:a.eval s=Y cA cn cn)
 {Ad:ZZ} {nd cd k:Nat} {z:List Value} (hd:GC w Ad nd cd z) (hk:k<=nd) (hx:a.eval x=Y Ad k cd)
 (hK:∀a4 a5 w',ZY w w'->jU (fun q=>R q\/(w.heap.size<=q/\q<w'.heap.size)) w' a4 (cn+k) a5 (cv++List.replicate k [])->K (a.put o.dst (Y a4 (cn+k) a5)) w'):Oper.wp Tryz.prog o a w K Q:=by
 obtain⟨i0,hi,b9,c0,c3⟩:=info_parts IG;by_cases h0:k=0
 . subst h0;refine sX s x 27 b2 51 i0 Tryz.underlying27 hi cA cn cn hs (XU _) Ad cd hx ?_;have h9:=hK cA cn w (XS _ _) (by
    rw[List.replicate_zero,YP,YF];exact⟨G.len,XU _,G.few,fun e=>by have:=G.nul e;have:=G.cap;omega,fun hn=>by
     obtain⟨b,off,e,hb,hm⟩:=G.mem hn;refine⟨b,off,e,.inl hb,fun j hj=>?_⟩;obtain⟨A1,n1,c1,A2,n2,c2,y1,y2,y3⟩:=hm j hj;exact⟨A1,n1,c1,A2,n2,c2,y1,y2,y3.keep fun q hq=>⟨.inl hq,fun _=>rfl⟩⟩⟩)
   rw[YF]at h9;exact h9
 have c7:0<k:=aA;obtain⟨gd,rfl,c6,b4⟩:=hd.mem aA;have c5:=hd.few
 -- what the old row holds
 have b0:∃olds:List Value,olds.length=cn*2/\∀b off,cA=I ⟨b,off,Z⟩->∀j,j<cn*2->w.cell? ⟨b,off+j,Z⟩=olds[j]?:=by
  by_cases hn:0<cn
  . obtain⟨b,off,e,hb,hm⟩:=G.mem hn;obtain⟨vs,v1,v2⟩:=yD (w:=w) (b:=b) (off:=off) (m:=cn*2) (fun j hj=>by
     obtain⟨A1,n1,c1,A2,n2,c2,y1,y2,_⟩:=hm (j / 2) aA;by_cases hp:j % 2=0
     . exact⟨_,by rw[show off+j=off+j / 2*2 from by omega];exact y1⟩
     exact⟨_,by rw[show off+j=off+j / 2*2+1 from by omega];exact y2⟩)
    refine⟨vs,v1,fun b' off' e' j hj=>?_⟩;rw[e]at e';simp only[YT,Addr.mk.injEq]at e';obtain⟨rfl,rfl,_⟩:=e';exact v2 j hj
  exact⟨[],by simp;omega,fun b off e j hj=>absurd hj aA⟩
 obtain⟨olds,a1,a2⟩:=b0;have b6:(fT (z.take k)).length=k*2:=by rw[wP,ZS,hd.len,Nat.min_eq_left hk]
 have a9:∀j u,(fT (z.take k))[j]? = I u->w.cell? ((⟨gd,0,Z⟩:Addr).add j)=I u:=by
  intro j u D;have hj:j<k*2:=by
   have:=(ZH.1 D).1;omega
  have ea:(⟨gd,0,Z⟩:Addr).add j=⟨gd,j,Z⟩:=by unfold Addr.add;split<;>simp_all
  rw[ea];have hl:j / 2<(z.take k).length:=by rw[ZS,hd.len];omega
  obtain⟨p1,p2⟩:=o6 (z.take k) (j / 2) hl;obtain⟨d1,d2⟩:=b4 (j / 2) aA;by_cases hp:j % 2=0
  . rw[show j=j / 2*2 from by omega]at D ⊢;rw[p1,List.getElem?_take,XP aA]at D;rw[d1];exact D
  rw[show j=j / 2*2+1 from by omega]at D ⊢;rw[p2]at D;rw[d2];exact D
 have b1:∀u∈fT (z.take k),u.oneCell'=true:=by
  have:∀(ys:List Value),(∀x∈ys,∃A1 n1 c1,x=Value.slice A1 n1 c1)->∀u∈fT ys,u.oneCell'=true:=by
   intro ys
   induction ys with
   | nil=>intro _ u D;cases D
   | cons y ys ih =>
    intro h u D;simp only[fT,YV]at D;rcases D with rfl|rfl|D
    . obtain⟨A1,n1,c1,rfl⟩:=h u aD;rfl
    . rfl
    . exact ih (fun x hx=>h x (by simp[hx])) u D
  exact this _ fun x hx=>hd.sl x (List.mem_of_mem_take hx)
 refine rD hg s x 27 b2 51 i0 _ 2 48 Tryz.underlying27 hi b9 c0 c3 rfl aE cA cn cn olds hs (fun e=>by have:=G.nul e;have:=G.cap;omega) a1 (fun b e j u D=>?_) ⟨gd,0,Z⟩ k cd (fT (z.take k)) hx b6 a9 b1 aA aJ aA (fun v' w' F U=>?_)
 . by_cases hn:0<cn
   . obtain⟨b',off',e',_,_⟩:=G.mem hn;rw[e']at e;obtain rfl:=Option.some.inj e;have hj:j<cn*2:=by have:=(ZH.1 D).1;omega
     have ea:(⟨b',off',Z⟩:Addr).add j=⟨b',off'+j,Z⟩:=by unfold Addr.add;split<;>simp_all
     rw[ea,a2 b' off' e' j hj];exact D
   have:=(ZH.1 D).1;omega
 have a6:ZY w w':=⟨U.os,U.tape,U.output,U.size,fun q hq=>U.block q hq aD⟩;obtain⟨b8,b7⟩:=F;rcases b7 with⟨_,hz⟩|⟨g',cap,b3,rfl,a7,hh,a0,a3⟩
 . omega
 have F:w'.ownsRow w.heap.size 51 2 (Y (I ⟨g',0,Z⟩) (cn+k) cap) (cn+k) (olds++fT (z.take k)):=⟨b8,.inr ⟨g',cap,b3,rfl,a7,hh,a0,a3⟩⟩;have b5:=(aS F rfl).2.1;refine hK _ _ w' a6 ⟨by rw[XX,ZT,G.len],a0,by omega,(fun e=>by cases e),fun _=>⟨g',0,rfl,.inr ⟨a7,b5⟩,fun j hj=>?_⟩⟩;rw[YH];have c1:=F.cellAt (j*2) aA;have c2:=F.cellAt (j*2+1) aA;by_cases a8:j<cn
 . obtain⟨b,off,e,hb,hm⟩:=G.mem aA;obtain⟨A1,n1,k1,A2,n2,k2,y1,y2,y3⟩:=hm j a8;rw[List.getElem?_append_left aA,<-a2 b off e (j*2) aA,y1]at c1;rw[List.getElem?_append_left aA,<-a2 b off e (j*2+1) aA,<-Nat.add_assoc,y2]at c2;refine⟨A1,n1,k1,A2,n2,k2,c1,c2,?_⟩;have e3:(cv++List.replicate k []).getD j []=cv.getD j []:=by
    rw[YD,YD,List.getElem?_append_left (by rw[G.len];exact a8)]
   rw[e3];exact y3.keep fun q hq=>⟨.inl hq,fun o=>a6.cell (p:=⟨q,o,Z⟩) (hR q hq)⟩
 have hl:j-cn<(z.take k).length:=by rw[ZS,hd.len];omega
 obtain⟨p1,p2⟩:=o6 (z.take k) (j-cn) hl;rw[List.getElem?_append_right aA,a1,show j*2-cn*2=(j-cn)*2 from by omega,p1,YB hl]at c1;rw[List.getElem?_append_right aA,a1,show j*2+1-cn*2=(j-cn)*2+1 from by omega,p2]at c2;obtain⟨A1,n1,k1,ex⟩:=hd.sl ((z.take k)[j-cn]) (List.mem_of_mem_take (ZQ hl));rw[ex]at c1;refine⟨A1,n1,k1,Z,0,0,c1,c2,?_⟩;have e3:(cv++List.replicate k []).getD j []=[]:=by
  rw[YD,List.getElem?_append_right (by rw[G.len];omega),List.getElem?_replicate];split<;>rfl
 rw[e3];exact⟨rfl,XU _,by decide,fun _=>rfl,fun h=>absurd h aE⟩
end
end Go.Proofs.YtjoddliplahgkaaGreat
