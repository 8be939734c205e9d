/- core's comparer: fixes. -/
import Derived.Test.YtlahmbhimhmoaaaVCvH
namespace Go.Proofs.Ytlahmbhimhmoaaa
set_option linter.unusedVariables false
set_option linter.unusedSimpArgs false
open Go.RowKit
open Go.Value renaming slice → O
open Option renaming none → X
open Go.Lib renaming hid->aB
variable {b:Bk}{cc cn g n:Nat}{cA:OC}{w w':OE}{v:bA}
def I4(r:lV)(k:Nat->lV):lV:=match r with
 | .done true m=>k m
 | r=>r
theorem qD{r:lV}{k:Nat->lV}(h:∀m,r≠.done true m):I4 r k=r:=by
 cases r with
 | bad e=>rfl
 | done D m=>cases D with
  | false=>rfl
  | true=>exact absurd rfl (h m)
theorem JW(r:lV):I4 r (fun m=>.done true m)=r:=by
 cases r with
 | bad e=>rfl
 | done D m=>cases D<;>rfl
theorem nX{F:List (List Nd)->Bool->Nat->TT->TT->lV}{D:Nat->List (List Nd)}{G:Nat->Bool}{i:Nat}{x y:TT}{r s:List TT}:gD F D G i (x::r) (y::s) n=I4 (F (D i) (G i) n x y) (gD F D G (i+1) r s):=by
 rw[uG];unfold I4;cases F (D i) (G i) n x y with
 | bad e=>rfl
 | done I m=>cases I<;>rfl
theorem zF.base{r:lV}{D:OE}{e:Ending}(h:zF g v b cA cn cc r D e w')(F:aS (fun q=>q=g) X w D):zF g v b cA cn cc r w e w':=⟨aY F h.1,h.2⟩
theorem zF.two{r:lV}{e:Ending}(h:zF g v b cA cn cc r w e w'):(e=.returned (.bool false)/\∀k,r≠.done true k)\/∃k,e=.returned (.bool true)/\r=.done true k/\aW w' g 60 (wO v b cA cn cc (k:Int) 0):=by
 rcases h.2 with⟨z,f,rfl,rfl,_⟩|⟨F,k,rfl,rfl,D⟩
 . exact .inl ⟨rfl,fun k h=>by cases h⟩
 cases F with
 | false=>exact .inl ⟨rfl,fun k h=>by injection h with h;cases h⟩
 | true=>exact .inr ⟨k,rfl,rfl,D⟩
theorem tY.moved{A:OC}{L:List TT}(h:tY g w A n L)(F:aS (fun q=>q=g) X w w'):tY g w' A n L:=⟨h.len,fun W D=>h.at_ W (aY F D)⟩
theorem tY.of_own{base:Nat}{A:OC}{c:Nat}{F:List Value}{L:List TT}(hg:g<base)(G:w.ownsRow base 29 1 (O A n c) n F)(Y:a8 (e7 base w (O A n c)) w F (L.map aT)):tY g w A n L:=by
 have hl:F.length=L.length:=by have:=Y.len;rwa [MX]at this
 have hn:F.length=n:=by have:=G.1;omega
 refine⟨by omega,fun W D i x Z=>?_⟩;obtain⟨hi,a1⟩:=NP.1 Z;have U:=G;rcases G.2 with⟨_,h2⟩|⟨q,cap',a0,hv,hq,hh,_⟩
 . omega
 injection hv with e1 e2 e3;subst e1;obtain⟨p1,h,_⟩:=aV U (g:=q) rfl;obtain⟨s,n1,c1,I,ht⟩:=a8.at_ i Y (by rw[MX];exact hi);have e4:(L.map aT).getD i []=aT x:=by
  rw[MK,List.getElem?_map,Z];rfl
 rw[e4]at ht;have hb:=D.block q h aA aD;refine⟨q,0,s,n1,c1,rfl,MD h D.size,by omega,?_,ht.keep fun z hz=>⟨⟨MD hz.2.1 D.size,by have:=hz.1;omega⟩,fun o=>aP (D.block z hz.2.1 (by have:=hz.1;omega) aD) o⟩⟩;rw[ML];exact (aP hb i).trans ((U.cellAt (g:=q) i aA).trans I)
theorem lW.stays{w0:OE}{f:Nat}{cv:OD}(h:lW w0 g v b cA cn cc cv f w)(D:OB w w')(r:Bool):zF g v b cA cn cc (.done r f) w (.returned (.bool r)) w':=⟨aS.of_below D,.inr ⟨r,f,rfl,rfl,(h.below D).blk⟩⟩
theorem KG{cv:OD}{n:Nd}{nb:Nat}(D:n.op=12)(F:n.b=(nb:Int))(j:Nat):cL cv n (2*j)=cv/\cL cv n (2*j+1)=cv++List.replicate nb []:=by
 unfold cL aR;constructor
 . rw[aN aA,aN aA];simp
 rw[aN aA,LZ aA,F,NA]
set_option maxRecDepth 100000 in
set_option maxHeartbeats 4000000 in
theorem xE{w0:OE}{cv:OD}(hr:bD b=0){F:Nat}(H:GB w0 g v b F){f:Nat}(hw:lW w0 g v b cA cn cc cv f w)(hf:f<F)(s7:f<=100000)(r8:cn<=990000){A:OC}{c:Nat}{x:TT}(ht:aX w A n c (aT x)){B:OC}{m d:Nat}{y:TT}(hu:aX w B m d (aT y))(hx:bJ b (cv.length:Int) x)(hy:bJ b (cv.length:Int) y)(b6:x.1.op=12)(e4:x.1=y.1){P:OC}{pn pc:Nat}(hP:tY g w P pn (a9 x.2.2)){Q:OC}{I qc:Nat}(hQ:tY g w Q I (a9 y.2.2))
 (hK:tQ x.2.2=tQ y.2.2->∀(q:Nat)(a a':TT),(a9 x.2.2)[q]? = some a->(a9 y.2.2)[q]? = some a'->eZ b (cL cv x.1 q) f a/\eZ b (cL cv x.1 q) f a') :
 Calls Try.prog 50 #[.pointer (some ⟨g,0,X⟩),O A n c,O B m d,O P pn pc,O Q I qc] w (zF g v b cA cn cc (if tQ x.2.2=tQ y.2.2 then gD (dJ b F) (cL cv x.1) (fun _=>false) 0 (a9 x.2.2) (a9 y.2.2) f else .done false f) w):=by
 obtain⟨p1,p2,_,_,p5⟩:=gG hx.okt b6;obtain⟨q1,q2,_,_,q5⟩:=gG hy.okt (by rw[<-e4];exact b6);obtain⟨nb,f2⟩:∃nb:Nat,x.1.b=(nb:Int):=⟨x.1.b.toNat,by omega⟩;have g0:y.1.b=(nb:Int):=by rw[<-e4];exact f2
 have i1:=hP.len;have i2:=hQ.len;obtain rfl:I=pn:=by rw[<-i1,<-i2,p5,q5,e4]
 have m5:I=2*nb:=aA;have t2:I<=8:=aA;have t1:nb<=4:=aA;have g4:=aB m5;have b9:=aB i1;have g7:=aB i2;have g5:=aB (fun (W:OE) (hB:OB w W)=>nJ (nb:=nb) (ht.below hB) hx.rt b6 f2);have g6:=aB (fun (W:OE) (hB:OB w W)=>nJ (nb:=nb) (hu.below hB) hy.rt (by rw[<-e4];exact b6) g0);have o8:=aB (KG (cv:=cv) b6 f2);unfold LD at g5 g6;obtain⟨L,hL⟩:=OM (a9 x.2.2);obtain⟨M,hM⟩:=OM (a9 y.2.2);rw[<-hL]at hP b9 hK ⊢;rw[<-hM]at hQ g7 hK ⊢;generalize tQ x.2.2=ps at *;generalize tQ y.2.2=qs at *;generalize cL cv x.1=kc at *;obtain⟨a7,d9⟩:∃r,r=(if ps=qs then gD (dJ b F) kc (fun _=>false) 0 L M f else .done false f):=⟨_,rfl⟩;rw[<-d9];have c0:=aB d9;have HW:=aB hw;have HH:=aB H;have HK:=aB hK;have HP:=aB hP;have HQ:=aB hQ;have HR:=aB hr;have s8:=hw.lt;obtain⟨i0,hi,b7,b8,m9⟩:=info_parts ER;have o5:=aB hi;have q9:=aB b7;have r0:=aB b8;have r3:=aB m9;clear hi b7 b8 m9 d9 hw H hK hP hQ hr ht hu hx hy b6 e4 p1 p2 p5 q1 q2 q5 f2 g0 i1 i2 hL hM m5;go_in;go_wp2_with fail;refine (g5.o w (MC _ _)).mono ?_;rintro e w1 ⟨l6,A1,c1,rfl,m3⟩;have g1:=aB l6;have k8:=aB m3;clear l6 m3;go_wp2_with fail;refine (g6.o w1 g1.o).mono ?_;rintro e w2 ⟨h1,A2,c2,rfl,m4⟩;have i9:=bK g1 h1;have j7:=aB (GR w2 (tX.ints (bY k8.o h1) aA) (tX.ints m4 aA));clear h1 m4 k8 g5 g6;go_wp2_with fail;refine (j7.o).mono ?_;rintro e w3 ⟨rfl,l7⟩;have j0:=bK i9 l7;clear l7 j7 g1 i9;by_cases b2:ps=qs;rotate_left
 . have d1:decide (ps=qs)=false:=MA b2;have b0:Hid (a7=.done false f):=aB (by rw[c0.o,aN b2]);clear b2;go_wp2_with fail;go_ret;rw[b0.o];exact HW.o.stays j0.o false
 have d1:decide (ps=qs)=true:=MB b2;have q0:Hid (gD (dJ b F) kc (fun _=>false) 0 L M f=a7):=aB (by rw[c0.o,LZ b2]);have k2:=aB (HK.o b2);clear b2 c0 HK;go_wp2_with fail;go_loopw [11,12] (fun ov iv wr=>∃(i s c1:Nat)(A1:OC)(xs:List Value),Hid (s=2*i)/\i<=nb/\iv=.int .i64 (s:Int)/\ov=O A1 i c1/\Hid (xs.length=i)/\Hid (∀x∈xs,∃A1 n1 c1,x=Value.slice A1 n1 c1)/\Hid (wr.ownsRow w.heap.size 54 2 (O A1 i c1) i (dE xs))/\Hid (OB w wr)) (fun _ iv _=>I-(intOf iv).toNat)
 case atStart=>exact⟨0,0,0,X,[],aB rfl,by omega,rfl,rfl,aB rfl,aB (fun x hx=>by cases hx),aB (NR _ _ _ _),j0⟩
 case round =>
  obtain⟨i,s,c3,A3,xs,hs,hi,rfl,rfl,f5,f6,a5,c8⟩:=hrel;by_cases U:s<I
  . have e1:decide ((s:Int)<(I:Int))=true:=MB aA;have e2:decide (s<I)=true:=MB U;have f1:i<nb:=by have:=hs.o;have:=g4.o;omega
    have s5:(s:Int)<(I:Int):=aA;have m6:s<L.length:=by rw[b9.o];exact U
    obtain⟨z0,n2⟩:∃z0,L[s]? = some z0:=⟨_,MI m6⟩;obtain⟨bx,ox,Ax,nx,cx,rfl,e9,d4,f0,e0⟩:=HP.o.at_ wr (aS.of_below c8.o) s z0 n2;have m8:=ET (a6.keep e0 (R':=(· < wr.heap.size)) (w':=wr) fun q hq=>⟨hq.1,fun _=>rfl⟩) ((i:Nat):Int) 0 aA;have k4:=aB m8;have f4:Int.tdiv (s:Int) 2=(i:Int):=by rw[Int.tdiv_eq_ediv_of_nonneg aA];have:=hs.o;omega
    have q7:=aB f5.o;have q8:=aB f6.o;have p6:=aB a5.o;have e5:=aB c8.o;have HS:=aB hs.o;clear m8 e0 f5 f6 a5 c8 hs d4 n2;go_wp2_with fail;refine (k4.o).mono ?_;rintro e w5 ⟨h2,A5,n5,c5,rfl,r9⟩;have j1:=bK e5 h2;have p4:=aB (bY p6.o h2);clear h2 r9 f0 f4 k4 m6;simp only;have g2:=aB (j1.o.alloc j1.o.size (.cells #[O A5 n5 c5,O X 0 0] 54));have k9:=aB (bY p4.o (aQ w5 (.cells #[O A5 n5 c5,O X 0 0] 54)));have o9:=aB (aW.new w5 54 #[O A5 n5 c5,O X 0 0]);have p0:=aB (EU o9.o);go_wp2_with (at_builtin;refine bL rfl (cQ (.tmp 38) (.tmp 41) 27 rfl w.heap.size 54 i0 _ 2 48 Try.underlying27 o5.o q9.o r0.o r3.o rfl aE (O A3 i c3) i (dE xs) aF k9.o (some ⟨w5.heap.size,0,X⟩) 1 1 [O A5 n5 c5,O X 0 0] aF rfl (fun e=>by cases e) p0.o (by simp[Value.oneCell']) aJ aA g2.o.size ?_);intro A4 c4 w4 b1)
    have p3:Hid (w4.ownsRow w.heap.size 54 2 (O A4 (i+1) c4) (i+1) (dE (xs++[O A5 n5 c5]))):=aB (by rw[pM];exact b1.own);have n7:Hid (OB w w4):=aB (g2.o.grown b1.grown g2.o.size (fun g hg=>(aV k9.o hg).1));have q6:Hid ((xs++[Value.slice A5 n5 c5]).length=i+1):=aB (by rw[MG,q7.o];rfl);have q4:Hid (∀x∈xs++[Value.slice A5 n5 c5],∃A1 n1 c1,x=Value.slice A1 n1 c1):=aB (fun x hx=>by
     rcases MW.1 hx with hx|hx
     . exact q8.o x hx
     rw[List.mem_singleton.1 hx];exact⟨_,_,_,rfl⟩)
    clear b1;go_roundw
    case rel=>exact⟨i+1,s+2,c4,A4,xs++[O A5 n5 c5],aB (by have:=HS.o;omega),by omega,by go_num,rfl,q6,q4,p3,n7⟩
    case measure=>simp[intOf];omega
  have e1:decide ((s:Int)<(I:Int))=false:=MA aA;have e2:decide (s<I)=false:=MA U;obtain rfl:i=nb:=by have:=hs.o;have:=g4.o;omega
  have n8:=aB (sL.of_own a5.o f5.o f6.o aA);have l0:∀q,A3=some ⟨q,0,X⟩->q≠g:=fun q e=>by
   subst e;have:=(aV a5.o (g:=q) rfl).1;omega
  obtain⟨i8,e5⟩:=OF l0 c8.o;clear l0 f5 f6 a5 c8 hs U;generalize wr=wt at *;go_wp2_with fail;go_loopw [15] (fun iv WQ=>∃(s k:Nat),iv=.int .i64 (s:Int)/\s<=I/\k<=f/\Hid (∃j,s=2*j)/\Hid (gD (dJ b F) kc (fun _=>false) s (L.drop s) (M.drop s) k=a7)/\Hid (lW w0 g v b cA cn cc cv k WQ)/\Hid (aS (fun q=>q=g) X w WQ)/\Hid (aS (fun q=>q=g) X wt WQ)) (fun iv _=>I-(intOf iv).toNat)
  case atStart=>exact⟨0,f,rfl,by omega,MF _,aB ⟨0,rfl⟩,q0,aB (HW.o.below e5.o),aB (aS.of_below e5.o),aB (aS.of_below (MC _ _))⟩
  case round =>
   obtain⟨s,k,rfl,hs,a4,h4,f3,d2,Y,h8⟩:=hrel;by_cases U:s<I;rotate_left
   . have e1:decide ((s:Int)<(I:Int))=false:=MA aA;have e2:decide (s<I)=false:=MA U;have b0:Hid (a7=.done true k):=aB (by
      have:=f3.o;rw[NB (by rw[b9.o];omega)]at this;simp only[gD]at this;exact this.symm)
     obtain⟨HM,HC⟩:=OF Y.o d2.o;clear h4 f3 d2 Y h8 U;go_wp2_with fail;go_ret;exact⟨HM.o,.inr ⟨true,k,b0.o,rfl,HC.o.blk⟩⟩
   have e1:decide ((s:Int)<(I:Int))=true:=MB aA;have e2:decide (s<I)=true:=MB U;obtain⟨j,hj⟩:=h4.o;have d7:s+1<I:=by have:=g4.o;omega
   obtain⟨s1,i4⟩:=OM (s+1);have t3:IntKind.i64.wrap ((s:Int)+1)=(s1:Int):=by rw[MP];omega
   have s3:(s1:Int)<(I:Int):=aA;have s4:s1<I:=aA;have h6:s<L.length:=by rw[b9.o];exact U
   have h7:s<M.length:=by rw[g7.o];exact U
   have d5:s+1<L.length:=by rw[b9.o];exact d7
   have d6:s+1<M.length:=by rw[g7.o];exact d7
   obtain⟨x0,i6⟩:=OM (L[s]);obtain⟨y0,b7⟩:=OM (M[s]);obtain⟨x1,i7⟩:=OM (L[s+1]);obtain⟨y1,b8⟩:=OM (M[s+1]);have g9:L[s]? = some x0:=by rw[i6];exact MI h6
   have h0:M[s]? = some y0:=by rw[b7];exact MI h7
   have e7:L[s+1]? = some x1:=by rw[i7];exact MI d5
   have e8:M[s+1]? = some y1:=by rw[b8];exact MI d6
   obtain⟨n0,m0⟩:=k2.o s x0 y0 g9 h0;obtain⟨n1,m1⟩:=k2.o (s+1) x1 y1 e7 e8;obtain⟨k0,k1⟩:=o8.o j;rw[<-hj]at k0 k1;rw[k0]at n0 m0;rw[k1]at n1 m1;obtain⟨bx,ox,Ax,nx,cx,r6,e9,d4,f0,e0⟩:=HP.o.at_ wr Y.o s x0 g9;obtain⟨g8,oy,Ay,ny,cy,r7,h3,h5,l8,m7⟩:=HQ.o.at_ wr Y.o s y0 h0;obtain⟨s6,t4,n4,s0,r4,c6,_,_,b4,_⟩:=HP.o.at_ wr Y.o (s+1) x1 e7;obtain⟨by'',t5,n6,s2,r5,c7,_,_,b5,_⟩:=HQ.o.at_ wr Y.o (s+1) y1 e8;have l1:=fun (W:OE) (hM:aS (fun q=>q=g) X wr W)=>HP.o.at_ W (aY Y.o hM) (s+1) x1 e7;have l2:=fun (W:OE) (hM:aS (fun q=>q=g) X wr W)=>HQ.o.at_ W (aY Y.o hM) (s+1) y1 e8;subst r6 r7;injection c6 with c6;injection c6 with a1 a2;subst a1 a2;injection c7 with c7;injection c7 with a1 a2;subst a1 a2;have l3:∀(W:OE),aS (fun q=>q=g) X wr W->a6 (fun q=>q<W.heap.size/\q≠g) W n4 s0 r4 (aT x1):=fun W hM=>by
    obtain⟨b3,o3,A3,n3,c3,e3,_,_,Z,i5⟩:=l1 W hM;injection e3 with e3;injection e3 with a1 a2;subst a1 a2;have h9:=(aP (hM.block bx e9 d4 aD) (ox+(s+1))).trans b4;rw[h9]at Z;injection Z with Z;injection Z with a1 a2 a3;subst a1 a2 a3;exact i5
   have l5:∀(W:OE),aS (fun q=>q=g) X wr W->a6 (fun q=>q<W.heap.size/\q≠g) W n6 s2 r5 (aT y1):=fun W hM=>by
    obtain⟨b3,o3,A3,n3,c3,e3,_,_,Z,i5⟩:=l2 W hM;injection e3 with e3;injection e3 with a1 a2;subst a1 a2;have h9:=(aP (hM.block g8 h3 h5 aD) (oy+(s+1))).trans b5;rw[h9]at Z;injection Z with Z;injection Z with a1 a2 a3;subst a1 a2 a3;exact i5
   have hq:=f3.o;rw[MT h6,MT h7,MT d5,MT d6,<-i6,<-b7,<-i7,<-b8,nX,k0]at hq;have f4:∀l,gD (dJ b F) kc (fun _=>false) (s+1) (x1::L.drop (s+1+1)) (y1::M.drop (s+1+1)) l=I4 (dJ b F (cv++List.replicate i []) false l x1 y1) (gD (dJ b F) kc (fun _=>false) (s+2) (L.drop (s+2)) (M.drop (s+2))):=fun l=>by
    rw[nX,k1]
   have c9:=fun (W:OE) (hB:OB wr W)=>HH.o W cA cn cc cv k false Ax nx cx x0 Ay ny cy y0 (d2.o.below hB) (e0.keep fun q hq=>⟨⟨MD hq.1 hB.size,hq.2⟩,fun o=>hB.cell (p:=⟨q,o,X⟩) hq.1⟩) (m7.keep fun q hq=>⟨⟨MD hq.1 hB.size,hq.2⟩,fun o=>hB.cell (p:=⟨q,o,X⟩) hq.1⟩) (n0.mono a4) (m0.mono a4) aA aA;have f8:=fun (is:Bool) (j:Nat) (h:dJ b F cv false k x0 y0=.done is j)=>(jE HR.o F cv false k x0 y0 (n0.mono a4) (m0.mono a4) is j h).1;have f9:=fun (W:OE) (l:Nat) (hl:l<=k) (hM:aS (fun q=>q=g) X wr W) (hB:aW W g 60 (wO v b cA cn cc (l:Int) 0))=>nI HH.o (d2.o.moved hM hB) aA aA r8 (n8.o.moved (aY h8.o hM) i8.o) i8.o (l3 W hM) (l5 W hM) (n1.mono (MO hl a4)) (m1.mono (MO hl a4)) false;have d3:=fun (l:Nat) (hl:l<=k) (is:Bool) (j:Nat) (h:dJ b F (cv++List.replicate i []) false l x1 y1=.done is j)=>(jE HR.o F (cv++List.replicate i []) false l x1 y1 (n1.mono (MO hl a4)) (m1.mono (MO hl a4)) is j h).1;generalize dJ b F cv false k x0 y0=rr at *;obtain⟨z,p8,HC,HD,o6,o4,o1,o2⟩:=OH hq f4 c9 f8 f9 d3 f0 l8;rw[<-i4]at b4 b5;obtain⟨j5,j6,q3,j2,j3,j8,j9,HJ⟩:=OH b4 b5 i4 e9 h3 d4 h5 hj;clear f3 i6 b7 i7 b8 g9 h0 e7 e8 n0 m0 n1 m1 k0 k1 e9 d4 f0 e0 h3 h5 l8 m7 b4 b5 l1 l2 l3 l5 hq f4 c9 f8 f9 d3 h4 hj h6 h7 d5 d6 i4 d7;go_wp2_with fail;refine wp_region_held_drew (S:=(fun w'=>aS (fun q=>q=g) X wr w')) aC ?_ (fun D=>?_)
   . (try dsimp only);exact aS.of_below (aU (MC _ _) 1)
   have g3:Hid (OB wr wr.drew):=aB (aU (MC _ _) 1);generalize wr.drew=W1 at *;refine wpAnyH_take (i:=0) (v:=?_) rfl aC aC aC (fun _ _ _ h=>h) (Or.inl ⟨by rfl,fun G hSw=>?_⟩) D ?_;rotate_left
   . (go_simp;try with_reducible rfl)
   try simp only[p7]
   refine wpAnyH_take (i:=1) (v:=?_) rfl aC aC aC (fun _ _ _ h=>h) (Or.inl ⟨by rfl,fun G hSw=>?_⟩) D ?_;rotate_left
   . (go_simp;try with_reducible rfl)
   try simp only[p7]
   refine wpAnyH_take (i:=2) (v:=?_) rfl aC aC aC (fun _ _ _ h=>h) (Or.inl ⟨by rfl,fun G hSw=>?_⟩) D ?_;rotate_left
   . (go_simp;try with_reducible rfl)
   try simp only[p7]
   refine wpAnyH_take (i:=3) (v:=?_) rfl aC aC aC (fun _ _ _ h=>h) (Or.inl ⟨by rfl,fun G hSw=>?_⟩) D ?_;rotate_left
   . (go_simp;try with_reducible rfl)
   try simp only[p7]
   refine tk 4 ?_ (fun G hSw=>?_) D ?_;rotate_left
   . have zx:=(aP (hSw.block bx j2.o j8.o aD) (ox+s)).trans o1.o;go_simp;try with_reducible rfl
   try simp only[p7]
   refine wpAnyH_take (i:=5) (v:=?_) rfl aC aC aC (fun _ _ _ h=>h) (Or.inl ⟨by rfl,fun G hSw=>?_⟩) D ?_;rotate_left
   . (go_simp;try with_reducible rfl)
   try simp only[p7]
   refine wpAnyH_take (i:=6) (v:=?_) rfl aC aC aC (fun _ _ _ h=>h) (Or.inl ⟨by rfl,fun G hSw=>?_⟩) D ?_;rotate_left
   . (go_simp;try with_reducible rfl)
   try simp only[p7]
   refine wpAnyH_take (i:=7) (v:=?_) rfl aC aC aC (fun _ _ _ h=>h) (Or.inl ⟨by rfl,fun G hSw=>?_⟩) D ?_;rotate_left
   . (go_simp;try with_reducible rfl)
   try simp only[p7]
   refine tk 8 ?_ (fun G hSw=>?_) D ?_;rotate_left
   . have zy:=(aP (hSw.block g8 j3.o j9.o aD) (oy+s)).trans o2.o;go_simp;try with_reducible rfl
   try simp only[p7]
   refine r1 9 fun K hK=>?_;go_simp;go_at_call 19
   refine (HC.o _ g3.o).mono ?_;rintro e w3 d0;obtain⟨n9,a8⟩:=OF d0 (aY (aS.of_below g3.o) d0.1);have k6:=aB (aY Y.o a8.o);rcases d0.two with⟨rfl,d8⟩|⟨kk,rfl,rfl,l9⟩
   . have b0:Hid (a7=rr):=aB (by have h9:=z.o;rw[qD d8]at h9;exact h9.symm);clear d0 d8;go_wp2_with fail;refine hK.o _ _ (by exact a8.o) fun D=>?_;clear hK K;try simp only[p7]
     refine wpAnyH_take (i:=10) (v:=?_) rfl aC aC aC (fun _ _ _ h=>h) (Or.inl ⟨by rfl,fun G hSw=>?_⟩) D ?_;rotate_left
     . (go_simp;try with_reducible rfl)
     try simp only[p7]
     refine wpAnyH_take (i:=11) (v:=?_) rfl aC aC aC (fun _ _ _ h=>h) (Or.inl ⟨by rfl,fun G hSw=>?_⟩) D ?_;rotate_left
     . (go_simp;try with_reducible rfl)
     try simp only[p7]
     refine aM 12 D ?_;refine aM 13 D ?_;refine aM 14 D ?_;refine aM 15 D ?_;refine aM 16 D ?_;refine aM 17 D ?_;refine aM 18 D ?_;refine aM 19 D ?_;refine aM 20 D ?_;refine aM 21 D ?_;refine aM 22 D ?_;refine aM 23 D ?_;refine aM 24 D ?_;refine aM 25 D ?_;refine wpAnyH_take (i:=26) (v:=?_) rfl aC aC aC (fun _ _ _ h=>h) (Or.inl ⟨by rfl,fun G hSw=>?_⟩) D ?_;rotate_left
     . (go_simp;try with_reducible rfl)
     try simp only[p7]
     refine wpAnyH_done aC ?_ _;go_wp2_with fail;go_ret;rw[b0.o];exact n9.o.base (aY Y.o (aS.of_below g3.o))
   have k3:=aB l9;have s9:=HD.o _ _ rfl;have z:=aB z.o
   replace z:Hid (gD (dJ b F) kc (fun _=>false) (s+1) (x1::L.drop (s+1+1)) (y1::M.drop (s+1+1)) kk=a7):=aB z.o
   clear d0 l9;go_wp2_with fail;refine hK.o _ _ (by exact a8.o) fun D=>?_;clear hK K;try simp only[p7]
   refine wpAnyH_take (i:=10) (v:=?_) rfl aC aC aC (fun _ _ _ h=>h) (Or.inl ⟨by rfl,fun G hSw=>?_⟩) D ?_;rotate_left
   . (go_simp;try with_reducible rfl)
   try simp only[p7]
   refine wpAnyH_take (i:=11) (v:=?_) rfl aC aC aC (fun _ _ _ h=>h) (Or.inl ⟨by rfl,fun G hSw=>?_⟩) D ?_;rotate_left
   . (go_simp;try with_reducible rfl)
   try simp only[p7]
   refine wpAnyH_take (i:=12) (v:=?_) rfl aC aC aC (fun _ _ _ h=>h) (Or.inl ⟨by rfl,fun G hSw=>?_⟩) D ?_;rotate_left
   . (go_simp;try with_reducible rfl)
   try simp only[p7]
   refine wpAnyH_take (i:=13) (v:=?_) rfl aC aC aC (fun _ _ _ h=>h) (Or.inl ⟨by rfl,fun G hSw=>?_⟩) D ?_;rotate_left
   . (go_simp;try with_reducible rfl)
   try simp only[p7]
   refine wpAnyH_take (i:=14) (v:=?_) rfl aC aC aC (fun _ _ _ h=>h) (Or.inl ⟨by rfl,fun G hSw=>?_⟩) D ?_;rotate_left
   . (go_simp;try with_reducible rfl)
   try simp only[p7]
   refine wpAnyH_take (i:=15) (v:=?_) rfl aC aC aC (fun _ _ _ h=>h) (Or.inl ⟨by rfl,fun G hSw=>?_⟩) D ?_;rotate_left
   . (go_simp;try with_reducible rfl)
   try simp only[p7]
   refine wpAnyH_take (i:=16) (v:=?_) rfl aC aC aC (fun _ _ _ h=>h) (Or.inl ⟨by rfl,fun G hSw=>?_⟩) D ?_;rotate_left
   . (go_simp;try with_reducible rfl)
   try simp only[p7]
   refine wpAnyH_take (i:=17) (v:=?_) rfl aC aC aC (fun _ _ _ h=>h) (Or.inl ⟨by rfl,fun G hSw=>?_⟩) D ?_;rotate_left
   . (go_simp;try with_reducible rfl)
   try simp only[p7]
   refine tk 18 ?_ (fun G hSw=>?_) D ?_;rotate_left
   . have zx:=(aP (hSw.block bx j2.o j8.o aD) (ox+s1)).trans j5.o;go_simp;try with_reducible rfl
   try simp only[p7]
   refine wpAnyH_take (i:=19) (v:=?_) rfl aC aC aC (fun _ _ _ h=>h) (Or.inl ⟨by rfl,fun G hSw=>?_⟩) D ?_;rotate_left
   . (go_simp;try with_reducible rfl)
   try simp only[p7]
   refine wpAnyH_take (i:=20) (v:=?_) rfl aC aC aC (fun _ _ _ h=>h) (Or.inl ⟨by rfl,fun G hSw=>?_⟩) D ?_;rotate_left
   . (go_simp;try with_reducible rfl)
   try simp only[p7]
   refine wpAnyH_take (i:=21) (v:=?_) rfl aC aC aC (fun _ _ _ h=>h) (Or.inl ⟨by rfl,fun G hSw=>?_⟩) D ?_;rotate_left
   . (go_simp;try with_reducible rfl)
   try simp only[p7]
   refine wpAnyH_take (i:=22) (v:=?_) rfl aC aC aC (fun _ _ _ h=>h) (Or.inl ⟨by rfl,fun G hSw=>?_⟩) D ?_;rotate_left
   . (go_simp;try with_reducible rfl)
   try simp only[p7]
   refine tk 23 ?_ (fun G hSw=>?_) D ?_;rotate_left
   . have zy:=(aP (hSw.block g8 j3.o j9.o aD) (oy+s1)).trans j6.o;go_simp;try with_reducible rfl
   try simp only[p7]
   refine r1 24 fun K hK=>?_;go_simp;go_at_call 49
   have f1:=o6.o w3 kk aA a8.o k3.o;rw[p8.o kk]at z;generalize hrr:dJ b F (cv++List.replicate i []) false kk x1 y1=r2 at *;refine f1.mono ?_;rintro e w7 a0;obtain⟨j4,e6⟩:=OF a0 a0.1;have f7:=aB (aY a8.o e6.o);rcases a0.two with⟨rfl,d8⟩|⟨l4,rfl,i3,m2⟩
   . have b0:Hid (a7=r2):=aB (by have h9:=z.o;rw[qD d8]at h9;exact h9.symm);clear a0 d8 f1;go_wp2_with fail;refine hK.o _ _ (by exact f7.o) fun D=>?_;clear hK K;try simp only[p7]
     refine wpAnyH_take (i:=25) (v:=?_) rfl aC aC aC (fun _ _ _ h=>h) (Or.inl ⟨by rfl,fun G hSw=>?_⟩) D ?_;rotate_left
     . (go_simp;try with_reducible rfl)
     try simp only[p7]
     refine wpAnyH_take (i:=26) (v:=?_) rfl aC aC aC (fun _ _ _ h=>h) (Or.inl ⟨by rfl,fun G hSw=>?_⟩) D ?_;rotate_left
     . (go_simp;try with_reducible rfl)
     try simp only[p7]
     refine wpAnyH_done aC ?_ _;go_wp2_with fail;go_ret;rw[b0.o];exact j4.o.base k6.o
   have o7:=aB m2;clear a0 m2 f1;go_wp2_with fail;refine hK.o _ _ (by exact f7.o) fun D=>?_;clear hK K;try simp only[p7]
   refine wpAnyH_take (i:=25) (v:=?_) rfl aC aC aC (fun _ _ _ h=>h) (Or.inl ⟨by rfl,fun G hSw=>?_⟩) D ?_;rotate_left
   . (go_simp;try with_reducible rfl)
   try simp only[p7]
   refine wpAnyH_take (i:=26) (v:=?_) rfl aC aC aC (fun _ _ _ h=>h) (Or.inl ⟨by rfl,fun G hSw=>?_⟩) D ?_;rotate_left
   . (go_simp;try with_reducible rfl)
   try simp only[p7]
   refine wpAnyH_done aC ?_ _;have o0:=aB (lW.moved (d2.o.moved a8.o k3.o) e6.o o7.o);have k7:=aB (aY k6.o e6.o);have k5:=aB (aY (aY h8.o a8.o) e6.o);have t0:=o4.o kk aA true l4 (by rw[hrr,i3]);have p9:Hid (gD (dJ b F) kc (fun _=>false) (s+2) (L.drop (s+2)) (M.drop (s+2)) l4=a7):=aB (by have h9:=z.o;rw[i3]at h9;exact h9);clear hrr i3;go_wp2_with fail;go_roundw
   case rel=>exact⟨s+2,l4,by go_num,by have:=q3.o;omega,by omega,aB (by obtain⟨j,hj⟩:∃j,s=2*j:=⟨_,HJ.o⟩;exact⟨j+1,by omega⟩),p9,o0,k7,k5⟩
   case measure=>simp[intOf];omega
end Go.Proofs.Ytlahmbhimhmoaaa
