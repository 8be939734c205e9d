/- Merged: WhA, WhB. -/
import Derived.Test.YtlahmbhimhmoaaaVWhM
namespace Go.Proofs.Ytlahmbhimhmoaaa
set_option linter.unusedVariables false
set_option linter.unusedSimpArgs false
open Go.RowKit
open Go.Value renaming slice → O
open Option renaming none → X
variable {c d g m n:Nat}{A B:OC}{w:OE}
section
open Go.Lib renaming hid->aB
theorem lH{G:Nat}{U:List Value}{L:List TT}(h:w.ownsRow G 29 1 (O A n c) n U)(o:a8 (e7 G w (O A n c)) w U (L.map aT)){i:Nat}(Z:i<L.length):n=L.length/\∃gk D I F,A=some ⟨gk,0,X⟩/\gk<w.heap.size/\G<=gk/\w.cell? ⟨gk,i,X⟩=some (O D I F)/\a6 (e7 G w (O A n c)) w D I F (aT (L.getD i (default,[],.nil))):=by
 have hl:=o.len;rw[MX]at hl;have a0:U.length=n:=by have:=h.1;omega
 refine⟨by omega,?_⟩;obtain⟨D,I,F,hx,ht⟩:=o.at_ i (by first|omega|(rw[MX];exact Z));rcases h.2 with⟨_,h2⟩|⟨gk,cap,s,hv,hg,hh,_⟩
 . have:=h.1;omega
 injection hv with z e2 e3;subst z;have Y:=h.cellAt (g:=gk) i aA;rw[hx]at Y;refine⟨gk,D,I,F,rfl,(Array.getElem?_eq_some_iff.1 hh).1,hg,Y,?_⟩;have e:(L.map aT).getD i []=aT (L.getD i (default,[],.nil)):=by
  rw[MK,MK,List.getElem?_map,MI Z];rfl
 rwa [e]at ht
theorem gJ.node{f:Fc}(h:gJ g w f A n c B m d):∃bs os,A=some ⟨bs,os,X⟩/\0<n/\bs<w.heap.size/\w.cell? ⟨bs,os,X⟩=some (.int .i64 f.1.1.op)/\w.cell? ⟨bs,os+1,X⟩=some (.int .i64 f.1.1.a)/\w.cell? ⟨bs,os+2,X⟩=some (.int .i64 f.1.1.b):=by
 have I:0<n:=by have:=h.1.len;rw[<-this];exact eJ _
 obtain⟨bs,os,rfl,U,D,F,G⟩:=aX.at_ h.head I;rw[NE,MQ]at D F G;exact⟨bs,os,rfl,I,U,D,F,G⟩
theorem gJ.arg{f:Fc}(h:gJ g w f A n c B m d){i:Nat}(hi:i<m):i<f.2.length/\∃D U F I G,B=some ⟨D,U,X⟩/\D<w.heap.size/\w.cell? ⟨D,U+i,X⟩=some (O F I G)/\a6 (fun q=>q<w.heap.size/\q≠g) w F I G (aT (f.2.getD i (default,[],.nil))):=by
 have hl:=h.2.1.len;rw[MX]at hl;obtain⟨D,U,e,z,hm⟩:=h.2.1.mem aA;obtain⟨F,I,G,o,s⟩:=hm i hi;refine⟨by omega,D,U,F,I,G,e,z.1,o,?_⟩;have Y:i<f.2.length:=aA;have Z:(f.2.map aT).getD i []=aT (f.2.getD i (default,[],.nil)):=by
  rw[MK,MK,List.getElem?_map,MI Y];rfl
 rwa [Z]at s
theorem FF(A B:OC)(n c m d:Nat)(w:OE):(Instr.field 109 (.agg #[O A n c,O B m d]) 0).run Try.prog w=.ok (O A n c) w:=by kernel_rfl
theorem uC:∀(L:List TT),L.length<=cF L
 | []=>NH _
 | a::r=>by have:=uC r;simp only[MN,cF];omega
theorem cG.argsLen{b:Bk}{free:Int}{f:Fc}(_h:cG b free f)(D:cJ f<=4096):f.2.length<=4096:=by
 have:=uC f.2;unfold cJ at D;omega
set_option maxRecDepth 100000 in
set_option maxHeartbeats 4000000 in
theorem oS{w0:OE}{v:bA}{b:Bk}{cA:OC}{cn cc:Nat}{cv:OD}{f:Nat}(hr:bD b=0)(hb:bO w0 v b)(hc:fA b cv)(hw:wS w0 g v b cA cn cc cv f w){s:Fc}(hs:gJ g w s A n c B m d)(fs:cG b (cv.length:Int) s):
 Calls Try.prog 77 #[.pointer (some ⟨g,0,X⟩),.agg #[O A n c,O B m d]] w (e8 (bX b cv s) w):=by
 obtain⟨bs,os,rfl,k6,k0,h0,h1,h2⟩:=hs.node;obtain⟨so,e2⟩:=OM s.1.1.op;obtain⟨sa,d9⟩:=OM s.1.1.a;obtain⟨sb,e0⟩:=OM s.1.1.b;rw[<-e2]at h0;rw[<-d9]at h1;rw[<-e0]at h2;obtain⟨a1,b2⟩:=OM (bX b cv s);rw[<-b2];have g2:s.2.length=m:=by have:=hs.2.1.len;simpa using this
 have k5:=hs.2.1.few;obtain⟨w1,a0⟩:=OM ((w.alloc (.cells #[O (some ⟨bs,os,X⟩) n c,O B m d] 109)).alloc (.cells #[.int .i64 so,.int .i64 sa,.int .i64 sb] 42));have b5:OB w w1:=by rw[a0];exact cB _ _ _
 have zs:aW w1 w.heap.size 109 #[O (some ⟨bs,os,X⟩) n c,O B m d]:=by rw[a0];exact (aW.new _ _ _).alloc _
 have zn:aW w1 (w.heap.size+1) 42 #[.int .i64 so,.int .i64 sa,.int .i64 sb]:=by rw[a0];exact aW.new' aD
 obtain⟨HW,HS,G,h7,HR,HC,h,e7⟩:=OH (hw.below b5) (hs.below b5) b5 hb hr hc fs g2;obtain⟨Z,b4,i0,I⟩:=OI e2 d9 e0 b2;have k8:=hw.lt;have zg:=HW.o.blk.cell;have f8:g<w1.heap.size:=HW.o.lt;have e1:w.heap.size<w1.heap.size:=zs.lt;have d0:w.heap.size+1<w1.heap.size:=zn.lt;have e3:=zs.cell;have b6:=zn.cell;clear hr hb hc hw hs fs e2 d9 e0 b2 g2 b5 zs zn;go_in;go_upto_region 2 with fail
 rw[<-a0];clear a0;by_cases o5:so=5
 . have F:a1=decide (0<m):=by rw[I.o];unfold bX;rw[LZ (Z.o.symm.trans o5),e7.o]
   have D:=aB F;subst o5;clear F;by_cases z:0<m
   . have d1:decide ((m:Int)>0)=true:=MB aA;have d2:decide (0<m)=true:=MB z;rw[d2]at D;clear z;go_wp2_with fail;go_ret;rw[D.o];exact⟨rfl,G.o⟩
   have d1:decide ((m:Int)>0)=false:=MA aA;have d2:decide (0<m)=false:=MA z;rw[d2]at D;clear z;go_wp2_with fail;go_ret;rw[D.o];exact⟨rfl,G.o⟩
 by_cases o7:so=7
 . have D:Hid (a1=true):=aB (by rw[I.o];unfold bX;rw[<-Z.o,aN o5,LZ (.inl o7)]);subst o7;go_wp2_with fail;go_ret;rw[D.o];exact⟨rfl,G.o⟩
 by_cases o8:so=8
 . have D:Hid (a1=true):=aB (by rw[I.o];unfold bX;rw[<-Z.o,aN o5,LZ (.inr o8)]);subst o8;go_wp2_with fail;go_ret;rw[D.o];exact⟨rfl,G.o⟩
 by_cases o1:so=1
 . have F:a1=decide (0<(jT cv sa).length):=by rw[I.o];unfold bX;rw[<-Z.o,aN o5,aN aA,LZ o1,<-b4.o]
   obtain⟨g9,h3,h4⟩:=tO h.o.head (Z.o.symm.trans o1);rw[<-b4.o]at g9 h3 h4;obtain⟨ia,c8⟩:∃ia:Nat,sa=(ia:Int):=⟨sa.toNat,by omega⟩;have i2:=HW.o.ctx.len;have k3:=HW.o.ctx.few;obtain⟨bc,oc,ec,j9,g1⟩:=HW.o.ctx.mem aA;obtain⟨ik,f9⟩:=OM (cn-1-ia);obtain⟨A1,n1,c1,A2,n2,c2,k1,k2,kt⟩:=g1 ik aA;have g5:(jT cv sa).length=n2:=by
    unfold jT;rw[i2,c8,show ((ia:Int)).toNat=ia from by omega,<-f9];exact kt.len
   rw[g5]at F;have D:=aB F;have d1:decide ((n2:Int)>0)=decide (0<n2):=decide_eq_decide.2 aA;have k9:IntKind.i64.wrap ((cn:Int)-1)=(cn:Int)-1:=by rw[MP];omega
   have l0:IntKind.i64.wrap ((cn:Int)-1-(ia:Int))=(ik:Int):=by rw[MP];omega
   have j2:(ik:Int)<(cn:Int):=aA;have j3:(0:Int)<=(ik:Int):=aA;rw[ec]at zg;subst o1;rw[c8]at b6;clear F g5 g1 kt g9 h3 h4 f9 c8 d1;by_cases z:0<n2
   . have d1:decide ((n2:Int)>0)=true:=MB aA;have d2:decide (0<n2)=true:=MB z;rw[d2]at D;clear z;go_upto_region 9 with fail
     go_quiet (fail)
     go_wp2_with fail;go_ret;rw[D.o];exact⟨rfl,aU G.o _⟩
   have d1:decide ((n2:Int)>0)=false:=MA aA;have d2:decide (0<n2)=false:=MA z;rw[d2]at D;clear z;go_upto_region 9 with fail
   go_quiet (fail)
   go_wp2_with fail;go_ret;rw[D.o];exact⟨rfl,aU G.o _⟩
 by_cases a3:so=11
 . have b9:=Z.o.symm.trans a3;obtain⟨p,q,br,hk,_⟩:=dR h.o.head.okt b9;have F:a1=i7 b ⟨11,sa,sb⟩ (cV (eP s.1 1)):=by
    rw[I.o];unfold bX;rw[<-Z.o,aN o5,aN aA,aN o1,LZ a3];unfold i7;rw[b4.o,i0.o]
   have D:=aB F;obtain⟨g7,g8,_,_⟩:=nO h.o.head b9;have hq:bJ b (cv.length:Int) (eP s.1 1):=by
    rw[dY (i:=1) (by rw[hk];rfl)];exact h.o.head.kid0 (i:=1) (by rw[hk];rfl) (dP (.inr (.inr b9)))
   have b0:=fun (W:OE) (hB:OB w1 W)=>fJ (HS.o.below hB).head h.o.head.rt.shape;rw[i5 h.o.head]at b0;have HK:=aB b0;have HQ:=aB hq;have e6:Hid (1<(a9 s.1.2.2).length):=aB (by rw[hk];simp);have e9:=aB (show 0<=sa/\sa<(b.entries.length:Int) from by rw[b4.o];exact⟨g7,g8⟩);subst a3;clear F b0 hk hq g7 g8;go_upto_region 11 with fail
   refine wp_region_held_drew (S:=(fun w'=>OB w1 w')) aC ?_ (fun hZ=>?_)
   . (try dsimp only);exact aU (MC _ _) 1
   have e5:Hid (OB w1 w1.drew):=aB (aU (MC _ _) 1);generalize w1.drew=W1 at *;refine aL 0 hZ ?_;refine tk 1 ?_ (fun wq hSw=>?_) hZ ?_;rotate_left
   . have f0:=(hSw.cell (p:=⟨w.heap.size+1,0,X⟩) d0).trans (b6 0);have f1:=(hSw.cell (p:=⟨w.heap.size+1,1,X⟩) d0).trans (b6 1);have f2:=(hSw.cell (p:=⟨w.heap.size+1,2,X⟩) d0).trans (b6 2);go_simp;try with_reducible rfl
   try simp only[p7]
   refine aL 2 hZ ?_;refine tk 3 ?_ (fun wq hSw=>?_) hZ ?_;rotate_left
   . have f0:=(hSw.cell (p:=⟨w.heap.size,0,X⟩) e1).trans (e3 0);go_simp;try with_reducible rfl
   try simp only[p7]
   refine r1 4 fun K hK=>?_;go_simp;go_at_call 47
   refine (HK.o _ e5.o).mono ?_;rintro en w3 ⟨U,A3,n3,c3,l1,rfl,g3,g4⟩;have Y:=bK e5 U;obtain⟨i4,gk,A4,n4,c4,rfl,k4,j1,c0,a4⟩:=lH g3 g4 e6.o;have j4:1<n3:=by have:=e6.o;omega
   have j5:(1:Int)<(n3:Int):=aA;have b7:Hid (aX w3 A4 n4 c4 (aT (eP s.1 1))):=aB (a6.keep a4 (R':=(· < w3.heap.size)) (w':=w3) fun q hq=>⟨hq.2.1,fun _=>rfl⟩);clear U g3 g4 i4 a4;go_wp2_with fail;refine hK.o _ _ (by exact Y.o) fun hZ=>?_;clear hK K;try simp only[p7]
   refine aL 5 hZ ?_;refine r1 6 fun K hK=>?_;go_simp;refine hK.o _ _ (by exact Y.o) fun hZ=>?_;clear hK K;try simp only[p7]
   refine r1 7 fun K hK=>?_;go_simp;go_at_call 58
   refine (eT b7.o HQ.o).mono ?_;rintro en w5 ⟨a8,A6,n6,c6,B6,m6,d6,rfl,a2⟩;have a7:=bK Y a8;have h8:=aB (a2.read (g:=g) (MD f8 Y.o.size) (by rw[a2.len.2];exact MO (cG.argsLen (nK HQ.o) (by rw[eO HQ.o];exact HQ.o.few)) aE));clear a8 a2 c0;go_wp2_with fail;refine hK.o _ _ (by exact a7.o) fun hZ=>?_;clear hK K;try simp only[p7]
   refine r1 8 fun K hK=>?_;go_simp;go_at_call 94
   refine (BJ (nd:=⟨11,sa,sb⟩) HR.o h7.o (HW.o.below a7.o) e9.o.1 e9.o.2 h8.o (nK HQ.o)).mono ?_;rintro en w7 ⟨rfl,f5⟩;have e4:=bK a7 f5;have h6:=aB (G.o.trans (e4.o.mono G.o.size));clear f5;go_wp2_with fail;refine hK.o _ _ (by exact e4.o) fun hZ=>?_;clear hK K;try simp only[p7]
   refine aL 9 hZ ?_;refine wpAnyH_done aC ?_ _;go_wp2_with fail;go_ret;rw[D.o];exact⟨rfl,h6.o⟩
 by_cases a5:so=12
 . have f4:=Z.o.symm.trans a5;obtain⟨i8,i9⟩:=pO h.o.head.okt f4;have d4:=fun (W:OE) (hB:OB w1 W)=>iW (HS.o.below hB).head h.o.head.rt f4;obtain⟨ip,c9⟩:∃ip:Nat,dG s.1=(ip:Int):=⟨(dG s.1).toNat,by omega⟩;rw[c9]at d4;have f3:=aB d4;have F:a1=(decide (ip<m)&&((cV (s.2.getD ip (default,[],.nil))).1.1.op==10)):=by
    rw[I.o];unfold bX;rw[<-Z.o,aN o5,aN aA,aN o1,aN a3,LZ a5,c9,e7.o];rfl
   subst a5;have i3:ip<16:=aA;clear d4 c9 i8 i9;by_cases b1:ip<m;rotate_left
   . have d1:decide ((ip:Int)<(m:Int))=false:=MA aA;have d2:decide (ip<m)=false:=MA b1;rw[d2,Bool.false_and]at F;have D:=aB F;clear F b1;go_wp2_with fail;refine (f3.o _ (MC _ _)).mono ?_;rintro en w3 ⟨rfl,U⟩;have Y:=aB U;have h5:=fun i=>(U.cell (p:=⟨w.heap.size,i,X⟩) e1).trans (e3 i);clear U;go_wp2_with fail;go_ret;rw[D.o];exact⟨rfl,G.o.trans (Y.o.mono G.o.size)⟩
   have d1:decide ((ip:Int)<(m:Int))=true:=MB aA;have d2:decide (ip<m)=true:=MB b1;have d3:(ip:Int)<(m:Int):=aA;rw[d2,NI]at F;obtain⟨g0,bb,oo,A4,n4,c4,rfl,i1,c0,a4⟩:=HS.o.arg b1;have c5:=h.o.args _ (lC g0 (default,[],.nil));obtain⟨xa,g6⟩:=OM (s.2.getD ip (default,[],.nil));rw[<-g6]at F a4 c5;have b7:=aB (fun (W:OE) (hB:OB w1 W)=>(a6.keep a4 (R':=(· < W.heap.size)) (w':=W) fun q hq=>⟨MD hq.1 hB.size,fun o=>hB.cell (p:=⟨q,o,X⟩) hq.1⟩));have D:=aB F;have b3:=aB c5;clear F b1 g0 a4 c5 g6;go_wp2_with fail;refine (f3.o _ (MC _ _)).mono ?_;rintro en w3 ⟨rfl,U⟩;have Y:=aB U;have h5:=fun i=>(U.cell (p:=⟨w.heap.size,i,X⟩) e1).trans (e3 i);have f6:=(U.cell (p:=⟨bb,oo+ip,X⟩) i1).trans c0;clear U;go_wp2_with fail;refine (eT (b7.o _ Y.o) b3.o).mono ?_;rintro en w5 ⟨a8,A6,n6,c6,B6,m6,d6,rfl,a2⟩;have a7:=bK Y a8;have f7:=a2.read (g:=g) (MD f8 Y.o.size) (by rw[a2.len.2];exact MO (cG.argsLen (nK b3.o) (by rw[eO b3.o];exact b3.o.few)) aE);obtain⟨b8,i6,rfl,k7,_,p0,_,_⟩:=f7.node;obtain⟨ho,c7⟩:=OM (cV xa).1.1.op;rw[<-c7]at p0;have h9:Hid (a1=(ho==10)):=aB (by rw[D.o,c7]);have j6:(0:Int)<(n6:Int):=aA;have j0:=FF (some ⟨b8,i6,X⟩) B6 n6 c6 m6 d6;clear a8 a2 f7 h5 f6 c7;go_wp2_with fail;go_ret;rw[h9.o];exact⟨rfl,G.o.trans (a7.o.mono G.o.size)⟩
 have D:Hid (a1=false):=aB (by rw[I.o];unfold bX;rw[<-Z.o,aN o5,aN aA,aN o1,aN a3,aN a5]);have d5:(so==5)=false:=by simpa using o5
 have d7:(so==7)=false:=by simpa using o7
 have d8:(so==8)=false:=by simpa using o8
 have d1:(so==1)=false:=by simpa using o1
 have j7:(so==11)=false:=by simpa using a3
 have j8:(so==12)=false:=by simpa using a5
 clear o5 o7 o8 o1 a3 a5;go_wp2_with fail;go_ret;rw[D.o];exact⟨rfl,G.o⟩
end
section
open Go.Lib renaming hid->aB
set_option maxHeartbeats 4000000
set_option maxRecDepth 100000
def J9(g:Nat)(r:Option TT)(w:OE)(e:Ending)(w':OE):Prop:=OB w w'/\match r with
 | none=>e=.returned (.tuple #[O X 0 0,.bool false])
 | some p=>∃A n c,e=.returned (.tuple #[O A n c,.bool true])/\a6 (fun q=>q<w'.heap.size/\q≠g) w' A n c (aT p)
theorem BO{b:Bk}{free:Int}{s:Fc}(hg:g<w.heap.size)(hs:gJ g w s A n c B m d)(fs:cG b free s):
 Calls Try.prog 74 #[.agg #[O A n c,O B m d]] w (J9 g (cW s) w):=by
 obtain⟨bs,os,rfl,e8,b0,h0,h1,h2⟩:=hs.node;obtain⟨so,b3⟩:=OM s.1.1.op;rw[<-b3]at h0;have b9:s.2.length=m:=by have:=hs.2.1.len;simpa using this
 have e7:=hs.2.1.few;obtain⟨w1,Y⟩:=OM (w.alloc (.cells #[O (some ⟨bs,os,X⟩) n c,O B m d] 109));have h:OB w w1:=by rw[Y];exact aQ _ _
 have zs:aW w1 w.heap.size 109 #[O (some ⟨bs,os,X⟩) n c,O B m d]:=by rw[Y];exact aW.new _ _ _
 have k0:=(h.cell (p:=⟨bs,os,X⟩) b0).trans h0;obtain⟨HS,F,a1,c6,a3⟩:=OG (hs.below h) h fs b9 b3;have e6:g<w1.heap.size:=MD hg h.size;have c2:w.heap.size<w1.heap.size:=zs.lt;have c5:=zs.cell;have d8:bs<w1.heap.size:=MD b0 h.size;obtain⟨b4,a5⟩:=OM (cW s);rw[<-a5];have a2:=aB a5;clear hs fs b3 b9 h zs h0 h1 h2 a5 hg b0;go_in;go_upto_region 1 with fail
 rw[<-Y];clear Y;by_cases U:so=11
 . have c7:=a3.o.symm.trans U;obtain⟨p,q,br,hk,_⟩:=dR a1.o.head.okt c7;have G:Hid (b4=some (eP s.1 1)):=aB (by rw[a2.o];unfold cW;rw[<-a3.o,LZ U]);have a4:=fun (W:OE) (hB:OB w1 W)=>fJ (HS.o.below hB).head a1.o.head.rt.shape;rw[i5 a1.o.head]at a4;have HK:=aB a4;have b5:Hid (1<(a9 s.1.2.2).length):=aB (by rw[hk];simp);subst U;clear a4 hk;go_wp2_with fail;refine (HK.o _ (MC _ _)).mono ?_;rintro en w3 ⟨D,A3,n3,c3,e9,rfl,c0,c1⟩;have Z:=aB D;obtain⟨d4,gk,A4,n4,c4,rfl,e5,e0,b8,a7⟩:=lH c0 c1 b5.o;have e1:1<n3:=by have:=b5.o;omega
   have e2:(1:Int)<(n3:Int):=aA;have a8:Hid (a6 (fun q=>q<w3.heap.size/\q≠g) w3 A4 n4 c4 (aT (eP s.1 1))):=aB (a6.keep a7 (R':=fun q=>q<w3.heap.size/\q≠g) (w':=w3) fun q hq=>⟨⟨hq.2.1,by have:=hq.1;omega⟩,fun _=>rfl⟩);clear D c0 c1 d4 a7;go_wp2_with fail;go_ret2;rw[G.o];exact⟨F.o.trans (Z.o.mono F.o.size),A4,n4,c4,rfl,a8.o⟩
 by_cases a0:so=12
 . have b7:=a3.o.symm.trans a0;obtain⟨d5,d6⟩:=pO a1.o.head.okt b7;have b2:=fun (W:OE) (hB:OB w1 W)=>iW (HS.o.below hB).head a1.o.head.rt b7;obtain⟨ip,b1⟩:∃ip:Nat,dG s.1=(ip:Int):=⟨(dG s.1).toNat,by omega⟩;rw[b1]at b2;have b6:=aB b2;have z:b4=if ip<m then some (s.2.getD ip (default,[],.nil)) else X:=by
    rw[a2.o];unfold cW;rw[<-a3.o,aN U,LZ a0,b1,c6.o];rfl
   subst a0;have d0:ip<16:=aA;clear b2 b1 d5 d6;by_cases I:ip<m
   . have d1:decide ((ip:Int)<(m:Int))=true:=MB aA;have d2:decide (ip<m)=true:=MB I;have d3:(ip:Int)<(m:Int):=aA;rw[LZ I]at z;obtain⟨c9,bb,oo,A4,n4,c4,rfl,c8,b8,a7⟩:=HS.o.arg I;obtain⟨a8,G⟩:=OF (fun (W:OE) (hB:OB w1 W)=>(a6.keep a7 (R':=fun q=>q<W.heap.size/\q≠g) (w':=W) fun q hq=>⟨⟨MD hq.1 hB.size,hq.2⟩,fun o=>hB.cell (p:=⟨q,o,X⟩) hq.1⟩)) z;clear z I c9 a7;go_wp2_with fail;refine (b6.o _ (MC _ _)).mono ?_;rintro en w3 ⟨rfl,D⟩;have Z:=aB D;have d7:=fun i=>(D.cell (p:=⟨w.heap.size,i,X⟩) c2).trans (c5 i);have d9:=(D.cell (p:=⟨bb,oo+ip,X⟩) c8).trans b8;clear D;go_wp2_with fail;go_ret2;rw[G.o];exact⟨F.o.trans (Z.o.mono F.o.size),A4,n4,c4,rfl,a8.o _ Z.o⟩
   have d1:decide ((ip:Int)<(m:Int))=false:=MA aA;have d2:decide (ip<m)=false:=MA I;rw[aN I]at z;have G:=aB z;clear z I;go_wp2_with fail;refine (b6.o _ (MC _ _)).mono ?_;rintro en w3 ⟨rfl,D⟩;have Z:=aB D;have d7:=fun i=>(D.cell (p:=⟨w.heap.size,i,X⟩) c2).trans (c5 i);clear D;go_wp2_with fail;go_ret2;rw[G.o];exact⟨F.o.trans (Z.o.mono F.o.size),rfl⟩
 have G:Hid (b4=X):=aB (by rw[a2.o];unfold cW;rw[<-a3.o,aN U,aN a0]);have e3:(so==11)=false:=by simpa using U
 have e4:(so==12)=false:=by simpa using a0
 clear U a0;go_wp2_with fail;go_ret2;rw[G.o];exact⟨F.o,rfl⟩
theorem pY{G I:Value}{D:Array Value}(h:aW w g 109 #[G,I])(ht:D.getD 4 undef=.pointer (some ⟨g,0,X⟩)):
 (results Try.f79 D).run Try.prog w=.ok (.agg #[G,I]) w:=by
 have U:=h.cell;have F:D[4]?.getD undef=.pointer (some ⟨g,0,X⟩):=by rw[<-ht];simp
 simp[results,Try.results79,go_sem,F,U]
def zJ(f:Fc)(room:Int)(A:OC)(n c:Nat)(B:OC)(m d:Nat)(w:OE)(e:Ending)(w':OE):Prop:=OB w w'/\((¬ room<(cJ f:Int)/\e=.returned (.agg #[O A n c,O B m d]))\/(room<(cJ f:Int)/\e=.panicked (nE 9)))
theorem uN{s:Fc}(hs:gJ g w s A n c B m d)(a0:cJ s<=100000)(room:Int):
 Calls Try.prog 79 #[.agg #[O A n c,O B m d],.int .i64 room] w (zJ s room A n c B m d w):=by
 have U:=cB w (.cells #[O A n c,O B m d] 109) (.cells #[O X 0 0,O X 0 0] 109);obtain⟨a1,I⟩:=OF U ((aW.new w 109 #[O A n c,O B m d]).alloc (.cells #[O X 0 0,O X 0 0] 109));have Z:Hid (aW ((w.alloc (.cells #[O A n c,O B m d] 109)).alloc (.cells #[O X 0 0,O X 0 0] 109)) (w.heap.size+1) 109 #[O X 0 0,O X 0 0]):=aB (aW.new' aD);have h:=aB (rM (hs.below U) a0);obtain⟨z,hz⟩:=OM (cJ s);rw[<-hz]at h;unfold zJ;rw[<-hz];have z1:=I.o.cell;clear U hs hz a0;go_in;go_wp2_with fail;refine (h.o).mono ?_;rintro en w2 ⟨rfl,G⟩;have Y:=bK a1 G;obtain⟨a2,F⟩:=OF (I.o.below G I.o.lt) (Z.o.below G Z.o.lt);have z3:=a2.o.cell;have z4:=F.o.cell;have f4:=F.o.frozen;have a3:w.heap.size+1<w2.heap.size:=F.o.lt;clear G z1;by_cases D:room<(z:Int)
 . have d1:decide ((z:Int)>room)=true:=MB D;have d2:decide (room<(z:Int))=true:=MB D;have HG:=aB D;clear D;go_wp2_with fail;exact⟨rfl,Y.o,.inr ⟨HG.o,rfl⟩⟩
 have d1:decide ((z:Int)>room)=false:=MA D;have d2:decide (room<(z:Int))=false:=MA D;have HG:=aB D;clear D;go_wp2_with fail;refine NG (v:=.agg #[O A n c,O B m d]) (pY (g:=w.heap.size+1) (by have:=(F.o.set_ 0 (O A n c)).set_ 1 (O B m d);simpa using this) aD) rfl ⟨?_,.inl ⟨HG.o,rfl⟩⟩;exact (Y.o.setCell (p:=⟨w.heap.size+1,0,X⟩) (Nat.le_succ _) _).setCell (p:=⟨w.heap.size+1,1,X⟩) (Nat.le_succ _) _
end
end Go.Proofs.Ytlahmbhimhmoaaa
