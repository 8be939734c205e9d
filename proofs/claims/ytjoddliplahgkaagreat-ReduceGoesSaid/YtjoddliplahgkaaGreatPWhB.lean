/- Merged: WhA, WhB. -/
import Derived.Test.YtjoddliplahgkaaGreatPRefTerm
namespace Go.Proofs.YtjoddliplahgkaaGreat
set_option linter.unusedVariables false
set_option linter.unusedSimpArgs false
open Go.RowKit
open Go.Value renaming slice → O
open Option renaming none → X
section
open Go.Lib renaming hid->aB
theorem pU {lo:Nat} {w:World} {A:Option Addr} {n c:Nat} {xs:List Value} {L:List TT} (h:w.ownsRow lo 29 1 (O A n c) n xs) (hr:bS (iS lo w (O A n c)) w xs (L.map aW)) {i:Nat} (hi:i<L.length):n=L.length/\∃gk A' n' c',A=some ⟨gk,0,X⟩/\gk<w.heap.size/\lo<=gk/\w.cell? ⟨gk,i,X⟩=some (O A' n' c')/\bJ (iS lo w (O A n c)) w A' n' c' (aW (L.getD i (default,[],.nil))):=by
 have hl:=hr.len;rw[List.length_map] at hl;have a0:xs.length=n:=by have:=h.1;omega
 refine⟨by omega,?_⟩;obtain⟨A',n',c',hx,ht⟩:=hr.at_ i (by first | omega | (rw[List.length_map];exact hi));rcases h.2 with⟨_,h2⟩ | ⟨gk,cap,cur,hv,hg,hh,_⟩
 · have:=h.1;omega
 injection hv with e1 e2 e3;subst e1;have hc:=h.cellAt (g:=gk) i aA;rw[hx] at hc;refine⟨gk,A',n',c',rfl,(Array.getElem?_eq_some_iff.1 hh).1,hg,hc,?_⟩;have e:(L.map aW).getD i []=aW (L.getD i (default,[],.nil)):=by
  rw[List.getD_eq_getElem?_getD,List.getD_eq_getElem?_getD,List.getElem?_map,List.getElem?_eq_getElem hi];rfl
 rwa [e] at ht
theorem jU.node {g:Nat} {w:World} {f:Fc} {A B:Option Addr} {n c m d:Nat} (h:jU g w f A n c B m d) : ∃bs os,A=some ⟨bs,os,X⟩/\0<n/\bs<w.heap.size/\w.cell? ⟨bs,os,X⟩=some (.int .i64 f.1.1.op)/\w.cell? ⟨bs,os+1,X⟩=some (.int .i64 f.1.1.a)/\w.cell? ⟨bs,os+2,X⟩=some (.int .i64 f.1.1.b):=by
 have hn:0<n:=by have:=h.1.len;rw[<-this];exact lG _
 obtain⟨bs,os,rfl,hb,h0,h1,h2⟩:=aY.at_ h.head hn;rw[Nat.zero_mul,Nat.add_zero] at h0 h1 h2;exact⟨bs,os,rfl,hn,hb,h0,h1,h2⟩
theorem jU.arg {g:Nat} {w:World} {f:Fc} {A B:Option Addr} {n c m d:Nat} (h:jU g w f A n c B m d) {i:Nat} (hi:i<m):i<f.2.length/\∃bb oo A' n' c',B=some ⟨bb,oo,X⟩/\bb<w.heap.size/\w.cell? ⟨bb,oo+i,X⟩=some (O A' n' c')/\bJ (fun q=>q<w.heap.size/\q ≠ g) w A' n' c' (aW (f.2.getD i (default,[],.nil))):=by
 have hl:=h.2.1.len;rw[List.length_map] at hl;obtain⟨bb,oo,e,hb,hm⟩:=h.2.1.mem aA;obtain⟨A',n',c',h1,h2⟩:=hm i hi;refine⟨by omega,bb,oo,A',n',c',e,hb.1,h1,?_⟩;have a0:i<f.2.length:=aA;have e2:(f.2.map aW).getD i []=aW (f.2.getD i (default,[],.nil)):=by
  rw[List.getD_eq_getElem?_getD,List.getD_eq_getElem?_getD,List.getElem?_map,List.getElem?_eq_getElem a0];rfl
 rwa [e2] at h2
theorem ND (A B:Option Addr) (n c m d:Nat) (w:World):(Instr.field 78 (.agg #[O A n c,O B m d]) 0).run Tryz.prog w=.ok (O A n c) w:=by kernel_rfl
theorem AX:∀(L:List TT),L.length<=bT L
 | []=>Nat.zero_le _
 | a::r=>by have:=AX r;simp only[List.length_cons,bT];omega
theorem eH.argsLen {b:Bk} {free:Int} {f:Fc} (_h:eH b free f) (hs:dK f<=4096):f.2.length<=4096:=by
 have:=AX f.2;unfold dK at hs;omega
set_option maxRecDepth 100000 in
set_option maxHeartbeats 4000000 in
theorem lQ {w0:World} {g:Nat} {v:bO} {b:Bk} {cA:Option Addr} {cn cc:Nat} {cv:List (List Nd)} {f:Nat} {w:World} (hr:bP b=0) (hb:bX w0 v b) (hc:fR b cv) (hw:AN w0 g v b cA cn cc cv f w) {s:Fc} {A B:Option Addr} {n c m d:Nat} (hs:jU g w s A n c B m d) (fs:eH b (cv.length:Int) s) :
 Calls Tryz.prog 69 #[.pointer (some ⟨g,0,X⟩),.agg #[O A n c,O B m d]] w (gC (bW b cv s) w):=by
 obtain⟨bs,os,rfl,i8,j1,h0,h1,h2⟩:=hs.node;obtain⟨so,c7⟩ : ∃z,z=s.1.1.op:=⟨_,rfl⟩;obtain⟨sa,d0⟩ : ∃z,z=s.1.1.a:=⟨_,rfl⟩;obtain⟨sb,c9⟩ : ∃z,z=s.1.1.b:=⟨_,rfl⟩;rw[<-c7] at h0;rw[<-d0] at h1;rw[<-c9] at h2;obtain⟨res,b0⟩ : ∃r,r=bW b cv s:=⟨_,rfl⟩;rw[<-b0];have f6:s.2.length=m:=by have:=hs.2.1.len;simpa using this
 obtain⟨w1,a4⟩ : ∃w1:World,w1=(w.alloc (.cells #[O (some ⟨bs,os,X⟩) n c,O B m d] 78)).alloc (.cells #[.int .i64 so,.int .i64 sa,.int .i64 sb] 46):=⟨_,rfl⟩;have b7:Below w.heap.size w w1:=by rw[a4];exact a7 _ _ _
 have zs:aS w1 w.heap.size 78 #[O (some ⟨bs,os,X⟩) n c,O B m d]:=by rw[a4];exact (aS.new _ _ _).alloc _
 have zn:aS w1 (w.heap.size+1) 46 #[.int .i64 so,.int .i64 sa,.int .i64 sb]:=by rw[a4];exact aS.new' aD
 have HW:=aB (hw.below b7);have HS:=aB (hs.below b7);have a3:=aB b7;have i5:=aB hb;have HR:=aB hr;have a9:=aB fs;have g6:=aB f6;have a6:=aB c7;have b9:=aB d0;have i2:=aB c9;have a2:=aB b0;have zg:=HW.o.blk.cell;have g0:g<w1.heap.size:=HW.o.lt;have c8:w.heap.size<w1.heap.size:=zs.lt;have d9:w.heap.size+1<w1.heap.size:=zn.lt;have c5:=zs.cell;have b6:=zn.cell;clear hr hb hc hw hs fs c7 d0 c9 b0 f6 b7 zs zn;go_in;go_upto_region 2 with fail
 rw[<-a4];clear a4;by_cases o5:so=5
 · have a1:res=decide (0<m):=by rw[a2.o];unfold bW;rw[if_pos (a6.o.symm.trans o5),g6.o]
   have a0:=aB a1;subst o5;clear a1;by_cases hm0:0<m
   · have d1:decide ((m:Int)>0)=true:=decide_eq_true aA;have d2:decide (0<m)=true:=decide_eq_true hm0;rw[d2] at a0;clear hm0;go_wp2_with fail;go_ret;rw[a0.o];exact⟨rfl,a3.o⟩
   have d1:decide ((m:Int)>0)=false:=decide_eq_false aA;have d2:decide (0<m)=false:=decide_eq_false hm0;rw[d2] at a0;clear hm0;go_wp2_with fail;go_ret;rw[a0.o];exact⟨rfl,a3.o⟩
 by_cases o7:so=7
 · have a0:Hid (res=true):=aB (by rw[a2.o];unfold bW;rw[<-a6.o,if_neg o5,if_pos (.inl o7)]);subst o7;go_wp2_with fail;go_ret;rw[a0.o];exact⟨rfl,a3.o⟩
 by_cases o8:so=8
 · have a0:Hid (res=true):=aB (by rw[a2.o];unfold bW;rw[<-a6.o,if_neg o5,if_pos (.inr o8)]);subst o8;go_wp2_with fail;go_ret;rw[a0.o];exact⟨rfl,a3.o⟩
 by_cases o1:so=1
 · have a1:res=decide (0<(jG cv sa).length):=by rw[a2.o];unfold bW;rw[<-a6.o,if_neg o5,if_neg aA,if_pos o1,<-b9.o]
   obtain⟨va0,va1,va2⟩:=qI a9.o.head (a6.o.symm.trans o1);rw[<-b9.o] at va0 va1 va2;obtain⟨ia,e1⟩ : ∃ia:Nat,sa=(ia:Int):=⟨sa.toNat,by omega⟩;have i0:=HW.o.ctx.len;have j0:=HW.o.ctx.few;obtain⟨bc,oc,ec,j2,f7⟩:=HW.o.ctx.mem aA;obtain⟨ik,f9⟩ : ∃ik,ik=cn-1-ia:=⟨_,rfl⟩;obtain⟨A1,n1,c1,A2,n2,c2,k1,k2,kt⟩:=f7 ik aA;have f3:(jG cv sa).length=n2:=by
    unfold jG;rw[i0,e1,show ((ia:Int)).toNat=ia from by omega,<-f9];exact kt.len
   rw[f3] at a1;have a0:=aB a1;have d1:decide ((n2:Int)>0)=decide (0<n2):=decide_eq_decide.2 aA;have w1':IntKind.i64.wrap ((cn:Int)-1)=(cn:Int)-1:=by rw[IntKind.wrap_i64];omega
   have w2':IntKind.i64.wrap ((cn:Int)-1-(ia:Int))=(ik:Int):=by rw[IntKind.wrap_i64];omega
   have h7:(ik:Int)<(cn:Int):=aA;have h6:(0:Int)<=(ik:Int):=aA;rw[ec] at zg;subst o1;rw[e1] at b6;clear a1 f3 f7 kt va0 va1 va2 f9 e1 d1;by_cases hm0:0<n2
   · have d1:decide ((n2:Int)>0)=true:=decide_eq_true aA;have d2:decide (0<n2)=true:=decide_eq_true hm0;rw[d2] at a0;clear hm0;go_upto_region 9 with fail
     go_quiet (fail)
     go_wp2_with fail;go_ret;rw[a0.o];exact⟨rfl,aT a3.o _⟩
   have d1:decide ((n2:Int)>0)=false:=decide_eq_false aA;have d2:decide (0<n2)=false:=decide_eq_false hm0;rw[d2] at a0;clear hm0;go_upto_region 9 with fail
   go_quiet (fail)
   go_wp2_with fail;go_ret;rw[a0.o];exact⟨rfl,aT a3.o _⟩
 by_cases o11:so=11
 · have e6:=a6.o.symm.trans o11;obtain⟨p,q,br,hk,_⟩:=eK a9.o.head.okt e6;have a1:res=eS b ⟨11,sa,sb⟩ (bU (eQ s.1 1)):=by
    rw[a2.o];unfold bW;rw[<-a6.o,if_neg o5,if_neg aA,if_neg o1,if_pos o11];unfold eS;rw[b9.o,i2.o]
   have a0:=aB a1;obtain⟨na0,na1,_,_⟩:=kM a9.o.head e6;have hq:bR b (cv.length:Int) (eQ s.1 1):=by
    rw[dI (i:=1) (by rw[hk];rfl)];exact a9.o.head.kid0 (i:=1) (by rw[hk];rfl) (eI (.inr (.inr e6)))
   have b1:=fun (W:World) (hB:Below w1.heap.size w1 W)=>kZ (HS.o.below hB).head a9.o.head.rt.shape;rw[qF a9.o.head] at b1;have HK:=aB b1;have HQ:=aB hq;have g7:Hid (1<(cI s.1.2.2).length):=aB (by rw[hk];simp);have g5:=aB (show 0<=sa/\sa<(b.entries.length:Int) from by rw[b9.o];exact⟨na0,na1⟩);subst o11;clear a1 b1 hk hq na0 na1;go_upto_region 11 with fail
   refine wp_region_held_drew (S:=(fun w'=>Below w1.heap.size w1 w')) aC ?_ (fun hZ => ?_)
   · (try dsimp only);exact aT (Below.refl _ _) 1
   have g8:Hid (Below w1.heap.size w1 w1.drew):=aB (aT (Below.refl _ _) 1);generalize w1.drew=W1 at *;refine aL 0 hZ ?_;refine tk 1 ?_ (fun wq hSw => ?_) hZ ?_;rotate_left
   · have f0:=(hSw.cell (p:=⟨w.heap.size+1,0,X⟩) d9).trans (b6 0);have f1:=(hSw.cell (p:=⟨w.heap.size+1,1,X⟩) d9).trans (b6 1);have f2:=(hSw.cell (p:=⟨w.heap.size+1,2,X⟩) d9).trans (b6 2);go_simp;try with_reducible rfl
   try simp only[p7]
   refine aL 2 hZ ?_;refine tk 3 ?_ (fun wq hSw => ?_) hZ ?_;rotate_left
   · have f0:=(hSw.cell (p:=⟨w.heap.size,0,X⟩) c8).trans (c5 0);go_simp;try with_reducible rfl
   try simp only[p7]
   refine r1 4 fun K hK => ?_;go_simp;go_at_call 104
   refine (HK.o _ g8.o).mono ?_;rintro en w3 ⟨a5,A3,n3,c3,xs3,rfl,f5,f4⟩;have a8:=bZ g8 a5;obtain⟨h5,gk,A4,n4,c4,rfl,i9,h8,e5,b3⟩:=pU f5 f4 g7.o;have h4:1<n3:=by have:=g7.o;omega
   have h3:(1:Int)<(n3:Int):=aA;have e7:Hid (aY w3 A4 n4 c4 (aW (eQ s.1 1))):=aB (bJ.keep b3 (R':=(· < w3.heap.size)) (w':=w3) fun q hq=>⟨hq.2.1,fun _=>rfl⟩);clear a5 f5 f4 h5 b3;go_wp2_with fail;refine hK.o _ _ (by exact a8.o) fun hZ => ?_;clear hK K;try simp only[p7]
   refine aL 5 hZ ?_;refine r1 6 fun K hK => ?_;go_simp;refine hK.o _ _ (by exact a8.o) fun hZ => ?_;clear hK K;try simp only[p7]
   refine r1 7 fun K hK => ?_;go_simp;go_at_call 42
   refine (fP e7.o HQ.o).mono ?_;rintro en w5 ⟨b4,A6,n6,c6,B6,m6,d6,rfl,b2⟩;have b5:=bZ a8 b4;have i4:=aB (b2.read (g:=g) (Nat.lt_of_lt_of_le g0 a8.o.size) (by rw[b2.len.2];exact Nat.le_trans (eH.argsLen (kI HQ.o) (by rw[dJ HQ.o];exact HQ.o.few)) aE));clear b4 b2 e5;go_wp2_with fail;refine hK.o _ _ (by exact b5.o) fun hZ => ?_;clear hK K;try simp only[p7]
   refine r1 8 fun K hK => ?_;go_simp;go_at_call 109
   refine (IW (nd:=⟨11,sa,sb⟩) HR.o i5.o (HW.o.below b5.o) g5.o.1 g5.o.2 i4.o (kI HQ.o)).mono ?_;rintro en w7 ⟨rfl,g2⟩;have g9:=bZ b5 g2;have i6:=aB (a3.o.trans (g9.o.mono a3.o.size));clear g2;go_wp2_with fail;refine hK.o _ _ (by exact g9.o) fun hZ => ?_;clear hK K;try simp only[p7]
   refine aL 9 hZ ?_;refine wpAnyH_done aC ?_ _;go_wp2_with fail;go_ret;rw[a0.o];exact⟨rfl,i6.o⟩
 by_cases o12:so=12
 · have g3:=a6.o.symm.trans o12;obtain⟨pb0,pb1⟩:=lE a9.o.head.okt g3;have d4:=fun (W:World) (hB:Below w1.heap.size w1 W)=>lP (HS.o.below hB).head a9.o.head.rt g3;obtain⟨ip,e0⟩ : ∃ip:Nat,dA s.1=(ip:Int):=⟨(dA s.1).toNat,by omega⟩;rw[e0] at d4;have g4:=aB d4;have a1:res=(decide (ip<m)&&((bU (s.2.getD ip (default,[],.nil))).1.1.op==10)):=by
    rw[a2.o];unfold bW;rw[<-a6.o,if_neg o5,if_neg aA,if_neg o1,if_neg o11,if_pos o12,e0,g6.o];rfl
   subst o12;clear d4 e0 pb0 pb1;by_cases hlt:ip<m;rotate_left
   · have d1:decide ((ip:Int)<(m:Int))=false:=decide_eq_false aA;have d2:decide (ip<m)=false:=decide_eq_false hlt;rw[d2,Bool.false_and] at a1;have a0:=aB a1;clear a1 hlt;go_wp2_with fail;refine (g4.o _ (Below.refl _ _)).mono ?_;rintro en w3 ⟨rfl,a5⟩;have a8:=aB a5;have e8:=fun i=>(a5.cell (p:=⟨w.heap.size,i,X⟩) c8).trans (c5 i);clear a5;go_wp2_with fail;go_ret;rw[a0.o];exact⟨rfl,a3.o.trans (a8.o.mono a3.o.size)⟩
   have d1:decide ((ip:Int)<(m:Int))=true:=decide_eq_true aA;have d2:decide (ip<m)=true:=decide_eq_true hlt;have d3:(ip:Int)<(m:Int):=aA;rw[d2,Bool.true_and] at a1;obtain⟨f8,bb,oo,A4,n4,c4,rfl,i1,e5,b3⟩:=HS.o.arg hlt;have e3:=a9.o.args _ (gS f8 (default,[],.nil));obtain⟨xa,e9⟩ : ∃y,y=s.2.getD ip (default,[],.nil):=⟨_,rfl⟩;rw[<-e9] at a1 b3 e3;have e7:=aB (fun (W:World) (hB:Below w1.heap.size w1 W)=>(bJ.keep b3 (R':=(· < W.heap.size)) (w':=W) fun q hq=>⟨Nat.lt_of_lt_of_le hq.1 hB.size,fun o=>hB.cell (p:=⟨q,o,X⟩) hq.1⟩));have a0:=aB a1;have c0:=aB e3;clear a1 hlt f8 b3 e3 e9;go_wp2_with fail;refine (g4.o _ (Below.refl _ _)).mono ?_;rintro en w3 ⟨rfl,a5⟩;have a8:=aB a5;have e8:=fun i=>(a5.cell (p:=⟨w.heap.size,i,X⟩) c8).trans (c5 i);have e4:=(a5.cell (p:=⟨bb,oo+ip,X⟩) i1).trans e5;clear a5;go_wp2_with fail;refine (fP (e7.o _ a8.o) c0.o).mono ?_;rintro en w5 ⟨b4,A6,n6,c6,B6,m6,d6,rfl,b2⟩;have b5:=bZ a8 b4;have g1:=b2.read (g:=g) (Nat.lt_of_lt_of_le g0 a8.o.size) (by rw[b2.len.2];exact Nat.le_trans (eH.argsLen (kI c0.o) (by rw[dJ c0.o];exact c0.o.few)) aE);obtain⟨b8,o8',rfl,i7,_,p0,_,_⟩:=g1.node;obtain⟨ho,e2⟩ : ∃z,z=(bU xa).1.1.op:=⟨_,rfl⟩;rw[<-e2] at p0;have i3:Hid (res=(ho==10)):=aB (by rw[a0.o,e2]);have h9:=ND (some ⟨b8,o8',X⟩) B6 n6 c6 m6 d6;clear b4 b2 g1 e8 e4 e2;go_wp2_with fail;go_ret;rw[i3.o];exact⟨rfl,a3.o.trans (b5.o.mono a3.o.size)⟩
 have a0:Hid (res=false):=aB (by rw[a2.o];unfold bW;rw[<-a6.o,if_neg o5,if_neg aA,if_neg o1,if_neg o11,if_neg o12]);have d5:(so==5)=false:=by simpa using o5
 have d7:(so==7)=false:=by simpa using o7
 have d8:(so==8)=false:=by simpa using o8
 have d1:(so==1)=false:=by simpa using o1
 have d11:(so==11)=false:=by simpa using o11
 have d12:(so==12)=false:=by simpa using o12
 clear o5 o7 o8 o1 o11 o12;go_wp2_with fail;go_ret;rw[a0.o];exact⟨rfl,a3.o⟩
end
section
open Go.Lib renaming hid->aB
set_option maxHeartbeats 4000000
set_option maxRecDepth 100000
def RU (g:Nat) (r:Option TT) (w:World) (e:Ending) (w':World):Prop:=Below w.heap.size w w'/\match r with
 | none=>e=.returned (.tuple #[O X 0 0,.bool false])
 | some p=>∃A n c,e=.returned (.tuple #[O A n c,.bool true])/\bJ (fun q=>q<w'.heap.size/\q ≠ g) w' A n c (aW p)
theorem wI {g:Nat} {b:Bk} {free:Int} {w:World} {s:Fc} {A B:Option Addr} {n c m d:Nat} (hg:g<w.heap.size) (hs:jU g w s A n c B m d) (fs:eH b free s) :
 Calls Tryz.prog 72 #[.agg #[O A n c,O B m d]] w (RU g (cS s) w):=by
 obtain⟨bs,os,rfl,e2,c5,h0,h1,h2⟩:=hs.node;obtain⟨so,b3⟩ : ∃z,z=s.1.1.op:=⟨_,rfl⟩;rw[<-b3] at h0;have c1:s.2.length=m:=by have:=hs.2.1.len;simpa using this
 obtain⟨w1,a1⟩ : ∃w1:World,w1=w.alloc (.cells #[O (some ⟨bs,os,X⟩) n c,O B m d] 78):=⟨_,rfl⟩;have b0:Below w.heap.size w w1:=by rw[a1];exact aP _ _
 have zs:aS w1 w.heap.size 78 #[O (some ⟨bs,os,X⟩) n c,O B m d]:=by rw[a1];exact aS.new _ _ _
 have k0:=(b0.cell (p:=⟨bs,os,X⟩) c5).trans h0;have HS:=aB (hs.below b0);have a6:=aB b0;have b2:=aB fs;have e1:=aB c1;have b1:=aB b3;have e3:g<w1.heap.size:=Nat.lt_of_lt_of_le hg b0.size;have b8:w.heap.size<w1.heap.size:=zs.lt;have b7:=zs.cell;obtain⟨res,a2⟩ : ∃r,r=cS s:=⟨_,rfl⟩;rw[<-a2];have a4:=aB a2;clear hs fs b3 c1 b0 zs h0 h1 h2 a2 hg c5;go_in;go_upto_region 1 with fail
 rw[<-a1];clear a1;by_cases o11:so=11
 · have e0:=b1.o.symm.trans o11;obtain⟨p,q,br,hk,_⟩:=eK b2.o.head.okt e0;have a5:Hid (res=some (eQ s.1 1)):=aB (by rw[a4.o];unfold cS;rw[<-b1.o,if_pos o11]);have a3:=fun (W:World) (hB:Below w1.heap.size w1 W)=>kZ (HS.o.below hB).head b2.o.head.rt.shape;rw[qF b2.o.head] at a3;have HK:=aB a3;have c8:Hid (1<(cI s.1.2.2).length):=aB (by rw[hk];simp);subst o11;clear a3 hk;go_wp2_with fail;refine (HK.o _ (Below.refl _ _)).mono ?_;rintro en w3 ⟨a0,A3,n3,c3,xs3,rfl,c0,b9⟩;have a8:=aB a0;obtain⟨d5,gk,A4,n4,c4,rfl,e4,d7,c2,a9⟩:=pU c0 b9 c8.o;have d4:1<n3:=by have:=c8.o;omega
   have d0:(1:Int)<(n3:Int):=aA;have b6:Hid (bJ (fun q=>q<w3.heap.size/\q ≠ g) w3 A4 n4 c4 (aW (eQ s.1 1))):=aB (bJ.keep a9 (R':=fun q=>q<w3.heap.size/\q ≠ g) (w':=w3) fun q hq=>⟨⟨hq.2.1,by have:=hq.1;omega⟩,fun _=>rfl⟩);clear a0 c0 b9 d5 a9;go_wp2_with fail;go_ret2;rw[a5.o];exact⟨a6.o.trans (a8.o.mono a6.o.size),A4,n4,c4,rfl,b6.o⟩
 by_cases o12:so=12
 · have c6:=b1.o.symm.trans o12;obtain⟨pb0,pb1⟩:=lE b2.o.head.okt c6;have b4:=fun (W:World) (hB:Below w1.heap.size w1 W)=>lP (HS.o.below hB).head b2.o.head.rt c6;obtain⟨ip,b5⟩ : ∃ip:Nat,dA s.1=(ip:Int):=⟨(dA s.1).toNat,by omega⟩;rw[b5] at b4;have c7:=aB b4;have a7:res=if ip<m then some (s.2.getD ip (default,[],.nil)) else X:=by
    rw[a4.o];unfold cS;rw[<-b1.o,if_neg o11,if_pos o12,b5,e1.o];rfl
   subst o12;clear b4 b5 pb0 pb1;by_cases hlt:ip<m
   · have d1:decide ((ip:Int)<(m:Int))=true:=decide_eq_true aA;have d2:decide (ip<m)=true:=decide_eq_true hlt;have d3:(ip:Int)<(m:Int):=aA;rw[if_pos hlt] at a7;obtain⟨d6,bb,oo,A4,n4,c4,rfl,d9,c2,a9⟩:=HS.o.arg hlt;have b6:=aB (fun (W:World) (hB:Below w1.heap.size w1 W)=>(bJ.keep a9 (R':=fun q=>q<W.heap.size/\q ≠ g) (w':=W) fun q hq=>⟨⟨Nat.lt_of_lt_of_le hq.1 hB.size,hq.2⟩,fun o=>hB.cell (p:=⟨q,o,X⟩) hq.1⟩));have a5:=aB a7;clear a7 hlt d6 a9;go_wp2_with fail;refine (c7.o _ (Below.refl _ _)).mono ?_;rintro en w3 ⟨rfl,a0⟩;have a8:=aB a0;have c9:=fun i=>(a0.cell (p:=⟨w.heap.size,i,X⟩) b8).trans (b7 i);have d8:=(a0.cell (p:=⟨bb,oo+ip,X⟩) d9).trans c2;clear a0;go_wp2_with fail;go_ret2;rw[a5.o];exact⟨a6.o.trans (a8.o.mono a6.o.size),A4,n4,c4,rfl,b6.o _ a8.o⟩
   have d1:decide ((ip:Int)<(m:Int))=false:=decide_eq_false aA;have d2:decide (ip<m)=false:=decide_eq_false hlt;rw[if_neg hlt] at a7;have a5:=aB a7;clear a7 hlt;go_wp2_with fail;refine (c7.o _ (Below.refl _ _)).mono ?_;rintro en w3 ⟨rfl,a0⟩;have a8:=aB a0;have c9:=fun i=>(a0.cell (p:=⟨w.heap.size,i,X⟩) b8).trans (b7 i);clear a0;go_wp2_with fail;go_ret2;rw[a5.o];exact⟨a6.o.trans (a8.o.mono a6.o.size),rfl⟩
 have a5:Hid (res=X):=aB (by rw[a4.o];unfold cS;rw[<-b1.o,if_neg o11,if_neg o12]);have d11:(so==11)=false:=by simpa using o11
 have d12:(so==12)=false:=by simpa using o12
 clear o11 o12;go_wp2_with fail;go_ret2;rw[a5.o];exact⟨a6.o,rfl⟩
theorem uK {w:World} {g:Nat} {c0 c1:Value} {tmps:Array Value} (h:aS w g 78 #[c0,c1]) (ht:tmps.getD 4 undef=.pointer (some ⟨g,0,X⟩)) :
 (results Tryz.f71 tmps).run Tryz.prog w=.ok (.agg #[c0,c1]) w:=by
 have hc:=h.cell;have a0:tmps[4]?.getD undef=.pointer (some ⟨g,0,X⟩):=by rw[<-ht];simp
 simp[results,Tryz.results71,go_sem,a0,hc]
def GB (f:Fc) (room:Int) (A:Option Addr) (n c:Nat) (B:Option Addr) (m d:Nat) (w:World) (e:Ending) (w':World):Prop:=Below w.heap.size w w'/\((¬ room<(dK f:Int)/\e=.returned (.agg #[O A n c,O B m d]))\/(room<(dK f:Int)/\e=.panicked (oG 9)))
theorem rV {g:Nat} {w:World} {s:Fc} {A B:Option Addr} {n c m d:Nat} (hs:jU g w s A n c B m d) (hsz:dK s<=100000) (room:Int) :
 Calls Tryz.prog 71 #[.agg #[O A n c,O B m d],.int .i64 room] w (GB s room A n c B m d w):=by
 have a1:=a7 w (.cells #[O A n c,O B m d] 78) (.cells #[O X 0 0,O X 0 0] 78);have a9:=aB a1;have a3:=aB ((aS.new w 78 #[O A n c,O B m d]).alloc (.cells #[O X 0 0,O X 0 0] 78));have a5:Hid (aS ((w.alloc (.cells #[O A n c,O B m d] 78)).alloc (.cells #[O X 0 0,O X 0 0] 78)) (w.heap.size+1) 78 #[O X 0 0,O X 0 0]):=aB (aS.new' aD);have a4:=aB (qV (hs.below a1) hsz);obtain⟨z,hz⟩ : ∃z,z=dK s:=⟨_,rfl⟩;rw[<-hz] at a4;unfold GB;rw[<-hz];have z1:=a3.o.cell;clear a1 hs hz hsz;go_in;go_wp2_with fail;refine (a4.o).mono ?_;rintro en w2 ⟨rfl,a0⟩;have a6:=bZ a9 a0;have a8:=aB (a3.o.below a0 a3.o.lt);have a2:=aB (a5.o.below a0 a5.o.lt);have z3:=a8.o.cell;have z4:=a2.o.cell;have f4:=a2.o.frozen;clear a0 z1;by_cases hbig:room<(z:Int)
 · have d1:decide ((z:Int)>room)=true:=decide_eq_true hbig;have HG:=aB hbig;clear hbig;go_wp2_with fail;exact⟨rfl,a6.o,.inr ⟨HG.o,rfl⟩⟩
 have d1:decide ((z:Int)>room)=false:=decide_eq_false hbig;have HG:=aB hbig;clear hbig;go_wp2_with fail;refine bodyPost_ret (v:=.agg #[O A n c,O B m d]) (uK (g:=w.heap.size+1) (by have:=(a2.o.set_ 0 (O A n c)).set_ 1 (O B m d);simpa using this) aD) rfl ⟨?_,.inl ⟨HG.o,rfl⟩⟩;exact (a6.o.setCell (p:=⟨w.heap.size+1,0,X⟩) (Nat.le_succ _) _).setCell (p:=⟨w.heap.size+1,1,X⟩) (Nat.le_succ _) _
end
end Go.Proofs.YtjoddliplahgkaaGreat
