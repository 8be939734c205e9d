/- Merged: WhU, WhV, WhT, SenseE. -/
import Derived.Test.YtjoddliplahgkaaGreatTWhC
namespace Go.Proofs.YtjoddliplahgkaaGreat
set_option linter.unusedVariables false
set_option linter.unusedSimpArgs false
open Go.RowKit
open Go.Value renaming slice → O
open Option renaming none → X, some → Y
variable {c n:Nat}{A:ZZ}{x:TT}{w:aAB}
section
open Go.Lib renaming hid->aB
set_option maxHeartbeats 4000000
set_option maxRecDepth 100000
def WR(r:Option TT)(w:aAB)(e:Ending)(w':aAB):Prop:=ZY w w'/\((∃y,r=Y y/\∃A n c,e=.returned (O A n c)/\bF (RW w w') w' A n c (aW y))\/(r=X/\e=.panicked (nJ 9)))
theorem qF{u:TT}(h:(cI x u).2≠0):(cI x u).2=9:=by
 unfold cI at h ⊢;split
 . rfl
 rename_i D
 rw[XN D]at h;exact absurd rfl h
theorem PR{r:List Nd×Int}{G w':aAB}{m:Nat}{l:List Nd}(F:ZY w G)(U:aZ (fun _=>False) (Value.slice X ([]:List Nd).length 0).ownBlock G w')(Z:r=(l,0))(D:bK w' w.heap.size (O A m c) ([]++l)):lP r w (.returned (.tuple #[O A m c,.int .i64 0])) w':=by
 subst Z;exact⟨F.trans (U.to_below F.size (fun _ h=>h.elim) (fun g I=>by simp[Value.ownBlock]at I)),_,_,_,rfl,D⟩
theorem z9{nn:Nat}{l:List Nd}(h:aX w A nn c l)(up fr:Int)(b0:up<=9223372036854775807):
 Calls Tryz.prog 114 #[O A nn c,.int .i64 up,.int .i64 fr] w (lP (iE l up fr) w):=by
 by_cases hs:a6 l=0;rotate_left
 . have hr:iE l up fr=([],a6 l):=by unfold iE;rw[XN hs]
   have b3:(a6 l != 0)=true:=by simp[hs]
   have HR:=aB hr;clear hr hs;go_in;go_wp2_with (go_at_call 97;refine (cR h).mono ?_;rintro e w2 ⟨rfl,D⟩)
   go_ret2;exact dJ D HR.o
 obtain⟨hl,n,a7,k,a1,U,b5⟩:=eN hs;have b3:(a6 l != 0)=false:=by simp[hs]
 by_cases h1:up<0
 . have hr:iE l up fr=([],1):=by unfold iE;rw[XP hs,XP (.inl h1)]
   have HR:=aB hr;clear hr hs a1 U;go_in;go_wp2_with (go_at_call 97;refine (cR h).mono ?_;rintro e w2 ⟨rfl,D⟩)
   go_ret2;exact dJ D HR.o
 by_cases h2:fr<0
 . have hr:iE l up fr=([],1):=by unfold iE;rw[XP hs,XP (.inr h2)]
   have b1:decide (up<0)=false:=by simp;omega
   have HR:=aB hr;clear hr hs a1 U h1;go_in;go_wp2_with (go_at_call 97;refine (cR h).mono ?_;rintro e w2 ⟨rfl,D⟩)
   go_ret2;exact dJ D HR.o
 have b1:decide (up<0)=false:=by simp;omega
 have b4:decide (fr<0)=false:=by simp;omega
 have a4:0<=up:=aA;have a8:0<=fr:=aA;have hr:iE l up fr=tV l up fr:=by unfold iE;rw[XP hs,XN aA]
 have a9:tV l up fr=if (jT up (min fr 1048577)).G1 0 () n k=true then ((jT up (min fr 1048577)).E1 0 () n a7 k,0) else ([],6):=by unfold tV;rw[a1]
 have a3:∀f,((jT up f).E1 0 () n a7 k).length<=1000000000000:=fun f=>by rw[wT,<-U];omega
 obtain⟨HR,a5,a2,H⟩:=aAE (hr.trans a9) a1 a3 h;clear hr hs a1 U a9 h1 h2 a3;by_cases hm:fr<=1048577
 . have a0:min fr 1048577=fr:=aA;have I:=HR.o;rw[a0]at I;have s:=aB I;clear I a0;go_in;go_wp2_with (go_at_call 97;refine (cR H.o).mono ?_;rintro e w2 ⟨rfl,D⟩)
   refine (kW (base:=w.heap.size) (R:=(· < w.heap.size)) D.size (fun b hb=>XT hb D.size) (H.o.keep fun b hb=>⟨hb,fun o=>aP (D.block b hb) o⟩) (bK.nil _ _) (fun g G=>by simp[Value.ownBlock]at G) a5.o aA (by simpa using a2.o fr) a4 b0 a8 aA).mono ?_;rintro e w3 ⟨z,(⟨G,v',rfl,F,b2⟩|⟨G,rfl⟩)⟩
   . obtain⟨A',c',rfl⟩:=F.slice;obtain⟨Z,HG⟩:=aAC F G;clear F G;go_wp2_with fail;go_ret2;exact PR D z (by rw[s.o,XP HG.o]) Z.o
   have HG:=aB G;clear G;go_wp2_with fail;go_ret2;exact dJ (D.trans (z.to_below D.size (fun _ h=>h.elim) (fun g G=>by simp[Value.ownBlock]at G))) (by rw[s.o,XN (by rw[HG.o];simp)])
 have a0:min fr 1048577=1048577:=aA;have b6:1048577<fr:=aA;have I:=HR.o;rw[a0]at I;have s:=aB I;clear I a0 hm;go_in;go_wp2_with (go_at_call 97;refine (cR H.o).mono ?_;rintro e w2 ⟨rfl,D⟩)
 refine (kW (base:=w.heap.size) (R:=(· < w.heap.size)) D.size (fun b hb=>XT hb D.size) (H.o.keep fun b hb=>⟨hb,fun o=>aP (D.block b hb) o⟩) (bK.nil _ _) (fun g G=>by simp[Value.ownBlock]at G) a5.o aA (by simpa using a2.o 1048577) a4 b0 aA aA).mono ?_;rintro e w3 ⟨z,(⟨G,v',rfl,F,b2⟩|⟨G,rfl⟩)⟩
 . obtain⟨A',c',rfl⟩:=F.slice;obtain⟨Z,HG⟩:=aAC F G;clear F G;go_wp2_with fail;go_ret2;exact PR D z (by rw[s.o,XP HG.o]) Z.o
 have HG:=aB G;clear G;go_wp2_with fail;go_ret2;exact dJ (D.trans (z.to_below D.size (fun _ h=>h.elim) (fun g G=>by simp[Value.ownBlock]at G))) (by rw[s.o,XN (by rw[HG.o];simp)])
theorem yP{b:Bk}{free:Int}{h:TT}(h0:0<=free)(Z:free<=990000)(ht:aX w A n c (aW h))(hf:bO b free h)(d1:h.1.op=12):
 Calls Tryz.prog 116 #[O A n c] w (WR (rW h) w):=by
 obtain⟨f1,f2,f3,f4,f5⟩:=fN hf.okt d1;obtain⟨nb,a2⟩:∃nb:Nat,h.1.b=(nb:Int):=⟨h.1.b.toNat,by omega⟩;obtain⟨ia,d7⟩:∃ia:Nat,h.1.a=(ia:Int):=⟨h.1.a.toNat,by omega⟩;have hk:=hf.kid (jR (x:=h) (i:=2*ia+1) aA);rw[pX d1,a2]at hk;obtain⟨y0,a7⟩:=aAJ (eM h (2*ia+1));rw[<-a7]at hk;obtain⟨b5,a5⟩:=aAJ (rW h);have a6:b5=tG h nb y0:=by rw[a5,a7];unfold rW;rw[a2,d7,YG,YG]
 rw[<-a5];have e0:=aB (fun (i:Nat) (hi:(i:Int)<h.1.b)=>sJ hf d1 hi);rw[a2]at e0;have g2:0<n:=by rw[<-ht.len];exact iH _
 have k3:n<=4096:=by rw[<-ht.len];exact hf.few
 have a1:=fun (W:aAB) (hB:ZY w W)=>kE (ht.below hB) hf.rt.shape;rw[lL hf]at a1;have HK:=aB a1;have d0:Hid (2*ia+1<(bH h.2.2).length):=aB aA;have g9:=aB (fun (w':aAB) (hb:ZY w w')=>G2 (ht.below hb) g2);obtain⟨bf,off,rfl,i6,_,b0,d3⟩:=ht.at_ g2;simp only[YU,YF]at b0 d3;rw[show bC (aW h) 0=h.1 from rfl]at b0 d3;rw[d7]at b0;rw[a2]at d3;have k2:ia<nb:=aA;have j8:nb<=4:=aA;obtain⟨j,hj⟩:∃j:Nat,j=2*ia+1:=⟨_,rfl⟩;have k5:IntKind.i64.wrap (2*(ia:Int))=2*(ia:Int):=by rw[XV];omega
 have k6:IntKind.i64.wrap (2*(ia:Int)+1)=(j:Int):=by rw[XV];omega
 rw[<-hj]at d0 a7;obtain⟨i4,h3,a8,e6⟩:=aAE a7 hk ht.len a6;clear ht f1 f2 f3 f4 f5 hk a5 a6 d7 a2 a1 a7 hj;go_in;go_upto_region 2 with fail
 refine wp_region_held_drew (S:=(fun w'=>ZY w w')) aC ?_ (fun s=>?_)
 . (try dsimp only);exact aU (XS _ _) 1
 have d9:Hid (ZY w w.drew):=aB (aU (XS _ _) 1);generalize w.drew=W1 at *;refine aL 0 s ?_;refine aL 2 s ?_;refine aL 3 s ?_;refine aL 4 s ?_;refine tk 5 ?_ (fun wq hSw=>?_) s ?_;rotate_left
 . have f0:=(hSw.cell (p:=⟨bf,off+1,X⟩) i6).trans b0;go_simp;try with_reducible rfl
 try simp only[p7]
 refine aL 6 s ?_;refine aL 7 s ?_;refine r1 1 fun K hK=>?_;go_simp;go_at_call 104
 refine (HK.o _ d9.o).mono ?_;rintro en w3 ⟨f6,A3,n3,c3,k7,rfl,g4,g5⟩;have c2:=bY d9 f6;obtain⟨j0,gk,A4,n4,c4,rfl,k0,j5,j9,g7⟩:=kA g4 g5 d0.o;have j6:j<n3:=by have:=d0.o;omega
 have j7:(j:Int)<(n3:Int):=aA;have i1:Hid (aX w3 A4 n4 c4 (aW y0)):=aB (by rw[i4.o];exact bF.keep g7 (R':=(· < w3.heap.size)) (w':=w3) fun q G=>⟨G.2.1,fun _=>rfl⟩);clear f6 g4 g5 j0 g7;go_wp2_with fail;refine hK.o _ _ (by exact c2.o) fun s=>?_;clear hK K;try simp only[p7]
 refine aL 8 s ?_;refine r1 9 fun K hK=>?_;go_simp;refine hK.o _ _ (by exact c2.o) fun s=>?_;clear hK K;try simp only[p7]
 refine aL 10 s ?_;refine wpAnyH_done aC ?_ _;go_wp2_with fail;obtain⟨nm,k4⟩:=aAJ (nb-1);go_loopw [4,5] (fun bv iv wr=>∃(r:Nat)(x:TT)(A':ZZ)(n' c':Nat),bv=O A' n' c'/\iv=.int .i64 ((r:Int)-1)/\r<=nb/\Hid (bO b (free+(r:Int)) x)/\Hid (b5=tG h r x)/\Hid (aX wr A' n' c' (aW x))/\Hid (r=nb\/bF (RW w wr) wr A' n' c' (aW x))/\Hid (ZY w wr)) (fun _ iv _=>(intOf iv+1).toNat)
 case atStart=>exact⟨nb,y0,A4,n4,c4,rfl,rfl,by omega,h3,e6,i1,aB (.inl rfl),c2⟩
 case round =>
  obtain⟨r,x,A',n',c',rfl,rfl,hr,i9,b3,j1,b8,a9⟩:=hrel;have i8:=a9.o.size;cases r with
  | zero =>
   rw[show ((0:Nat):Int)-1 = -1 from by omega];have c1:b5=Y x:=b3.o;have HU:=aB c1;have h7:Hid (bF (RW w wr) wr A' n' c' (aW x)):=aB (b8.o.elim (fun e=>by omega) id);clear c1 hr b8 b3;go_wp2_with fail;go_ret;exact⟨a9.o,.inl ⟨x,HU.o,A',n',c',rfl,h7.o⟩⟩
  | succ i =>
   rw[show ((i+1:Nat):Int)-1=(i:Int) from by omega];have k1:(0:Int)<=(i:Int):=aA;have f7:=e0.o i aA;have b4:=tH f7 (up:=(i:Int)) aA aA;have hS:=lB (b:=b) (free:=free+i) (x:=x) (u:=jD (eL h i) (i:Int)) aA aA (by have e:free+((i+1:Nat):Int)=free+i+1:=aA;rw[<-e];exact i9.o) b4.1;have HS:=aB hS;have D:b5=if (cI x (jD (eL h i) (i:Int))).2=0 then tG h i (cI x (jD (eL h i) (i:Int))).1 else X:=b3.o;have e7:=aB D;have g1:=b4.2;have h5:=aB g1;have c8:Hid ((cI x (jD (eL h i) (i:Int))).2≠0->(cI x (jD (eL h i) (i:Int))).2=9):=aB qF;have g6:aW (eL h i)=⟨h.1.op,(i:Int),h.1.b⟩::(h.2.1++row h.2.2):=rfl;have i0:=aB g6;have i3:Hid ((aW (jD (eL h i) (i:Int))).length<=4096):=aB b4.1.few;have h2:=aB (g9.o wr a9.o);generalize cI x (jD (eL h i) (i:Int))=sx at *;generalize aW (jD (eL h i) (i:Int))=ru at *;generalize aW (eL h i)=rf at *;clear f7 hS D g1 g6 b3 b4;go_wp2_with fail;refine (h2.o).mono ?_;rintro e w5 ⟨d4,gc,cc,rfl,b2⟩;have a4:=S7 (n0:=h.1) (r:=h.2.1++row h.2.2) b2 (by have:=a8.o;show (aW h).length<=_;omega) (i:Int);rw[show (h.1::(h.2.1++row h.2.2)).length=n from a8.o,<-i0.o]at a4;have i7:=aS b2 (g:=gc) rfl;obtain⟨j3,j4,i5,b7⟩:=i7;have b6:aT w5 gc 46 i5:=b7;have z:=l9 b2 (mT (aW h) 0 (by have:=a8.o;omega)).2.1;have b1:w5.cell? ⟨gc,1,X⟩=Y (.int .i64 (bC (aW h) 0).a):=z;have f8:w5.frozen? ⟨gc,1,X⟩=false:=b6.frozen 1;have d6:=eJ w5 gc 1 (.int .i64 (i:Int));have d2:ZY wr (w5.setCell ⟨gc,1,X⟩ (.int .i64 (i:Int))):=d4.grown d6 (by have:=d4.size;omega) (fun q e=>by injection e with e;omega);have g8:=aB (a9.o.trans (d2.mono i8));have e8:=aB (j1.o.below d2);have b9:aX (w5.setCell ⟨gc,1,X⟩ (.int .i64 (i:Int))) (Y ⟨gc,0,X⟩) n cc rf:=a4.keep fun q G=>⟨by have:=d6.size;omega,fun _=>rfl⟩;have e5:=aB (z9 b9 (i:Int) 0 aA);rw[h5.o]at e5;have g3:(aW h).length=n:=a8.o;rw[g3];clear a4 b7 b6 z d4 b2 d6 d2 b9 g3;go_wp2_with fail;refine (e5.o).mono ?_;rintro e w7 ⟨d5,A7,n7,c7,rfl,d8⟩;have c5:=bY g8 d5;have e9:=aB (e8.o.below d5);have h8:=aB d8;have f9:ru.length=n7:=by
    have Z:=d8.slice;obtain⟨_,_,e⟩:=Z;injection e with _ e2;exact e2.symm
   have h4:=aB f9;clear d5 d8 f8 b1 f9;go_wp2_with fail;refine jQ.mono ?_;rintro e w8 ⟨rfl,rfl⟩;have c0:aX w8 A7 n7 c7 ru:=by
    have Z:=h8.o;rw[<-h4.o]at Z ⊢;obtain⟨Aq,nq,cq,e,G⟩:=bK.termS Z (by have:=i3.o;show ru.length<=_;omega);injection e with e1 e2 e3;subst e1 e2 e3;exact G.keep fun q G=>⟨(aS Z G).2.1,fun _=>rfl⟩
   have I:=aB (BA e9.o c0 0 (fun _ _ _=>HS.o.1));rw[HS.o.2.1]at I;clear c0;by_cases h0:sx.2=0
   . rw[XP h0,h0]at I;have D:=e7.o;rw[XP h0]at D;obtain⟨U,e4⟩:=aAC D (HS.o.2.2 h0);clear D h0;go_wp2_with fail;refine (I.o).mono ?_;rintro e w9 ⟨a0,A9,n9,c9,rfl,a3⟩;have c6:=bY c5 a0;have g0:(aW sx.1).length=n9:=by
      obtain⟨_,_,e⟩:=a3.slice;injection e with _ e2;exact e2.symm
     have F:bF (RW w w9) w9 A9 n9 c9 (aW sx.1):=by
      have Z:=a3;rw[<-g0]at Z ⊢;obtain⟨Aq,nq,cq,e,G⟩:=bK.termS Z (by have:=e4.o.few;have h9:(aW sx.1).length=bL sx.1:=rfl;show (aW sx.1).length<=_;omega);injection e with e1 e2 e3;subst e1 e2 e3;exact G.keep fun q G=>⟨⟨by have:=(aS Z G).1;have:=c5.o.size;omega,(aS Z G).2.1⟩,fun _=>rfl⟩
     have h6:=aB F;have i2:Hid (aX w9 A9 n9 c9 (aW sx.1)):=aB (F.keep fun q G=>⟨G.2,fun _=>rfl⟩);clear a0 a3 g0 F;go_wp2_with fail;refine jQ.mono ?_;rintro e j2 ⟨rfl,rfl⟩;go_wp2_with fail;go_roundw
     case rel=>exact⟨i,sx.1,A9,n9,c9,rfl,rfl,by omega,e4,U,i2,aB (.inr h6.o),c6⟩
     case measure=>simp[intOf]
   . rw[XN h0]at I;have D:=e7.o;rw[XN h0]at D;obtain⟨U,HZ⟩:=aAC D h0;clear D h0;go_wp2_with fail;refine (I.o).mono ?_;rintro e w9 ⟨a0,A9,n9,c9,rfl,a3⟩;have c6:=bY c5 a0;clear a0 a3;go_wp2_with fail;refine (nM HZ.o).mono ?_;rintro e j2 ⟨rfl,rfl⟩;go_wp2_with fail;rw[c8.o HZ.o];exact⟨rfl,c6.o,.inr ⟨U.o,rfl⟩⟩
end
section
open Go.Lib renaming hid->aB
def OI(D:Nat)(r:Option Fc)(w:aAB)(e:Ending)(w':aAB):Prop:=ZY w w'/\((∃f,r=Y f/\∃A n c B m d,e=.returned (.agg #[O A n c,O B m d])/\fL D w' f A n c B m d)\/(r=X/\e=.panicked (nJ 9)))
theorem C8{g:Nat}{c0 c1:Value}{D:Array Value}(h:aT w g 78 #[c0,c1])(ht:D.getD 4 undef=.pointer (Y ⟨g,0,X⟩)):
 (results Tryz.f112 D).run Tryz.prog w=.ok (.agg #[c0,c1]) w:=by
 have G:=h.cell;have F:D[4]?.getD undef=.pointer (Y ⟨g,0,X⟩):=by rw[<-ht];simp
 simp[results,Tryz.results112,go_sem,F,G]
set_option maxRecDepth 100000 in
set_option maxHeartbeats 4000000 in
theorem sD{b:Bk}{free:Int}{L:List TT}{B:ZZ}{m d:Nat}(h:aX w A n c (aW x))(hx:bO b free x)(ha:fG (· < w.heap.size) w B m d (L.map aW))(hL:∀a∈L,bO b free a)(a8:B=X->d=0):
 Calls Tryz.prog 112 #[O A n c,O B m d] w (OI w.heap.size (gS x L) w):=by
 obtain⟨w1,D⟩:=aAJ (w.alloc (.cells #[O X 0 0,O X 0 0] 78));have U:ZY w w1:=by rw[D];exact aQ _ _
 have a5:Hid (aT w1 w.heap.size 78 #[O X 0 0,O X 0 0]):=aB (by rw[D];exact aT.new _ _ _);have a3:=aB U;have G:=LY (w:=w1) (h.below U) (ha.keep fun q hq=>⟨XT hq U.size,fun o=>U.cell (p:=⟨q,o,X⟩) hq⟩) a8;rw[vO hx hL]at G;have b2:w1.heap.size=w.heap.size+1:=by rw[D];simp
 by_cases F:4096<bL x+cB L
 . rw[XP F]at G;have s:=aB G;have HR:Hid (gS x L=X):=aB (by unfold gS;rw[XP F]);clear G U h ha hL hx F;go_in;go_upto_region 1 with fail
   rw[<-D];clear D;go_wp2_with fail;refine (s.o).mono ?_;rintro e w2 ⟨I,A2,n2,c2,rfl,Z⟩;have z:=bY a3 I;clear I Z;go_wp2_with fail;refine (nM aE).mono ?_;rintro e w3 ⟨rfl,rfl⟩;go_wp2_with fail;exact⟨rfl,z.o,.inr ⟨HR.o,rfl⟩⟩
 rw[XN F]at G;have s:=aB G;have HR:Hid (gS x L=Y ((bX x).1,(bX x).2++L)):=aB (by unfold gS;rw[XN F]);have a4:=aB (lW L x hx hL aA);have b1:Hid (bX (dP x L)=((bX x).1,(bX x).2++L)):=aB (qY L x);clear G U h ha hL hx F;go_in;go_upto_region 1 with fail
 rw[<-D];clear D;go_wp2_with fail;refine (s.o).mono ?_;rintro e w2 ⟨I,A2,n2,c2,rfl,Z⟩;have z:=bY a3 I;have a7:Hid (aX w2 A2 n2 c2 (aW (dP x L))):=aB (Z.keep (R':=(· < w2.heap.size)) fun q hq=>⟨hq.2,fun _=>rfl⟩);have a6:=aB (a5.o.below I a5.o.lt);have b3:=I.size;clear I Z;simp only at a7 ⊢;go_wp2_with fail;refine jQ.mono ?_;rintro e w3 ⟨rfl,rfl⟩;go_wp2_with fail;refine (fR a7.o a4.o).mono ?_;rintro e w4 ⟨a1,A4,n4,c4,B4,m4,d4,rfl,a2⟩;rw[b1.o]at a2;have a9:=bY z a1;have a0:=aB (a6.o.below a1 a6.o.lt);have b0:=aB a2;have z4:=a0.o.cell;have b4:=a0.o.frozen;clear a1 a2;go_wp2_with fail;refine XW (v:=.agg #[O A4 n4 c4,O B4 m4 d4]) (C8 (g:=w.heap.size) (by have:=(a0.o.set_ 0 (O A4 n4 c4)).set_ 1 (O B4 m4 d4);simpa using this) aD) rfl ⟨?_,.inl ⟨_,HR.o,A4,n4,c4,B4,m4,d4,rfl,?_⟩⟩
 . exact (a9.o.setCell (p:=⟨w.heap.size,0,X⟩) (XU _) _).setCell (p:=⟨w.heap.size,1,X⟩) (XU _) _
 exact (((b0.o.set (b:=w.heap.size) aA 0 _).set (b:=w.heap.size) aA 1 _)).base aA
end
section
open Go.Lib renaming hid->aB
set_option maxHeartbeats 4000000
set_option maxRecDepth 100000
theorem UO:Tryz.t29.bytes=24:=by kernel_rfl
def VM(w:aAB)(e:Ending)(w':aAB):Prop:=ZY w w'/\∃A c,e=.returned (O A 0 c)/\w'.ownsRow w.heap.size 29 1 (O A 0 c) 0 []
theorem MU(z:n<=1000000):
 Calls Tryz.prog 139 #[O X 0 0,.int .i64 (n:Int)] w (VM w):=by
 by_cases Z:0<n
 . have G:=UO;have h:(n:Int)*(Tryz.t29.bytes:Int)<=281474976710656:=by rw[G];omega
   have s:Builtin.nextslicecap n 0*Tryz.t29.bytes<=281474976710656:=by rw[G];exact growslice_fits aA aA
   have F:=grownCap_ge w n 0 29;have D:=grownCap_le_maxLen w n 0 29 aJ;have I:=aB (And.intro F D);clear G F D;go_in;go_wp2_with fail;go_ret;obtain⟨F,D⟩:=I.o;refine⟨aU (aQ w _) 1,Y ⟨w.heap.size,0,X⟩,grownCap w n 0 29,rfl,?_⟩;refine World.ownsRow_made w _ _ (XU _) D ?_;rw[Array.size_append,size_zeroCells,size_zeroCells];show n*1+(grownCap w n 0 29-n)*1=grownCap w n 0 29*1;omega
 have U:n=0:=aA;subst U;go_in;go_wp2_with fail;go_ret;exact⟨XS _ _,X,0,rfl,ZE _ _ _ _⟩
structure XG (w:aAB) (A:ZZ) (n:Nat) (vss:List (List Value)):Prop where
 len:vss.length=n
 few:n<=1000
 mem:0<n->∃b off,A=Y ⟨b,off,X⟩/\b<w.heap.size/\∀k,k<n->∃A' n' c',w.cell? ⟨b,off+k,X⟩=Y (O A' n' c')/\(vss.getD k []).length=n'/\(A'=X->n'=0/\c'=0)/\(∀u∈vss.getD k [],u.oneCell'=true)/\∀W,ZY w W->∀ad,A'=Y ad->∀j u,(vss.getD k [])[j]? = Y u->W.cell? (ad.add j)=Y u
def WM(D:List Value)(w:aAB)(e:Ending)(w':aAB):Prop:=ZY w w'/\∃A c,e=.returned (O A D.length c)/\w'.ownsRow w.heap.size 29 1 (O A D.length c) D.length D
theorem D9{ls:List (List Value)}(h:XG w A n ls)(hf:ls.flatten.length<=1000000):
 Calls Tryz.prog 115 #[O A n c] w (WM ls.flatten w):=by
 obtain⟨i0,hi,b0,b1,b2⟩:=info_parts v5;obtain⟨b5,c0,c1,c3⟩:=aAE hi b0 b1 b2;have c6:=h.few;have H:=aB h;clear hi b0 b1 b2 h;go_in;go_wp2_with fail;go_loop [3,11] (fun sv iv=>∃i:Nat,i<=n/\iv=.int .i64 (i:Int)/\sv=.int .i64 (((ls.take i).flatten.length:Nat):Int)) (fun _ i=>n-(intOf i).toNat)
 case atStart=>exact⟨0,by omega,rfl,by simp⟩
 case round =>
  obtain⟨i,hi,rfl,rfl⟩:=hrel;by_cases I:i<n
  . obtain⟨b,off,rfl,_,hm⟩:=H.o.mem aA;obtain⟨A',n',c',hc,ht,_,_,_⟩:=hm i I;have Z:(ls.take (i+1)).flatten.length=(ls.take i).flatten.length+n':=by
     rw[kD ls (by rw[H.o.len];exact I) [],XX,ht]
    have a2:=j9 ls (i+1);clear hm ht;have a5:=aB Z;obtain⟨sz,s⟩:=aAJ (ls.take i).flatten.length;rw[<-s]at Z;rw[<-s];have b9:=aB s;have c7:sz+n'<=1000000:=aA;clear Z a2 s;go_wp2_with fail;go_round
    case rel=>exact⟨i+1,by omega,by go_num,by rw[a5.o,<-b9.o];go_num⟩
    case measure=>simp[intOf];omega
  have c5:i=n:=aA;have HF:Hid ((ls.take i).flatten=ls.flatten):=aB (by rw[ZN (by rw[H.o.len];omega)]);rw[HF.o];obtain⟨N,hN⟩:=aAJ ls.flatten.length;rw[<-hN]at hf;rw[<-hN];have HN:=aB hN;have z:=aB (fun w=>MU (w:=w) hf);clear hN;go_wp2_with fail;refine (z.o _).mono ?_;rintro e w2 ⟨a6,g,c2,rfl,U⟩;have b3:=aB a6;have b7:=aB U;clear a6 U;go_wp2_with fail;go_loopw [6,27] (fun sv iv wr=>∃(i:Nat)(A1:ZZ)(k1:Nat),i<=n/\iv=.int .i64 (i:Int)/\sv=O A1 (ls.take i).flatten.length k1/\Hid (wr.ownsRow w.heap.size 29 1 (O A1 (ls.take i).flatten.length k1) (ls.take i).flatten.length (ls.take i).flatten)/\Hid (ZY w wr)) (fun _ i _=>n-(intOf i).toNat)
  case atStart=>exact⟨0,g,c2,by omega,rfl,rfl,by simpa using b7,b3⟩
  case round =>
   obtain⟨i,A1,k1,hi,rfl,rfl,F,G⟩:=hrel;by_cases I:i<n;rotate_left
   . have c5:i=n:=aA;have a3:Hid ((ls.take i).flatten=ls.flatten):=aB (by rw[ZN (by rw[H.o.len];omega)]);rw[a3.o]at F;rw[a3.o];go_wp2_with fail;go_ret;exact⟨G.o,A1,k1,rfl,F.o⟩
   obtain⟨b,off,rfl,hb,hm⟩:=H.o.mem aA;obtain⟨A',n',c',hc,ht,a9,h1,hx⟩:=hm i I;have c8:wr.cell? ⟨b,off+i,X⟩=Y (O A' n' c'):=(G.o.cell (p:=⟨b,off+i,X⟩) hb).trans hc;have HX:=aB (hx wr G.o);have b6:=aB a9;have H1:=aB h1;have a1:=kD ls (by rw[H.o.len];exact I) [];have a2:=j9 ls (i+1);rw[a1,XX,ht,<-HN.o]at a2;have a4:=aB a1;have a0:=aB ht;generalize (ls.take i).flatten=l at *;generalize ls.getD i []=nl at *;clear hm hc ht a1 hx a9 h1;have a7:=G.o.size;go_wp2_with (at_builtin;refine a8 rfl (bW (.tmp 31) (.tmp 32) 47 rfl w.heap.size 29 i0 _ 1 24 Tryz.underlying47 b5.o c0.o c1.o c3.o rfl aE (O A1 l.length k1) l.length l rfl F.o A' n' c' nl rfl (by rw[a0.o,Nat.mul_one]) b6.o HX.o H1.o aJ aA a7 ?_);intro A4 c4 w4 D)
   obtain⟨b8,b4⟩:=aAC D.own (G.o.grown D.grown a7 (fun g hg=>(aS F.o hg).1));clear D;go_roundw
   case rel=>exact⟨i+1,A4,c4,by omega,by go_num,by rw[a4.o,XX,a0.o],aB (by rw[a4.o,XX,a0.o];exact b8.o),b4⟩
   case measure=>simp[intOf];omega
theorem wN{base sz:Nat}{e:TypeId}{F:List Value}(h:w.ownsRow base e sz (O A n c) n F):n<=c:=by
 rcases h.2 with⟨hv,Z⟩|⟨g,cap,D,hv,s,z,o,_⟩
 . omega
 injection hv with G I U;omega
theorem bD.app{S:Nat->Prop}{w:aAB}:∀{F ys:List Value} {ls D:aAA},bD S w F ls->bD S w ys D->bD S w (F++ys) (ls++D)
 | [],_,[],_,_,h=>h
 | [],_,_::_,_,h,_=>h.elim
 | _::_,_,[],_,h,_=>h.elim
 | _::_,_,_::_,_,h,G=>⟨h.1,bD.app h.2 G⟩
theorem GA{S:Nat->Prop}{w:aAB}{b:Nat}:∀(ls:aAA)(off:Nat),(∀k,k<ls.length->∃D G F,w.cell? ⟨b,off+k,X⟩=Y (O D G F)/\bF S w D G F (ls.getD k []))->∃U,bD S w U ls/\∀j u,U[j]? = Y u->w.cell? ⟨b,off+j,X⟩=Y u
 | [],off,_=>⟨[],trivial,fun j u h=>by simp at h⟩
 | l::r,off,h=>by
  obtain⟨D,G,F,z,ht⟩:=h 0 aD;obtain⟨U,o,s⟩:=GA r (off+1) (fun k hk=>by
   have Z:=h (k+1) (by simp only[YA];omega);rw[show off+(k+1)=off+1+k from by omega]at Z;exact Z)
  refine⟨O D G F::U,⟨⟨D,G,F,rfl,ht⟩,o⟩,fun j u I=>?_⟩;cases j with
  | zero=>injection I with I;rw[<-I];exact z
  | succ j=>rw[show off+(j+1)=off+1+j from by omega];exact s j u I
theorem xM{ls:aAA}(h:fG (· < w.heap.size) w A n c ls)(D:A=X->c=0):∃F,F.length=n/\bD (· < w.heap.size) w F ls/\(A=X->n=0/\c=0)/\∀W,ZY w W->∀G,A=Y G->∀j u,F[j]? = Y u->W.cell? (G.add j)=Y u:=by
 have hl:=h.len;by_cases hn:0<n
 . obtain⟨b,off,rfl,hb,hm⟩:=h.mem hn;obtain⟨F,o,z⟩:=GA (S:=(· < w.heap.size)) (w:=w) (b:=b) ls off (fun k hk=>hm k aA);have h3:=o.len;refine⟨F,by omega,o,(fun e=>by cases e),fun W hW G e j u Z=>?_⟩;injection e with e;subst e;have s:(⟨b,off,X⟩:Addr).add j=⟨b,off+j,X⟩:=by unfold Addr.add;split<;>simp_all
   rw[s];exact (hW.cell (p:=⟨b,off+j,X⟩) hb).trans (z j u Z)
 have U:n=0:=aA;subst U;have I:=ZC hl;subst I;exact⟨[],rfl,trivial,fun e=>⟨rfl,D e⟩,fun W _ G _ j u Z=>by simp at Z⟩
def WL(L:aAA)(w:aAB)(e:Ending)(w':aAB):Prop:=ZY w w'/\∃A n c,e=.returned (O A n c)/\fG (· < w'.heap.size) w' A n c L/\(A=X->c=0)
theorem D8{g:Nat}{t:TypeId}{U Z:ZZ}{n1 c1 n2 c2:Nat}{s z:aAA}(hb:aT w g t #[O U n1 c1,O Z n2 c2])(h1:fG (· < w.heap.size) w U n1 c1 s)(h2:fG (· < w.heap.size) w Z n2 c2 z)(u1:U=X->c1=0)(u2:Z=X->c2=0)(hf:n1+n2<=1000000):
 Calls Tryz.prog 115 #[O (Y ⟨g,0,X⟩) 2 2] w (WL (s++z) w):=by
 obtain⟨D,a1,b1,d1,e1⟩:=xM h1 u1;obtain⟨F,a2,b2,d2,e2⟩:=xM h2 u2;have a0:XG w (Y ⟨g,0,X⟩) 2 [D,F]:=⟨rfl,by decide,fun _=>⟨g,0,rfl,hb.lt,fun k hk=>by
  have hc:=hb.cell (0+k);rcases (by omega:k=0\/k=1) with rfl|rfl
  . exact⟨U,n1,c1,hc,a1,d1,rR b1,e1⟩
  exact⟨Z,n2,c2,hc,a2,d2,rR b2,e2⟩⟩⟩
 have I:[D,F].flatten=D++F:=by simp
 have h:=D9 (c:=2) a0 (by rw[I,XX];omega);rw[I]at h;refine h.mono ?_;rintro e w' ⟨hB,A,c,rfl,ho⟩;have hr:bD (· < w'.heap.size) w' (D++F) (s++z):=bD.keep (fun q G=>⟨XT G hB.size,fun o=>hB.cell (p:=⟨q,o,X⟩) G⟩) (bD.app b1 b2);exact⟨hB,A,_,c,rfl,jL ho hr.len (by rw[XX];omega) hr (fun q G=>G) (fun q G=>(aS ho G).2.1),rG ho⟩
end
theorem J0{p q:TT}(o:LV x)(h:x.1.op=6\/x.1.op=5)(Z:bH x.2.2=[p,q]):∃e:Nat,nH (aW x) 1=(e:Int)/\1<=e/\e<=(aW x).length/\((aW x).take e).drop 1=aW p/\(aW x).drop e=aW q:=by
 have F:At (aW x) 1 (ds x.1) x.2.2:=At.first (n:=x.1) (a:=x.2.1) (k:=x.2.2) o aA;have U:ds x.1=[false,false]:=by unfold ds;rw[XN aA];rcases h with h|h<;>rw[h]<;>rfl
 rw[U]at F;obtain⟨G,n1,a1,k1,a0,e1,D⟩:=F.step;obtain⟨I,n2,a2,k2,a3,rfl,s2⟩:=D.next.step;obtain rfl:=ZC (show G.length=0 from D.plen);obtain rfl:=ZC (show I.length=0 from s2.plen);obtain rfl:=s2.next.done;rw[e1]at Z;simp only[bH,ZI,and_true]at Z;obtain⟨rfl,rfl⟩:=Z;have s:=D.end_;have z:=D.cut;have h3:=D.le;have h4:=D.next.rest;simp only[ZD,YF]at s z h3 h4;refine⟨_,s,by omega,h3,z,?_⟩;rw[h4];simp[row,aW]
theorem DH{p q r:TT}(a0:LV x)(h:x.1.op=7)(hk:bH x.2.2=[p,q,r]):∃D G:Nat,nH (aW x) 1=(D:Int)/\nH (aW x) (D:Int)=(G:Int)/\1<=D/\D<=G/\G<=(aW x).length/\((aW x).take G).drop D=aW q/\(aW x).drop G=aW r:=by
 have I:At (aW x) 1 (ds x.1) x.2.2:=At.first (n:=x.1) (a:=x.2.1) (k:=x.2.2) a0 aA;have z:ds x.1=[false,false,false]:=by unfold ds;rw[XN aA,h];rfl
 rw[z]at I;obtain⟨U,n1,a1,k1,a4,D,s⟩:=I.step;obtain⟨Z,n2,a2,k2,a5,rfl,F⟩:=s.next.step;obtain⟨o,n3,a3,k3,a6,rfl,s3⟩:=F.next.step;obtain rfl:=ZC (show U.length=0 from s.plen);obtain rfl:=ZC (show Z.length=0 from F.plen);obtain rfl:=ZC (show o.length=0 from s3.plen);obtain rfl:=s3.next.done;rw[D]at hk;simp only[bH,ZI,and_true]at hk;obtain⟨rfl,rfl,rfl⟩:=hk;have h1:=s.end_;have h3:=s.le;have i1:=F.end_;have i2:=F.cut;have i3:=F.le;have i4:=F.next.rest;simp only[ZD,YF]at h1 h3 i1 i2 i3 i4;refine⟨_,_,h1,i1,by omega,by omega,i3,i2,?_⟩;rw[i4];simp[row,aW]
end Go.Proofs.YtjoddliplahgkaaGreat
