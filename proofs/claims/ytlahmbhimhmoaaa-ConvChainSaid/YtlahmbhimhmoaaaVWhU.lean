/- core: unfolded. -/
import Derived.Test.YtlahmbhimhmoaaaVWhC
namespace Go.Proofs.Ytlahmbhimhmoaaa
set_option linter.unusedVariables false
set_option linter.unusedSimpArgs false
open Go.RowKit
open Go.Lib renaming hid->aB
set_option maxHeartbeats 4000000
set_option maxRecDepth 100000
def LE(r:Option TT)(w:OE)(e:Ending)(w':OE):Prop:=OB w w'/\((∃y,r=some y/\∃A n c,e=.returned (.slice A n c)/\a6 (GE w w') w' A n c (aT y))\/(r=none/\e=.panicked (nE 9)))
theorem kP{x u:TT}(h:(cM x u).2≠0):(cM x u).2=9:=by
 unfold cM at h ⊢;split
 . rfl
 rename_i D
 rw[aN D]at h;exact absurd rfl h
theorem ES{r:List Nd×Int}{w G w':OE}{A:OC}{m c:Nat}{l:List Nd}(F:OB w G)(O:aS (fun _=>False) (Value.slice none ([]:List Nd).length 0).ownBlock G w')(U:r=(l,0))(D:bG w' w.heap.size (.slice A m c) ([]++l)):iU r w (.returned (.tuple #[.slice A m c,.int .i64 0])) w':=by
 subst U;exact⟨F.trans (O.to_below F.size (fun _ h=>h.elim) (fun g I=>by simp[Value.ownBlock]at I)),_,_,_,rfl,D⟩
theorem rR{A:OC}{nn c:Nat}{l:List Nd}{w:OE}(h:aX w A nn c l)(up fr:Int)(a8:up<=9223372036854775807):
 Calls Try.prog 70 #[.slice A nn c,.int .i64 up,.int .i64 fr] w (iU (eG l up fr) w):=by
 by_cases O:aZ l=0;rotate_left
 . have hr:eG l up fr=([],aZ l):=by unfold eG;rw[aN O]
   have b1:(aZ l != 0)=true:=by simp[O]
   have HR:=aB hr;have HS:=aB O;clear hr O;go_in;go_wp2_with (go_at_call 40;refine (bM h).mono ?_;rintro e w2 ⟨rfl,D⟩)
   go_ret2;exact bV D HR.o
 obtain⟨hl,n,a5,k,a0,U,b3⟩:=fE O;have b1:(aZ l != 0)=false:=by simp[O]
 by_cases h1:up<0
 . have hr:eG l up fr=([],1):=by unfold eG;rw[LZ O,LZ (.inl h1)]
   have HR:=aB hr;have HS:=aB O;clear hr O a0 U;go_in;go_wp2_with (go_at_call 40;refine (bM h).mono ?_;rintro e w2 ⟨rfl,D⟩)
   go_ret2;exact bV D HR.o
 by_cases h2:fr<0
 . have hr:eG l up fr=([],1):=by unfold eG;rw[LZ O,LZ (.inr h2)]
   have a9:decide (up<0)=false:=by simp;omega
   have HR:=aB hr;have HS:=aB O;clear hr O a0 U h1;go_in;go_wp2_with (go_at_call 40;refine (bM h).mono ?_;rintro e w2 ⟨rfl,D⟩)
   go_ret2;exact bV D HR.o
 have a9:decide (up<0)=false:=by simp;omega
 have b2:decide (fr<0)=false:=by simp;omega
 have a3:0<=up:=aA;have a6:0<=fr:=aA;have hr:eG l up fr=nN l up fr:=by unfold eG;rw[LZ O,aN aA]
 have a7:nN l up fr=if (fX up (min fr 1048577)).G1 0 () n k=true then ((fX up (min fr 1048577)).E1 0 () n a5 k,0) else ([],6):=by unfold nN;rw[a0]
 have a2:∀f,((fX up f).E1 0 () n a5 k).length<=1000000000000:=fun f=>by rw[pS,<-U];omega
 obtain⟨HR,HS,a4,a1,H⟩:=OG (hr.trans a7) O a0 a2 h;clear hr O a0 U a7 h1 h2 a2;by_cases hm:fr<=1048577
 . have z:min fr 1048577=fr:=aA;have I:=HR.o;rw[z]at I;have Z:=aB I;clear I z;go_in;go_wp2_with (go_at_call 40;refine (bM H.o).mono ?_;rintro e w2 ⟨rfl,D⟩)
   refine (gS (base:=w.heap.size) (R:=(· < w.heap.size)) D.size (fun b hb=>MD hb D.size) (H.o.keep fun b hb=>⟨hb,fun o=>aP (D.block b hb) o⟩) (bG.nil _ _) (fun g G=>by simp[Value.ownBlock]at G) a4.o aA (by simpa using a1.o fr) a3 a8 a6 aA).mono ?_;rintro e w3 ⟨s,(⟨G,v',rfl,F,b0⟩|⟨G,rfl⟩)⟩
   . obtain⟨A',c',rfl⟩:=F.slice;obtain⟨Y,HG⟩:=OF F G;clear F G;go_wp2_with fail;go_ret2;exact ES D s (by rw[Z.o,LZ HG.o]) Y.o
   have HG:=aB G;clear G;go_wp2_with fail;go_ret2;exact bV (D.trans (s.to_below D.size (fun _ h=>h.elim) (fun g G=>by simp[Value.ownBlock]at G))) (by rw[Z.o,aN (by rw[HG.o];simp)])
 have z:min fr 1048577=1048577:=aA;have b4:1048577<fr:=aA;have I:=HR.o;rw[z]at I;have Z:=aB I;clear I z hm;go_in;go_wp2_with (go_at_call 40;refine (bM H.o).mono ?_;rintro e w2 ⟨rfl,D⟩)
 refine (gS (base:=w.heap.size) (R:=(· < w.heap.size)) D.size (fun b hb=>MD hb D.size) (H.o.keep fun b hb=>⟨hb,fun o=>aP (D.block b hb) o⟩) (bG.nil _ _) (fun g G=>by simp[Value.ownBlock]at G) a4.o aA (by simpa using a1.o 1048577) a3 a8 aA aA).mono ?_;rintro e w3 ⟨s,(⟨G,v',rfl,F,b0⟩|⟨G,rfl⟩)⟩
 . obtain⟨A',c',rfl⟩:=F.slice;obtain⟨Y,HG⟩:=OF F G;clear F G;go_wp2_with fail;go_ret2;exact ES D s (by rw[Z.o,LZ HG.o]) Y.o
 have HG:=aB G;clear G;go_wp2_with fail;go_ret2;exact bV (D.trans (s.to_below D.size (fun _ h=>h.elim) (fun g G=>by simp[Value.ownBlock]at G))) (by rw[Z.o,aN (by rw[HG.o];simp)])
theorem qT{b:Bk}{free:Int}{A:OC}{n c:Nat}{h:TT}{w:OE}(h0:0<=free)(Z:free<=990000)(ht:aX w A n c (aT h))(hf:bJ b free h)(d4:h.1.op=12):
 Calls Try.prog 98 #[.slice A n c] w (LE (qZ h) w):=by
 obtain⟨f1,f2,f3,f4,f5⟩:=gG hf.okt d4;obtain⟨nb,G⟩:∃nb:Nat,h.1.b=(nb:Int):=⟨h.1.b.toNat,by omega⟩;obtain⟨ia,b5⟩:∃ia:Nat,h.1.a=(ia:Int):=⟨h.1.a.toNat,by omega⟩;have hk:=hf.kid (lF (x:=h) (i:=2*ia+1) aA);rw[oM d4,G]at hk;obtain⟨y0,a8⟩:=OM (eP h (2*ia+1));rw[<-a8]at hk;obtain⟨b9,a5⟩:=OM (qZ h);have a7:b9=y8 h nb y0:=by rw[a5,a8];unfold qZ;rw[G,b5,NA,NA]
 rw[<-a5];have e0:=aB (fun (i:Nat) (hi:(i:Int)<h.1.b)=>rK hf d4 hi);rw[G]at e0;have g4:0<n:=by rw[<-ht.len];exact eJ _
 have l1:n<=4096:=by rw[<-ht.len];exact hf.few
 have j5:=ht.cap;have a2:=fun (W:OE) (hB:OB w W)=>fJ (ht.below hB) hf.rt.shape;rw[i5 hf]at a2;have HK:=aB a2;have d3:Hid (2*ia+1<(a9 h.2.2).length):=aB aA;have h3:=aB (fun (w':OE) (hb:OB w w')=>xI (ht.below hb) g4);obtain⟨bf,off,rfl,f7,_,b1,b2⟩:=ht.at_ g4;simp only[NE,MQ]at b1 b2;rw[show bB (aT h) 0=h.1 from rfl]at b1 b2;rw[b5]at b1;rw[G]at b2;have l0:ia<nb:=aA;have k2:nb<=4:=aA;obtain⟨j,hj⟩:∃j:Nat,j=2*ia+1:=⟨_,rfl⟩;have l4:IntKind.i64.wrap (2*(ia:Int))=2*(ia:Int):=by rw[MP];omega
 have l5:IntKind.i64.wrap (2*(ia:Int)+1)=(j:Int):=by rw[MP];omega
 rw[<-hj]at d3 a8;obtain⟨i7,h5,O,e6,k3,k4⟩:=OJ a8 hk ht.len a7 b5 G;clear ht f1 f2 f3 f4 f5 hk a5 a7 b5 G a2 a8 hj;go_in;go_upto_region 2 with fail
 refine wp_region_held_drew (S:=(fun w'=>OB w w')) aC ?_ (fun s=>?_)
 . (try dsimp only);exact aU (MC _ _) 1
 have d9:Hid (OB w w.drew):=aB (aU (MC _ _) 1);generalize w.drew=W1 at *;refine aL 0 s ?_;refine aL 2 s ?_;refine aL 3 s ?_;refine aL 4 s ?_;refine tk 5 ?_ (fun wq hSw=>?_) s ?_;rotate_left
 . have f0:=(hSw.cell (p:=⟨bf,off+1,none⟩) f7).trans b1;go_simp;try with_reducible rfl
 try simp only[p7]
 refine aL 6 s ?_;refine aL 7 s ?_;refine r1 1 fun K hK=>?_;go_simp;go_at_call 47
 refine (HK.o _ d9.o).mono ?_;rintro en w3 ⟨f6,A3,n3,c3,l6,rfl,g6,g7⟩;have b0:=bK d9 f6;obtain⟨j2,gk,A4,n4,c4,rfl,k7,j9,k6,g9⟩:=lH g6 g7 d3.o;have k0:j<n3:=by have:=d3.o;omega
 have k1:(j:Int)<(n3:Int):=aA;have i3:Hid (aX w3 A4 n4 c4 (aT y0)):=aB (by rw[i7.o];exact a6.keep g9 (R':=(· < w3.heap.size)) (w':=w3) fun q I=>⟨I.2.1,fun _=>rfl⟩);clear f6 g6 g7 j2 g9;go_wp2_with fail;refine hK.o _ _ (by exact b0.o) fun s=>?_;clear hK K;try simp only[p7]
 refine aL 8 s ?_;refine r1 9 fun K hK=>?_;go_simp;refine hK.o _ _ (by exact b0.o) fun s=>?_;clear hK K;try simp only[p7]
 refine aL 10 s ?_;have j6:=(b0.o.cell (p:=⟨bf,off+2,none⟩) f7).trans b2;refine wpAnyH_done aC ?_ _;go_wp2_with fail;obtain⟨nm,l2⟩:=OM (nb-1);go_loopw [4,5] (fun bv iv wr=>∃(r:Nat)(x:TT)(A':OC)(n' c':Nat),bv=.slice A' n' c'/\iv=.int .i64 ((r:Int)-1)/\r<=nb/\Hid (bJ b (free+(r:Int)) x)/\Hid (b9=y8 h r x)/\Hid (aX wr A' n' c' (aT x))/\Hid (r=nb\/a6 (GE w wr) wr A' n' c' (aT x))/\Hid (OB w wr)) (fun _ iv _=>(intOf iv+1).toNat)
 case atStart=>exact⟨nb,y0,A4,n4,c4,rfl,rfl,by omega,h5,e6,i3,aB (.inl rfl),b0⟩
 case round =>
  obtain⟨r,x,A',n',c',rfl,rfl,hr,j1,b7,j3,c2,z⟩:=hrel;have f8:=z.o.size;cases r with
  | zero =>
   rw[show ((0:Nat):Int)-1 = -1 from by omega];have c8:b9=some x:=b7.o;have HU:=aB c8;have i0:Hid (a6 (GE w wr) wr A' n' c' (aT x)):=aB (c2.o.elim (fun e=>by omega) id);clear c8 hr c2 b7;go_wp2_with fail;go_ret;exact⟨z.o,.inl ⟨x,HU.o,A',n',c',rfl,i0.o⟩⟩
  | succ i =>
   rw[show ((i+1:Nat):Int)-1=(i:Int) from by omega];have k8:(0:Int)<=(i:Int):=aA;have y1:decide ((i:Int) ≥ 0)=true:=MB aA;have k9:i<nb:=aA;have f9:=e0.o i aA;have b8:=y9 f9 (up:=(i:Int)) aA aA;have hS:=iO (b:=b) (free:=free+i) (x:=x) (u:=jB (fQ h i) (i:Int)) aA aA (by have e:free+((i+1:Nat):Int)=free+i+1:=aA;rw[<-e];exact j1.o) b8.1;have HS:=aB hS;have D:b9=if (cM x (jB (fQ h i) (i:Int))).2=0 then y8 h i (cM x (jB (fQ h i) (i:Int))).1 else none:=b7.o;have e7:=aB D;have g3:=b8.2;have h7:=aB g3;have d2:Hid ((cM x (jB (fQ h i) (i:Int))).2≠0->(cM x (jB (fQ h i) (i:Int))).2=9):=aB kP;have g8:aT (fQ h i)=⟨h.1.op,(i:Int),h.1.b⟩::(h.2.1++row h.2.2):=rfl;have i2:=aB g8;have k5:Hid ((aT (fQ h i)).length=n):=aB O.o;have i6:Hid ((aT (jB (fQ h i) (i:Int))).length<=4096):=aB b8.1.few;have h4:=aB (h3.o wr z.o);generalize cM x (jB (fQ h i) (i:Int))=sx at *;generalize aT (jB (fQ h i) (i:Int))=ru at *;generalize aT (fQ h i)=rf at *;clear f9 hS D g3 g8 b7 b8;go_wp2_with fail;refine (h4.o).mono ?_;rintro e w5 ⟨b4,gc,cc,rfl,b6⟩;have a4:=G7 (n0:=h.1) (r:=h.2.1++row h.2.2) b6 (by have:=O.o;show (aT h).length<=_;omega) (i:Int);rw[show (h.1::(h.2.1++row h.2.2)).length=n from O.o,<-i2.o]at a4;have j0:=aV b6 (g:=gc) rfl;obtain⟨j7,j8,i8,c1⟩:=j0;have c0:aW w5 gc 42 i8:=c1;have a0:=iJ b6 (iX (aT h) 0 (by have:=O.o;omega)).2.1;have b3:w5.cell? ⟨gc,1,none⟩=some (.int .i64 (bB (aT h) 0).a):=a0;have g0:w5.frozen? ⟨gc,1,none⟩=false:=c0.frozen 1;have d7:=kL w5 gc 1 (.int .i64 (i:Int));have i9:=z.o.trans (b4.mono f8);have d5:OB wr (w5.setCell ⟨gc,1,none⟩ (.int .i64 (i:Int))):=b4.grown d7 (by have:=b4.size;omega) (fun q e=>by injection e with e;omega);have h2:=aB (z.o.trans (d5.mono f8));have e8:=aB (j3.o.below d5);have c5:aX (w5.setCell ⟨gc,1,none⟩ (.int .i64 (i:Int))) (some ⟨gc,0,none⟩) n cc rf:=a4.keep fun q I=>⟨by have:=d7.size;omega,fun _=>rfl⟩;have e5:=aB (rR c5 (i:Int) 0 aA);rw[h7.o]at e5;have g5:(aT h).length=n:=O.o;rw[g5];have l3:0<(n:Int):=aA;clear a4 c1 c0 a0 b4 b6 d7 i9 d5 c5 g5;go_wp2_with fail;refine (e5.o).mono ?_;rintro e w7 ⟨d6,A7,n7,c7,rfl,d8⟩;have d0:=bK h2 d6;have e9:=aB (e8.o.below d6);have i1:=aB d8;have g1:ru.length=n7:=by
    have Z:=d8.slice;obtain⟨_,_,e⟩:=Z;injection e with _ e2;exact e2.symm
   have h6:=aB g1;clear d6 d8 g0 b3 g1;go_wp2_with fail;refine gK.mono ?_;rintro e w8 ⟨rfl,rfl⟩;have c6:aX w8 A7 n7 c7 ru:=by
    have Z:=i1.o;rw[<-h6.o]at Z ⊢;obtain⟨Aq,nq,cq,e,I⟩:=bG.termS Z (by have:=i6.o;show ru.length<=_;omega);injection e with e1 e2 e3;subst e1 e2 e3;exact I.keep fun q I=>⟨(aV Z I).2.1,fun _=>rfl⟩
   have U:=aB (sG e9.o c6 0 (fun _ _ _=>HS.o.1));rw[HS.o.2.1]at U;clear c6;by_cases h0:sx.2=0
   . rw[LZ h0,h0]at U;have D:=e7.o;rw[LZ h0]at D;obtain⟨Y,e4⟩:=OF D (HS.o.2.2 h0);clear D h0;go_wp2_with fail;refine (U.o).mono ?_;rintro e w9 ⟨a1,A9,n9,c9,rfl,a3⟩;have d1:=bK d0 a1;have g2:(aT sx.1).length=n9:=by
      obtain⟨_,_,e⟩:=a3.slice;injection e with _ e2;exact e2.symm
     have F:a6 (GE w w9) w9 A9 n9 c9 (aT sx.1):=by
      have Z:=a3;rw[<-g2]at Z ⊢;obtain⟨Aq,nq,cq,e,I⟩:=bG.termS Z (by have:=e4.o.few;have h9:(aT sx.1).length=bZ sx.1:=rfl;show (aT sx.1).length<=_;omega);injection e with e1 e2 e3;subst e1 e2 e3;exact I.keep fun q I=>⟨⟨by have:=(aV Z I).1;have:=d0.o.size;omega,(aV Z I).2.1⟩,fun _=>rfl⟩
     have h8:=aB F;have i4:Hid (aX w9 A9 n9 c9 (aT sx.1)):=aB (F.keep fun q I=>⟨I.2,fun _=>rfl⟩);clear a1 a3 g2 F;go_wp2_with fail;refine gK.mono ?_;rintro e j4 ⟨rfl,rfl⟩;go_wp2_with fail;go_roundw
     case rel=>exact⟨i,sx.1,A9,n9,c9,rfl,rfl,by omega,e4,Y,i4,aB (.inr h8.o),d1⟩
     case measure=>simp[intOf]
   . rw[aN h0]at U;have D:=e7.o;rw[aN h0]at D;obtain⟨Y,HZ⟩:=OF D h0;clear D h0;go_wp2_with fail;refine (U.o).mono ?_;rintro e w9 ⟨a1,A9,n9,c9,rfl,a3⟩;have d1:=bK d0 a1;clear a1 a3;go_wp2_with fail;refine (jF HZ.o).mono ?_;rintro e j4 ⟨rfl,rfl⟩;go_wp2_with fail;rw[d2.o HZ.o];exact⟨rfl,d1.o,.inr ⟨Y.o,rfl⟩⟩
end Go.Proofs.Ytlahmbhimhmoaaa
