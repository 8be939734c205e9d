/- core: slices.Equal of terms and of ints; places. -/
import Derived.Test.YtlahmbhimhmoaaaVCvS
namespace Go.Proofs.Ytlahmbhimhmoaaa
set_option linter.unusedVariables false
set_option linter.unusedSimpArgs false
open Go.RowKit
open Go.Value renaming slice → O
open Go.Lib renaming hid->aB
set_option maxHeartbeats 4000000
variable {c c' n n':Nat}{A A':OC}
theorem CA{l D:List Nd}(w:OE)(h:aX w A n c l)(Y:aX w A' n' c' D):
 Calls Try.prog 24 #[O A n c,O A' n' c'] w fun e w'=>e=.returned (.bool (decide (l=D)))/\∃m,w'=w.drewN m:=by
 have hf:=h.few;by_cases U:n=n';rotate_left
 . have hb:(((n:Nat):Int) != (n':Int))=true:=by simp;omega
   go_in;go_wp2
   go_ret;refine⟨cU ?_,0,rfl⟩;have:l≠D:=fun e=>U (by rw[<-h.len,<-Y.len,e]);simp[this]
 subst U;go_in;go_wp2
 go_loopw [13] (fun i wr=>∃k:Nat,k<=n/\i=.int .i64 k/\(∃z,wr=w.drewN z)/\∀j,j<k->bB l j=bB D j) (fun i _=>n-(intOf i).toNat)
 case atStart=>exact⟨0,NH _,rfl,⟨0,rfl⟩,fun j Z=>absurd Z aA⟩
 case round =>
  obtain⟨k,hk,rfl,⟨z,rfl⟩,hd⟩:=hrel;have HD:=aB hd;clear hd;by_cases G:k<n;rotate_left
  . go_wp2
    go_ret;refine⟨cU ?_,z,rfl⟩;have:l=D:=GT (by rw[h.len,Y.len]) fun j Z=>HD.o j (by rw[h.len]at Z;omega);simp[this]
  obtain⟨b,off,rfl,_,hm⟩:=h.mem aA;obtain⟨b',off',rfl,_,I⟩:=Y.mem aA;obtain⟨g0,g1,g2⟩:=hm k (by rw[h.len];exact G);obtain⟨a1,a2,a3⟩:=I k (by rw[Y.len];exact G);clear hm I;by_cases F:bB l k=bB D k
  . have a0:=fun w=>(jM (bB l k) (bB D k) w).trans (by simp only[F,decide_true,Bool.not_true]:_=Result.ok (Value.bool false) w);have s:=aB F;clear F;go_wp2
    go_quiet (fail)
    go_wp2
    go_roundw
    case rel=>exact⟨k+1,by omega,by go_num,⟨_,rfl⟩,fun j Z=>by
     by_cases e:j=k
     . subst e;exact s.o
     exact HD.o j aA⟩
    case measure=>simp[intOf];omega
  have a0:=fun w=>(jM (bB l k) (bB D k) w).trans (by simp only[F,decide_false,Bool.not_false]:_=Result.ok (Value.bool true) w);have s:=aB F;clear F;go_wp2
  go_quiet (fail)
  go_wp2
  go_ret;refine⟨cU ?_,_,World.drewN_drewN _ _ _⟩;have:l≠D:=fun e=>s.o (by rw[e]);simp[this]
theorem BZ{R R':Nat->Prop}{l D:List Int}(w:OE)(h:tU R w A n c l)(h':tU R' w A' n' c' D):
 Calls Try.prog 68 #[O A n c,O A' n' c'] w fun e w'=>e=.returned (.bool (decide (l=D)))/\∃m,w'=w.drewN m:=by
 have hf:=h.few;by_cases Y:n=n';rotate_left
 . have hb:(((n:Nat):Int) != (n':Int))=true:=by simp;omega
   go_in;go_wp2
   go_ret;refine⟨cU ?_,0,rfl⟩;have:l≠D:=fun e=>Y (by rw[<-h.len,<-h'.len,e]);simp[this]
 subst Y;go_in;go_wp2
 go_loopw [13] (fun i wr=>∃k:Nat,k<=n/\i=.int .i64 k/\(∃s,wr=w.drewN s)/\∀j,j<k->l.getD j 0=D.getD j 0) (fun i _=>n-(intOf i).toNat)
 case atStart=>exact⟨0,NH _,rfl,⟨0,rfl⟩,fun j hj=>absurd hj aA⟩
 case round =>
  obtain⟨k,hk,rfl,⟨s,rfl⟩,hd⟩:=hrel;have HD:=aB hd;clear hd;by_cases I:k<n;rotate_left
  . go_wp2
    go_ret;refine⟨cU ?_,s,rfl⟩;have:l=D:=by
     apply List.ext_getElem (by rw[h.len,h'.len]);intro j h1 h2;have:=HD.o j (by rw[h.len]at h1;omega)
     rwa [MK,MK,MI h1,MI h2]at this
    simp[this]
  obtain⟨b,off,rfl,_,hm⟩:=h.mem aA;obtain⟨b',off',rfl,_,U⟩:=h'.mem aA;have g0:=hm k I;have G:=U k I;clear hm U;by_cases F:l.getD k 0=D.getD k 0
  . have Z:=aB F;rw[F]at g0;clear F;generalize D.getD k 0=z at g0 G;go_wp2
    go_quiet (fail)
    go_wp2
    go_roundw
    case rel=>exact⟨k+1,by omega,by go_num,⟨_,rfl⟩,fun j hj=>by
     by_cases e:j=k
     . subst e;exact Z.o
     exact HD.o j aA⟩
    case measure=>simp[intOf];omega
  have Z:=aB F;obtain⟨z,hz⟩:=OM (l.getD k 0);obtain⟨y,hy⟩:=OM (D.getD k 0);rw[<-hz]at g0;rw[<-hy]at G;have a0:(z != y)=true:=by rw[hz,hy];simpa using F
  clear F hz hy;go_wp2
  go_quiet (fail)
  go_wp2
  go_ret;refine⟨cU ?_,_,World.drewN_drewN _ _ _⟩;have:l≠D:=fun e=>Z.o (by rw[e]);simp[this]
theorem GS{l D:List Nd}(w:OE)(h:aX w A n c l)(F:aX w A' n' c' D):Calls Try.prog 24 #[O A n c,O A' n' c'] w (GD (decide (l=D)) w) :=
 (CA w h F).mono fun e w' h=>by
  obtain⟨rfl,m,rfl⟩:=h;exact⟨rfl,aU (MC _ _) _⟩
theorem GR{R R':Nat->Prop}{l D:List Int}(w:OE)(h:tU R w A n c l)(F:tU R' w A' n' c' D):Calls Try.prog 68 #[O A n c,O A' n' c'] w (GD (decide (l=D)) w) :=
 (BZ w h F).mono fun e w' h=>by
  obtain⟨rfl,m,rfl⟩:=h;exact⟨rfl,aU (MC _ _) _⟩
theorem E6:∀(k:Fo),tQ k=fO k
 | .nil=>rfl
 | .cons p n a k x=>by
  unfold tQ fO;rw[gR,E6 x,List.map_append];rfl
def LD(x:TT)(nb:Nat)(w:OE)(e:Ending)(w':OE):Prop:=OB w w'/\∃D F,e=.returned (O D nb F)/\tX w' w.heap.size D nb F (tQ x.2.2)
structure LQ (tt:List Nd) (kk:Fo) (nb q p:Nat) (dF:Fo) (zq:List Int):Prop where
 at_:At tt p (F6 (nb-q)) dF
 pl:zq++(iN dF).map (·.a)=fO kk
set_option maxRecDepth 100000 in
theorem nJ{nb:Nat}{x:TT}{w:OE}(ht:aX w A n c (aT x))(hy:JA x)(c2:x.1.op=12)(b1:x.1.b=(nb:Int)):
 Calls Try.prog 69 #[O A n c] w (LD x nb w):=by
 have b3:=(Rt.wf hy).1;have f8:=bI.1 (by simp only[eU,ME]at b3;exact b3.1.1);have g5:1<=nb/\nb<=4:=aA;have a0:At (aT x) 1 (ds x.1) x.2.2:=At.first (n:=x.1) (a:=x.2.1) (k:=x.2.2) hy aA;rw[D9 c2 b1]at a0;have F:=ht.len;have g8:n<=4096:=by rw[<-F];exact Rt.few hy
 have f7:0<n:=by rw[<-F];simp[aT]
 obtain⟨bf,off,rfl,e8,f0,f1,c3⟩:=ht.at_ f7;simp only[NE,MQ]at c3;rw[show bB (aT x) 0=x.1 from rfl,b1]at c3;have z:=aB (fun (w':OE) (h:OB w w')=>ht.below h);unfold LD;simp only[E6];obtain⟨tt,c9⟩:=OM (aT x);rw[<-c9]at a0 F z;obtain⟨b6,d8⟩:=OF a0 F;obtain⟨nd,a,kk⟩:=x;simp only at b6;obtain⟨i0,hi,d2,d3,d4⟩:=info_parts IW;obtain⟨d7,e4,e5,e6⟩:=OI hi d2 d3 d4;clear hi d2 d3 d4 b3 f8 a0 c9 ht hy c2 b1 f0 f1 F;go_in;go_wp2_with fail;go_loopw [3,4,9] (fun ov av iv wr=>∃(q p:Nat)(dF:Fo)(s:List Int)(A1:OC)(c1:Nat),ov=O A1 q c1/\av=.int .i64 (p:Int)/\iv=.int .i64 (q:Int)/\q<=nb/\1+3*q<=p/\p<=n/\Hid (LQ tt kk nb q p dF s)/\Hid (tX wr w.heap.size A1 q c1 s)/\Hid (OB w wr)) (fun _ _ i _=>nb-(intOf i).toNat)
 case atStart=>exact⟨0,1,kk,[],none,0,rfl,rfl,rfl,by omega,by omega,by omega,aB ⟨b6.o,rfl⟩,aB (NR _ _ _ _),aB (MC _ _)⟩
 case round =>
  obtain⟨q,p,dF,s,A1,c1,rfl,rfl,rfl,h2,g9,h1,hs,b2,a3⟩:=hrel;obtain⟨G,hZ⟩:=hs.o;by_cases f5:q<nb;rotate_left
  . have g0:decide ((q:Int)<(nb:Int))=false:=MA aA;obtain rfl:q=nb:=aA;have f2:dF=.nil:=by
     rw[Nat.sub_self]at G;exact G.done
    subst f2;have HZ:Hid (s=fO kk):=aB (by simpa[iN] using hZ);clear f5 hZ G hs;go_wp2_with fail;go_ret;refine⟨a3.o,A1,c1,rfl,?_⟩;rw[<-HZ.o];exact b2.o
  have b0:=kV _ G;obtain⟨r,hr⟩:∃r,nb-q=r+1:=⟨nb-q-1,by omega⟩;rw[hr]at G b0;rw[show F6 (r+1)=true::false::F6 r from rfl]at G;obtain⟨g4,n1,a1,k1,h3,rfl,s1⟩:=G.step;obtain⟨d6,f9,a2,k2,d5,rfl,s2⟩:=s1.next.step;obtain⟨fd,rfl,f3,c8⟩:=s1.fun_ rfl;have a8:d6.length=0:=s2.plen;obtain rfl:=ND a8;have I:=s2.next;have D:=kV _ I;obtain⟨e1,l1⟩:=(⟨s1.end_,s1.le⟩:_/\_);obtain⟨e2,Y,l2⟩:=(⟨s2.end_,s2.cut,s2.le⟩:_/\_/\_);simp only[MN,NJ,ML,MQ]at e1 l1 e2 Y l2 I D;rw[gR,gR,MY,List.singleton_append,List.map_cons]at hZ;obtain⟨y1,d0⟩:=OM ((n1,a1,k1):TT);obtain⟨y2,d1⟩:=OM ((f9,a2,k2):TT);rw[<-d0]at e1 l1 e2 Y l2 I D;rw[<-d1]at e2 Y l2 I D;obtain⟨g1,c6⟩:=OM (p+1+(aT y1).length);obtain⟨g2,c7⟩:=OM (g1+(aT y2).length);rw[<-c6]at e1 l1 e2 Y l2 I D;rw[<-c7]at e2 Y l2 I D;rw[d8.o]at l1 l2 b0 D;have b4:0<(aT y1).length:=by simp[aT]
  have b5:0<(aT y2).length:=by simp[aT]
  rw[show ((p+1:Nat):Int)=(p:Int)+1 from by omega]at e1;have a5:=aB (fun (wr:OE) (h:OB w wr)=>fD (z.o wr h) ((p:Int)+1));rw[e1]at a5;have a6:=aB (fun (wr:OE) (h:OB w wr)=>fD (z.o wr h) (g1:Int));rw[e2]at a6;obtain⟨b',o',e',_,_,a4,_⟩:=aX.at_ (z.o w (MC _ _)) (p:=p) aA;injection e' with e';injection e' with e1' e2';subst e1' e2';rw[c8]at a4;obtain⟨fa,a7⟩:=OM fd.a;rw[<-a7]at a4 hZ;have e3:Hid (LQ tt kk nb (q+1) g2 d5 (s++[fa])):=aB ⟨by rw[show nb-(q+1)=r from by omega];exact I,by rw[NU];exact hZ⟩;have g7:(0:Int)<=(p:Int):=aA;have g3:(p:Int)<(n:Int):=aA;have g0:decide ((q:Int)<(nb:Int))=true:=MB aA;obtain⟨h0,g6,f4,e7⟩:p+1<=g1/\g1<=g2/\g2<=n/\1+3*(q+1)<=g2:=aA;have c4:=(a3.o.cell (p:=⟨bf,off+p*3+1,none⟩) e8).trans a4;have e9:=a3.o.size;have f6:Hid ((s++[fa]).map (Value.int .i64)=s.map (Value.int .i64)++[.int .i64 fa]):=aB aD;clear G b0 s1 s2 a8 I D e1 l1 e2 Y l2 d0 d1 c6 c7 hr c8 f3 a7 a4 hZ b4 b5 hs;go_wp2_with (at_builtin;go_loud (refine bL rfl (eL (.tmp 11) (.tmp 17) 116 3 rfl w.heap.size i0 _ 8 Try.underlying116 d7.o e4.o e5.o e6.o rfl aE (O A1 q c1) q (s.map (Value.int .i64)) (.int .i64 fa) rfl wr rfl rfl b2.o _ rfl rfl aA aA ?_));intro A5 c5 w5 U)
  have b8:=aB (a3.o.grown U.grown e9 (fun g hg=>(aV b2.o hg).1));have d9:Hid (tX w5 w.heap.size A5 (q+1) c5 (s++[fa])):=aB (by unfold tX;rw[f6.o];exact U.own);clear U c4;go_wp2_with fail;refine (a5.o w5 b8.o).mono ?_;rintro e w6 ⟨rfl,a9⟩;have b9:=bK b8 a9;have e0:=aB (bY d9.o a9);clear a9;go_wp2_with fail;refine (a6.o w6 b9.o).mono ?_;rintro e h4 ⟨rfl,Z⟩;have b7:=bK b9 Z;have c0:=aB (bY e0.o Z);clear Z;go_wp2_with fail;go_roundw
  case rel=>exact⟨q+1,g2,d5,s++[fa],A5,c5,rfl,rfl,by go_num,by omega,e7,f4,e3,c0,b7⟩
  case measure=>simp[intOf];omega
end Go.Proofs.Ytlahmbhimhmoaaa
