/- Merged: GoF, GoS, FuC. -/
import Derived.Test.YtjoddliplahgkaaGreatTRefRi
import Derived.Test.YtjoddliplahgkaaGreatTWhG
import Derived.Test.YtjoddliplahgkaaGreatTGoN2
import Derived.Test.YtjoddliplahgkaaGreatTGoM
namespace Go.Proofs.YtjoddliplahgkaaGreat
set_option maxHeartbeats 4000000
set_option maxRecDepth 100000
set_option linter.unusedVariables false
set_option linter.unusedSimpArgs false
open Go.RowKit
open Go.Value renaming int → O, slice → Y
open Go.IntKind renaming i64 → X
open Option renaming none → Z
open Go.Obj renaming cells → I
variable {b:Bk}{cv:aAA}{c cc cn i:Nat}{A cA:ZZ}{w:aAB}
section
open Go.Lib renaming hid->aB
theorem MT{i:Int}{l:List Nd}(h:bU b=0)(D:0<=i):fK b i l=fM b b.entries.length (-1) l i:=by
 unfold fK;rw[XN aA,XN aA]
theorem JF{v:bR}(hb:cE w v b){bs:List (List Nd×List Nd)}(hc:kJ (· < w.heap.size) w cA cn cc bs){n:Nat}{l:List Nd}(ht:aX w A n c l):
 Calls Tryz.prog 12 #[.agg #[O X b.vars,Y v.Ao v.no v.co,Y v.Ae v.ne v.ce,O X b.nat,Y v.Ap v.np v.cp],Y cA cn cc,Y A n c] w (iV (iB b bs l) w):=by
 obtain⟨w1,c3⟩:=aAJ (w.alloc (I #[O X b.vars,Y v.Ao v.no v.co,Y v.Ae v.ne v.ce,O X b.nat,Y v.Ap v.np v.cp] 26));have a4:ZY w w1:=by rw[c3];exact aQ _ _
 have e5:aT w1 w.heap.size 26 #[O X b.vars,Y v.Ao v.no v.co,Y v.Ae v.ne v.ce,O X b.nat,Y v.Ap v.np v.cp]:=by rw[c3];exact aT.new _ _ _
 have b8:=aB (C7 (hb.below a4));have f6:v.ne=b.entries.length:=hb.entries.len.symm;have d4:Hid (bU b=0->∀(W:aAB)(hB:ZY w1 W)(free:Nat)(A':ZZ)(n' c':Nat)(l':List Nd)(h:aX W A' n' c' l'),Calls Tryz.prog 30 #[.agg #[O X b.vars,Y v.Ao v.no v.co,Y v.Ae v.ne v.ce,O X b.nat,Y v.Ap v.np v.cp],O X (v.ne:Int),O X (-1),O X (free:Int),Y A' n' c'] W (iV (fK b free l') W)):=aB (fun h0 W hB free A' n' c' l' h=>by
  rw[MT h0 aA,<-f6];exact kY ((hb.below a4).below hB) (v.ne:Int) (-1) (free:Int) aA h)
 obtain⟨HT,HC,U⟩:=aAF (ht.below a4) (hc.below a4) a4;have b6:=hc.len;have f9:=hc.few;obtain⟨a2,a0⟩:=aAJ (iB b bs l);rw[<-a0];unfold iB at a0;rw[b6]at a0;obtain⟨b1,c8⟩:=aAC a0 b6;have c0:w.heap.size<w1.heap.size:=e5.lt;have z1:=e5.cell;clear hb hc ht a4 e5 a0 b6 f6;obtain⟨re,f7⟩:=aAJ (bU b);rw[<-f7]at b8 b1 d4;clear f7;go_in;go_upto_region 1 with fail
 rw[<-c3];clear c3;by_cases h0:re=0;rotate_left
 . have d0:(re != 0)=true:=by simpa using h0
   have HR:Hid (a2=re):=aB (by rw[b1.o,XP h0]);clear h0;go_wp2_with fail;refine (b8.o).mono ?_;rintro e w2 ⟨rfl,z⟩;have a8:=bY U z;clear z;go_wp2_with fail;go_ret;rw[HR.o];exact⟨rfl,a8.o⟩
 subst h0;have b0:=aB (d4.o rfl);have b2:Hid (a2=if 256<cn then 5 else if gD b 0 bs≠0 then gD b 0 bs else fK b cn l):=aB (by have h:=b1.o;rw[XN aD]at h;exact h);by_cases h1:256<cn
 . have d1:decide ((cn:Int)>256)=true:=XR aA;have HR:Hid (a2=5):=aB (by rw[b2.o,XP h1]);clear h1;go_wp2_with fail;refine (b8.o).mono ?_;rintro e w2 ⟨rfl,z⟩;have a8:=bY U z;clear z;go_wp2_with fail;go_ret;rw[HR.o];exact⟨rfl,a8.o⟩
 have d1:decide ((cn:Int)>256)=false:=XQ aA;have a1:Hid (a2=if gD b 0 bs≠0 then gD b 0 bs else fK b cn l):=aB (by have h:=b2.o;rw[XN h1]at h;exact h);clear h1 d4;go_wp2_with fail;refine (b8.o).mono ?_;rintro e w2 ⟨rfl,z⟩;have a8:=aB z;clear z;go_wp2_with fail;go_loopw [7,8] (fun ev iv wr=>∃i:Nat,i<=cn/\iv=O X (i:Int)/\ev=O X 0/\Hid (gD b 0 bs=gD b i (bs.drop i))/\Hid (ZY w1 wr)) (fun _ iv _=>cn-(intOf iv).toNat)
 case atStart=>exact⟨0,by omega,rfl,rfl,aB rfl,a8⟩
 case round =>
  obtain⟨i,hi,rfl,rfl,b9,G⟩:=hrel;have zr:=fun k=>(G.o.cell (p:=⟨w.heap.size,k,Z⟩) c0).trans (z1 k);have a6:w.heap.size<wr.heap.size:=XT c0 G.o.size;by_cases b7:i<cn;rotate_left
  . have e1:decide ((i:Int)<(cn:Int))=false:=XQ aA;have e2:decide (i<cn)=false:=XQ b7;have HR:Hid (a2=fK b cn l):=aB (by
     have h:=b9.o;rw[YY (by rw[c8.o];omega)]at h;have h2:gD b 0 bs=0:=h;rw[a1.o,h2,XN aD])
    have e9:=aB (b0.o wr G.o cn A n c l (HT.o.below G.o));have F:=aB G.o;rw[<-HR.o]at e9;clear b9 G b7;go_wp2_with fail;refine (e9.o).mono ?_;rintro e w3 ⟨rfl,b3⟩;have s:Hid (ZY w w3):=aB ((U.o.trans (F.o.mono U.o.size)).trans (b3.mono (by have:=U.o.size;have:=F.o.size;omega)));clear b3;go_wp2_with fail;go_ret;exact⟨rfl,s.o⟩
  have e1:decide ((i:Int)<(cn:Int))=true:=XR aA;have e2:decide (i<cn)=true:=XR b7;have e3:(i:Int)<(cn:Int):=aA;obtain⟨bb,oo,f8,d9,hm⟩:=HC.o.mem aA;obtain⟨A1,n1,c1,A2,n2,c2,y1,y2,t1,t2⟩:=hm i b7;have il:i<bs.length:=by rw[c8.o];exact b7
  have f4:bs.drop i=bs.getD i ([],[])::bs.drop (i+1):=by
   rw[YX il,YD,YB il];rfl
  generalize bs.getD i ([],[])=x at *;have f5:x.2.length=n2:=t2.len;have b5:=b9.o;rw[f4]at b5;simp only[gD]at b5;rw[f5]at b5;have d2:=aB b5;obtain⟨f1,e0⟩:=aAJ (fK b i x.1);obtain⟨f2,e4⟩:=aAJ (fK b i x.2);rw[<-e0,<-e4]at d2;have u1:=(G.o.cell (p:=⟨bb,oo+i*2,Z⟩) d9).trans y1;have u2:=(G.o.cell (p:=⟨bb,oo+i*2+1,Z⟩) d9).trans y2;have b4:bb<wr.heap.size:=XT d9 G.o.size;have F:=aB G.o;obtain⟨d3,a9⟩:=aAC (fun (W:aAB) (hB:ZY wr W)=>b0.o W (F.o.trans (hB.mono F.o.size)) i A1 n1 c1 x.1 (bF.keep t1 (R':=(· < W.heap.size)) fun q hq=>⟨XT hq (F.o.trans (hB.mono F.o.size)).size,fun o=>(F.o.trans (hB.mono F.o.size)).cell (p:=⟨q,o,Z⟩) hq⟩)) (fun (w3:aAB) (h3:ZY w1 w3) (W:aAB) (hB:ZY w3 W)=>b0.o W (h3.trans (hB.mono h3.size)) i A2 n2 c2 x.2 (bF.keep t2 (R':=(· < W.heap.size)) fun q hq=>⟨XT hq (h3.trans (hB.mono h3.size)).size,fun o=>(h3.trans (hB.mono h3.size)).cell (p:=⟨q,o,Z⟩) hq⟩));rw[<-e0]at d3;rw[<-e4]at a9;clear b9 G hm y1 y2 t1 t2 f4 b5 e0 e4 f5 il;subst f8;go_upto_region 9 with fail
  refine wp_region_held_drew (S:=(fun w'=>ZY wr w')) aC ?_ (fun D=>?_)
  . (try dsimp only);exact aU (XS _ _) 1
  have e7:Hid (ZY wr wr.drew):=aB (aU (XS _ _) 1);generalize wr.drew=W1 at *;refine tk 0 ?_ (fun wq hSw=>?_) D ?_;rotate_left
  . have k0:=(hSw.cell (p:=⟨w.heap.size,0,Z⟩) a6).trans (zr 0);have k1:=(hSw.cell (p:=⟨w.heap.size,1,Z⟩) a6).trans (zr 1);have k2:=(hSw.cell (p:=⟨w.heap.size,2,Z⟩) a6).trans (zr 2);have k3:=(hSw.cell (p:=⟨w.heap.size,3,Z⟩) a6).trans (zr 3);have k4:=(hSw.cell (p:=⟨w.heap.size,4,Z⟩) a6).trans (zr 4);go_simp;try with_reducible rfl
  try simp only[p7]
  refine aL 1 D ?_;refine tk 2 ?_ (fun wq hSw=>?_) D ?_;rotate_left
  . have k2:=(hSw.cell (p:=⟨w.heap.size,2,Z⟩) a6).trans (zr 2);go_simp;try with_reducible rfl
  try simp only[p7]
  refine aL 3 D ?_;refine aL 4 D ?_;refine aL 5 D ?_;refine aL 6 D ?_;refine aL 7 D ?_;refine aL 8 D ?_;refine tk 9 ?_ (fun wq hSw=>?_) D ?_;rotate_left
  . have y1:=(hSw.cell (p:=⟨bb,oo+i*2,Z⟩) b4).trans u1;go_simp;try with_reducible rfl
  try simp only[p7]
  refine r1 10 fun K hK=>?_;go_simp;go_at_call 30
  refine (d3.o _ e7.o).mono ?_;rintro en w3 ⟨rfl,b3⟩;have a3:Hid (ZY wr w3):=bY e7 b3;have s:Hid (ZY w1 w3):=aB (F.o.trans (a3.o.mono F.o.size));clear b3;go_wp2_with fail;refine hK.o _ _ (by exact a3.o) fun D=>?_;clear hK K;try simp only[p7]
  refine aL 11 D ?_;refine wpAnyH_done aC ?_ _;have a7:=fun k=>(s.o.cell (p:=⟨w.heap.size,k,Z⟩) c0).trans (z1 k);have a5:w.heap.size<w3.heap.size:=XT c0 s.o.size;have u3:=(a3.o.cell (p:=⟨bb,oo+i*2+1,Z⟩) b4).trans u2;have f3:bb<w3.heap.size:=XT b4 a3.o.size;have e8:=aB (a9.o w3 s.o);clear a9 d3 u1 u2 zr;have a9:=e8;clear e8;by_cases g1:f1=0;rotate_left
  . have d5:(f1 != 0)=true:=by simpa using g1
    have d6:(f1==0)=false:=by simpa using g1
    have HR:Hid (a2=f1):=aB (by have h:=d2.o;rw[XP g1]at h;rw[a1.o,h,XP g1]);have c9:Hid (ZY w w3):=aB (U.o.trans (s.o.mono U.o.size));clear g1;go_wp2_with fail;go_ret;rw[HR.o];exact⟨rfl,c9.o⟩
  have c6:Hid (gD b 0 bs=if n2=0 then gD b (i+1) (bs.drop (i+1)) else if f2≠0 then f2 else gD b (i+1) (bs.drop (i+1))):=aB (by have h:=d2.o;rw[XN (by simpa using g1)]at h;exact h);subst g1;by_cases g2:n2=0
  . have d5:decide ((n2:Int)>0)=false:=XQ aA;have d6:decide (0<n2)=false:=XQ aA;have d8:Hid (gD b 0 bs=gD b (i+1) (bs.drop (i+1))):=aB (by have h:=c6.o;rw[XP g2]at h;exact h);clear g2;go_wp2_with fail;go_roundw
    case rel=>exact⟨i+1,by omega,by go_num,rfl,d8,s⟩
    case measure=>simp[intOf];omega
  have d5:decide ((n2:Int)>0)=true:=XR aA;have d6:decide (0<n2)=true:=XR aA;have c7:Hid (gD b 0 bs=if f2≠0 then f2 else gD b (i+1) (bs.drop (i+1))):=aB (by have h:=c6.o;rw[XN g2]at h;exact h);clear g2;go_upto_region 11 with fail
  refine wp_region_held_drew (S:=(fun w'=>ZY w3 w')) aC ?_ (fun D=>?_)
  . (try dsimp only);exact aU (XS _ _) 1
  have c5:Hid (ZY w3 w3.drew):=aB (aU (XS _ _) 1);generalize w3.drew=W3d at *;refine tk 0 ?_ (fun wq hSw=>?_) D ?_;rotate_left
  . have k0:=(hSw.cell (p:=⟨w.heap.size,0,Z⟩) a5).trans (a7 0);have k1:=(hSw.cell (p:=⟨w.heap.size,1,Z⟩) a5).trans (a7 1);have k2:=(hSw.cell (p:=⟨w.heap.size,2,Z⟩) a5).trans (a7 2);have k3:=(hSw.cell (p:=⟨w.heap.size,3,Z⟩) a5).trans (a7 3);have k4:=(hSw.cell (p:=⟨w.heap.size,4,Z⟩) a5).trans (a7 4);go_simp;try with_reducible rfl
  try simp only[p7]
  refine aL 1 D ?_;refine tk 2 ?_ (fun wq hSw=>?_) D ?_;rotate_left
  . have k2:=(hSw.cell (p:=⟨w.heap.size,2,Z⟩) a5).trans (a7 2);go_simp;try with_reducible rfl
  try simp only[p7]
  refine aL 3 D ?_;refine aL 4 D ?_;refine aL 5 D ?_;refine aL 6 D ?_;refine aL 7 D ?_;refine aL 8 D ?_;refine tk 9 ?_ (fun wq hSw=>?_) D ?_;rotate_left
  . have y1:=(hSw.cell (p:=⟨bb,oo+i*2+1,Z⟩) f3).trans u3;go_simp;try with_reducible rfl
  try simp only[p7]
  refine r1 10 fun K hK=>?_;go_simp;go_at_call 30
  refine (a9.o _ c5.o).mono ?_;rintro en w4 ⟨rfl,f0⟩;have c4:Hid (ZY w3 w4):=bY c5 f0;have e6:Hid (ZY w1 w4):=aB (s.o.trans (c4.o.mono s.o.size));clear f0;go_wp2_with fail;refine hK.o _ _ (by exact c4.o) fun D=>?_;clear hK K;try simp only[p7]
  refine aL 11 D ?_;refine wpAnyH_done aC ?_ _;by_cases g3:f2=0;rotate_left
  . have d7:(f2 != 0)=true:=by simpa using g3
    have HR:Hid (a2=f2):=aB (by have h:=c7.o;rw[XP g3]at h;rw[a1.o,h,XP g3]);have c9:Hid (ZY w w4):=aB (U.o.trans (e6.o.mono U.o.size));clear g3;go_wp2_with fail;go_ret;rw[HR.o];exact⟨rfl,c9.o⟩
  have d8:Hid (gD b 0 bs=gD b (i+1) (bs.drop (i+1))):=aB (by have h:=c7.o;rw[XN (by simpa using g3)]at h;exact h);subst g3;go_wp2_with fail;go_roundw
  case rel=>exact⟨i+1,by omega,by go_num,rfl,d8,e6⟩
  case measure=>simp[intOf];omega
end
theorem LC{v:bR}{b:Bk}(w0:aAB){cA:ZZ}{cn cc:Nat}{cv:aAA}(o:bU b=0)(F:gG b cv):∀a1,WO v b w0 cA cn cc cv a1
 | 0=>fun _ _ _ _ _ _ _ _ _ h=>absurd h aA
 | a1+1=>fun w R t x G D hR ht z U=>by
  have s:=LC (v:=v) (cA:=cA) (cn:=cn) (cc:=cc) w0 o F a1;by_cases h1:(bX x).1.1.op=1
  . exact TJ ⟨o,F,s,G,D,hR,ht,z,U⟩ h1
  by_cases h5:(bX x).1.1.op=5
  . by_cases hl:(bX x).2.length=0
    . exact QM ⟨o,F,s,G,D,hR,ht,z,U⟩ ⟨h5,hl⟩
    exact TH ⟨o,F,s,G,D,hR,ht,z,U⟩ ⟨h5,by omega⟩
  by_cases h7:(bX x).1.1.op=7
  . exact TI ⟨o,F,s,G,D,hR,ht,z,U⟩ h7
  by_cases h8:(bX x).1.1.op=8
  . exact NO ⟨o,F,s,G,D,hR,ht,z,U⟩ h8
  by_cases a2:(bX x).1.1.op=11
  . cases hf:fA b (bX x).1.1 (bX (eM (bX x).1 1)) with
    | true=>exact JL ⟨o,F,s,G,D,hR,ht,z,U⟩ ⟨a2,hf,trivial⟩
    | false=>exact JK ⟨o,F,s,G,D,hR,ht,z,U⟩ ⟨a2,hf,trivial⟩
  by_cases a0:(bX x).1.1.op=12
  . by_cases hp:(dG (bX x).1).toNat<(bX x).2.length
    . by_cases a3:(bX ((bX x).2.getD (dG (bX x).1).toNat (default,[],.nil))).1.1.op=10
      . exact QL ⟨o,F,s,G,D,hR,ht,z,U⟩ ⟨a0,hp,a3⟩
      exact QK ⟨o,F,s,G,D,hR,ht,z,U⟩ ⟨a0,hp,a3⟩
    exact QJ ⟨o,F,s,G,D,hR,ht,z,U⟩ ⟨a0,hp⟩
  exact NP ⟨o,F,s,G,D,hR,ht,z,U⟩ ⟨h1,h5,h7,h8,a2,a0⟩
theorem AR{free:Int}{R:Nat->Prop}{t:iA}{x:TT}(hR:∀q,R q->q<w.heap.size)(ht:fI R w t x)(D:bO b free x):Calls Tryz.prog 47 #[.agg (fE t x.1)] w (mL (aW x) w):=by
 have e:row (.cons [] x.1 x.2.1 x.2.2 .nil)=aW x:=by simp[row,aW]
 have h:=rS hR ht (mF D.okt.wf) (by rw[e];have F:(aW x).length=bL x:=rfl;have:=D.few;omega);rw[e]at h;exact h
theorem ST(U:bU b=0)(G:gG b cv){g:Nat}{x y:TT}(D:bO b (cv.length:Int) x)(h:nS b cv g (bX x)=.yes y):bL y<=100000/\(bL y<=4096->bO b (cv.length:Int) y):=by
 obtain⟨o,F⟩:=CJ U G g (bX x) y (lQ D) h;have s:=eY D;have z:bL x<=4096:=D.few;exact⟨by omega,F⟩
section
open Go.Lib renaming hid->aB
def LR(w:aAB)(D:List Value)(cv:aAA):Prop:=D.length=cv.length*2/\∀k,k<cv.length->∃G n1 c1 F n2 c2,D[k*2]? = some (Y G n1 c1)/\D[k*2+1]? = some (Y F n2 c2)/\aX w F n2 c2 (cv.getD k [])
theorem vR{U:List Value}(h:LR w U cv)(A:ZZ)(n c:Nat):LR w (U++[Y A n c,Y Z 0 0]) (cv++[[]]):=by
 obtain⟨G,h2⟩:=h;refine⟨by simp only[XX,YA,ZD];omega,fun k hk=>?_⟩;by_cases D:k<cv.length
 . obtain⟨o,n1,c1,s,n2,c2,z,e2,e3⟩:=h2 k D;refine⟨o,n1,c1,s,n2,c2,?_,?_,?_⟩
   . rw[List.getElem?_append_left aA];exact z
   . rw[List.getElem?_append_left aA];exact e2
   rw[YD,List.getElem?_append_left D,<-YD];exact e3
 have F:k=cv.length:=by simp only[XX,YA,ZD]at hk;omega
 subst F;refine⟨A,n,c,Z,0,0,?_,?_,?_⟩
 . rw[List.getElem?_append_right aA,G,Nat.sub_self];rfl
 . rw[List.getElem?_append_right aA,G,show cv.length*2+1-cv.length*2=1 from by omega];rfl
 rw[YD,List.getElem?_append_right (XU _),Nat.sub_self];exact aX.nil _
theorem BS{U:List Value}(h:LR w U cv):∀u∈U,u.oneCell'=true:=by
 intro u s;obtain⟨i,G,rfl⟩:=ZL s;obtain⟨h1,o⟩:=h;obtain⟨z,n1,c1,A2,n2,c2,D,F,_⟩:=o (i / 2) aA;by_cases hp:i % 2=0
 . rw[show i / 2*2=i from by omega,YB G]at D;injection D with D;rw[D];rfl
 rw[show i / 2*2+1=i from by omega,YB G]at F;injection F with F;rw[F];rfl
theorem SH(h:jU (· < w.heap.size) w cA cn cc cv):∃U,LR w U cv/\∀D,cA=some D->∀j u,U[j]? = some u->w.cell? (D.add j)=some u:=by
 by_cases hn:0<cn;rotate_left
 . have o:cv=[]:=ZC (by rw[h.len];omega);subst o;exact⟨[],⟨rfl,fun k s=>absurd s aD⟩,fun D _ j u G=>by simp at G⟩
 obtain⟨b,off,e,hb,hm⟩:=h.mem hn;obtain⟨U,v1,v2⟩:=yD (w:=w) (b:=b) (off:=off) (m:=cn*2) (fun j hj=>by
  obtain⟨A1,n1,c1,A2,n2,c2,y1,y2,_⟩:=hm (j / 2) aA;by_cases hp:j % 2=0
  . exact⟨_,by rw[show off+j=off+j / 2*2 from by omega];exact y1⟩
  exact⟨_,by rw[show off+j=off+j / 2*2+1 from by omega];exact y2⟩)
 refine⟨U,⟨by rw[v1,h.len],fun k s=>?_⟩,fun D F j u G=>?_⟩
 . have z:k<cn:=by rw[<-h.len];exact s
   obtain⟨A1,n1,c1,A2,n2,c2,y1,y2,y3⟩:=hm k z;exact⟨A1,n1,c1,A2,n2,c2,(v2 (k*2) aA).symm.trans y1,(v2 (k*2+1) aA).symm.trans (by rw[<-Nat.add_assoc];exact y2),y3⟩
 rw[e]at F;injection F with F;subst F;have hj:j<cn*2:=by have:=(ZH.1 G).1;omega
 have e9:(⟨b,off,Z⟩:Addr).add j=⟨b,off+j,Z⟩:=by unfold Addr.add;split<;>simp_all
 rw[e9,v2 j hj];exact G
theorem vA{w0:aAB}{base k:Nat}{vs:List Value}(ho:w.ownsRow base 51 2 (Y A k c) k vs)(s:LR w0 vs cv)(z:ZY w0 w)(hk:k=cv.length)(hf:k<=1000000):jU (· < w.heap.size) w A k c cv:=by
 have h:=ho;obtain⟨hl,D⟩:=ho;rcases D with⟨hv,hz⟩|⟨g,cap,a0,hv,hg,hh,F,a1,a2,a3⟩
 . injection hv with G e2 U;subst G U;exact⟨hk.symm,by omega,hf,fun _=>rfl,fun hn=>absurd hn aA⟩
 injection hv with G e2 U;subst G U;refine⟨hk.symm,F,hf,fun e=>(by cases e),fun hn=>⟨g,0,rfl,(aS h rfl).2.1,fun i hi=>?_⟩⟩;obtain⟨A1,n1,c1,A2,n2,c2,y1,y2,y3⟩:=s.2 i aA;refine⟨A1,n1,c1,A2,n2,c2,?_,?_,y3.keep fun q hq=>⟨XT hq z.size,fun o=>z.cell (p:=⟨q,o,Z⟩) hq⟩⟩
 . rw[YH];exact (h.cellAt (i*2) (by have:=s.1;omega)).trans y1
 rw[YH];exact (h.cellAt (i*2+1) (by have:=s.1;omega)).trans y2
theorem NF{base n:Nat}{o:List Value}{ls:aAA}(h:w.ownsRow base 29 1 (Y A n c) n o)(hn:n=ls.length)(hf:n<=5864062014805)(hr:bD (dT base w (Y A n c)) w o ls):fG (fun q=>base<=q/\q<w.heap.size) w A n c ls:=by
 refine⟨hn.symm,hf,fun U=>?_⟩;have F:=h;obtain⟨_,D⟩:=h;rcases D with⟨_,h2⟩|⟨g,cap',a0,hv,hg,hh,_⟩
 . omega
 injection hv with e1 e2 e3;subst e1;refine⟨g,0,rfl,⟨(aS F rfl).1,(aS F rfl).2.1⟩,fun k hk=>?_⟩;obtain⟨s,n',z,hx,ht⟩:=hr.at_ k aA;refine⟨s,n',z,?_,ht.keep fun b G=>⟨⟨G.1,G.2.1⟩,fun _=>rfl⟩⟩;rw[YH,F.cellAt k aA];exact hx
theorem TG(cv:aAA)(j:Nat):cv++List.replicate j []++[[]]=cv++List.replicate (j+1) []:=by
 rw[ZU,List.replicate_succ']
def XE(cv:aAA)(w:aAB)(e:Ending)(w':aAB):Prop:=ZY w w'/\∃A n c,e=.returned (Y A n c)/\jU (· < w'.heap.size) w' A n c cv
theorem M0(cv:aAA){n:Nd}(h:n.op=4\/n.op=5)(D:i=1):eI cv n i=cv++[[]]:=by
 unfold eI aR;subst D;rw[XP (.inl ⟨h,rfl⟩)];rfl
theorem MZ(cv:aAA){n:Nd}(h:n.op=12)(D:i % 2=1):eI cv n i=cv++List.replicate n.b.toNat []:=by
 unfold eI aR;rw[XN aA,XP ⟨h,by omega⟩]
theorem IM(cv:aAA){n:Nd}(h:¬ ((n.op=4\/n.op=5)/\i=1))(F:n.op≠7)(D:¬ (n.op=12/\i % 2=1)):eI cv n i=cv:=by
 unfold eI aR;rw[XN aA,XN aA];simp
theorem FK{free:Int}{x:TT}{n:Nat}(h0:0<=free)(h1:free<=990000)(hc:jU (· < w.heap.size) w cA cn cc cv)(i2:cn<=990000)(ht:aX w A n c (aW x))(hx:bO b free x)(h7:x.1.op≠7)(hi:i<=5000):
 Calls Tryz.prog 65 #[Y cA cn cc,Y A n c,O X (i:Int)] w (XE (eI cv x.1 i) w):=by
 obtain⟨i0,i4,j4,j5,j6⟩:=info_parts IG;obtain⟨d1,d7,d8,d9⟩:=aAE i4 j4 j5 j6;clear i4 j4 j5 j6;have m1:0<n:=by rw[<-ht.len];exact iH x
 obtain⟨bs,os,rfl,i1,a1,f8,b0⟩:=ht.at_ m1;simp only[YU,YF]at a1 f8 b0;rw[show bC (aW x) 0=x.1 from rfl]at a1 f8 b0;obtain⟨vs,e7,j3⟩:=SH hc;have f9:=hc.len;have m3:vs.length=cn*2:=by rw[e7.1,f9]
 have d6:=aB e7;have d0:=aB f9;have k6:Hid (cA=Z->cn=0/\cc=0):=aB (fun e=>⟨by have:=hc.nul e;have:=hc.cap;omega,hc.nul e⟩);have g9:=aQ w (I #[] 51);have l5:Hid (∀ad,cA=some ad->∀j u,vs[j]? = some u->(w.alloc (I #[] 51)).cell? (ad.add j)=some u):=aB (fun ad ea j u hu=>by
  have h9:=j3 ad ea j u hu;rw[World.cell?_alloc_lt _ _ _ (by
   obtain⟨bb,oo,eA,c0,_⟩:=hc.mem (by
    have:=(ZH.1 hu).1;omega)
   rw[eA]at ea;injection ea with ea;subst ea;unfold Addr.add;split<;>exact c0)]
  exact h9)
 have k9:=aB (BS e7);have k7:Hid ((w.alloc (I #[] 51)).ownsRow w.heap.size 51 2 (Y (some ⟨w.heap.size,0,Z⟩) 0 0) 0 []):=aB (World.ownsRow_made w #[] 0 (XU _) (ZA _) rfl);have f1:=aB (fun (W:aAB) (h:ZY w W)=>rO (ht.below h));rw[lL hx]at f1;have HX:=aB hx;have j7:=aB g9;obtain⟨e8,c8⟩:=aAJ (eI cv x.1 i);rw[<-c8];have a9:=aB c8;have H7:=aB h7;have b7:=aB (fun (W:aAB) (h:ZY w W)=>h.cell (p:=⟨bs,os,Z⟩) i1);have e9:=aB (fun (W:aAB) (h:ZY w W)=>h.cell (p:=⟨bs,os+2,Z⟩) i1);clear c8 hc ht hx e7 j3 g9 h7 f8 f9;obtain⟨⟨xo,xa,xb⟩,a2,xk⟩:=x;simp only at a1 b0 a9 H7 f1;go_in;go_wp2_with (at_builtin;refine a8 rfl (bW (.tmp 12) (.tmp 13) 27 rfl w.heap.size 51 i0 _ 2 48 Tryz.underlying27 d1.o d7.o d8.o d9.o rfl aE (Y (some ⟨w.heap.size,0,Z⟩) 0 0) 0 [] aF k7.o cA cn cc vs aF m3 k6.o l5.o k9.o aJ aA aD ?_);intro A2 c2 w2 a5)
 have g0:Hid (ZY w w2):=aB (j7.o.grown a5.grown aD (fun g hg=>by have h9:w.heap.size=g:=(by simpa[Value.ownBlock] using hg);omega));have g4:Hid (w2.ownsRow w.heap.size 51 2 (Y A2 cn c2) cn vs):=aB (by have:=a5.own;simpa using this);clear a5;refine (f1.o w2 g0.o).mono ?_;rintro e G ⟨f5,Ak,nk,ck,ks,rfl,b2,b3⟩;have z:=bY g0 f5;have b8:=aB (bI g4.o f5);have d2:Hid (fG (· < G.heap.size) G Ak nk ck ((bH xk).map aW)):=aB (rH b2 (by have:=b3.len;have:=b2.1;omega) (by have h6:=b3.len;have h5:=b2.1;have h9:bL ((⟨xo,xa,xb⟩:Nd),a2,xk)<=4096:=HX.o.few;have h8:=uS xk;have h7:=oR xk;rw[YR]at h6;have e:bL ((⟨xo,xa,xb⟩:Nd),a2,xk)=1+a2.length+(row xk).length:=cS _ _ _;omega) b3 (fun q s=>s.2.1));have z0:=(b7.o G z.o).trans a1;have z2:=(e9.o G z.o).trans b0;have i6:nk=((bH xk).map aW).length:=by have:=b3.len;have:=b2.1;omega
 have k3:Hid (fG (fun q=>w2.heap.size<=q/\q<G.heap.size) G Ak nk ck ((bH xk).map aW)):=aB (NF b2 i6 (by have:=d2.o.few;omega) b3);have l2:Hid (∀q,(Value.slice A2 cn c2).ownBlock=some q->q<w2.heap.size):=aB (fun q e=>(aS g4.o e).2.1);clear f5 b2 b3 i6;by_cases a7:(xo=4\/xo=5)/\i=1
 . obtain⟨o4,oi⟩:=a7;have HR:Hid (e8=cv++[[]]):=aB (by rw[a9.o];exact M0 cv o4 oi);have a6:=d2.o.len;rw[YR]at a6;have m0:nk=2:=by
    obtain⟨p,q,hk⟩:=kQ HX.o.okt (by simp only;omega);simp only at hk;rw[hk]at a6;simpa using a6.symm
   subst m0;obtain⟨bb,oo,rfl,c0,hm⟩:=d2.o.mem aA;obtain⟨A1,n1,c1,e0,_⟩:=hm 0 aA;simp only[YF]at e0;have g6:Hid ((G.alloc (I #[Y A1 n1 c1,Y Z 0 0] 51)).ownsRow w.heap.size 51 2 (Y A2 cn c2) cn vs):=aB (World.ownsRow.alloc b8.o _);have f2:=aB (aT.new G 51 #[Y A1 n1 c1,Y Z 0 0]);obtain⟨d3,a4⟩:=aAC (q9 f2.o) (z.o.alloc z.o.size (I #[Y A1 n1 c1,Y Z 0 0] 51));have n4:=z.o.size;have di:((i:Int)==1)=true:=by simp[oi]
   clear hm a6 oi;rcases o4 with rfl|rfl
   . go_wp2_with (at_builtin;refine a8 rfl (bW (.tmp 33) (.tmp 38) 27 rfl w.heap.size 51 i0 _ 2 48 Tryz.underlying27 d1.o d7.o d8.o d9.o rfl aE (Y A2 cn c2) cn vs aF g6.o (some ⟨G.heap.size,0,Z⟩) 1 1 [Y A1 n1 c1,Y Z 0 0] aF rfl (fun e=>by cases e) d3.o (by simp[Value.oneCell']) aJ aA aG ?_);intro A4 c4 w4 F;have a3:Hid (ZY w w4):=aB (a4.o.grown F.grown a4.o.size (fun g hg=>(aS b8.o hg).1));have z4:=(b7.o w4 a3.o).trans a1)
     go_ret;rw[HR.o];exact⟨a3.o,A4,cn+1,c4,rfl,vA F.own (vR d6.o _ _ _) a3.o (by simp[d0.o]) aA⟩
   go_wp2_with (at_builtin;refine a8 rfl (bW (.tmp 33) (.tmp 38) 27 rfl w.heap.size 51 i0 _ 2 48 Tryz.underlying27 d1.o d7.o d8.o d9.o rfl aE (Y A2 cn c2) cn vs aF g6.o (some ⟨G.heap.size,0,Z⟩) 1 1 [Y A1 n1 c1,Y Z 0 0] aF rfl (fun e=>by cases e) d3.o (by simp[Value.oneCell']) aJ aA aG ?_);intro A4 c4 w4 F;have a3:Hid (ZY w w4):=aB (a4.o.grown F.grown a4.o.size (fun g hg=>(aS b8.o hg).1));have z4:=(b7.o w4 a3.o).trans a1)
   go_ret;rw[HR.o];exact⟨a3.o,A4,cn+1,c4,rfl,vA F.own (vR d6.o _ _ _) a3.o (by simp[d0.o]) aA⟩
 by_cases b4:xo=12/\i % 2=1
 . obtain⟨U,e3⟩:=b4;obtain⟨p1,p2,p3,p4,p5⟩:=fN HX.o.okt (by exact U);simp only at p1 p2 p3 p4 p5;obtain⟨nb,e5⟩:∃nb:Nat,xb=(nb:Int):=⟨xb.toNat,by omega⟩;have a6:=d2.o.len;rw[YR]at a6;have i7:nk=2*nb:=aA;have m9:nb<=4:=aA;have HR:Hid (e8=cv++List.replicate nb []):=aB (by rw[a9.o,MZ cv (by exact U) e3];simp only;rw[e5,YG]);have d4:(xo==4)=false:=by rw[XY];omega
   have d5:(xo==5)=false:=by rw[XY];omega
   have dp:((i:Int) % 2==1)=true:=by simp;omega
   rw[e5]at z2;have k0:=aB (fun (j:Nat) (hj:j<nb)=>(by
    have i5:=jR (x:=((⟨xo,xa,xb⟩:Nd),a2,xk)) (i:=2*j) (by simp only;omega);have h9:=HX.o.kid0 i5 (by simp only;rw[U];exact tN j);have e2:((bH xk).map aW).getD (2*j) []=aW (eM ((⟨xo,xa,xb⟩:Nd),a2,xk) (2*j)):=by
     rw[YD,List.getElem?_map,i5];rfl
    exact⟨h9,e2⟩:bO b free (eM ((⟨xo,xa,xb⟩:Nd),a2,xk) (2*j))/\((bH xk).map aW).getD (2*j) []=aW (eM ((⟨xo,xa,xb⟩:Nd),a2,xk) (2*j))))
   obtain⟨k5,g2,m6⟩:=aAF i7 i2 a1;have g3:Hid (w.cell? ⟨bs,os+2,Z⟩=some (O X (nb:Int))):=aB (by rw[b0,e5]);have n2:=aB U;subst U;clear p1 p2 p3 p4 p5 a6 i7 a7 e3 e5 d4 d5 a1 b0 i2;go_wp2_with fail;go_loopw [7,9] (fun ov iv wr=>∃(j c1:Nat)(A1:ZZ)(b5:List Value),j<=nb/\iv=O X (j:Int)/\ov=Y A1 (cn+j) c1/\Hid (wr.ownsRow w.heap.size 51 2 (Y A1 (cn+j) c1) (cn+j) b5)/\Hid (LR w b5 (cv++List.replicate j []))/\Hid (ZY w wr)/\Hid (G.heap.size<=wr.heap.size/\∀q,w2.heap.size<=q->q<G.heap.size->wr.heap[q]? = G.heap[q]?)/\Hid (∀q,(Value.slice A1 (cn+j) c1).ownBlock=some q->q<w2.heap.size\/G.heap.size<=q)) (fun _ iv _=>nb-(intOf iv).toNat)
   case atStart=>exact⟨0,c2,A2,vs,by omega,rfl,rfl,b8,aB (by rw[List.replicate_zero,YP];exact d6.o),z,aB ⟨XU _,fun q _ _=>rfl⟩,aB (fun q e=>.inl (l2.o q e))⟩
   case round =>
    clear z0 z2;obtain⟨j,c1,A1,b5,hj,rfl,rfl,f0,h4,a0,c6,i8⟩:=hrel;have m5:=(e9.o wr a0.o).trans g3.o;by_cases e4:j<nb;rotate_left
    . have e1:decide ((j:Int)<(nb:Int))=false:=XQ aA;have e2:decide (j<nb)=false:=XQ e4;obtain rfl:j=nb:=aA;clear e4 hj;go_wp2_with fail;go_ret;rw[HR.o];exact⟨a0.o,A1,cn+j,c1,rfl,vA f0.o h4.o a0.o (by simp[d0.o]) (by have:=g2.o;omega)⟩
    have e1:decide ((j:Int)<(nb:Int))=true:=XR aA;have e2:decide (j<nb)=true:=XR e4;have m4:IntKind.i64.wrap (2*(j:Int))=((2*j:Nat):Int):=by rw[XV];omega
    obtain⟨jj,c3⟩:∃jj:Nat,jj=2*j:=⟨_,rfl⟩;rw[<-c3]at m4;have l9:jj<nk:=by have:=k5.o;omega
    have m8:(jj:Int)<(nk:Int):=aA;obtain⟨bb,oo,hA,c0,hm⟩:=k3.o.mem aA;obtain⟨A5,n5,c5,e0,e6⟩:=hm jj l9;obtain⟨b1,i3⟩:=k0.o j e4;rw[c3,i3,<-c3]at e6;rw[<-c3]at b1;obtain⟨y,hy⟩:=aAJ (eM ((⟨12,xa,xb⟩:Nd),a2,xk) jj);rw[<-hy]at b1 e6;have l7:wr.cell? ⟨bb,oo+jj,Z⟩=some (Y A5 n5 c5):=(aP (c6.o.2 bb c0.1 c0.2) _).trans e0;have l4:Hid (aX wr A5 n5 c5 (aW y)):=aB (e6.keep fun q s=>⟨by have:=c6.o.1;have:=s.2;omega,fun o=>aP (c6.o.2 q s.1 s.2) o⟩);have l0:=aB (rP l4.o rfl b1);have g7:=aB (fun (W:aAB) (R':Nat->Prop) (t:iA) (f4 : ∀q,R' q->q<W.heap.size) (ht:fI R' W t y)=>qE (i:=(j:Int)) f4 ht b1 aA aA);have j1:=(tH b1 (up:=(j:Int)) aA aA).1;have g8:=aB (fun (W:aAB) (R':Nat->Prop) (t:iA) (f4 : ∀q,R' q->q<W.heap.size) (ht:fI R' W t (jD y (j:Int)))=>AR f4 ht j1);subst hA;obtain⟨uu,j2⟩:=aAJ (jD y (j:Int));rw[<-j2]at g7 g8;clear hm e0 e6 b1 i3 hy j1 j2 c3;obtain⟨⟨yo,ya,yb⟩,o0,yk⟩:=y;obtain⟨⟨uo,ua,ub⟩,n9,uk⟩:=uu;have n0:=c6.o.1;go_wp2_with fail;refine (l0.o).mono ?_;rintro e w4 ⟨f6,⟨yA,yn,yc,yB,ym,yd,yC,yp,ye⟩,rfl,j0⟩;have b9:=aQ w4 (I #[O X yo,O X ya,O X yb,Y yA yn yc,Y yB ym yd,Y yC yp ye] 85);have g1:=aB (f6.trans (b9.mono f6.size));have l6:=aB (aT.new w4 85 #[O X yo,O X ya,O X yb,Y yA yn yc,Y yB ym yd,Y yC yp ye]);have zy:=aT.cell l6.o;have l3:=aB (g7.o (w4.alloc (I #[O X yo,O X ya,O X yb,Y yA yn yc,Y yB ym yd,Y yC yp ye] 85)) (eC wr w4) ⟨yA,yn,yc,yB,ym,yd,yC,yp,ye⟩ (fun q s=>XT s.2 b9.size) (j0.keep fun q s=>⟨s,fun o=>b9.cell (p:=⟨q,o,Z⟩) s.2⟩));have k1:Hid (∀q,eC wr w4 q->q<(w4.alloc (I #[O X yo,O X ya,O X yb,Y yA yn yc,Y yB ym yd,Y yC yp ye] 85)).heap.size):=aB (fun q s=>XT s.2 b9.size);clear f6 b9 j0 m5 l7;go_wp2_with fail;refine (l3.o).mono ?_;rintro e w6 ⟨f7,⟨uA,un,uc,uB,um,ud,uC,up,ue⟩,rfl,i9⟩;have j8:=bY g1 f7;have l1:=aB (g8.o w6 _ _ (fun q s=>by
     rcases s with s|s
     . exact XT (k1.o q s) f7.size
     exact s.2) i9)
    clear f7 i9 zy;go_wp2_with fail;refine (l1.o).mono ?_;rintro e w7 ⟨h3,A7,n7,c7,rfl,m2⟩;have b6:=bY j8 h3;have g5:Hid ((w7.alloc (I #[Y A7 n7 c7,Y Z 0 0] 51)).ownsRow w.heap.size 51 2 (Y A1 (cn+j) c1) (cn+j) b5):=aB (World.ownsRow.alloc (bI f0.o b6.o) _);have f2:=aB (aT.new w7 51 #[Y A7 n7 c7,Y Z 0 0]);have d3:=aB (q9 f2.o);have a4:=aB ((a0.o.trans (b6.o.mono a0.o.size)).alloc (a0.o.trans (b6.o.mono a0.o.size)).size (I #[Y A7 n7 c7,Y Z 0 0] 51));have n8:=a0.o.size;have n6:=b6.o.size;have m7:=g2.o;have f3:Hid ((w7.alloc (I #[Y A7 n7 c7,Y Z 0 0] 51)).heap.size=w7.heap.size+1):=aB aD;clear h3 m2;go_wp2_with (at_builtin;refine a8 rfl (bW (.tmp 67) (.tmp 73) 27 rfl w.heap.size 51 i0 _ 2 48 Tryz.underlying27 d1.o d7.o d8.o d9.o rfl aE (Y A1 (cn+j) c1) (cn+j) b5 aF g5.o (some ⟨w7.heap.size,0,Z⟩) 1 1 [Y A7 n7 c7,Y Z 0 0] aF rfl (fun e=>by cases e) d3.o (by simp[Value.oneCell']) aJ aA aG ?_);intro A9 c9 w9 D)
    have k8:=aB D.own;have j9:Hid (ZY w w9):=aB (a4.o.grown D.grown a4.o.size (fun g hg=>(aS g5.o hg).1));have k2:Hid (G.heap.size<=w9.heap.size/\∀q,w2.heap.size<=q->q<G.heap.size->w9.heap[q]? = G.heap[q]?):=aB ⟨by have:=D.grown.size;have:=f3.o;omega,fun q h1 h2=>(D.grown.block q (by have:=f3.o;omega) (fun e=>by rcases i8.o q e.symm with h|h<;>omega)).trans ((Below.heap_alloc _ _ _ aA).trans ((b6.o.block q aA).trans (c6.o.2 q h1 h2)))⟩;have k4:Hid (∀q,(Value.slice A9 (cn+j+1) c9).ownBlock=some q->q<w2.heap.size\/G.heap.size<=q):=aB (fun q e=>by
     rcases D.new q e with h1|h1
     . exact i8.o q h1
     have:=f3.o;omega)
    clear D;go_roundw
    case rel=>exact⟨j+1,c9,A9,b5++[Y A7 n7 c7,Y Z 0 0],by omega,by go_num,rfl,k8,aB (by rw[<-TG];exact vR h4.o _ _ _),j9,k2,k4⟩
    case measure=>simp[intOf];omega
 have HR:Hid (e8=cv):=aB (by rw[a9.o];exact IM cv a7 H7.o b4);have HE:Hid (XE e8 w (.returned (Y A2 cn c2)) G):=aB (by rw[HR.o];exact⟨z.o,A2,cn,c2,rfl,vA b8.o d6.o z.o d0.o.symm aA⟩);by_cases o5:xo=4\/xo=5
 . have l8:i≠1:=fun e=>a7 ⟨o5,e⟩;have di:((i:Int)==1)=false:=by rw[XY];omega
   clear a7 b4 l8;rcases o5 with rfl|rfl
   . go_wp2_with fail;go_ret;exact HE.o
   go_wp2_with fail;go_ret;exact HE.o
 have d4:(xo==4)=false:=by rw[XY];omega
 have d5:(xo==5)=false:=by rw[XY];omega
 by_cases U:xo=12
 . have e3:i % 2≠1:=fun e=>b4 ⟨U,e⟩;have dp:((i:Int) % 2==1)=false:=by rw[XY];omega
   clear a7 b4 e3 o5 d4 d5;subst U;go_wp2_with fail;go_ret;exact HE.o
 have n3:(xo==12)=false:=by rw[XY];omega
 clear a7 b4 o5 U;go_wp2_with fail;go_ret;exact HE.o
end
end Go.Proofs.YtjoddliplahgkaaGreat
