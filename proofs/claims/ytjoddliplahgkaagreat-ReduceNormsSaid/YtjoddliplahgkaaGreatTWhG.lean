/- reduce: Fits, Step, run, Whnf. -/
import Derived.Test.YtjoddliplahgkaaGreatTNmA
namespace Go.Proofs.YtjoddliplahgkaaGreat
set_option linter.unusedVariables false
set_option linter.unusedSimpArgs false
open Go.RowKit
open Go.Value renaming int → O, slice → X
open Go.IntKind renaming i64 → S
open Option renaming none → Y
open Go.Lib renaming hid->aB
set_option maxHeartbeats 4000000
set_option maxRecDepth 100000
variable {b:Bk}{bs:List (List Nd×List Nd)}{l:List Nd}{c cc cn n:Nat}{A cA:ZZ}{w:aAB}{v:bR}
structure kJ (R:Nat->Prop) (w:aAB) (A:ZZ) (n c:Nat) (bs:List (List Nd×List Nd)):Prop where
 len:bs.length=n
 cap:n<=c
 few:n<=2932031007402
 nul:A=Y->c=0
 mem:0<n->∃b off,A=some ⟨b,off,Y⟩/\R b/\∀k,k<n->∃A1 n1 c1 A2 n2 c2,w.cell? ⟨b,off+k*2,Y⟩=some (X A1 n1 c1)/\w.cell? ⟨b,off+k*2+1,Y⟩=some (X A2 n2 c2)/\bF R w A1 n1 c1 (bs.getD k ([],[])).1/\bF R w A2 n2 c2 (bs.getD k ([],[])).2
theorem kJ.keep{R R':Nat->Prop}{w':aAB}(h:kJ R w A n c bs)(hR:∀b,R b->R' b/\∀o,w'.cell? ⟨b,o,Y⟩=w.cell? ⟨b,o,Y⟩):kJ R' w' A n c bs :=
 ⟨h.len,h.cap,h.few,h.nul,fun hn=>by
  obtain⟨b,off,e,D,hm⟩:=h.mem hn;refine⟨b,off,e,(hR b D).1,fun k z=>?_⟩;obtain⟨F,n1,c1,G,n2,c2,I,U,Z,s⟩:=hm k z;exact⟨F,n1,c1,G,n2,c2,((hR b D).2 _).trans I,((hR b D).2 _).trans U,Z.keep hR,s.keep hR⟩⟩
theorem kJ.below{w':aAB}(h:kJ (· < w.heap.size) w A n c bs)(D:ZY w w'):kJ (· < w'.heap.size) w' A n c bs:=h.keep fun q F=>⟨XT F D.size,fun o=>D.cell (p:=⟨q,o,Y⟩) F⟩
theorem kJ.vals{R:Nat->Prop}(h:kJ R w A n c bs)(hn:n<=1000000):jU R w A n c (bs.map (·.2)) :=
 ⟨by rw[YR];exact h.len,h.cap,hn,h.nul,fun hp=>by
  obtain⟨b,off,e,s,hm⟩:=h.mem hp;refine⟨b,off,e,s,fun k D=>?_⟩;obtain⟨F,n1,c1,G,n2,c2,U,Z,h3,o⟩:=hm k D;refine⟨F,n1,c1,G,n2,c2,U,Z,?_⟩;have z:k<bs.length:=by rw[h.len];exact D
  have I:(bs.map (·.2)).getD k []=(bs.getD k ([],[])).2:=by
   rw[YD,YD,List.getElem?_map,YB z];rfl
  rw[I];exact o⟩
def gD(b:Bk):Nat->List (List Nd×List Nd)->Int
 | _,[]=>0
 | i,x::r=>if fK b i x.1≠0 then fK b i x.1 else if x.2.length=0 then gD b (i+1) r else if fK b i x.2≠0 then fK b i x.2 else gD b (i+1) r
def iB(b:Bk)(bs:List (List Nd×List Nd))(l:List Nd):Int:=if bU b≠0 then bU b else if 256<bs.length then 5 else if gD b 0 bs≠0 then gD b 0 bs else fK b bs.length l
abbrev zO(bs:List (List Nd×List Nd)):List (List Nd):=bs.map (·.2)
theorem CB{b:Bk}:∀(bs:List (List Nd×List Nd))(i:Nat),gD b i bs=0->∀k,k<bs.length->((zO bs).getD k []=[]\/fK b ((i+k:Nat):Int) ((zO bs).getD k [])=0)/\fK b ((i+k:Nat):Int) (bs.getD k ([],[])).1=0
 | [],_,_,k,hk=>absurd hk aD
 | x::r,i,h,k,hk=>by
  simp only[gD]at h;split at h
  . rename_i F;exact absurd h F
  rename_i F
  have D:fK b i x.1=0:=by simpa using F
  split at h
  . rename_i U
    cases k with
    | zero=>exact⟨.inl (by simpa using U),by simpa using D⟩
    | succ k =>
     have:=CB r (i+1) h k (by simpa using hk);rw[show i+1+k=i+(k+1) from by omega]at this;simpa using this
  . rename_i U
    split at h
    . rename_i G;exact absurd h G
    rename_i G
    have I:fK b i x.2=0:=by simpa using G
    cases k with
    | zero=>exact⟨.inr (by simpa using I),by simpa using D⟩
    | succ k =>
     have:=CB r (i+1) h k (by simpa using hk);rw[show i+1+k=i+(k+1) from by omega]at this;simpa using this
theorem sI(h:iB b bs l=0):bU b=0/\bs.length<=256/\gG b (zO bs)/\l=aW (cT l)/\bO b ((zO bs).length:Int) (cT l):=by
 unfold iB at h;split at h
 . rename_i F;exact absurd h F
 rename_i F
 split at h
 . cases h
 rename_i z
 split at h
 . rename_i G;exact absurd h G
 rename_i G
 obtain⟨U,Z⟩:=IC h;refine⟨by simpa using F,by omega,⟨by rw[YR];omega,fun k I=>?_⟩,U,by rw[YR];exact Z⟩;rw[YR]at I;rcases (CB bs 0 (by simpa using G) k I).1 with D|D
 . exact .inl D
 rw[YH]at D;obtain⟨o,s⟩:=IC D;exact .inr ⟨_,o,s⟩
theorem AM(hb:cE w v b)(hc:kJ (· < w.heap.size) w cA cn cc bs)(ht:aX w A n c l):
 Calls Tryz.prog 11 #[.agg #[O S b.vars,X v.Ao v.no v.co,X v.Ae v.ne v.ce,O S b.nat,X v.Ap v.np v.cp],X cA cn cc,X A n c] w (iV (iB b bs l) w):=by
 obtain⟨w1,b5⟩:=aAJ (w.alloc (.cells #[O S b.vars,X v.Ao v.no v.co,X v.Ae v.ne v.ce,O S b.nat,X v.Ap v.np v.cp] 26));have a2:ZY w w1:=by rw[b5];exact aQ _ _
 have c9:aT w1 w.heap.size 26 #[O S b.vars,X v.Ao v.no v.co,X v.Ae v.ne v.ce,O S b.nat,X v.Ap v.np v.cp]:=by rw[b5];exact aT.new _ _ _
 obtain⟨b3,c5,HT,HC,I⟩:=aAD (AN (hb.below a2)) (fun (W:aAB) (hB:ZY w1 W) (free:Int) (A':ZZ) (n' c':Nat) (l':List Nd) (h:aX W A' n' c' l')=>PE ((hb.below a2).below hB) free h) (ht.below a2) (hc.below a2) a2;have b0:=hc.len;have e6:=hc.few;obtain⟨a1,s⟩:=aAJ (iB b bs l);rw[<-s];unfold iB at s;rw[b0]at s;obtain⟨a6,b8⟩:=aAC s b0;have d8:w.heap.size<w1.heap.size:=c9.lt;have z1:=c9.cell;clear hb hc ht a2 c9 s b0;obtain⟨re,e0⟩:=aAJ (bU b);rw[<-e0]at b3 a6;clear e0;go_in;go_upto_region 1 with fail
 rw[<-b5];clear b5;by_cases h0:re=0;rotate_left
 . have d0:(re != 0)=true:=by simpa using h0
   have HR:Hid (a1=re):=aB (by rw[a6.o,XP h0]);clear h0;go_wp2_with fail;refine (b3.o).mono ?_;rintro e w2 ⟨rfl,Z⟩;have a3:=bY I Z;clear Z;go_wp2_with fail;go_ret;rw[HR.o];exact⟨rfl,a3.o⟩
 subst h0;have a7:Hid (a1=if 256<cn then 5 else if gD b 0 bs≠0 then gD b 0 bs else fK b cn l):=aB (by have h:=a6.o;rw[XN aD]at h;exact h);by_cases h1:256<cn
 . have d1:decide ((cn:Int)>256)=true:=XR aA;have HR:Hid (a1=5):=aB (by rw[a7.o,XP h1]);clear h1;go_wp2_with fail;refine (b3.o).mono ?_;rintro e w2 ⟨rfl,Z⟩;have a3:=bY I Z;clear Z;go_wp2_with fail;go_ret;rw[HR.o];exact⟨rfl,a3.o⟩
 have d1:decide ((cn:Int)>256)=false:=XQ aA;have a0:Hid (a1=if gD b 0 bs≠0 then gD b 0 bs else fK b cn l):=aB (by have h:=a7.o;rw[XN h1]at h;exact h);clear h1;go_wp2_with fail;refine (b3.o).mono ?_;rintro e w2 ⟨rfl,Z⟩;have a3:=aB Z;clear Z;go_wp2_with fail;go_loopw [22] (fun iv wr=>∃i:Nat,i<=cn/\iv=O S (i:Int)/\Hid (gD b 0 bs=gD b i (bs.drop i))/\Hid (ZY w1 wr)) (fun iv _=>cn-(intOf iv).toNat)
 case atStart=>exact⟨0,by omega,rfl,aB rfl,a3⟩
 case round =>
  obtain⟨i,hi,rfl,b4,G⟩:=hrel;have zr:=fun k=>(G.o.cell (p:=⟨w.heap.size,k,Y⟩) d8).trans (z1 k);have e5:w.heap.size<wr.heap.size:=XT d8 G.o.size;by_cases b1:i<cn;rotate_left
  . have e1:decide ((i:Int)<(cn:Int))=false:=XQ aA;have e2:decide (i<cn)=false:=XQ b1;have HR:Hid (a1=fK b cn l):=aB (by
     have h:=b4.o;rw[YY (by rw[b8.o];omega)]at h;have h2:gD b 0 bs=0:=h;rw[a0.o,h2,XN aD])
    have d3:=aB (c5.o wr G.o cn A n c l (HT.o.below G.o));have c0:=aB G.o;rw[<-HR.o]at d3;clear b4 G b1;go_wp2_with fail;refine (d3.o).mono ?_;rintro e w3 ⟨rfl,D⟩;have F:Hid (ZY w w3):=aB ((I.o.trans (c0.o.mono I.o.size)).trans (D.mono (by have:=I.o.size;have:=c0.o.size;omega)));clear D;go_wp2_with fail;go_ret;exact⟨rfl,F.o⟩
  have e1:decide ((i:Int)<(cn:Int))=true:=XR aA;have e2:decide (i<cn)=true:=XR b1;have e3:(i:Int)<(cn:Int):=aA;obtain⟨bb,oo,e4,d4,hm⟩:=HC.o.mem aA;obtain⟨A1,n1,c1,A2,n2,c2,y1,y2,t1,t2⟩:=hm i b1;have il:i<bs.length:=by rw[b8.o];exact b1
  have d6:bs.drop i=bs.getD i ([],[])::bs.drop (i+1):=by
   rw[YX il,YD,YB il];rfl
  generalize bs.getD i ([],[])=x at *;have d9:x.2.length=n2:=t2.len;have a9:=b4.o;rw[d6]at a9;simp only[gD]at a9;rw[d9]at a9;have c3:=aB a9;obtain⟨f1,c7⟩:=aAJ (fK b i x.1);obtain⟨f2,c8⟩:=aAJ (fK b i x.2);rw[<-c7,<-c8]at c3;have u1:=(G.o.cell (p:=⟨bb,oo+i*2,Y⟩) d4).trans y1;have u2:=(G.o.cell (p:=⟨bb,oo+i*2+1,Y⟩) d4).trans y2;obtain⟨c0,z⟩:=aAC G.o (aT.new wr 51 #[X A1 n1 c1,X A2 n2 c2]);have U:Hid (ZY w1 (wr.alloc (.cells #[X A1 n1 c1,X A2 n2 c2] 51))):=aB (G.o.alloc G.o.size _);obtain⟨a4,c4⟩:=aAC (c5.o _ U.o i A1 n1 c1 x.1 (bF.keep t1 (R':=(· < (wr.alloc (.cells #[X A1 n1 c1,X A2 n2 c2] 51)).heap.size)) fun q hq=>⟨XT hq U.o.size,fun o=>U.o.cell (p:=⟨q,o,Y⟩) hq⟩)) (fun (W:aAB) (hB:ZY w1 W)=>c5.o W hB i A2 n2 c2 x.2 (bF.keep t2 (R':=(· < W.heap.size)) fun q hq=>⟨XT hq hB.size,fun o=>hB.cell (p:=⟨q,o,Y⟩) hq⟩));rw[<-c7]at a4;rw[<-c8]at c4;have za:=z.o.cell;have b2:=fun k=>((aQ wr (.cells #[X A1 n1 c1,X A2 n2 c2] 51)).cell (p:=⟨w.heap.size,k,Y⟩) e5).trans (zr k);clear b4 G hm y1 y2 t1 t2 d6 a9 c7 c8 d9 il z1;subst e4;by_cases g1:f1=0;rotate_left
  . have d5:(f1 != 0)=true:=by simpa using g1
    have HR:Hid (a1=f1):=aB (by have h:=c3.o;rw[XP g1]at h;rw[a0.o,h,XP g1]);clear g1;go_wp2_with fail;refine (a4.o).mono ?_;rintro e w3 ⟨rfl,D⟩;have F:Hid (ZY w w3):=aB ((I.o.trans (U.o.mono I.o.size)).trans (D.mono (by have:=I.o.size;have:=U.o.size;omega)));clear D;go_wp2_with fail;go_ret;rw[HR.o];exact⟨rfl,F.o⟩
  have b6:Hid (gD b 0 bs=if n2=0 then gD b (i+1) (bs.drop (i+1)) else if f2≠0 then f2 else gD b (i+1) (bs.drop (i+1))):=aB (by have h:=c3.o;rw[XN (by simpa using g1)]at h;exact h);subst g1;by_cases g2:n2=0
  . have d5:((n2:Int)==0)=true:=by simpa using g2
    have c6:Hid (gD b 0 bs=gD b (i+1) (bs.drop (i+1))):=aB (by have h:=b6.o;rw[XP g2]at h;exact h);clear g2;go_wp2_with fail;refine (a4.o).mono ?_;rintro e w3 ⟨rfl,D⟩;have F:Hid (ZY w1 w3):=bY U D;have a5:=aB (z.o.below D z.o.lt);have z3:=a5.o.cell;clear D za b2 u1 u2;go_wp2_with fail;go_roundw
    case rel=>exact⟨i+1,by omega,by go_num,c6,F⟩
    case measure=>simp[intOf];omega
  have d5:((n2:Int)==0)=false:=by simpa using g2
  have b7:Hid (gD b 0 bs=if f2≠0 then f2 else gD b (i+1) (bs.drop (i+1))):=aB (by have h:=b6.o;rw[XN g2]at h;exact h);clear g2;by_cases g3:f2=0;rotate_left
  . have d7:(f2 != 0)=true:=by simpa using g3
    have HR:Hid (a1=f2):=aB (by have h:=b7.o;rw[XP g3]at h;rw[a0.o,h,XP g3]);clear g3;go_wp2_with fail;refine (a4.o).mono ?_;rintro e w3 ⟨rfl,D⟩;have F:Hid (ZY w1 w3):=bY U D;have a5:=aB (z.o.below D z.o.lt);have z3:=a5.o.cell;have d2:=fun k=>(D.cell (p:=⟨w.heap.size,k,Y⟩) aG).trans (b2 k);clear D za b2 u1 u2;go_wp2_with fail;refine (c4.o w3 F.o).mono ?_;rintro e w4 ⟨rfl,a8⟩;have b9:Hid (ZY w w4):=aB ((I.o.trans (F.o.mono I.o.size)).trans (a8.mono (by have:=I.o.size;have:=F.o.size;omega)));clear a8 z3 d2;go_wp2_with fail;go_ret;rw[HR.o];exact⟨rfl,b9.o⟩
  have c6:Hid (gD b 0 bs=gD b (i+1) (bs.drop (i+1))):=aB (by have h:=b7.o;rw[XN (by simpa using g3)]at h;exact h);subst g3;go_wp2_with fail;refine (a4.o).mono ?_;rintro e w3 ⟨rfl,D⟩;have F:Hid (ZY w1 w3):=bY U D;have a5:=aB (z.o.below D z.o.lt);have z3:=a5.o.cell;have d2:=fun k=>(D.cell (p:=⟨w.heap.size,k,Y⟩) aG).trans (b2 k);clear D za b2 u1 u2;go_wp2_with fail;refine (c4.o w3 F.o).mono ?_;rintro e w4 ⟨rfl,a8⟩;have b9:Hid (ZY w1 w4):=bY F a8;clear a8 z3 d2;go_wp2_with fail;go_roundw
  case rel=>exact⟨i+1,by omega,by go_num,c6,b9⟩
  case measure=>simp[intOf];omega
def xW(b:Bk)(bs:List (List Nd×List Nd))(l:List Nd):List Nd×Bool×Int:=if iB b bs l≠0 then ([],false,iB b bs l) else match qJ b (zO bs) (bL (cT l)+1) (bX (cT l)) 4096 with
 | .no=>([],false,0)
 | .big=>([],false,9)
 | .yes y=>(aW (gA y),true,0)
def T1(q:List Nd×Bool×Int)(w:aAB)(e:Ending)(w':aAB):Prop:=ZY w w'/\∃A n c,e=.returned (.tuple #[X A n c,.bool q.2.1,O S q.2.2])/\bK w' w.heap.size (X A n c) q.1
theorem oB(w:aAB)(base:Nat):bK w base (X Y 0 0) []:=bK.nil _ _
theorem NS(hb:cE w v b)(hc:kJ (· < w.heap.size) w cA cn cc bs)(ht:aX w A n c l):
 Calls Tryz.prog 9 #[.agg #[O S b.vars,X v.Ao v.no v.co,X v.Ae v.ne v.ce,O S b.nat,X v.Ap v.np v.cp],X cA cn cc,X A n c] w (T1 (xW b bs l) w):=by
 obtain⟨w1,I⟩:=aAJ (w.alloc (.cells #[O S b.vars,X v.Ao v.no v.co,X v.Ae v.ne v.ce,O S b.nat,X v.Ap v.np v.cp] 26));have F:ZY w w1:=by rw[I];exact aQ _ _
 have U:aT w1 w.heap.size 26 #[O S b.vars,X v.Ao v.no v.co,X v.Ae v.ne v.ce,O S b.nat,X v.Ap v.np v.cp]:=by rw[I];exact aT.new _ _ _
 obtain⟨Z,a0⟩:=aAC (AM (hb.below F) (hc.below F) (ht.below F)) F;have a3:w.heap.size<w1.heap.size:=U.lt;have z1:=U.cell;obtain⟨z,hz⟩:=aAJ (iB b bs l);rw[<-hz]at Z;by_cases h0:z=0;rotate_left
 . have d0:(z != 0)=true:=by simpa using h0
   have HQ:Hid (xW b bs l=([],false,z)):=aB (by unfold xW;rw[<-hz,XP h0]);clear h0 hz hb hc ht F U;go_in;go_upto_region 1 with fail
   rw[<-I];clear I;go_wp2_with fail;refine (Z.o).mono ?_;rintro e w2 ⟨rfl,G⟩;have D:=bY a0 G;clear G;go_wp2_with fail;go_ret3
   rw[HQ.o];exact⟨D.o,Y,0,0,rfl,oB _ _⟩
 subst h0;obtain⟨q1,q2,q3,q4,q5⟩:=sI hz.symm;have a4:cn<=256:=by have:=hc.len;omega
 have HQ:Hid (xW b bs l=match qJ b (zO bs) (bL (cT l)+1) (bX (cT l)) 4096 with
 | .no=>([],false,0)
 | .big=>([],false,9)
 | .yes y=>(aW (gA y),true,0)):=aB (by unfold xW;rw[<-hz,XN aD])
 have a1:=aB (fun (W:aAB) (hB:ZY w W)=>BX (w:=W) q1 (hb.below hB) q3 (by have:=q3.few;omega) ((hc.below hB).vals aA) (by rw[<-q4];exact ht.below hB) q5);generalize qJ b (zO bs) (bL (cT l)+1) (bX (cT l)) 4096=r at HQ a1;clear hz hb hc ht F U q1 q3 q4 q5;go_in;go_upto_region 1 with fail
 rw[<-I];clear I;go_wp2_with fail;refine (Z.o).mono ?_;rintro e w2 ⟨rfl,G⟩;have D:=bY a0 G;have z2:=fun i=>(G.cell (p:=⟨w.heap.size,i,Y⟩) a3).trans (z1 i);clear G;go_wp2_with fail;refine (a1.o w2 D.o).mono ?_;rintro e w3 ⟨a2,h3⟩;have HP:∃(s:ZZ)(n' c':Nat)(is:Bool)(z:Int),e=.returned (.tuple #[X s n' c',.bool is,O S z])/\Hid (T1 (xW b bs l) w (.returned (.tuple #[X s n' c',.bool is,O S z])) w3):=by
  have h:ZY w w3:=D.o.trans (a2.mono D.o.size);rw[HQ.o];rcases h3 with⟨hr,he⟩|⟨hr,he⟩|⟨y,hr,s,n',c',he,ho⟩
  . subst hr;exact⟨_,_,_,_,_,he,aB ⟨h,Y,0,0,rfl,oB _ _⟩⟩
  . subst hr;exact⟨_,_,_,_,_,he,aB ⟨h,Y,0,0,rfl,oB _ _⟩⟩
  subst hr;exact⟨_,_,_,_,_,he,aB ⟨h,s,n',c',rfl,gN ho D.o.size⟩⟩
 obtain⟨s,n',c',is,z,rfl,HP⟩:=HP;clear h3 a2 z2;go_wp2_with fail;go_ret3
 exact HP.o
def uN(z:Int)(r:RQ):List Nd×Int×Int:=if z≠0 then ([],0,z) else match r with
 | .bad z=>([],0,z)
 | .done l k=>(l,(k:Int),0)
def RY(q:List Nd×Int×Int)(w:aAB)(e:Ending)(w':aAB):Prop:=ZY w w'/\∃A n c,e=.returned (.tuple #[X A n c,O S q.2.1,O S q.2.2])/\bK w' w.heap.size (X A n c) q.1
theorem FQ(hb:cE w v b)(hc:kJ (· < w.heap.size) w cA cn cc bs)(ht:aX w A n c l)(fuel:Int){fid:FuncId}{r:RQ}(a5:∀(args:Array Value)(w:aAB),(callFunc fid args).run Tryz.prog w=.ok (.enter fid args) w)
 (D:iB b bs l=0->∀(W:aAB),ZY w W->Calls Tryz.prog fid #[.agg #[O S b.vars,X v.Ao v.no v.co,X v.Ae v.ne v.ce,O S b.nat,X v.Ap v.np v.cp],X cA cn cc,X A n c,O S fuel] W (sA r W)) :
 Calls Tryz.prog 31 #[.func (.func fid) #[] #[],.agg #[O S b.vars,X v.Ao v.no v.co,X v.Ae v.ne v.ce,O S b.nat,X v.Ap v.np v.cp],X cA cn cc,X A n c,O S fuel] w (RY (uN (iB b bs l) r) w):=by
 obtain⟨w1,U⟩:=aAJ (w.alloc (.cells #[O S b.vars,X v.Ao v.no v.co,X v.Ae v.ne v.ce,O S b.nat,X v.Ap v.np v.cp] 26));have G:ZY w w1:=by rw[U];exact aQ _ _
 have Z:aT w1 w.heap.size 26 #[O S b.vars,X v.Ao v.no v.co,X v.Ae v.ne v.ce,O S b.nat,X v.Ap v.np v.cp]:=by rw[U];exact aT.new _ _ _
 obtain⟨h,a0⟩:=aAC (AM (hb.below G) (hc.below G) (ht.below G)) G;have a4:w.heap.size<w1.heap.size:=Z.lt;have z1:=Z.cell;obtain⟨z,hz⟩:=aAJ (iB b bs l);rw[<-hz]at h D ⊢;by_cases h0:z=0;rotate_left
 . have d0:(z != 0)=true:=by simpa using h0
   have HQ:Hid (uN z r=([],0,z)):=aB (by unfold uN;rw[XP h0]);clear h0 hz hb hc ht G Z D;go_in;go_upto_region 1 with fail
   rw[<-U];clear U;go_wp2_with fail;refine (h.o).mono ?_;rintro e w2 ⟨rfl,I⟩;have F:=bY a0 I;clear I;go_wp2_with fail;go_ret3
   rw[HQ.o];exact⟨F.o,Y,0,0,rfl,oB _ _⟩
 subst h0;have a3:=aB (D rfl);clear hz hb hc ht G Z D;go_in;go_upto_region 1 with fail
 rw[<-U];clear U;go_wp2_with fail;refine (h.o).mono ?_;rintro e w2 ⟨rfl,I⟩;have F:=bY a0 I;have z2:=fun i=>(I.cell (p:=⟨w.heap.size,i,Y⟩) a4).trans (z1 i);clear I;go_wp2_with fail;refine (a3.o w2 F.o).mono ?_;rintro e w3 ⟨a1,h3⟩;have HP:∃(s:ZZ)(n' c':Nat)(k:Int)(z:Int),e=.returned (.tuple #[X s n' c',O S k,O S z])/\Hid (RY (uN 0 r) w (.returned (.tuple #[X s n' c',O S k,O S z])) w3):=by
  have a2:ZY w w3:=F.o.trans (a1.mono F.o.size);unfold uN;rw[XN aD];rcases h3 with⟨z,hr,he⟩|⟨l,k,s,n',c',hr,he,ho⟩
  . subst hr;exact⟨_,_,_,_,_,he,aB ⟨a2,Y,0,0,rfl,oB _ _⟩⟩
  subst hr;exact⟨_,_,_,_,_,he,aB ⟨a2,s,n',c',rfl,gN ho F.o.size⟩⟩
 obtain⟨s,n',c',k,z,rfl,HP⟩:=HP;clear h3 a1 z2;go_wp2_with fail;go_ret3
 exact HP.o
def RP(b:Bk)(bs:List (List Nd×List Nd))(l:List Nd)(fuel:Int):List Nd×Int×Int:=uN (iB b bs l) (TU b (zO bs) (cT l) (eR fuel))
theorem NU(hb:cE w v b)(h:kJ (· < w.heap.size) w cA cn cc bs)(ht:aX w A n c l)(fuel:Int):
 Calls Tryz.prog 14 #[.agg #[O S b.vars,X v.Ao v.no v.co,X v.Ae v.ne v.ce,O S b.nat,X v.Ap v.np v.cp],X cA cn cc,X A n c,O S fuel] w (RY (RP b bs l fuel) w):=by
 obtain⟨w1,F⟩:=aAJ (w.alloc (.cells #[O S b.vars,X v.Ao v.no v.co,X v.Ae v.ne v.ce,O S b.nat,X v.Ap v.np v.cp] 26));have D:ZY w w1:=by rw[F];exact aQ _ _
 have Z:aT w1 w.heap.size 26 #[O S b.vars,X v.Ao v.no v.co,X v.Ae v.ne v.ce,O S b.nat,X v.Ap v.np v.cp]:=by rw[F];exact aT.new _ _ _
 have z:=aB (FQ (hb.below D) (h.below D) (ht.below D) fuel (fid:=32) (r:=TU b (zO bs) (cT l) (eR fuel)) (fun _ _=>by kernel_rfl) (fun h0 W hB=>by
  obtain⟨q1,q2,q3,q4,q5⟩:=sI h0;have a0:cn<=256:=by have:=h.len;omega
  have G:=D.trans (hB.mono D.size);exact BY (w:=W) q1 (hb.below G) q3 (by have:=q3.few;omega) ((h.below G).vals aA) (by rw[<-q4];exact ht.below G) q5 fuel))
 have I:=aB D;have z1:=Z.cell;unfold RP;generalize uN (iB b bs l) (TU b (zO bs) (cT l) (eR fuel))=q at *;clear hb h ht D Z;go_in;go_upto_region 1 with fail
 rw[<-F];clear F;go_wp2_with fail;refine (z.o).mono ?_;rintro e w2 ⟨U,A',n',c',rfl,ho⟩;have s:=bY I U;have HO:=aB (gN ho I.o.size);clear U ho;go_wp2_with fail;go_ret3
 exact⟨s.o,A',n',c',rfl,HO.o⟩
end Go.Proofs.YtjoddliplahgkaaGreat
