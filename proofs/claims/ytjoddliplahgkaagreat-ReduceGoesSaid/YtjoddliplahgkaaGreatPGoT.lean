/- Merged: GoS, GoT. -/
import Derived.Test.YtjoddliplahgkaaGreatPGoN2
import Derived.Test.YtjoddliplahgkaaGreatPGoL
import Derived.Test.YtjoddliplahgkaaGreatPGoM
import Derived.Test.YtjoddliplahgkaaGreatPRvR
namespace Go.Proofs.YtjoddliplahgkaaGreat
set_option linter.unusedVariables false
set_option linter.unusedSimpArgs false
open Go.RowKit
open Go.Value renaming int → O, slice → Y
open Go.IntKind renaming i64 → X
open Go.Obj renaming cells → Z
open Option renaming none → I
section
open Go.Lib renaming hid->aB
set_option maxHeartbeats 4000000
set_option maxRecDepth 100000
theorem zX {v:bO} {b:Bk} (w0:World) {cA:Option Addr} {cn cc:Nat} {cv:List (List Nd)} (hr:bP b=0) (hcx:fR b cv) : ∀gas,KU v b w0 cA cn cc cv gas
 | 0=>fun _ _ _ _ _ _ _ _ _ h=>absurd h aA
 | gas+1=>fun w R t x hbk hctx hR ht hx hsz=>by
  have IH:=zX (v:=v) (cA:=cA) (cn:=cn) (cc:=cc) w0 hr hcx gas;by_cases h1:(bU x).1.1.op=1
  · exact PO hr hcx IH hbk hctx hR ht hx hsz h1
  by_cases h5:(bU x).1.1.op=5
  · by_cases hl:(bU x).2.length=0
    · exact M8 hr hcx IH hbk hctx hR ht hx hsz ⟨h5,hl⟩
    exact PM hr hcx IH hbk hctx hR ht hx hsz ⟨h5,by omega⟩
  by_cases h7:(bU x).1.1.op=7
  · exact PN hr hcx IH hbk hctx hR ht hx hsz h7
  by_cases h8:(bU x).1.1.op=8
  · exact J3 hr hcx IH hbk hctx hR ht hx hsz h8
  by_cases h11:(bU x).1.1.op=11
  · cases hf:eS b (bU x).1.1 (bU (eQ (bU x).1 1)) with
    | true=>exact FO hr hcx IH hbk hctx hR ht hx hsz ⟨h11,hf,trivial⟩
    | false=>exact FN hr hcx IH hbk hctx hR ht hx hsz ⟨h11,hf,trivial⟩
  by_cases h12:(bU x).1.1.op=12
  · by_cases hp:(dA (bU x).1).toNat<(bU x).2.length
    · by_cases h10:(bU ((bU x).2.getD (dA (bU x).1).toNat (default,[],.nil))).1.1.op=10
      · exact M7 hr hcx IH hbk hctx hR ht hx hsz ⟨h12,hp,h10⟩
      exact M6 hr hcx IH hbk hctx hR ht hx hsz ⟨h12,hp,h10⟩
    exact M5 hr hcx IH hbk hctx hR ht hx hsz ⟨h12,hp⟩
  exact J4 hr hcx IH hbk hctx hR ht hx hsz ⟨h1,h5,h7,h8,h11,h12⟩
theorem xP {b:Bk} {free:Int} {w:World} {R:Nat->Prop} {t:iE} {x:TT} (hR:∀q,R q->q<w.heap.size) (ht:dX R w t x) (hx:bR b free x):Calls Tryz.prog 47 #[.agg (bH t x.1)] w (lL (aW x) w):=by
 have e:row (.cons [] x.1 x.2.1 x.2.2 .nil)=aW x:=by simp[row,aW]
 have h:=NB hR ht (xD hx.okt.wf) (by rw[e];have h1:(aW x).length=bI x:=rfl;have:=hx.few;omega);rw[e] at h;exact h
def RZ (q:List Nd×Bool×Int) (w:World) (e:Ending) (w':World):Prop:=Below w.heap.size w w'/\∃A n c,e=.returned (.tuple #[Y A n c,.bool q.2.1,O X q.2.2])/\aY w' A n c q.1
def kE:s9->List Nd×Bool×Int
 | .no=>([],false,0)
 | .bad=>([],true,9)
 | .yes y=>if 4096<bI y then ([],true,9) else (aW y,true,0)
theorem zC {b:Bk} {cv:List (List Nd)} (hr:bP b=0) (hc:fR b cv) {g:Nat} {x y:TT} (hx:bR b (cv.length:Int) x) (h:iF b cv g (bU x)=.yes y):bI y<=100000/\(bI y<=4096->bR b (cv.length:Int) y):=by
 obtain⟨h1,h2⟩:=zB hr hc g (bU x) y (kI hx) h;have h3:=dJ hx;have h4:bI x<=4096:=hx.few;exact⟨by omega,h2⟩
theorem FK {w:World} {v:bO} {b:Bk} (hr:bP b=0) (hb:bX w v b) {cA:Option Addr} {cn cc:Nat} {cv:List (List Nd)} (hcx:fR b cv) (hc:jI (· < w.heap.size) w cA cn cc cv) {A:Option Addr} {n c:Nat} {x:TT} (ht:aY w A n c (aW x)) (hx:bR b (cv.length:Int) x) :
 Calls Tryz.prog 26 #[.agg #[O X b.vars,Y v.Ao v.no v.co,Y v.Ae v.ne v.ce,O X b.nat,Y v.Ap v.np v.cp],Y cA cn cc,Y A n c] w (RZ (kE (iF b cv (bI x+1) (bU x))) w):=by
 obtain⟨w1,a4⟩ : ∃w1:World,w1=w.alloc (Z #[O X b.vars,Y v.Ao v.no v.co,Y v.Ae v.ne v.ce,O X b.nat,Y v.Ap v.np v.cp] 26):=⟨_,rfl⟩;have a9:Below w.heap.size w w1:=by rw[a4];exact aP _ _
 have c4:aS w1 w.heap.size 26 #[O X b.vars,Y v.Ao v.no v.co,Y v.Ae v.ne v.ce,O X b.nat,Y v.Ap v.np v.cp]:=by rw[a4];exact aS.new _ _ _
 have d2:=aB (sT (b:=b) (ht.below a9) rfl hx);have b6:=aB (fun (W:World) (h:Below w.heap.size w W) (R:Nat->Prop) (t:iE) (hR:∀q,R q->q<W.heap.size) (htr:dX R W t x)=>zX w1 hr hcx (bI x+1) W R t x (hb.below h) (lR hc h) hR htr hx (Nat.lt_succ_self _));have c6:=aB (fun y h=>zC (y:=y) hr hcx (g:=bI x+1) hx h);obtain⟨r,c3⟩ : ∃r,r=iF b cv (bI x+1) (bU x):=⟨_,rfl⟩;rw[<-c3] at b6 c6 ⊢;have d4:=aB a9;have d3:=aB c4;clear hr hb hcx hc ht hx a9 c4 c3;obtain⟨⟨xo,xa,xb⟩,xat,xk⟩:=x;go_in;go_upto_region 1 with fail
 rw[<-a4];clear a4;go_wp2_with fail;refine (d2.o).mono ?_;rintro e w2 ⟨a3,⟨xA,xn,xc,xB,xm,xd,xC,xp,xe⟩,rfl,c1⟩;have a2:=aP w2 (Z #[O X xo,O X xa,O X xb,Y xA xn xc,Y xB xm xd,Y xC xp xe] 85);have b8:=aB (d4.o.trans ((a3.trans (a2.mono a3.size)).mono d4.o.size));have d7:=aB (d3.o.below (a3.trans (a2.mono a3.size)) d3.o.lt);have d5:=aB (aS.new w2 85 #[O X xo,O X xa,O X xb,Y xA xn xc,Y xB xm xd,Y xC xp xe]);have c9:=aB (b6.o _ b8.o (fJ w1 w2) _ (fun q hq=>Nat.lt_of_lt_of_le hq.2 a2.size) (c1.keep fun q hq=>⟨hq,fun o=>a2.cell (p:=⟨q,o,I⟩) hq.2⟩));have d8:Hid (∀q,fJ w1 w2 q->q<(w2.alloc (Z #[O X xo,O X xa,O X xb,Y xA xn xc,Y xB xm xd,Y xC xp xe] 85)).heap.size):=aB (fun q hq=>Nat.lt_of_lt_of_le hq.2 a2.size);clear a3 a2 c1 d2;have zk:=aS.cell d7.o;have zx:=aS.cell d5.o;go_wp2_with fail;refine (c9.o).mono ?_;rintro e w4 ⟨a6,⟨yA,yn,yc,yB,ym,yd,yC,yp,ye⟩,⟨⟨yo,ya,yb⟩,yat,yk⟩,is,e1,rfl,b9,hq⟩;have a5:=aP w4 (Z #[O X yo,O X ya,O X yb,Y yA yn yc,Y yB ym yd,Y yC yp ye] 85);have a8:=aB (b8.o.trans ((a6.trans (a5.mono a6.size)).mono b8.o.size));have b0:=aB (aS.new w4 85 #[O X yo,O X ya,O X yb,Y yA yn yc,Y yB ym yd,Y yC yp ye]);have zy:=aS.cell b0.o;have a7:Hid (∀q,bB (fJ w1 w2) (w2.alloc (Z #[O X xo,O X xa,O X xb,Y xA xn xc,Y xB xm xd,Y xC xp xe] 85)) w4 q->q<w4.heap.size):=aB (fun q hq=>by
  rcases hq with hq | hq
  · exact Nat.lt_of_lt_of_le (d8.o q hq) a6.size
  exact hq.2)
 have c8:Hid (dX (bB (fJ w1 w2) (w2.alloc (Z #[O X xo,O X xa,O X xb,Y xA xn xc,Y xB xm xd,Y xC xp xe] 85)) w4) (w4.alloc (Z #[O X yo,O X ya,O X yb,Y yA yn yc,Y yB ym yd,Y yC yp ye] 85)) ⟨yA,yn,yc,yB,ym,yd,yC,yp,ye⟩ ((⟨yo,ya,yb⟩:Nd),yat,yk)):=aB (b9.below a7.o a5);have a1:=aB a5.size;clear a6 a5 b9 zk zx b6 c9;rcases hq with⟨rfl,rfl,rfl⟩ | ⟨rfl,rfl,rfl⟩ | ⟨rfl,rfl,rfl⟩
 · go_wp2_with fail;go_ret3
   exact⟨a8.o,I,0,0,rfl,aY.nil _⟩
 · go_wp2_with fail;go_ret3
   exact⟨a8.o,I,0,0,rfl,aY.nil _⟩
 obtain⟨s1,s2⟩:=c6.o _ rfl;have b2:=aB (nU (fun q hq=>Nat.lt_of_lt_of_le (a7.o q hq) a1.o) c8.o aA);have d0:=aB (fun (h:bI ((⟨yo,ya,yb⟩:Nd),yat,yk)<=4096) (W:World) (hW:Below (w4.alloc (Z #[O X yo,O X ya,O X yb,Y yA yn yc,Y yB ym yd,Y yC yp ye] 85)).heap.size (w4.alloc (Z #[O X yo,O X ya,O X yb,Y yA yn yc,Y yB ym yd,Y yC yp ye] 85)) W)=>xP (fun q hq=>Nat.lt_of_lt_of_le (a7.o q hq) (Nat.le_trans a1.o hW.size)) (c8.o.below (fun q hq=>Nat.lt_of_lt_of_le (a7.o q hq) a1.o) hW) (s2 h));have b1:Hid (kE (.yes ((⟨yo,ya,yb⟩:Nd),yat,yk))=if 4096<bI ((⟨yo,ya,yb⟩:Nd),yat,yk) then ([],true,9) else (aW ((⟨yo,ya,yb⟩:Nd),yat,yk),true,0)):=aB rfl;generalize kE (.yes ((⟨yo,ya,yb⟩:Nd),yat,yk))=q at *;obtain⟨sz,c2⟩ : ∃s,s=bI ((⟨yo,ya,yb⟩:Nd),yat,yk):=⟨_,rfl⟩;rw[<-c2] at b2 d0 b1;clear s1 s2 c2;by_cases h4:4096<sz
 · have d1:decide ((sz:Int)>4096)=true:=decide_eq_true aA;have b5:Hid (q=([],true,9)):=aB (by rw[b1.o,if_pos h4]);clear h4;go_wp2_with fail;refine (b2.o).mono ?_;rintro e w6 ⟨rfl,a0⟩;have b7:=bZ a8 a0;clear a0;go_wp2_with fail;go_ret3
   rw[b5.o];exact⟨b7.o,I,0,0,rfl,aY.nil _⟩
 have d1:decide ((sz:Int)>4096)=false:=decide_eq_false aA;have b5:Hid (q=(aW ((⟨yo,ya,yb⟩:Nd),yat,yk),true,0)):=aB (by rw[b1.o,if_neg h4]);have b4:=aB (d0.o aA);clear h4;go_wp2_with fail;refine (b2.o).mono ?_;rintro e w6 ⟨rfl,a0⟩;have b7:=bZ a8 a0;have e0:=aS.cell (b0.o.below a0 b0.o.lt);have b3:=aB (b4.o _ a0);clear a0 zy;go_wp2_with fail;refine (b3.o).mono ?_;rintro e w7 ⟨c5,A7,n7,c7,rfl,c0⟩;have d9:=bZ b7 c5;have d6:Hid (aY w7 A7 n7 c7 (aW ((⟨yo,ya,yb⟩:Nd),yat,yk))):=aB (bJ.keep c0 (R':=(· < w7.heap.size)) fun q hq=>⟨hq.2,fun _=>rfl⟩);clear c5 c0;go_wp2_with fail;go_ret3
 rw[b5.o];exact⟨d9.o,A7,n7,c7,rfl,d6.o⟩
def MP (q:List Nd×Bool×Int):List Nd×Bool×Int:=if q.2.2=0 then (q.1,q.2.1,0) else ([],false,q.2.2)
theorem CG {b:Bk} {bs:List (List Nd×List Nd)} {l:List Nd} (h0:gN b bs l=0):i8 b bs l=MP (kE (iF b (AI bs) (bI (cP l)+1) (bU (cP l)))):=by
 obtain⟨q1,q2,q3,q4,q5⟩:=qT h0;have hs:=dJ q5;have h4:bI (cP l)<=4096:=q5.few;unfold i8;rw[if_neg (by rw[h0];simp),GP q1 q3 _ (bU (cP l)) 4096 (kI q5) aA (Int.le_refl _)];cases hg:iF b (AI bs) (bI (cP l)+1) (bU (cP l)) with
 | no=>rfl
 | bad=>rfl
 | yes y =>
  by_cases h9:4096<bI y
  · have e:kE (.yes y)=([],true,9):=by unfold kE;exact if_pos h9
    rw[e];simp only;rw[if_pos aA];rfl
  · have e:kE (.yes y)=(aW y,true,0):=by unfold kE;exact if_neg h9
    have hy:=(zC q1 q3 q5 hg).2 aA;rw[e];simp only;rw[if_neg aA];simp only;rw[nH hy];rfl
theorem J2 {w:World} {v:bO} {b:Bk} (hb:bX w v b) {cA:Option Addr} {cn cc:Nat} {bs:List (List Nd×List Nd)} (hc:jH (· < w.heap.size) w cA cn cc bs) {A:Option Addr} {n c:Nat} {l:List Nd} (ht:aY w A n c l) :
 Calls Tryz.prog 10 #[.agg #[O X b.vars,Y v.Ao v.no v.co,Y v.Ae v.ne v.ce,O X b.nat,Y v.Ap v.np v.cp],Y cA cn cc,Y A n c] w (RZ (i8 b bs l) w):=by
 obtain⟨w1,a0⟩ : ∃w1:World,w1=w.alloc (Z #[O X b.vars,Y v.Ao v.no v.co,Y v.Ae v.ne v.ce,O X b.nat,Y v.Ap v.np v.cp] 26):=⟨_,rfl⟩;have a2:Below w.heap.size w w1:=by rw[a0];exact aP _ _
 have a6:aS w1 w.heap.size 26 #[O X b.vars,Y v.Ao v.no v.co,Y v.Ae v.ne v.ce,O X b.nat,Y v.Ap v.np v.cp]:=by rw[a0];exact aS.new _ _ _
 have a8:=aB (o6 (hb.below a2) (hc.below a2) (ht.below a2));have b1:=aB a2;have b2:=a6.lt;have z1:=a6.cell;obtain⟨z,hz⟩ : ∃z,z=gN b bs l:=⟨_,rfl⟩;rw[<-hz] at a8;by_cases h0:z=0;rotate_left
 · have d0:(z != 0)=true:=by simpa using h0
   have HQ:Hid (i8 b bs l=([],false,z)):=aB (by unfold i8;rw[<-hz,if_pos h0]);clear h0 hz hb hc ht a2 a6;go_in;go_upto_region 1 with fail
   rw[<-a0];clear a0;go_wp2_with fail;refine (a8.o).mono ?_;rintro e w2 ⟨rfl,a1⟩;have a3:=bZ b1 a1;clear a1;go_wp2_with fail;go_ret3
   rw[HQ.o];exact⟨a3.o,I,0,0,rfl,aY.nil _⟩
 subst h0;obtain⟨q1,q2,q3,q4,q5⟩:=qT hz.symm;have b4:cn<=256:=by have:=hc.len;omega
 have HQ:=aB (CG hz.symm);have a7:=aB (fun (W:World) (hB:Below w.heap.size w W)=>FK (A:=A) (n:=n) (c:=c) q1 (hb.below hB) q3 ((hc.below hB).vals aA) (by rw[<-q4];exact ht.below hB) q5);obtain⟨⟨rl,is,er⟩,hs⟩ : ∃q,q=kE (iF b (AI bs) (bI (cP l)+1) (bU (cP l))):=⟨_,rfl⟩;rw[<-hs] at HQ a7;have b0:Hid (i8 b bs l=if er=0 then (rl,is,0) else ([],false,er)):=aB HQ.o;generalize i8 b bs l=res at *;clear hz hb hc ht a2 a6 q1 q3 q4 q5 hs HQ;go_in;go_upto_region 1 with fail
 rw[<-a0];clear a0;go_wp2_with fail;refine (a8.o).mono ?_;rintro e w2 ⟨rfl,a1⟩;have a3:=bZ b1 a1;have z2:=fun i=>(a1.cell (p:=⟨w.heap.size,i,I⟩) b2).trans (z1 i);clear a1;by_cases h0:er=0
 · have d1:(er != 0)=false:=by simpa using h0
   have HR:Hid (res=(rl,is,0)):=aB (by rw[b0.o,if_pos h0]);clear h0;go_wp2_with fail;refine (a7.o w2 a3.o).mono ?_;rintro e w3 ⟨a4,A3,n3,c3,rfl,a5⟩;have a9:=bZ a3 a4;have b3:=aB a5;clear a4 a5;go_wp2_with fail;go_ret3
   rw[HR.o];exact⟨a9.o,A3,n3,c3,rfl,b3.o⟩
 have d1:(er != 0)=true:=by simpa using h0
 have HR:Hid (res=([],false,er)):=aB (by rw[b0.o,if_neg h0]);clear h0;go_wp2_with fail;refine (a7.o w2 a3.o).mono ?_;rintro e w3 ⟨a4,A3,n3,c3,rfl,a5⟩;have a9:=bZ a3 a4;clear a4 a5;go_wp2_with fail;go_ret3
 rw[HR.o];exact⟨a9.o,I,0,0,rfl,aY.nil _⟩
end
section
open Go.Lib renaming hid->aB
set_option maxHeartbeats 4000000
set_option maxRecDepth 100000
def RW (q:List Nd×Int×Int) (w:World) (e:Ending) (w':World):Prop:=Below w.heap.size w w'/\∃A n c,e=.returned (.tuple #[Y A n c,O X q.2.1,O X q.2.2])/\aY w' A n c q.1
def MJ:RS->List Nd×Int×Int
 | .bad z=>([],0,z)
 | .done y k=>(aW y,(k:Int),0)
theorem PZ {b:Bk} {cv:List (List Nd)} {n:Nat} {x:TT}:IE b cv (n+1) x=match iF b cv (bI x+1) (bU x) with
 | .no=>.done x (n+1)
 | .bad=>.bad 9
 | .yes y=>if 4096<bI y then .bad 9 else IE b cv n y:=rfl
theorem P0 {b:Bk} {cv:List (List Nd)} {x:TT}:IE b cv 0 x=match iF b cv (bI x+1) (bU x) with
 | .no=>.done x 0
 | .bad=>.bad 10
 | .yes _=>.bad 10:=rfl
theorem FL {w:World} {v:bO} {b:Bk} (hr:bP b=0) (hb:bX w v b) {cA:Option Addr} {cn cc:Nat} {cv:List (List Nd)} (hcx:fR b cv) (hc:jI (· < w.heap.size) w cA cn cc cv) {A:Option Addr} {n c:Nat} {x:TT} (ht:aY w A n c (aW x)) (hx:bR b (cv.length:Int) x) {F:Nat} (hF:F<=100000) :
 Calls Tryz.prog 33 #[.agg #[O X b.vars,Y v.Ao v.no v.co,Y v.Ae v.ne v.ce,O X b.nat,Y v.Ap v.np v.cp],Y cA cn cc,Y A n c,O X (F:Int)] w (RW (MJ (IE b cv F x)) w):=by
 obtain⟨w1,c4⟩ : ∃w1:World,w1=w.alloc (Z #[O X b.vars,Y v.Ao v.no v.co,Y v.Ae v.ne v.ce,O X b.nat,Y v.Ap v.np v.cp] 26):=⟨_,rfl⟩;have d7:Below w.heap.size w w1:=by rw[c4];exact aP _ _
 have a5:aS w1 w.heap.size 26 #[O X b.vars,Y v.Ao v.no v.co,Y v.Ae v.ne v.ce,O X b.nat,Y v.Ap v.np v.cp]:=by rw[c4];exact aS.new _ _ _
 have g3:=aB (sT (b:=b) (ht.below d7) rfl hx);have i5:=aB (fun (x:TT) (hx:bR b (cv.length:Int) x) (W:World) (h:Below w.heap.size w W) (R:Nat->Prop) (t:iE) (hR:∀q,R q->q<W.heap.size) (htr:dX R W t x)=>zX w1 hr hcx (bI x+1) W R t x (hb.below h) (lR hc h) hR htr hx (Nat.lt_succ_self _));have h9:=aB (fun (x:TT) (hx:bR b (cv.length:Int) x) y h=>zC (y:=y) hr hcx (g:=bI x+1) hx h);obtain⟨res,a4⟩ : ∃r,r=IE b cv F x:=⟨_,rfl⟩;rw[<-a4];have c0:=aB a4;have g8:=aB hx;have h2:=aB d7;have g6:=aB a5;have g2:Hid (w.heap.size<w1.heap.size):=aB a5.lt;have HF:=aB hF;clear hr hb hcx hc ht hx d7 a5 a4 hF;obtain⟨⟨xo,xa,xb⟩,xat,xk⟩:=x;obtain⟨FF,d8⟩ : ∃z:Int,z=(F:Int):=⟨_,rfl⟩;rw[<-d8];have g9:=aB d8;clear d8;go_in;go_upto_region 1 with fail
 rw[<-c4];clear c4;go_wp2_with fail;refine (g3.o).mono ?_;rintro e w2 ⟨b1,⟨xA,xn,xc,xB,xm,xd,xC,xp,xe⟩,rfl,f0⟩;have d2:=aP w2 (Z #[O X xo,O X xa,O X xb,Y xA xn xc,Y xB xm xd,Y xC xp xe] 85);have h1:=aB (h2.o.trans ((b1.trans (d2.mono b1.size)).mono h2.o.size));have g5:=aB (g6.o.below (b1.trans (d2.mono b1.size)) g6.o.lt);have f9:=aB (aS.new w2 85 #[O X xo,O X xa,O X xb,Y xA xn xc,Y xB xm xd,Y xC xp xe]);have g1:=aB b1.size;have i3:Hid ((w2.alloc (Z #[O X xo,O X xa,O X xb,Y xA xn xc,Y xB xm xd,Y xC xp xe] 85)).heap.size=w2.heap.size+1):=aB aD;obtain⟨V0,f6⟩ : ∃V0,V0=w2.alloc (Z #[O X xo,O X xa,O X xb,Y xA xn xc,Y xB xm xd,Y xC xp xe] 85):=⟨_,rfl⟩;have g0:Hid (dX (bB (fJ w1 w2) V0 (w2.alloc (Z #[O X xo,O X xa,O X xb,Y xA xn xc,Y xB xm xd,Y xC xp xe] 85))) (w2.alloc (Z #[O X xo,O X xa,O X xb,Y xA xn xc,Y xB xm xd,Y xC xp xe] 85)) ⟨xA,xn,xc,xB,xm,xd,xC,xp,xe⟩ ((⟨xo,xa,xb⟩:Nd),xat,xk)):=aB (f0.keep fun q hq=>⟨Or.inl hq,fun o=>d2.cell (p:=⟨q,o,I⟩) hq.2⟩);have HV:Hid (V0.heap.size=w2.heap.size+1):=aB (by rw[f6];simp);clear b1 d2 f0 g3 f6;go_wp2_with fail;go_loopw [3] (fun fv wr=>∃(k:Nat) (K:Int) (y:TT) (t':iE),fv=O X K/\K=(k:Int)/\k<=F/\Hid (res=IE b cv k y)/\Hid (bR b (cv.length:Int) y)/\Hid (dX (bB (fJ w1 w2) V0 wr) wr t' y)/\Hid (aS wr w2.heap.size 85 (bH t' y.1))/\Hid (aS wr w.heap.size 26 #[O X b.vars,Y v.Ao v.no v.co,Y v.Ae v.ne v.ce,O X b.nat,Y v.Ap v.np v.cp])/\Hid (Below w.heap.size w wr)/\Hid (V0.heap.size<=wr.heap.size)) (fun fv _=>(intOf fv).toNat)
 case atStart=>exact⟨F,FF,((⟨xo,xa,xb⟩:Nd),xat,xk),⟨xA,xn,xc,xB,xm,xd,xC,xp,xe⟩,rfl,g9.o,Nat.le_refl _,c0,g8,g0,f9,g5,h1,aB (by have:=HV.o;have:=i3.o;omega)⟩
 case round =>
  clear g0 f9 g5 h1 c0 g8 g9;obtain⟨k,K,y,⟨xA,xn,xc,xB,xm,xd,xC,xp,xe⟩,rfl,f7,i9,f3,c6,d4,b0,c5,c8,a9⟩:=hrel;have b9:=f3;have HG:=i5.o y c6.o wr c8.o (bB (fJ w1 w2) V0 wr) ⟨xA,xn,xc,xB,xm,xd,xC,xp,xe⟩ (fun q hq=>by
   rcases hq with hq | hq
   · have:=hq.2;have:=HV.o;have:=a9.o;omega
   exact hq.2) d4.o
  have f8:=aB (h9.o y c6.o);have d5:=P0 (b:=b) (cv:=cv) (x:=y);have d6:=fun n=>PZ (b:=b) (cv:=cv) (n:=n) (x:=y);obtain⟨r,f2⟩ : ∃r,r=iF b cv (bI y+1) (bU y):=⟨_,rfl⟩;rw[<-f2] at HG f8 d5 d6;have e6:=aB d5;have e7:=aB d6;have g7:=aB HG;have i6:=c6;have g4:Hid (∀q,bB (fJ w1 w2) V0 wr q->q<wr.heap.size):=aB (fun q hq=>by
   rcases hq with hq | hq
   · have:=hq.2;have:=HV.o;have:=a9.o;omega
   exact hq.2)
  have a3:=aB f7;have e8:0<K->IntKind.i64.wrap (K-1)=K-1:=fun h=>by rw[IntKind.wrap_i64];have:=HF.o;omega
  have i1:=aB e8;clear d5 d6 f2 HG f3 c6 f7 e8;obtain⟨⟨xo,xa,xb⟩,xat,xk⟩:=y;simp only at b0;have zx:=aS.cell b0.o;have zk:=aS.cell c5.o;have h8:=b0.o.lt;go_wp2_with fail;refine (g7.o).mono ?_;rintro e w4 ⟨b5,⟨yA,yn,yc,yB,ym,yd,yC,yp,ye⟩,⟨⟨yo,ya,yb⟩,yat,yk⟩,is,j0,rfl,b4,hq⟩;have c9:=aP w4 (Z #[O X yo,O X ya,O X yb,Y yA yn yc,Y yB ym yd,Y yC yp ye] 85);have a0:=aB (b5.trans (c9.mono b5.size));have b2:=aB (c8.o.trans (a0.o.mono c8.o.size));have d9:=aB (aS.new w4 85 #[O X yo,O X ya,O X yb,Y yA yn yc,Y yB ym yd,Y yC yp ye]);have a8:=aB (b0.o.below a0.o b0.o.lt);have c1:=aB (c5.o.below a0.o c5.o.lt);have zy:=aS.cell d9.o;have b3:=aS.cell a8.o;have e1:Hid (dX (bB (fJ w1 w2) V0 (w4.alloc (Z #[O X yo,O X ya,O X yb,Y yA yn yc,Y yB ym yd,Y yC yp ye] 85))) (w4.alloc (Z #[O X yo,O X ya,O X yb,Y yA yn yc,Y yB ym yd,Y yC yp ye] 85)) ⟨xA,xn,xc,xB,xm,xd,xC,xp,xe⟩ ((⟨xo,xa,xb⟩:Nd),xat,xk)):=aB (d4.o.keep fun q hq=>⟨hq.to (Nat.le_refl _) a0.o.size,fun o=>a0.o.cell (p:=⟨q,o,I⟩) (g4.o q hq)⟩);have b6:Hid (dX (bB (fJ w1 w2) V0 (w4.alloc (Z #[O X yo,O X ya,O X yb,Y yA yn yc,Y yB ym yd,Y yC yp ye] 85))) (w4.alloc (Z #[O X yo,O X ya,O X yb,Y yA yn yc,Y yB ym yd,Y yC yp ye] 85)) ⟨yA,yn,yc,yB,ym,yd,yC,yp,ye⟩ ((⟨yo,ya,yb⟩:Nd),yat,yk)):=aB (b4.keep fun q hq=>⟨(fW (fun q h=>h) a9.o b5.size hq:bB (fJ w1 w2) V0 w4 q).to (Nat.le_refl _) c9.size,fun o=>c9.cell (p:=⟨q,o,I⟩) (by
   rcases hq with hq | hq
   · exact Nat.lt_of_lt_of_le (g4.o q hq) b5.size
   exact hq.2)⟩)
  have a6:Hid (∀q,bB (fJ w1 w2) V0 (w4.alloc (Z #[O X yo,O X ya,O X yb,Y yA yn yc,Y yB ym yd,Y yC yp ye] 85)) q->q<(w4.alloc (Z #[O X yo,O X ya,O X yb,Y yA yn yc,Y yB ym yd,Y yC yp ye] 85)).heap.size/\q ≠ w2.heap.size):=aB (fun q hq=>by
   have:=HV.o;rcases hq with hq | hq
   · have:=hq.2;have:=a9.o;have:=a0.o.size;omega
   have:=hq.1;have:=hq.2;omega)
  have e2:Hid (V0.heap.size<=(w4.alloc (Z #[O X yo,O X ya,O X yb,Y yA yn yc,Y yB ym yd,Y yC yp ye] 85)).heap.size):=aB (Nat.le_trans a9.o a0.o.size);clear b5 c9 b4 zx zk h8 b0 c5 c8 a9 d4 g7;rcases hq with⟨rfl,rfl,rfl⟩ | ⟨rfl,rfl,rfl⟩ | ⟨rfl,rfl,rfl⟩
  · have a2:Hid (res=.done ((⟨xo,xa,xb⟩:Nd),xat,xk) k):=aB (by
     rw[b9.o];cases k with
     | zero=>exact e6.o
     | succ k=>exact e7.o k)
    have i4:=aB (xP (fun q hq=>(a6.o q hq).1) e1.o i6.o);clear zy;go_wp2_with fail;refine (i4.o).mono ?_;rintro e w7 ⟨f5,A7,n7,c7,rfl,e9⟩;have i8:=bZ b2 f5;have i2:Hid (aY w7 A7 n7 c7 (aW ((⟨xo,xa,xb⟩:Nd),xat,xk))):=aB (bJ.keep e9 (R':=(· < w7.heap.size)) fun q hq=>⟨hq.2,fun _=>rfl⟩);clear f5 e9 b3;go_wp2_with fail;go_ret3
    rw[a2.o];exact⟨i8.o,A7,n7,c7,by rw[a3.o];rfl,i2.o⟩
  · by_cases h0:k=0
    · have d0:(K==0)=true:=by simp[a3.o,h0]
      have a2:Hid (res=.bad 10):=aB (by rw[b9.o,h0];exact e6.o);clear h0 zy b3;go_wp2_with fail;go_ret3
      rw[a2.o];exact⟨b2.o,I,0,0,rfl,aY.nil _⟩
    have d0:(K==0)=false:=by rw[beq_eq_false_iff_ne];have:=a3.o;omega
    have a2:Hid (res=.bad 9):=aB (by
     rw[b9.o,show k=(k-1)+1 from by omega];exact e7.o _)
    clear h0 zy b3;go_wp2_with fail;go_ret3
    rw[a2.o];exact⟨b2.o,I,0,0,rfl,aY.nil _⟩
  by_cases h0:k=0
  · have d0:(K==0)=true:=by simp[a3.o,h0]
    have a2:Hid (res=.bad 10):=aB (by rw[b9.o,h0];exact e6.o);clear h0 zy b3;go_wp2_with fail;go_ret3
    rw[a2.o];exact⟨b2.o,I,0,0,rfl,aY.nil _⟩
  have d0:(K==0)=false:=by rw[beq_eq_false_iff_ne];have:=a3.o;omega
  obtain⟨k1,a5⟩ : ∃k1,k=k1+1:=⟨k-1,by omega⟩;obtain⟨s1,s2⟩:=f8.o _ rfl;have e4:=aB (nU (fun q hq=>(a6.o q hq).1) b6.o aA);have b8:=aB s2;have e3:Hid (res=if 4096<bI ((⟨yo,ya,yb⟩:Nd),yat,yk) then .bad 9 else IE b cv k1 ((⟨yo,ya,yb⟩:Nd),yat,yk)):=aB (by rw[b9.o,a5];exact e7.o k1);obtain⟨sz,f1⟩ : ∃s,s=bI ((⟨yo,ya,yb⟩:Nd),yat,yk):=⟨_,rfl⟩;rw[<-f1] at e4 e3 b8;have c2:=aB a5;have h7:IntKind.i64.wrap (K-1)=(k1:Int):=by rw[i1.o (by have:=a3.o;omega)];have:=a3.o;omega
  clear s1 s2 f1 a5 h0 b3;by_cases h4:4096<sz
  · have d1:decide ((sz:Int)>4096)=true:=decide_eq_true aA;have a2:Hid (res=.bad 9):=aB (by rw[e3.o,if_pos h4]);clear h4;go_wp2_with fail;refine (e4.o).mono ?_;rintro e w6 ⟨rfl,a1⟩;have d3:=bZ b2 a1;clear a1 zy;go_wp2_with fail;go_ret3
    rw[a2.o];exact⟨d3.o,I,0,0,rfl,aY.nil _⟩
  have d1:decide ((sz:Int)>4096)=false:=decide_eq_false aA;have a2:Hid (res=IE b cv k1 ((⟨yo,ya,yb⟩:Nd),yat,yk)):=aB (by rw[e3.o,if_neg h4]);have i7:=aB (b8.o aA);clear h4;go_wp2_with fail;refine (e4.o).mono ?_;rintro e w6 ⟨rfl,a1⟩;have d3:=bZ b2 a1;have i0:=aB (d9.o.below a1 d9.o.lt);have a7:=aB (a8.o.below a1 a8.o.lt);have e5:=aB (c1.o.below a1 c1.o.lt);have e0:Hid (dX (bB (fJ w1 w2) V0 w6) w6 ⟨yA,yn,yc,yB,ym,yd,yC,yp,ye⟩ ((⟨yo,ya,yb⟩:Nd),yat,yk)):=aB (b6.o.keep fun q hq=>⟨hq.to (Nat.le_refl _) a1.size,fun o=>a1.cell (p:=⟨q,o,I⟩) (a6.o q hq).1⟩);have b7:Hid (V0.heap.size<=w6.heap.size):=aB (Nat.le_trans e2.o a1.size);have h3:=aS.cell i0.o;have h5:=aS.cell a7.o;have h6:=aS.frozen a7.o;clear a1 zy;go_wp2_with fail;have f4:=eR w6 w2.heap.size (O X yo) (O X ya) (O X yb) (Y yA yn yc) (Y yB ym yd) (Y yC yp ye);have c3:=aB f4;clear f4 h3 h5 h6;go_roundw
  case rel =>
   refine⟨k1,(k1:Int),((⟨yo,ya,yb⟩:Nd),yat,yk),⟨yA,yn,yc,yB,ym,yd,yC,yp,ye⟩,by first | rfl | exact congrArg _ h7,rfl,by have:=c2.o;omega,a2,i7,aB ?_,aB (cJ a7.o _ _ _ _ _ _),aB (e5.o.grown c3.o (by intro e;injection e with e;have:=g2.o;have:=g1.o;omega)),aB (d3.o.grown c3.o d3.o.size (fun q hq=>by injection hq with hq;have:=g2.o;have:=g1.o;omega)),aB (Nat.le_trans b7.o c3.o.size)⟩;exact e0.o.keep fun q hq=>⟨hq.to (Nat.le_refl _) c3.o.size,fun o=>aQ (c3.o.block q (by
    have:=HV.o;rcases hq with hq | hq
    · have:=hq.2;have:=b7.o;omega
    · exact hq.2) (by
    have:=HV.o;intro e;injection e with e;rcases hq with hq | hq
    · have:=hq.2;omega
    have:=hq.1;omega)) o⟩
  case measure =>
   have:=a3.o;have:=c2.o;simp[intOf]<;>omega
theorem JY {w:World} {fuel:Int}:Calls Tryz.prog 34 #[O X fuel] w (fun e w'=>w=w'/\e=.returned (O X (gZ fuel:Int))):=by
 obtain⟨F,hF⟩ : ∃F:Nat,F=gZ fuel:=⟨_,rfl⟩;have a0:min (max fuel 0) 100000=(F:Int):=by unfold gZ at hF;omega
 rw[<-hF];clear hF;go_in;go_wp2_with fail;all_goals go_ret
 all_goals exact⟨rfl,congrArg (fun z:Int=>Ending.returned (Value.int .i64 z)) (by first | omega | (split at * <;> omega))⟩
theorem FM {w:World} {v:bO} {b:Bk} (hb:bX w v b) {cA:Option Addr} {cn cc:Nat} {bs:List (List Nd×List Nd)} (hc:jH (· < w.heap.size) w cA cn cc bs) {A:Option Addr} {n c:Nat} {l:List Nd} (ht:aY w A n c l) (fuel:Int) :
 Calls Tryz.prog 15 #[.agg #[O X b.vars,Y v.Ao v.no v.co,Y v.Ae v.ne v.ce,O X b.nat,Y v.Ap v.np v.cp],Y cA cn cc,Y A n c,O X fuel] w (RW (nC b bs l fuel) w):=by
 obtain⟨w1,a1⟩ : ∃w1:World,w1=w.alloc (Z #[O X b.vars,Y v.Ao v.no v.co,Y v.Ae v.ne v.ce,O X b.nat,Y v.Ap v.np v.cp] 26):=⟨_,rfl⟩;have a2:Below w.heap.size w w1:=by rw[a1];exact aP _ _
 have a6:aS w1 w.heap.size 26 #[O X b.vars,Y v.Ao v.no v.co,Y v.Ae v.ne v.ce,O X b.nat,Y v.Ap v.np v.cp]:=by rw[a1];exact aS.new _ _ _
 have a7:=aB (o6 (hb.below a2) (hc.below a2) (ht.below a2));have b9:=aB a2;have b5:=a6.lt;have z1:=a6.cell;obtain⟨z,hz⟩ : ∃z,z=gN b bs l:=⟨_,rfl⟩;rw[<-hz] at a7;by_cases h0:z=0;rotate_left
 · have d0:(z != 0)=true:=by simpa using h0
   have HQ:Hid (nC b bs l fuel=([],0,z)):=aB (by unfold nC vW;rw[<-hz,if_pos h0]);clear h0 hz hb hc ht a2 a6;go_in;go_upto_region 1 with fail
   rw[<-a1];clear a1;go_wp2_with fail;refine (a7.o).mono ?_;rintro e w2 ⟨rfl,a0⟩;have a3:=bZ b9 a0;clear a0;go_wp2_with fail;go_ret3
   rw[HQ.o];exact⟨a3.o,I,0,0,rfl,aY.nil _⟩
 subst h0;obtain⟨q1,q2,q3,q4,q5⟩:=qT hz.symm;have c1:cn<=256:=by have:=hc.len;omega
 have HQ:Hid (nC b bs l fuel=MJ (IE b (AI bs) (gZ fuel) (cP l))):=aB (by
  unfold nC vW;rw[<-hz,if_neg aD,SK q1 q3 _ _ q5];unfold N5;cases oA b (AI bs) (gZ fuel) (bU (cP l)) 4096<;>rfl)
 have b7:=aB (fun (W:World) (hB:Below w.heap.size w W)=>FL (A:=A) (n:=n) (c:=c) q1 (hb.below hB) q3 ((hc.below hB).vals aA) (by rw[<-q4];exact ht.below hB) q5 (F:=gZ fuel) (by unfold gZ;omega));obtain⟨res,a4⟩ : ∃r,r=MJ (IE b (AI bs) (gZ fuel) (cP l)):=⟨_,rfl⟩;rw[<-a4] at HQ b7;rw[HQ.o];clear hz hb hc ht a2 a6 q1 q3 q4 q5 HQ a4;go_in;go_upto_region 1 with fail
 rw[<-a1];clear a1;go_wp2_with fail;refine (a7.o).mono ?_;rintro e w2 ⟨rfl,a0⟩;have a3:=bZ b9 a0;have z2:=fun i=>(a0.cell (p:=⟨w.heap.size,i,I⟩) b5).trans (z1 i);have a5:=Nat.lt_of_lt_of_le b5 a0.size;clear a0;go_upto_region 4 with fail
 refine wp_region_held_drew (S:=(fun w'=>Below w2.heap.size w2 w')) aC ?_ (fun hZ => ?_)
 · (try dsimp only);exact aT (Below.refl _ _) 1
 have a8:Hid (Below w2.heap.size w2 w2.drew):=aB (aT (Below.refl _ _) 1);generalize w2.drew=W1 at *;refine tk 0 ?_ (fun wq hSw => ?_) hZ ?_;rotate_left
 · have b0:=(hSw.cell (p:=⟨w.heap.size,0,I⟩) a5).trans (z2 0);have b1:=(hSw.cell (p:=⟨w.heap.size,1,I⟩) a5).trans (z2 1);have b2:=(hSw.cell (p:=⟨w.heap.size,2,I⟩) a5).trans (z2 2);have b3:=(hSw.cell (p:=⟨w.heap.size,3,I⟩) a5).trans (z2 3);have b4:=(hSw.cell (p:=⟨w.heap.size,4,I⟩) a5).trans (z2 4);go_simp;try with_reducible rfl
 try simp only[p7]
 refine aL 1 hZ ?_;refine aL 2 hZ ?_;refine aL 3 hZ ?_;refine r1 4 fun K hK => ?_;go_simp;go_at_call 34
 refine JY.mono ?_;rintro e wq ⟨rfl,rfl⟩;go_wp2_with fail;refine hK.o _ _ (by exact a8.o) fun hZ => ?_;clear hK K;try simp only[p7]
 refine r1 5 fun K hK => ?_;go_simp;go_at_call 33
 refine (b7.o _ (a3.o.trans (a8.o.mono a3.o.size))).mono ?_;rintro e w3 ⟨b6,A3,n3,c3,rfl,a9⟩;have b8:=bZ a8 b6;have c0:=aB a9;clear b6 a9;go_wp2_with fail;refine hK.o _ _ (by exact b8.o) fun hZ => ?_;clear hK K;try simp only[p7]
 refine aL 6 hZ ?_;refine aL 7 hZ ?_;refine aL 8 hZ ?_;refine aL 9 hZ ?_;refine aL 10 hZ ?_;refine aL 11 hZ ?_;refine wpAnyH_done aC ?_ _;go_wp2_with fail;go_ret3
 exact⟨a3.o.trans (b8.o.mono a3.o.size),A3,n3,c3,rfl,c0.o⟩
end
end Go.Proofs.YtjoddliplahgkaaGreat
