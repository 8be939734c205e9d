/- Merged: SenseK, WhK. -/
import Derived.Test.YtlahmbhimhmoaaaVWhW
namespace Go.Proofs.Ytlahmbhimhmoaaa
set_option linter.unusedVariables false
set_option linter.unusedSimpArgs false
open Go.RowKit
open Go.Value renaming slice → O
theorem C5(w:OE):(sizeOf 29).run Try.prog w=.ok 1 w:=by kernel_rfl
section
open Go.Lib renaming hid->aB
set_option maxHeartbeats 4000000
set_option maxRecDepth 100000
def zG(ls:OD)(w:OE)(e:Ending)(w':OE):Prop:=OB w w'/\∃A n c D,e=.returned (O A n c)/\w'.ownsRow w.heap.size 29 1 (O A n c) n D/\a8 (e7 w.heap.size w' (O A n c)) w' D ls
theorem fJ{A:OC}{nn c:Nat}{l:List Nd}{w:OE}(h:aX w A nn c l)(hs:aZ l=0):
 Calls Try.prog 47 #[O A nn c] w (zG (fU (nQ l).2) w):=by
 obtain⟨_,n,e0,k,b2,c6,e5⟩:=fE hs;have a9:nQ l=(n,k):=by
  unfold nQ;rw[LZ hs,b2]
 have e4:bQ k<=4096:=by have:=kG k;omega
 have b7:=aB a9;have b4:=bM h;rw[hs]at b4;have I:∀w2,OB w w2->Calls Try.prog 63 #[O A nn c] w2 (rA n k w2):=fun w2 hb=>CU (h.below hb) hs b2;have d2:=aB b4;have a2:=aB I;clear b4 I a9 hs b2 c6 h;go_in;go_wp2_with fail;refine (d2.o).mono ?_;rintro e w2 ⟨rfl,c0⟩;have U:=aB c0;clear c0;go_wp2_with fail;refine (a2.o _ U.o).mono ?_;rintro e w3 ⟨c1,A1,k1,A2,k2,d8,rfl,c5,d5,hr⟩;have c9:=aB c1;have d1:=aB c5;have HR:=aB hr;clear c1 c5 d5 hr;go_wp2_with fail;go_loopw [16] (fun i wr=>∃(F1 F2:Fo)(j:Nat)(xa xb:List Value),Hid (k=F1.app F2)/\Hid (bQ F1=j)/\i=.int .i64 (j:Int)/\Hid (wr.ownsRow (w2.heap.size+5) 29 1 (O A1 (bQ k) k1) (bQ k) (xa++xb)) ∧
  Hid (a8 (e7 (w2.heap.size+5) wr (O A1 (bQ k) k1)) wr xa (fU F1))/\Hid (a8 (· < w2.heap.size) w2 xb (fU F2))/\Hid (OB w2 wr)) (fun i _=>bQ k-(intOf i).toNat)
 case atStart=>exact⟨.nil,k,0,[],d8,aB rfl,aB rfl,rfl,d1,aB trivial,HR,c9⟩
 case round =>
  obtain⟨F1,F2,j,xa,xb,hk,hj,rfl,G,b3,D,Z⟩:=hrel;cases F2 with
  | nil =>
   have b1:k=F1:=hk.o.trans (nW F1);have d4:¬ j<bQ k:=by rw[b1,hj.o];omega
   have d0:=aB b1;clear b1
   match xb,D with
   | _::_,D=>exact D.o.elim
   | [],D =>
   go_wp2_with fail;go_ret;rw[b7.o];refine⟨U.o.trans (Z.o.mono U.o.size),_,_,_,_,rfl,mQ G.o (by have:=U.o.size;omega),?_⟩;rw[NF];have:=b3.o;rw[<-d0.o]at this;exact a8.keep (fun q hq=>⟨⟨by have:=U.o.size;have:=hq.1;omega,hq.2⟩,fun _=>rfl⟩) this
  | cons d7 nd a ks F3 =>
   have d4:j<bQ k:=by rw[hk.o,eF,hj.o];simp[bQ]
   match xb,D with
   | [],D=>exact D.o.elim
   | x::xb,D =>
   obtain⟨⟨A',n',c',rfl,ht⟩,a6⟩:=D.o;obtain⟨_,b0⟩:=G.o;rcases b0 with⟨_,h2⟩|⟨g,cap',b9,hv,hg,hh,_⟩
   . omega
   injection hv with e1 e2 e3;subst e1;subst e3;clear e2;have b5:xa.length=j:=by rw[b3.o.len,sA,hj.o]
   have a5:aW wr g 29 b9:=hh;have s:wr.cell? ⟨g,j,none⟩=some (O A' n' c'):=by
    have:=G.o.cellAt (g:=g) j aA;rw[this,List.getElem?_append_right aA,b5,Nat.sub_self];rfl
   obtain⟨a1,HG,F,HT,b6,b8⟩:=OJ (l8 (ht.keep (R':=(· < wr.heap.size)) (w':=wr) fun b hb=>⟨MD hb Z.o.size,fun o=>aP (Z.o.block b hb) o⟩)) hg a5 ht a6 b5;clear hg hh a5 ht a6 b5;go_wp2_with fail;refine (a1.o).mono ?_;rintro e w4 ⟨a3,A4,n4,c4,rfl,c7⟩;have Y:aW w4 g 29 b9:=F.o.below a3 F.o.lt;have c8:w4.cell? ⟨g,j,none⟩=some (O A' n' c'):=(aP (a3.block g F.o.lt) j).trans s;have d9:=Y.frozen;obtain⟨a0,d3,HZ⟩:=OK a3 c7 (F.o.lt);clear a3 c7 s Y;go_wp2_with fail;go_roundw
   case rel =>
    have z:=G8 (bY G.o a0.o) j (O A4 n4 c4);rw[List.set_append_right _ _ (by have:=b8.o;omega),b8.o,Nat.sub_self,List.set_cons_zero]at z;have e9:wr.heap.size<=w4.heap.size:=a0.o.size;have c2:∀b,b≠g->∀o,(w4.setCell ⟨g,j,none⟩ (O A4 n4 c4)).cell? ⟨b,o,none⟩=w4.cell? ⟨b,o,none⟩:=fun b hb o=>aP (MH _ _ _ _ hb) o;have a7:(w4.setCell ⟨g,j,none⟩ (O A4 n4 c4)).heap.size=w4.heap.size:=by simp[World.setCell]
    have c3:(Value.slice (some ⟨g,0,none⟩) (bQ k) k1).ownBlock=some g:=rfl;have d6:=Z.o.size;refine⟨F1.app (.cons d7 nd a ks .nil),F3,j+1,xa++[O A4 n4 c4],xb,aB (by rw[hk.o,fH];rfl),aB (by rw[eF,hj.o];rfl),by go_num,aB ?_,aB ?_,b6,aB ?_⟩
    . rw[NU];exact z
    . rw[j7];refine a8.add (d3.o.keep fun b hb=>?_) (b3.o.keep fun b hb=>?_)
      . obtain⟨q1,q2⟩:=hb;have e8:=HZ.o;have e6:=HG.o;have a4:b≠g:=aA;exact⟨⟨by omega,by rw[a7];exact q2,by rw[c3];intro e;injection e with e;exact a4 e.symm⟩,c2 b a4⟩
      obtain⟨q1,q2,q3⟩:=hb;have a4:b≠g:=fun e=>q3 (by rw[c3,e]);refine⟨⟨q1,by rw[a7];omega,q3⟩,fun o=>?_⟩;rw[c2 b a4 o];exact aP (a0.o.block b q2) o
    have:=HG.o;exact (Z.o.trans (a0.o.mono d6)).setCell aG _
   case measure=>simp[intOf];omega
theorem rQ:∀(F:Fo),fU F=(a9 F).map aT
 | .nil=>rfl
 | .cons p n a k x=>by rw[dX];simp only[fU,List.map_cons,rQ x];simp[row,aT]
theorem i5{b:Bk}{free:Int}{x:TT}(D:bJ b free x):fU (nQ (aT x)).2=(a9 x.2.2).map aT:=by
 rw[yU D.rt];exact rQ _
structure LP (tt:List Nd) (kk:Fo) (nb q p:Nat) (dF:Fo) (zq:List Int):Prop where
 at_:At tt p (F6 (nb-q)) dF
 pl:zq++(iN dF).map (·.a)=fO kk
 len:zq.length=q
theorem iW{A:OC}{n c:Nat}{x:TT}{w:OE}(ht:aX w A n c (aT x))(hy:JA x)(b9:x.1.op=12):
 Calls Try.prog 91 #[O A n c] w (fun e w'=>e=.returned (.int .i64 (dG x))/\OB w w'):=by
 have b2:=(Rt.wf hy).1;have d8:=bI.1 (by simp only[eU,ME]at b2;exact b2.1.1);obtain⟨nb,c5⟩:∃nb:Nat,x.1.b=(nb:Int):=⟨x.1.b.toNat,by omega⟩;obtain⟨na,b0⟩:∃na:Nat,x.1.a=(na:Int):=⟨x.1.a.toNat,by omega⟩;have e6:1<=nb/\nb<=4/\na<nb:=aA;have a0:At (aT x) 1 (ds x.1) x.2.2:=At.first (n:=x.1) (a:=x.2.1) (k:=x.2.2) hy aA;rw[D9 b9 c5]at a0;have F:=ht.len;have e9:n<=4096:=by rw[<-F];exact Rt.few hy
 have d7:0<n:=by rw[<-F];simp[aT]
 obtain⟨bf,off,rfl,d2,d3,c0,d4⟩:=ht.at_ d7;simp only[NE,MQ]at c0;rw[show bB (aT x) 0=x.1 from rfl,b0]at c0;have z:=aB (fun (w':OE) (h:OB w w')=>ht.below h);have b3:dG x=(fO x.2.2).getD na 0:=by unfold dG;rw[b0];rfl
 obtain⟨pt,a7⟩:=OM (dG x);rw[<-a7]at b3 ⊢;have b8:=aB b3;obtain⟨tt,c6⟩:=OM (aT x);rw[<-c6]at a0 F z;obtain⟨b6,d0⟩:=OF a0 F;obtain⟨nd,a,kk⟩:=x;simp only at b6 b8;clear b2 d8 a0 c6 ht hy b9 c5 b0 d3 d4 F b3 a7;go_in;go_wp2_with fail;go_loopw [3,8] (fun av iv wr=>∃(q p:Nat)(dF:Fo)(zq:List Int),av=.int .i64 (p:Int)/\iv=.int .i64 (q:Int)/\q<=na/\p<=n/\Hid (LP tt kk nb q p dF zq)/\Hid (OB w wr)) (fun _ iv _=>na-(intOf iv).toNat)
 case atStart=>exact⟨0,1,kk,[],rfl,rfl,by omega,by omega,aB ⟨b6.o,rfl,rfl⟩,aB (MC _ _)⟩
 case round =>
  obtain⟨q,p,dF,zq,rfl,rfl,f2,f1,hs,a3⟩:=hrel;obtain⟨U,hZ,hL⟩:=hs.o;have a4:=kV _ U;obtain⟨r,hr⟩:∃r,nb-q=r+1:=⟨nb-q-1,by omega⟩;rw[hr]at U a4;rw[show F6 (r+1)=true::false::F6 r from rfl]at U;obtain⟨e5,n1,a1,k1,f3,rfl,s1⟩:=U.step;obtain⟨c8,d9,a2,k2,c7,rfl,s2⟩:=s1.next.step;obtain⟨fd,rfl,c4,b1⟩:=s1.fun_ rfl;have Z:c8.length=0:=s2.plen;obtain rfl:=ND Z;have G:=s2.next;have D:=kV _ G;obtain⟨e1,l1⟩:=(⟨s1.end_,s1.le⟩:_/\_);obtain⟨e2,I,l2⟩:=(⟨s2.end_,s2.cut,s2.le⟩:_/\_/\_);simp only[MN,NJ,ML,MQ]at e1 l1 e2 I l2 G D;rw[gR,gR,MY,List.singleton_append,List.map_cons]at hZ;obtain⟨y1,b4⟩:=OM ((n1,a1,k1):TT);obtain⟨y2,b5⟩:=OM ((d9,a2,k2):TT);rw[<-b4]at e1 l1 e2 I l2 G D;rw[<-b5]at e2 I l2 G D;obtain⟨g1,a8⟩:=OM (p+1+(aT y1).length);obtain⟨g2,a9⟩:=OM (g1+(aT y2).length);rw[<-a8]at e1 l1 e2 I l2 G D;rw[<-a9]at e2 I l2 G D;rw[d0.o]at l1 l2 a4 D;have s:0<(aT y1).length:=by simp[aT]
  rw[show ((p+1:Nat):Int)=(p:Int)+1 from by omega]at e1;obtain⟨b',o',e',_,_,Y,_⟩:=aX.at_ (z.o w (MC _ _)) (p:=p) aA;injection e' with e';injection e' with e1' e2';subst e1' e2';rw[b1]at Y;by_cases d6:q<na
  . have a5:=aB (fun (wr:OE) (h:OB w wr)=>fD (z.o wr h) ((p:Int)+1));rw[e1]at a5;have a6:=aB (fun (wr:OE) (h:OB w wr)=>fD (z.o wr h) (g1:Int));rw[e2]at a6;have d1:Hid (LP tt kk nb (q+1) g2 c7 (zq++[fd.a])):=aB ⟨by rw[show nb-(q+1)=r from by omega];exact G,by rw[NU];exact hZ,by simp[hL]⟩;have e0:decide ((q:Int)<(na:Int))=true:=MB aA;obtain⟨f0,e7,d5⟩:p+1<=g1/\g1<=g2/\g2<=n:=aA;clear U a4 s1 s2 Z G D e1 l1 e2 I l2 b4 b5 a8 a9 hr b1 c4 Y hZ hL s hs;go_wp2_with fail;refine (a5.o wr a3.o).mono ?_;rintro e w6 ⟨rfl,c1⟩;have b7:=bK a3 c1;clear c1;go_wp2_with fail;refine (a6.o w6 b7.o).mono ?_;rintro e w7 ⟨rfl,c2⟩;have c9:=bK b7 c2;clear c2;go_wp2_with fail;go_roundw
    case rel=>exact⟨q+1,g2,c7,zq++[fd.a],rfl,by go_num,by omega,d5,d1,c9⟩
    case measure=>simp[intOf];omega
  obtain rfl:q=na:=aA;have e0:decide ((q:Int)<(q:Int))=false:=MA aA;have c3:fd.a=pt:=by
   rw[b8.o,<-hZ,MK,List.getElem?_append_right aA,hL,Nat.sub_self];rfl
  rw[c3]at Y;have e8:(0:Int)<=(p:Int):=aA;have e4:(p:Int)<(n:Int):=aA;have e3:=(a3.o.cell (p:=⟨bf,off+p*3+1,none⟩) d2).trans Y;clear U a4 s1 s2 Z G D e1 l1 e2 I l2 b4 b5 a8 a9 hr b1 c4 Y hZ hL s hs d6 c3;go_wp2_with fail;go_ret;exact⟨rfl,a3.o⟩
end
end Go.Proofs.Ytlahmbhimhmoaaa
