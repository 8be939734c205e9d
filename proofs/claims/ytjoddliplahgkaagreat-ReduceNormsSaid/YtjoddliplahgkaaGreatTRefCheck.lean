/- Merged: Bell, RefCheck. -/
import Derived.Test.YtjoddliplahgkaaGreatTGraphs
import Derived.Test.YtjoddliplahgkaaGreatTBooks
import Derived.RegionTactic
namespace Go.Proofs.YtjoddliplahgkaaGreat
set_option maxHeartbeats 4000000
set_option maxRecDepth 100000
set_option linter.unusedVariables false
set_option linter.unusedSimpArgs false
open Go.RowKit
variable {w:aAB}
section
open Go.Lib renaming hid->aB
def jE(ds:List Int):Array Value:=(ds.map (Value.int .i64)).toArray
theorem MY(ds:List Int)(i:Nat)(z:Int):(jE ds).setIfInBounds i (.int .i64 z)=jE (ds.set i z):=by
 unfold jE;rw[List.setIfInBounds_toArray,List.map_set]
theorem PO{ds:List Int}{i:Nat}(h:i<ds.length):(jE ds)[i]? = some (.int .i64 (DB ds i)):=by
 unfold jE DB;simp[YB h]
theorem aT.int_at{g:Nat}{ds:List Int}(h:aT w g 3 (jE ds)){i:Nat}(D:i<ds.length):w.cell? ⟨g,i,none⟩=some (.int .i64 (DB ds i)):=by
 rw[h.cell,PO D]
theorem aT.int_set{g:Nat}{ds:List Int}(h:aT w g 3 (jE ds))(i:Nat)(z:Int):aT (w.setCell ⟨g,i,none⟩ (.int .i64 z)) g 3 (jE (ds.set i z)):=by
 rw[<-MY];exact h.set_ i _
theorem UU{N low:Nat}{os:List Nd}(D:low<N):GJ N os low 0 (nV N low):=by
 have I:low<(List.replicate N cL).length:=by simpa using D
 refine⟨by simp[nV],fun v hv G=>?_⟩;unfold nV at G ⊢;rw[kM I]at G ⊢;by_cases F:v=low
 . subst F;rw[XP rfl];exact⟨⟨_,.one aA aA⟩,by omega,by omega⟩
 rw[XN F]at G;exact absurd (by unfold DB;rw[YD,List.getElem?_replicate];split<;>rfl) G
def OF(r:Option (List Int))(w:aAB)(e:Ending)(w':aAB):Prop:=ZY w w'/\((r=none/\e=.returned (.tuple #[.slice none 0 0,.bool false]))\/∃ds A n c,r=some ds/\e=.returned (.tuple #[.slice A n c,.bool true])/\qM (· < w'.heap.size) w' A n c ds)
theorem M1(n:Nat)(O:n<=1000000)(w:aAB):(Instr.makeSlice 144 (.int .i64 (n:Int)) (.int .i64 (n:Int))).run Tryz.prog w=.ok (.slice (some ⟨w.heap.size,0,none⟩) n n) (w.alloc (.cells (jE (List.replicate n 0)) 3)):=by
 obtain⟨i,I,D,F,G⟩:=info_parts T7;rw[run_make (P:=Tryz.prog) w 144 3 i (.int .i64 0) Tryz.underlying144 I D .i64 .i64 n n aA aA (by rw[G];omega) aA,F];simp only[YG,Nat.mul_one];show Result.ok _ (w.alloc (.cells (madeCells #[Value.int .i64 0] n) _))=_;rw[IT];unfold jE;rw[List.map_replicate]
theorem PI{A:ZZ}{n c:Nat}{os:List Nd}(ht:aX w A n c os)(vars low:Nat)(hv:vars<=16)(hn:n<=64)(h6:low<=vars)(f0:∀o∈os,j7 (vars:Int) o=false):
 Calls Tryz.prog 100 #[.int .i64 (vars:Int),.slice A n c,.int .i64 (low:Int)] w (OF (qU (mS (vars+1) os) (vars+1+1) (nV (vars+1) low)) w):=by
 obtain⟨HT,e2⟩:=aAC (fun (w':aAB) (h:ZY w w')=>ht.below h) ht.len;have g8:=M1 (vars+1) aA;rw[show ((vars+1:Nat):Int)=(vars:Int)+1 from by omega]at g8;obtain⟨d0,c6⟩:=aAJ (qU (mS (vars+1) os) (vars+1+1) (nV (vars+1) low));rw[<-c6];obtain⟨e4,g5⟩:=aAC c6 f0;clear ht c6 f0;obtain⟨f4,f9⟩:=aAC (aQ w (.cells (jE (List.replicate (vars+1) 0)) 3)) (aT.new w 3 (jE (List.replicate (vars+1) 0)));go_in;go_wp2_with fail;go_loopw [9] (fun iv wr=>∃(v:Nat)(ds:List Int),iv=.int .i64 (v:Int)/\v<=vars+1/\ds.length=vars+1/\Hid (∀j,j<v->DB ds j=cL)/\Hid (aT wr w.heap.size 3 (jE ds))/\Hid (ZY w wr)) (fun i _=>vars+1-(intOf i).toNat)
 case atStart=>exact⟨0,List.replicate (vars+1) 0,rfl,by omega,by simp,aB (fun j hj=>absurd hj aA),f9,f4⟩
 case round =>
  obtain⟨v,ds,rfl,f3,d6,d7,a4,a9⟩:=hrel;by_cases c9:v<=vars
  . have c8:decide ((v:Int)<=(vars:Int))=true:=XR aA;have b5:decide (v<=vars)=true:=XR c9;have cv:=a4.o.int_at (i:=v) aA;have c7:=aT.frozen a4.o;have Z:Hid (aT (wr.setCell ⟨w.heap.size,v,none⟩ (.int .i64 (-1000000000))) w.heap.size 3 (jE (ds.set v cL))):=aB (a4.o.int_set v cL);have f6:Hid (∀j,j<v+1->DB (ds.set v cL) j=cL):=aB (fun j hj=>by
     rw[kM aA];split
     . rfl
     exact d7.o j aA)
    have Y:Hid (ZY w (wr.setCell ⟨w.heap.size,v,none⟩ (.int .i64 (-1000000000)))):=aB (a9.o.setCell aD _);go_wp2_with fail;go_roundw
    case rel=>exact⟨v+1,ds.set v cL,by go_num,by omega,by simpa using d6,f6,Z,Y⟩
    case measure=>simp[intOf];omega
  have c8:decide ((v:Int)<=(vars:Int))=false:=XQ aA;have b5:decide (v<=vars)=false:=XQ c9;have g6:ds=List.replicate (vars+1) cL:=by
   apply List.ext_getElem (by simpa using d6);intro i h1 h2;have:=d7.o i aA;unfold DB at this;rw[YD,YB h1]at this;simpa using this
  subst g6;have cl:=a4.o.int_at (i:=low) aG;have c7:=aT.frozen a4.o;have g7:low<vars+1:=aA;clear d7 d6;have g3:Hid (aT (wr.setCell ⟨w.heap.size,low,none⟩ (.int .i64 0)) w.heap.size 3 (jE (nV (vars+1) low))):=aB (a4.o.int_set low 0);have f5:Hid (ZY w (wr.setCell ⟨w.heap.size,low,none⟩ (.int .i64 0))):=aB (a9.o.setCell aD _);have e3:Hid (GJ (vars+1) os low 0 (nV (vars+1) low)):=aB (UU g7);go_wp2_with fail;clear a4 a9 cl c7 c8 b5 c9 f3;go_loopw [10] (fun rv wr=>∃(r:Nat)(ds:List Int),rv=.int .i64 (r:Int)/\r<=vars+2/\Hid (GJ (vars+1) os low (81000*(r:Int)) ds)/\Hid (qU (mS (vars+1) os) (vars+2-r) ds=d0)/\Hid (aT wr w.heap.size 3 (jE ds))/\Hid (ZY w wr)) (fun i _=>vars+2-(intOf i).toNat)
  case atStart=>exact⟨0,nV (vars+1) low,rfl,by omega,e3,aB e4.o.symm,g3,f5⟩
  case round =>
   obtain⟨r,ds,rfl,hr,h0,d8,a4,a9⟩:=hrel;by_cases c9:r<=vars+1;case neg =>
    have c8:decide ((r:Int)<=(vars:Int)+1)=false:=XQ aA;have HR:Hid (d0=none):=aB (by
     have:=d8.o;rw[show vars+2-r=0 from by omega]at this;exact this.symm)
    go_wp2_with fail;go_ret2;exact⟨a9.o,.inl ⟨HR.o,rfl⟩⟩
   have c8:decide ((r:Int)<=(vars:Int)+1)=true:=XR aA;have c3:=d8.o;rw[show vars+2-r=(vars+1-r)+1 from by omega]at c3;have f8:=aB c3;clear d8 c3;obtain⟨wo,rfl⟩:=aAJ wr;go_wp2_with fail;go_loopw [11,12] (fun tv iv wr=>∃(v:Nat)(O:List Int)(t:Bool),tv=.bool t/\iv=.int .i64 (v:Int)/\v<=vars+1/\Hid (t9 ((List.range v).map fun x=>(0,x,(0:Int))) ds false=(O,t))/\Hid (GJ (vars+1) os low (81000*(r:Int)+1000*(v:Int)) O)/\Hid (aT wr w.heap.size 3 (jE O))/\Hid (ZY w wr)) (fun _ i _=>vars+1-(intOf i).toNat)
   case atStart=>exact⟨0,ds,false,rfl,rfl,by omega,aB rfl,aB (by rw[show (81000*(r:Int)+1000*((0:Nat):Int))=81000*(r:Int) from by omega];exact h0.o),a4,a9⟩
   case round =>
    obtain⟨v,O,t,rfl,rfl,f3,e0,c5,s,b4⟩:=hrel;clear a4 a9;by_cases f2:v<=vars
    . have b5:decide ((v:Int)<=(vars:Int))=true:=XR aA;have e8:decide (v<=vars)=true:=XR f2;have hl:=c5.o.len;have c7:=aT.frozen s.o;have c0:=s.o.int_at (i:=0) aA;have cv:=s.o.int_at (i:=v) aA;obtain⟨x0,a8⟩:=aAJ (DB O 0);obtain⟨xv,b1⟩:=aAJ (DB O v);rw[<-a8]at c0;rw[<-b1]at cv;have G:t9 ((List.range (v+1)).map fun x=>(0,x,(0:Int))) ds false=(yY O 0 v 0,t||xH O 0 v 0):=by
       rw[List.range_succ,List.map_append,vD,e0.o];rfl
      have b0:Ed (vars+1) os ((0:Nat):Int) ((v:Nat):Int) 0:=⟨by omega,.inr (.inl ⟨rfl,rfl⟩)⟩;have D:=(JM c5.o (e:=(0,v,0)) ⟨b0,show (-1000:Int)<=0 by decide,show (0:Int)<=1000 by decide⟩).1;rw[show 81000*(r:Int)+1000*(v:Int)+1000=81000*(r:Int)+1000*((v+1:Nat):Int) from by omega]at D;by_cases c1:x0≠cL/\xv<x0
      . have U:yY O 0 v 0=O.set v x0:=by
         unfold yY;rw[XP (by rw[YQ];show DB O 0≠cL/\DB O v<DB O 0;rw[<-a8,<-b1];exact c1),YQ];show O.set v (DB O 0)=_;rw[<-a8]
        have a0:xH O 0 v 0=true:=XR (by rw[YQ];show DB O 0≠cL/\DB O v<DB O 0;rw[<-a8,<-b1];exact c1);rw[U,a0,Bool.or_true]at G;rw[U]at D;have HS:=aB G;have HO:=aB D;have b8:(x0 != -1000000000)=true:=by simpa[cL] using c1.1
        have d5:decide (xv<x0)=true:=XR c1.2;obtain⟨Z,Y⟩:=aAC (fun (k:Nat)=>(s.o.drewN k).int_set v x0) (fun (k:Nat)=>(aU b4.o k).setCell (p:=⟨w.heap.size,v,none⟩) aD (.int .i64 x0));clear G D U a0 a8 b1 c1 b0 hl;go_wp2_with fail;go_quiet (fail)
        go_wp2_with fail;go_roundw
        case rel=>exact⟨v+1,O.set v x0,true,rfl,by go_num,by omega,HS,HO,aB (Z.o _),aB (Y.o _)⟩
        case measure=>simp[intOf];omega
      have U:yY O 0 v 0=O:=by
       unfold yY;rw[XN (by rw[YQ];show ¬ (DB O 0≠cL/\DB O v<DB O 0);rw[<-a8,<-b1];exact c1)]
      have a0:xH O 0 v 0=false:=XQ (by rw[YQ];show ¬ (DB O 0≠cL/\DB O v<DB O 0);rw[<-a8,<-b1];exact c1);rw[U,a0,Bool.or_false]at G;rw[U]at D;have HS:=aB G;have HO:=aB D;have Z:=aB (fun (k:Nat)=>s.o.drewN k);have Y:=aB (fun (k:Nat)=>aU b4.o k);clear G D U a0 a8 b1 b0 hl;by_cases c2:x0=cL
      . have b8:(x0 != -1000000000)=false:=by simpa[cL] using c2
        clear c1 c2;go_wp2_with fail;go_quiet (fail)
        go_wp2_with fail;go_roundw
        case rel=>exact⟨v+1,O,t,rfl,by go_num,by omega,HS,HO,aB (Z.o _),aB (Y.o _)⟩
        case measure=>simp[intOf];omega
      have b8:(x0 != -1000000000)=true:=by simpa[cL] using c2
      have d5:decide (xv<x0)=false:=XQ (fun h=>c1 ⟨c2,h⟩);clear c1 c2;go_wp2_with fail;go_quiet (fail)
      go_wp2_with fail;go_roundw
      case rel=>exact⟨v+1,O,t,rfl,by go_num,by omega,HS,HO,aB (Z.o _),aB (Y.o _)⟩
      case measure=>simp[intOf];omega
    have b5:decide ((v:Int)<=(vars:Int))=false:=XQ aA;have e8:decide (v<=vars)=false:=XQ f2;obtain rfl:v=vars+1:=aA;obtain⟨i5,rfl⟩:=aAJ wr;obtain⟨F,hF⟩:∃F:Nd->Nat×Nat×Int,F=fun o=>(o.op.toNat,o.b.toNat,o.a):=⟨_,rfl⟩;have e5:=aB e0.o;clear e0;go_wp2_with fail;go_loopw [11,13] (fun tv iv wr=>∃(i:Nat)(I:List Int)(t2:Bool),tv=.bool t2/\iv=.int .i64 (i:Int)/\i<=n/\Hid (t9 ((os.take i).map F) O t=(I,t2))/\Hid (GJ (vars+1) os low (81000*(r:Int)+1000*((vars+1:Nat):Int)+1000*(i:Int)) I)/\Hid (aT wr w.heap.size 3 (jE I))/\Hid (ZY w wr)) (fun _ i _=>n-(intOf i).toNat)
    case atStart=>exact⟨0,O,t,rfl,rfl,by omega,aB rfl,aB (by rw[show 81000*(r:Int)+1000*((vars+1:Nat):Int)+1000*((0:Nat):Int)=81000*(r:Int)+1000*((vars+1:Nat):Int) from by omega];exact c5.o),s,b4⟩
    case round =>
     obtain⟨i,I,t2,rfl,rfl,i2,d4,b6,b3,a6⟩:=hrel;clear s b4;by_cases e7:i<n;rotate_left
     . have e9:decide ((i:Int)<(n:Int))=false:=XQ aA;have b9:t9 (mS (vars+1) os) ds false=(I,t2):=by
        unfold mS;rw[vD,e5.o];have:=d4.o;rw[ZN (by rw[e2.o];omega),hF]at this;exact this
       have a7:=f8.o;simp only[qU,b9]at a7;have D:=b6.o;cases t2 with
       | true =>
        have f7:Hid (qU (mS (vars+1) os) (vars+2-(r+1)) I=d0):=aB (by
         rw[show vars+2-(r+1)=vars+1-r from by omega];simpa using a7)
        have g4:Hid (GJ (vars+1) os low (81000*((r+1:Nat):Int)) I):=aB ⟨D.len,fun v hv hn=>by
         obtain⟨a1,a2,a3⟩:=D.way v hv hn;exact⟨a1,by omega,by omega⟩⟩
        clear b9 a7 D hF;go_wp2_with fail;go_roundw
        case rel=>exact⟨r+1,I,by go_num,by omega,g4,f7,b3,a6⟩
        case measure=>simp[intOf];omega
       | false =>
        have HR:Hid (d0=some I):=aB (by simpa using a7.symm);have HI:Hid (qM (· < wr.heap.size) wr (some ⟨w.heap.size,0,none⟩) (vars+1) (vars+1) I):=aB ⟨D.len,by omega,fun _=>⟨w.heap.size,0,rfl,b3.o.lt,fun k hk=>by
         rw[YH,b3.o.int_at (by rw[D.len];exact hk)];have:k<I.length:=by rw[D.len];exact hk
         unfold DB;rw[YD,YD,YB this];rfl⟩⟩
        clear b9 a7 D hF;go_wp2_with fail;go_ret2;exact⟨a6.o,.inr ⟨I,_,_,_,HR.o,rfl,HI.o⟩⟩
     have e9:decide ((i:Int)<(n:Int))=true:=XR aA;obtain⟨ba,oa,rfl,i1,g0,g1,g2⟩:=(HT.o wr a6.o).at_ e7;have d9:i<os.length:=by rw[e2.o];exact e7
     obtain⟨o,ho⟩:=aAJ (bC os i);have c4:o∈os:=by rw[ho,lR d9];exact ZQ _
     have d3:=g5.o o c4;have e6:=GR d3;have f1:os.take (i+1)=os.take i++[o]:=by rw[ho,lR d9,List.take_add_one,YB d9];rfl
     rw[<-ho]at g0 g1 g2;obtain⟨oo,oadd,ob⟩:=o;simp only at e6 g0 g1 g2;obtain⟨u,rfl⟩:∃u:Nat,oo=u:=⟨oo.toNat,by omega⟩;obtain⟨z,rfl⟩:∃z:Nat,ob=z:=⟨ob.toNat,by omega⟩;have hl:=b6.o.len;obtain⟨b7,e1⟩:=aAC (b3.o.alloc (.cells #[.int .i64 (u:Int),.int .i64 oadd,.int .i64 (z:Int)] 66)) (a6.o.alloc a6.o.size (.cells #[.int .i64 (u:Int),.int .i64 oadd,.int .i64 (z:Int)] 66));have c7:=aT.frozen b7.o;have cu:=b7.o.int_at (i:=u) aA;have cz:=b7.o.int_at (i:=z) aA;obtain⟨xu,a5⟩:=aAJ (DB I u);obtain⟨xz,b2⟩:=aAJ (DB I z);rw[<-a5]at cu;rw[<-b2]at cz;have G:t9 ((os.take (i+1)).map F) O t=(yY I u z oadd,t2||xH I u z oadd):=by
      rw[f1,List.map_append,vD,d4.o,hF];rfl
     have b0:Ed (vars+1) os ((u:Nat):Int) ((z:Nat):Int) oadd:=⟨by omega,.inr (.inr ⟨_,c4,rfl,rfl,rfl⟩)⟩;have D:=(JM b6.o (e:=(u,z,oadd)) ⟨b0,by simp only;omega,by simp only;omega⟩).1;rw[show 81000*(r:Int)+1000*((vars+1:Nat):Int)+1000*(i:Int)+1000=81000*(r:Int)+1000*((vars+1:Nat):Int)+1000*((i+1:Nat):Int) from by omega]at D;have h5 : -1000000000<=xu/\xu<=900000000:=by
      by_cases hn:DB I u=cL
      . rw[a5,hn];unfold cL;omega
      have:=(b6.o.way u aA hn).2;rw[a5];omega
     obtain⟨h9,i0⟩:=h5;have g9 : -1000<=oadd/\oadd<=1000:=aA;obtain⟨h7,h8⟩:=g9;have h3:u<vars+1/\z<vars+1:=aA;obtain⟨i3,i4⟩:=h3;have h4:IntKind.i64.wrap (xu+oadd)=xu+oadd:=by rw[XV];omega
     clear c4 d3 e6 f1 ho hF hl;by_cases c1:xu≠cL/\xz<xu+oadd
     . have U:yY I u z oadd=I.set z (xu+oadd):=by
        unfold yY;rw[XP (by show DB I u≠cL/\DB I z<DB I u+oadd;rw[<-a5,<-b2];exact c1)];show I.set z (DB I u+oadd)=_;rw[<-a5]
       have a0:xH I u z oadd=true:=XR (by show DB I u≠cL/\DB I z<DB I u+oadd;rw[<-a5,<-b2];exact c1);rw[U,a0,Bool.or_true]at G;rw[U]at D;have HS:=aB G;have HO:=aB D;have b8:(xu != -1000000000)=true:=by simpa[cL] using c1.1
       have d5:decide (xz<xu+oadd)=true:=XR c1.2;obtain⟨Z,Y⟩:=aAC (fun (k:Nat)=>(b7.o.drewN k).int_set z (xu+oadd)) (fun (k:Nat)=>(aU e1.o k).setCell (p:=⟨w.heap.size,z,none⟩) aD (.int .i64 (xu+oadd)));clear G D U a0 a5 b2 c1 b0;go_wp2_with fail;go_quiet (fail)
       go_wp2_with fail;go_region
       all_goals
        go_wp2_with fail;go_roundw
        case rel=>exact⟨i+1,I.set z (xu+oadd),true,rfl,by go_num,by omega,HS,HO,aB (Z.o _),aB (Y.o _)⟩
        case measure=>simp[intOf];omega
     have U:yY I u z oadd=I:=by
      unfold yY;rw[XN (by show ¬ (DB I u≠cL/\DB I z<DB I u+oadd);rw[<-a5,<-b2];exact c1)]
     have a0:xH I u z oadd=false:=XQ (by show ¬ (DB I u≠cL/\DB I z<DB I u+oadd);rw[<-a5,<-b2];exact c1);rw[U,a0,Bool.or_false]at G;rw[U]at D;have HS:=aB G;have HO:=aB D;have Z:=aB (fun (k:Nat)=>b7.o.drewN k);have Y:=aB (fun (k:Nat)=>aU e1.o k);clear G D U a0 a5 b2 b0;by_cases c2:xu=cL
     . have b8:(xu != -1000000000)=false:=by simpa[cL] using c2
       clear c1 c2;go_wp2_with fail;go_quiet (fail)
       go_wp2_with fail;go_roundw
       case rel=>exact⟨i+1,I,t2,rfl,by go_num,by omega,HS,HO,aB (Z.o _),aB (Y.o _)⟩
       case measure=>simp[intOf];omega
     have b8:(xu != -1000000000)=true:=by simpa[cL] using c2
     have d5:decide (xz<xu+oadd)=false:=XQ (fun h=>c1 ⟨c2,h⟩);clear c1 c2;go_wp2_with fail;go_quiet (fail)
     go_wp2_with fail;go_roundw
     case rel=>exact⟨i+1,I,t2,rfl,by go_num,by omega,HS,HO,aB (Z.o _),aB (Y.o _)⟩
     case measure=>simp[intOf];omega
end
section
open Go.Lib renaming hid->aB
theorem OO{vars:Int}{o:Nd}(h:j7 vars o=true):(o.op<0)\/(¬ o.op<0/\o.op>vars)\/(¬ o.op<0/\¬ o.op>vars/\o.b<0)\/(¬ o.op<0/\¬ o.op>vars/\¬ o.b<0/\o.b>vars)\/(¬ o.op<0/\¬ o.op>vars/\¬ o.b<0/\¬ o.b>vars/\o.a < -1000)\/(¬ o.op<0/\¬ o.op>vars/\¬ o.b<0/\¬ o.b>vars/\¬ o.a < -1000/\o.a>1000):=by
 simp only[j7,ZJ,YJ]at h;omega
theorem C3{A:ZZ}{n c:Nat}{os:List Nd}(ht:aX w A n c os)(vars:Int)(hw:(Lit.int .i64 vars).wf=true):
 Calls Tryz.prog 52 #[.int .i64 vars,.slice A n c] w (iV (qI vars os).1 w):=by
 obtain⟨HT,b5⟩:=aAC (fun (w':aAB) (h:ZY w w')=>ht.below h) ht.len;obtain⟨t1,t2,t3,t4⟩:=R7 vars os;by_cases h1:vars<0
 . have d1:decide (vars<0)=true:=XR h1;have O:=aB (t1 (.inl h1));clear t1 t2 t3 t4 h1 ht;go_in;go_wp2_with fail;go_ret;rw[O.o];exact⟨rfl,XS _ _⟩
 have d1:decide (vars<0)=false:=XQ h1;by_cases h2:16<vars
 . have d2:decide (vars>16)=true:=XR h2;have O:=aB (t1 (.inr h2));clear t1 t2 t3 t4 h1 h2 ht;go_in;go_wp2_with fail;go_ret;rw[O.o];exact⟨rfl,XS _ _⟩
 have d2:decide (vars>16)=false:=XQ h2;have Z:¬ (vars<0\/16<vars):=aA;have a9:=ht.len;by_cases h3:64<n
 . have d3:decide ((n:Int)>64)=true:=XR aA;have O:=aB (t2 Z (by rw[a9];exact h3));clear t1 t2 t3 t4 h1 h2 h3 ht a9;go_in;go_wp2_with fail;go_ret;rw[O.o];exact⟨rfl,XS _ _⟩
 have d3:decide ((n:Int)>64)=false:=XQ aA;have c1:n<=64:=aA;have a5:¬ 64<os.length:=aA;have a1:=aB (t3 Z a5);have G:=aB (t4 Z a5);obtain⟨D,rfl⟩:∃D:Nat,vars=D:=⟨vars.toNat,by omega⟩;have c6:D<=16:=aA;have a2:=aB (fun (hb:∀o∈os,j7 (D:Int) o=false)=>OP (N:=D+1) (os:=os) aA aA aA (by rw[show (((D+1:Nat):Int)-1)=(D:Int) from by omega];exact hb));have a4:=aB (fun (w':aAB) (h:ZY w w') (hb:∀o∈os,j7 (D:Int) o=false) (low:Nat) (hl:low<=D)=>PI (ht.below h) D low c6 c1 hl hb);have c4:=aB (show ((D:Int).toNat+1)=D+1 from by omega);rw[c4.o]at G;generalize (qI (D:Int) os).1=res at *;clear t1 t2 t3 t4 h1 h2 h3 Z a5 a9 ht hw;have c2:=aB (XS w.heap.size w);go_in;go_wp2_with fail;go_loopw [5] (fun iv wr=>∃i:Nat,iv=.int .i64 (i:Int)/\i<=n/\Hid (∀o∈os.take i,j7 (D:Int) o=false)/\Hid (ZY w wr)) (fun i _=>n-(intOf i).toNat)
 case atStart=>exact⟨0,rfl,by omega,aB aD,c2⟩
 case round =>
  obtain⟨i,rfl,c8,a7,I⟩:=hrel;by_cases b7:i<n
  . have b8:decide ((i:Int)<(n:Int))=true:=XR aA;obtain⟨ba,oa,rfl,c7,g0,g1,g2⟩:=(HT.o wr I.o).at_ b7;have a8:i<os.length:=by rw[b5.o];exact b7
    obtain⟨o,ho⟩:=aAJ (bC os i);have Y:o∈os:=by rw[ho,lR a8];exact ZQ _
    have b0:os.take (i+1)=os.take i++[o]:=by rw[ho,lR a8,List.take_add_one,YB a8];rfl
    rw[<-ho]at g0 g1 g2;cases hbad:j7 (D:Int) o with
    | true =>
     obtain⟨O,a3⟩:=aAC (a1.o ⟨o,Y,hbad⟩) (I.o.alloc I.o.size (.cells #[.int .i64 o.op,.int .i64 o.a,.int .i64 o.b] 66));have c5:=OO hbad;generalize o.op=lo at *;generalize o.a=ad at *;generalize o.b=hi at *;clear Y b0 hbad ho;rcases c5 with h|⟨s,h⟩|⟨s,e2,h⟩|⟨s,e2,e3,h⟩|⟨s,e2,e3,e4,h⟩|⟨s,e2,e3,e4,e5,h⟩;all_goals
      (try have k1:=XQ s)
      (try have k2:=XQ e2)
      (try have k3:=XQ e3)
      (try have k4:=XQ e4)
      (try have k5:=XQ e5)
      have k6:=XR h
      (try clear s)
      (try clear e2)
      (try clear e3)
      (try clear e4)
      (try clear e5)
      clear h;go_wp2_with fail;go_ret;rw[O.o];exact⟨rfl,a3.o⟩
    | false =>
     have HG:=aB (show ∀o'∈os.take (i+1),j7 (D:Int) o'=false from fun o' z=>by
      rw[b0,YW,ZK]at z;rcases z with z|rfl
      . exact a7.o o' z
      exact hbad)
     have a3:=aB (I.o.alloc I.o.size (.cells #[.int .i64 o.op,.int .i64 o.a,.int .i64 o.b] 66));obtain⟨s,e2,e3,e4,e5,e6⟩:=BQ hbad;generalize o.op=lo at *;generalize o.a=ad at *;generalize o.b=hi at *;have k1:=XQ s;have k2:=XQ e2;have k3:=XQ e3;have k4:=XQ e4;have k5:=XQ e5;have k6:=XQ e6;clear Y b0 hbad ho s e2 e3 e4 e5 e6;go_wp2_with fail;go_roundw
     case rel=>exact⟨i+1,by go_num,by omega,HG,a3⟩
     case measure=>simp[intOf];omega
  have b8:decide ((i:Int)<(n:Int))=false:=XQ aA;have F:∀o∈os,j7 (D:Int) o=false:=by
   have:=a7.o
   rwa [ZN (by rw[b5.o];omega)]at this
  obtain⟨b3,c3,b4⟩:=aAF (a2.o F) (fun (w':aAB) (h:ZY w w') (low:Nat) (hl:low<=D)=>a4.o w' h F low hl) (G.o F);clear F a7;go_wp2_with fail;obtain⟨wo,rfl⟩:=aAJ wr;go_loopw [7] (fun iv wr=>∃v:Nat,iv=.int .i64 (v:Int)/\v<=D+1/\Hid (∀low,low<v->qU (mS (D+1) os) (D+1+1) (nV (D+1) low)≠none)/\Hid (ZY w wr)) (fun i _=>D+1-(intOf i).toNat)
  case atStart=>exact⟨0,rfl,by omega,aB (fun low h=>absurd h aA),I⟩
  case round =>
   obtain⟨v,rfl,Z,a0,U⟩:=hrel;by_cases b1:v<=D;rotate_left
   . have b9:decide ((v:Int)<=(D:Int))=false:=XQ aA;have c0:decide (v<=D)=false:=XQ b1;have O:Hid (res=0):=aB (b4.o.2 (b3.o.1 (fun low hl=>a0.o low aA)));go_wp2_with fail;go_ret;rw[O.o];exact⟨rfl,U.o⟩
   have b9:decide ((v:Int)<=(D:Int))=true:=XR aA;have c0:decide (v<=D)=true:=XR b1;have HC:=aB (c3.o wr U.o v b1);go_wp2_with fail;refine HC.o.mono ?_;rintro e w2 ⟨b6,a6⟩;have b2:=bY U b6;clear b6;rcases a6 with⟨hr,rfl⟩|⟨ds,A',n',c',hr,rfl,_⟩
   . have O:Hid (res=7):=aB (by
      by_cases hp:TY (D+1) os
      . exact b4.o.1 hp
      exact absurd hr (b3.o.2 hp v aA))
     clear hr;go_wp2_with fail;go_ret;rw[O.o];exact⟨rfl,b2.o⟩
   have HA:Hid (∀low,low<v+1->qU (mS (D+1) os) (D+1+1) (nV (D+1) low)≠none):=aB (fun low hl=>by
    by_cases h:low<v
    . exact a0.o low h
    have:low=v:=aA;subst this;rw[hr];simp)
   clear hr;go_wp2_with fail;go_roundw
   case rel=>exact⟨v+1,by go_num,by omega,HA,b2⟩
   case measure=>simp[intOf];omega
end
end Go.Proofs.YtjoddliplahgkaaGreat
