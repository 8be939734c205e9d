/- Merged: Bell, RefCheck. -/
import Derived.Test.YtjoddliplahgkaaGreatPGraphs
import Derived.Test.YtjoddliplahgkaaGreatPBooks
import Derived.RegionTactic
namespace Go.Proofs.YtjoddliplahgkaaGreat
set_option linter.unusedVariables false
set_option linter.unusedSimpArgs false
open Go.RowKit
section
open Go.Lib renaming hid->aB
def iT (ds:List Int):Array Value:=(ds.map (Value.int .i64)).toArray
theorem JG (ds:List Int) (i:Nat) (z:Int):(iT ds).setIfInBounds i (.int .i64 z)=iT (ds.set i z):=by
 unfold iT;rw[List.setIfInBounds_toArray,List.map_set]
theorem MD {ds:List Int} {i:Nat} (h:i<ds.length):(iT ds)[i]? = some (.int .i64 (DB ds i)):=by
 unfold iT DB;simp[List.getElem?_eq_getElem h]
theorem aS.int_at {w:World} {g:Nat} {ds:List Int} (h:aS w g 3 (iT ds)) {i:Nat} (hi:i<ds.length):w.cell? ⟨g,i,none⟩=some (.int .i64 (DB ds i)):=by
 rw[h.cell,MD hi]
theorem aS.int_set {w:World} {g:Nat} {ds:List Int} (h:aS w g 3 (iT ds)) (i:Nat) (z:Int):aS (w.setCell ⟨g,i,none⟩ (.int .i64 z)) g 3 (iT (ds.set i z)):=by
 rw[<-JG];exact h.set_ i _
theorem Q1 {N low:Nat} {os:List Nd} (hlow:low<N):DS N os low 0 (mO N low):=by
 have a0:low<(List.replicate N cK).length:=by simpa using hlow
 refine⟨by simp[mO],fun v hv hn => ?_⟩;unfold mO at hn ⊢;rw[jY a0] at hn ⊢;by_cases hvl:v=low
 · subst hvl;rw[if_pos rfl];exact⟨⟨_,.one aA aA⟩,by omega,by omega⟩
 rw[if_neg hvl] at hn;exact absurd (by unfold DB;rw[List.getD_eq_getElem?_getD,List.getElem?_replicate];split<;>rfl) hn
def KV (r:Option (List Int)) (w:World) (e:Ending) (w':World):Prop:=Below w.heap.size w w'/\((r=none/\e=.returned (.tuple #[.slice none 0 0,.bool false]))\/∃ds A n c,r=some ds/\e=.returned (.tuple #[.slice A n c,.bool true])/\P2 (· < w'.heap.size) w' A n c ds)
theorem JH (n:Nat) (hn:n<=1000000) (w:World):(Instr.makeSlice 144 (.int .i64 (n:Int)) (.int .i64 (n:Int))).run Tryz.prog w=.ok (.slice (some ⟨w.heap.size,0,none⟩) n n) (w.alloc (.cells (iT (List.replicate n 0)) 3)):=by
 obtain⟨i,hi,h1,h2,h3⟩:=info_parts QD;rw[run_make (P:=Tryz.prog) w 144 3 i (.int .i64 0) Tryz.underlying144 hi h1 .i64 .i64 n n aA aA (by rw[h3];omega) aA,h2];simp only[Int.toNat_natCast,Nat.mul_one];show Result.ok _ (w.alloc (.cells (madeCells #[Value.int .i64 0] n) _))=_;rw[E2];unfold iT;rw[List.map_replicate]
set_option maxRecDepth 100000 in
set_option maxHeartbeats 4000000 in
theorem L8 {w:World} {A:Option Addr} {n c:Nat} {os:List Nd} (ht:aY w A n c os) (vars low:Nat) (hv:vars<=16) (hn:n<=64) (hlow:low<=vars) (hos:∀o ∈ os,jK (vars:Int) o=false) :
 Calls Tryz.prog 100 #[.int .i64 (vars:Int),.slice A n c,.int .i64 (low:Int)] w (KV (pM (lS (vars+1) os) (vars+1+1) (mO (vars+1) low)) w):=by
 have HT:=aB (fun (w':World) (h:Below w.heap.size w w')=>ht.below h);have f2:=aB ht.len;have g5:=JH (vars+1) aA;rw[show ((vars+1:Nat):Int)=(vars:Int)+1 from by omega] at g5;obtain⟨res,c4⟩ : ∃res,res=pM (lS (vars+1) os) (vars+1+1) (mO (vars+1) low):=⟨_,rfl⟩;rw[<-c4];have e6:=aB c4;have g8:=aB hos;clear ht c4 hos;have h8:=aB (aP w (.cells (iT (List.replicate (vars+1) 0)) 3));have h3:=aB (aS.new w 3 (iT (List.replicate (vars+1) 0)));go_in;go_wp2_with fail;go_loopw [9] (fun iv wr=>∃(v:Nat) (ds:List Int),iv=.int .i64 (v:Int)/\v<=vars+1/\ds.length=vars+1/\Hid (∀j,j<v->DB ds j=cK)/\Hid (aS wr w.heap.size 3 (iT ds))/\Hid (Below w.heap.size w wr)) (fun i _=>vars+1-(intOf i).toNat)
 case atStart=>exact⟨0,List.replicate (vars+1) 0,rfl,by omega,by simp,aB (fun j hj=>absurd hj aA),h3,h8⟩
 case round =>
  obtain⟨v,ds,rfl,e9,e4,e3,b3,c9⟩:=hrel;by_cases hlt:v<=vars
  · have d6:decide ((v:Int)<=(vars:Int))=true:=decide_eq_true aA;have b5:decide (v<=vars)=true:=decide_eq_true hlt;have cv:=b3.o.int_at (i:=v) aA;have d7:=aS.frozen b3.o;have b0:Hid (aS (wr.setCell ⟨w.heap.size,v,none⟩ (.int .i64 (-1000000000))) w.heap.size 3 (iT (ds.set v cK))):=aB (b3.o.int_set v cK);have h6:Hid (∀j,j<v+1->DB (ds.set v cK) j=cK):=aB (fun j hj=>by
     rw[jY aA];split
     · rfl
     exact e3.o j aA)
    have b1:Hid (Below w.heap.size w (wr.setCell ⟨w.heap.size,v,none⟩ (.int .i64 (-1000000000)))):=aB (c9.o.setCell aD _);go_wp2_with fail;go_roundw
    case rel=>exact⟨v+1,ds.set v cK,by go_num,by omega,by simpa using e4,h6,b0,b1⟩
    case measure=>simp[intOf];omega
  have d6:decide ((v:Int)<=(vars:Int))=false:=decide_eq_false aA;have b5:decide (v<=vars)=false:=decide_eq_false hlt;have g7:ds=List.replicate (vars+1) cK:=by
   apply List.ext_getElem (by simpa using e4);intro i h1 h2;have:=e3.o i aA;unfold DB at this;rw[List.getD_eq_getElem?_getD,List.getElem?_eq_getElem h1] at this;simpa using this
  subst g7;have cl:=b3.o.int_at (i:=low) aG;have d7:=aS.frozen b3.o;have g6:low<vars+1:=aA;clear e3 e4;have h0:Hid (aS (wr.setCell ⟨w.heap.size,low,none⟩ (.int .i64 0)) w.heap.size 3 (iT (mO (vars+1) low))):=aB (b3.o.int_set low 0);have h7:Hid (Below w.heap.size w (wr.setCell ⟨w.heap.size,low,none⟩ (.int .i64 0))):=aB (c9.o.setCell aD _);have e7:Hid (DS (vars+1) os low 0 (mO (vars+1) low)):=aB (Q1 g6);go_wp2_with fail;clear b3 c9 cl d7 d6 b5 hlt e9;go_loopw [10] (fun rv wr=>∃(r:Nat) (ds:List Int),rv=.int .i64 (r:Int)/\r<=vars+2/\Hid (DS (vars+1) os low (81000*(r:Int)) ds)/\Hid (pM (lS (vars+1) os) (vars+2-r) ds=res)/\Hid (aS wr w.heap.size 3 (iT ds))/\Hid (Below w.heap.size w wr)) (fun i _=>vars+2-(intOf i).toNat)
  case atStart=>exact⟨0,mO (vars+1) low,rfl,by omega,e7,aB e6.o.symm,h0,h7⟩
  case round =>
   obtain⟨r,ds,rfl,hr,f8,e2,b3,c9⟩:=hrel;by_cases hlt:r<=vars+1;case neg =>
    have d6:decide ((r:Int)<=(vars:Int)+1)=false:=decide_eq_false aA;have HR:Hid (res=none):=aB (by
     have:=e2.o;rw[show vars+2-r=0 from by omega] at this;exact this.symm)
    go_wp2_with fail;go_ret2;exact⟨c9.o,.inl ⟨HR.o,rfl⟩⟩
   have d6:decide ((r:Int)<=(vars:Int)+1)=true:=decide_eq_true aA;have c7:=e2.o;rw[show vars+2-r=(vars+1-r)+1 from by omega] at c7;have h4:=aB c7;clear e2 c7;obtain⟨wo,rfl⟩ : ∃wo:World,wo=wr:=⟨_,rfl⟩;go_wp2_with fail;go_loopw [11,12] (fun tv iv wr=>∃(v:Nat) (d1:List Int) (t:Bool),tv=.bool t/\iv=.int .i64 (v:Int)/\v<=vars+1/\Hid (sB ((List.range v).map fun x=>(0,x,(0:Int))) ds false=(d1,t))/\Hid (DS (vars+1) os low (81000*(r:Int)+1000*(v:Int)) d1)/\Hid (aS wr w.heap.size 3 (iT d1))/\Hid (Below w.heap.size w wr)) (fun _ i _=>vars+1-(intOf i).toNat)
   case atStart=>exact⟨0,ds,false,rfl,rfl,by omega,aB rfl,aB (by rw[show (81000*(r:Int)+1000*((0:Nat):Int))=81000*(r:Int) from by omega];exact f8.o),b3,c9⟩
   case round =>
    obtain⟨v,d1,t,rfl,rfl,e9,d8,c5,a6,b6⟩:=hrel;clear b3 c9;by_cases hv2:v<=vars
    · have b5:decide ((v:Int)<=(vars:Int))=true:=decide_eq_true aA;have e1:decide (v<=vars)=true:=decide_eq_true hv2;have hl:=c5.o.len;have d7:=aS.frozen a6.o;have c0:=a6.o.int_at (i:=0) aA;have cv:=a6.o.int_at (i:=v) aA;obtain⟨x0,b8⟩ : ∃x0,x0=DB d1 0:=⟨_,rfl⟩;obtain⟨xv,c3⟩ : ∃xv,xv=DB d1 v:=⟨_,rfl⟩;rw[<-b8] at c0;rw[<-c3] at cv;have a4:sB ((List.range (v+1)).map fun x=>(0,x,(0:Int))) ds false=(vV d1 0 v 0,t||uM d1 0 v 0):=by
       rw[List.range_succ,List.map_append,sW,d8.o];rfl
      have c8:Ed (vars+1) os ((0:Nat):Int) ((v:Nat):Int) 0:=⟨by omega,.inr (.inl ⟨rfl,rfl⟩)⟩;have a0:=(FP c5.o (e:=(0,v,0)) ⟨c8,show (-1000:Int)<=0 by decide,show (0:Int)<=1000 by decide⟩).1;rw[show 81000*(r:Int)+1000*(v:Int)+1000=81000*(r:Int)+1000*((v+1:Nat):Int) from by omega] at a0;by_cases c1:x0 ≠ cK/\xv<x0
      · have a5:vV d1 0 v 0=d1.set v x0:=by
         unfold vV;rw[if_pos (by rw[Int.add_zero];show DB d1 0 ≠ cK/\DB d1 v<DB d1 0;rw[<-b8,<-c3];exact c1),Int.add_zero];show d1.set v (DB d1 0)=_;rw[<-b8]
        have a7:uM d1 0 v 0=true:=decide_eq_true (by rw[Int.add_zero];show DB d1 0 ≠ cK/\DB d1 v<DB d1 0;rw[<-b8,<-c3];exact c1);rw[a5,a7,Bool.or_true] at a4;rw[a5] at a0;have HS:=aB a4;have HO:=aB a0;have d1':(x0 != -1000000000)=true:=by simpa[cK] using c1.1
        have d2':decide (xv<x0)=true:=decide_eq_true c1.2;have b0:=aB (fun (k:Nat)=>(a6.o.drewN k).int_set v x0);have b1:=aB (fun (k:Nat)=>(aT b6.o k).setCell (p:=⟨w.heap.size,v,none⟩) aD (.int .i64 x0));clear a4 a0 a5 a7 b8 c3 c1 c8 hl;go_wp2_with fail;go_quiet (fail)
        go_wp2_with fail;go_roundw
        case rel=>exact⟨v+1,d1.set v x0,true,rfl,by go_num,by omega,HS,HO,aB (b0.o _),aB (b1.o _)⟩
        case measure=>simp[intOf];omega
      have a5:vV d1 0 v 0=d1:=by
       unfold vV;rw[if_neg (by rw[Int.add_zero];show ¬ (DB d1 0 ≠ cK/\DB d1 v<DB d1 0);rw[<-b8,<-c3];exact c1)]
      have a7:uM d1 0 v 0=false:=decide_eq_false (by rw[Int.add_zero];show ¬ (DB d1 0 ≠ cK/\DB d1 v<DB d1 0);rw[<-b8,<-c3];exact c1);rw[a5,a7,Bool.or_false] at a4;rw[a5] at a0;have HS:=aB a4;have HO:=aB a0;have b0:=aB (fun (k:Nat)=>a6.o.drewN k);have b1:=aB (fun (k:Nat)=>aT b6.o k);clear a4 a0 a5 a7 b8 c3 c8 hl;by_cases c2:x0=cK
      · have d1':(x0 != -1000000000)=false:=by simpa[cK] using c2
        clear c1 c2;go_wp2_with fail;go_quiet (fail)
        go_wp2_with fail;go_roundw
        case rel=>exact⟨v+1,d1,t,rfl,by go_num,by omega,HS,HO,aB (b0.o _),aB (b1.o _)⟩
        case measure=>simp[intOf];omega
      have d1':(x0 != -1000000000)=true:=by simpa[cK] using c2
      have d2':decide (xv<x0)=false:=decide_eq_false (fun h=>c1 ⟨c2,h⟩);clear c1 c2;go_wp2_with fail;go_quiet (fail)
      go_wp2_with fail;go_roundw
      case rel=>exact⟨v+1,d1,t,rfl,by go_num,by omega,HS,HO,aB (b0.o _),aB (b1.o _)⟩
      case measure=>simp[intOf];omega
    have b5:decide ((v:Int)<=(vars:Int))=false:=decide_eq_false aA;have e1:decide (v<=vars)=false:=decide_eq_false hv2;obtain rfl:v=vars+1:=aA;obtain⟨wo2,rfl⟩ : ∃wo:World,wo=wr:=⟨_,rfl⟩;obtain⟨F,hF⟩ : ∃F:Nd->Nat×Nat×Int,F=fun o=>(o.op.toNat,o.b.toNat,o.a):=⟨_,rfl⟩;have e5:=aB d8.o;clear d8;go_wp2_with fail;go_loopw [11,13] (fun tv iv wr=>∃(i:Nat) (d2:List Int) (t2:Bool),tv=.bool t2/\iv=.int .i64 (i:Int)/\i<=n/\Hid (sB ((os.take i).map F) d1 t=(d2,t2))/\Hid (DS (vars+1) os low (81000*(r:Int)+1000*((vars+1:Nat):Int)+1000*(i:Int)) d2)/\Hid (aS wr w.heap.size 3 (iT d2))/\Hid (Below w.heap.size w wr)) (fun _ i _=>n-(intOf i).toNat)
    case atStart=>exact⟨0,d1,t,rfl,rfl,by omega,aB rfl,aB (by rw[show 81000*(r:Int)+1000*((vars+1:Nat):Int)+1000*((0:Nat):Int)=81000*(r:Int)+1000*((vars+1:Nat):Int) from by omega];exact c5.o),a6,b6⟩
    case round =>
     obtain⟨i,d2,t2,rfl,rfl,i1,d3,b4,b7,a9⟩:=hrel;clear a6 b6;by_cases hi2:i<n;rotate_left
     · have e0:decide ((i:Int)<(n:Int))=false:=decide_eq_false aA;have d0:sB (lS (vars+1) os) ds false=(d2,t2):=by
        unfold lS;rw[sW,e5.o];have:=d3.o;rw[List.take_of_length_le (by rw[f2.o];omega),hF] at this;exact this
       have a8:=h4.o;simp only[pM,d0] at a8;have a0:=b4.o;cases t2 with
       | true =>
        have h5:Hid (pM (lS (vars+1) os) (vars+2-(r+1)) d2=res):=aB (by
         rw[show vars+2-(r+1)=vars+1-r from by omega];simpa using a8)
        have g9:Hid (DS (vars+1) os low (81000*((r+1:Nat):Int)) d2):=aB ⟨a0.len,fun v hv hn=>by
         obtain⟨a1,a2,a3⟩:=a0.way v hv hn;exact⟨a1,by omega,by omega⟩⟩
        clear d0 a8 a0 hF;go_wp2_with fail;go_roundw
        case rel=>exact⟨r+1,d2,by go_num,by omega,g9,h5,b7,a9⟩
        case measure=>simp[intOf];omega
       | false =>
        have HR:Hid (res=some d2):=aB (by simpa using a8.symm);have HI:Hid (P2 (· < wr.heap.size) wr (some ⟨w.heap.size,0,none⟩) (vars+1) (vars+1) d2):=aB ⟨a0.len,by omega,fun _=>⟨w.heap.size,0,rfl,b7.o.lt,fun k hk=>by
         rw[Nat.zero_add,b7.o.int_at (by rw[a0.len];exact hk)];have:k<d2.length:=by rw[a0.len];exact hk
         unfold DB;rw[List.getD_eq_getElem?_getD,List.getD_eq_getElem?_getD,List.getElem?_eq_getElem this];rfl⟩⟩
        clear d0 a8 a0 hF;go_wp2_with fail;go_ret2;exact⟨a9.o,.inr ⟨d2,_,_,_,HR.o,rfl,HI.o⟩⟩
     have e0:decide ((i:Int)<(n:Int))=true:=decide_eq_true aA;obtain⟨ba,oa,rfl,i2,g0,g1,g2⟩:=(HT.o wr a9.o).at_ hi2;have d9:i<os.length:=by rw[f2.o];exact hi2
     obtain⟨o,ho⟩ : ∃o,o=bD os i:=⟨_,rfl⟩;have c6:o ∈ os:=by rw[ho,kQ d9];exact List.getElem_mem _
     have d4:=g8.o o c6;have f1:=DY d4;have f0:os.take (i+1)=os.take i++[o]:=by rw[ho,kQ d9,List.take_add_one,List.getElem?_eq_getElem d9];rfl
     rw[<-ho] at g0 g1 g2;obtain⟨oo,oadd,ob⟩:=o;simp only at f1 g0 g1 g2;obtain⟨u,rfl⟩ : ∃u:Nat,oo=u:=⟨oo.toNat,by omega⟩;obtain⟨z,rfl⟩ : ∃z:Nat,ob=z:=⟨ob.toNat,by omega⟩;have hl:=b4.o.len;have d5:=aB (b7.o.alloc (.cells #[.int .i64 (u:Int),.int .i64 oadd,.int .i64 (z:Int)] 66));have f3:=aB (a9.o.alloc a9.o.size (.cells #[.int .i64 (u:Int),.int .i64 oadd,.int .i64 (z:Int)] 66));have d7:=aS.frozen d5.o;have cu:=d5.o.int_at (i:=u) aA;have cz:=d5.o.int_at (i:=z) aA;obtain⟨xu,b2⟩ : ∃xu,xu=DB d2 u:=⟨_,rfl⟩;obtain⟨xz,b9⟩ : ∃xz,xz=DB d2 z:=⟨_,rfl⟩;rw[<-b2] at cu;rw[<-b9] at cz;have a4:sB ((os.take (i+1)).map F) d1 t=(vV d2 u z oadd,t2||uM d2 u z oadd):=by
      rw[f0,List.map_append,sW,d3.o,hF];rfl
     have c8:Ed (vars+1) os ((u:Nat):Int) ((z:Nat):Int) oadd:=⟨by omega,.inr (.inr ⟨_,c6,rfl,rfl,rfl⟩)⟩;have a0:=(FP b4.o (e:=(u,z,oadd)) ⟨c8,by simp only;omega,by simp only;omega⟩).1;rw[show 81000*(r:Int)+1000*((vars+1:Nat):Int)+1000*(i:Int)+1000=81000*(r:Int)+1000*((vars+1:Nat):Int)+1000*((i+1:Nat):Int) from by omega] at a0;have f6 : -1000000000<=xu/\xu<=900000000:=by
      by_cases hn:DB d2 u=cK
      · rw[b2,hn];unfold cK;omega
      have:=(b4.o.way u aA hn).2;rw[b2];omega
     obtain⟨f5,f4⟩:=f6;have g4 : -1000<=oadd/\oadd<=1000:=aA;obtain⟨g3,f9⟩:=g4;have f7:u<vars+1/\z<vars+1:=aA;obtain⟨i0,h9⟩:=f7;have e8:IntKind.i64.wrap (xu+oadd)=xu+oadd:=by rw[IntKind.wrap_i64];omega
     clear c6 d4 f1 f0 ho hF hl;by_cases c1:xu ≠ cK/\xz<xu+oadd
     · have a5:vV d2 u z oadd=d2.set z (xu+oadd):=by
        unfold vV;rw[if_pos (by show DB d2 u ≠ cK/\DB d2 z<DB d2 u+oadd;rw[<-b2,<-b9];exact c1)];show d2.set z (DB d2 u+oadd)=_;rw[<-b2]
       have a7:uM d2 u z oadd=true:=decide_eq_true (by show DB d2 u ≠ cK/\DB d2 z<DB d2 u+oadd;rw[<-b2,<-b9];exact c1);rw[a5,a7,Bool.or_true] at a4;rw[a5] at a0;have HS:=aB a4;have HO:=aB a0;have d1':(xu != -1000000000)=true:=by simpa[cK] using c1.1
       have d2':decide (xz<xu+oadd)=true:=decide_eq_true c1.2;have b0:=aB (fun (k:Nat)=>(d5.o.drewN k).int_set z (xu+oadd));have b1:=aB (fun (k:Nat)=>(aT f3.o k).setCell (p:=⟨w.heap.size,z,none⟩) aD (.int .i64 (xu+oadd)));clear a4 a0 a5 a7 b2 b9 c1 c8;go_wp2_with fail;go_quiet (fail)
       go_wp2_with fail;go_region
       all_goals
        go_wp2_with fail;go_roundw
        case rel=>exact⟨i+1,d2.set z (xu+oadd),true,rfl,by go_num,by omega,HS,HO,aB (b0.o _),aB (b1.o _)⟩
        case measure=>simp[intOf];omega
     have a5:vV d2 u z oadd=d2:=by
      unfold vV;rw[if_neg (by show ¬ (DB d2 u ≠ cK/\DB d2 z<DB d2 u+oadd);rw[<-b2,<-b9];exact c1)]
     have a7:uM d2 u z oadd=false:=decide_eq_false (by show ¬ (DB d2 u ≠ cK/\DB d2 z<DB d2 u+oadd);rw[<-b2,<-b9];exact c1);rw[a5,a7,Bool.or_false] at a4;rw[a5] at a0;have HS:=aB a4;have HO:=aB a0;have b0:=aB (fun (k:Nat)=>d5.o.drewN k);have b1:=aB (fun (k:Nat)=>aT f3.o k);clear a4 a0 a5 a7 b2 b9 c8;by_cases c2:xu=cK
     · have d1':(xu != -1000000000)=false:=by simpa[cK] using c2
       clear c1 c2;go_wp2_with fail;go_quiet (fail)
       go_wp2_with fail;go_roundw
       case rel=>exact⟨i+1,d2,t2,rfl,by go_num,by omega,HS,HO,aB (b0.o _),aB (b1.o _)⟩
       case measure=>simp[intOf];omega
     have d1':(xu != -1000000000)=true:=by simpa[cK] using c2
     have d2':decide (xz<xu+oadd)=false:=decide_eq_false (fun h=>c1 ⟨c2,h⟩);clear c1 c2;go_wp2_with fail;go_quiet (fail)
     go_wp2_with fail;go_roundw
     case rel=>exact⟨i+1,d2,t2,rfl,by go_num,by omega,HS,HO,aB (b0.o _),aB (b1.o _)⟩
     case measure=>simp[intOf];omega
end
section
open Go.Lib renaming hid->aB
theorem LD {vars:Int} {o:Nd} (h:jK vars o=true):(o.op<0)\/(¬ o.op<0/\o.op>vars)\/(¬ o.op<0/\¬ o.op>vars/\o.b<0)\/(¬ o.op<0/\¬ o.op>vars/\¬ o.b<0/\o.b>vars)\/(¬ o.op<0/\¬ o.op>vars/\¬ o.b<0/\¬ o.b>vars/\o.a < -1000)\/(¬ o.op<0/\¬ o.op>vars/\¬ o.b<0/\¬ o.b>vars/\¬ o.a < -1000/\o.a>1000):=by
 simp only[jK,Bool.or_eq_true,decide_eq_true_eq] at h;omega
set_option maxRecDepth 100000 in
set_option maxHeartbeats 4000000 in
theorem zQ {w:World} {A:Option Addr} {n c:Nat} {os:List Nd} (ht:aY w A n c os) (vars:Int) (hw:(Lit.int .i64 vars).wf=true) :
 Calls Tryz.prog 52 #[.int .i64 vars,.slice A n c] w (iG (pC vars os).1 w):=by
 have HT:=aB (fun (w':World) (h:Below w.heap.size w w')=>ht.below h);have c3:=aB ht.len;obtain⟨t1,t2,t3,t4⟩:=OJ vars os;by_cases h1:vars<0
 · have d1:decide (vars<0)=true:=decide_eq_true h1;have HR:=aB (t1 (.inl h1));clear t1 t2 t3 t4 h1 ht;go_in;go_wp2_with fail;go_ret;rw[HR.o];exact⟨rfl,Below.refl _ _⟩
 have d1:decide (vars<0)=false:=decide_eq_false h1;by_cases h2:16<vars
 · have d2:decide (vars>16)=true:=decide_eq_true h2;have HR:=aB (t1 (.inr h2));clear t1 t2 t3 t4 h1 h2 ht;go_in;go_wp2_with fail;go_ret;rw[HR.o];exact⟨rfl,Below.refl _ _⟩
 have d2:decide (vars>16)=false:=decide_eq_false h2;have a5:¬ (vars<0\/16<vars):=aA;have b4:=ht.len;by_cases h3:64<n
 · have d3:decide ((n:Int)>64)=true:=decide_eq_true aA;have HR:=aB (t2 a5 (by rw[b4];exact h3));clear t1 t2 t3 t4 h1 h2 h3 ht b4;go_in;go_wp2_with fail;go_ret;rw[HR.o];exact⟨rfl,Below.refl _ _⟩
 have d3:decide ((n:Int)>64)=false:=decide_eq_false aA;have b3:n<=64:=aA;have c0:¬ 64<os.length:=aA;have b0:=aB (t3 a5 c0);have a1:=aB (t4 a5 c0);obtain⟨vn,rfl⟩ : ∃vn:Nat,vars=vn:=⟨vars.toNat,by omega⟩;have c7:vn<=16:=aA;have a9:=aB (fun (hb:∀o ∈ os,jK (vn:Int) o=false)=>LE (N:=vn+1) (os:=os) aA aA aA (by rw[show (((vn+1:Nat):Int)-1)=(vn:Int) from by omega];exact hb));have a8:=aB (fun (w':World) (h:Below w.heap.size w w') (hb:∀o ∈ os,jK (vn:Int) o=false) (low:Nat) (hl:low<=vn)=>L8 (ht.below h) vn low c7 b3 hl hb);have c9:=aB (show ((vn:Int).toNat+1)=vn+1 from by omega);rw[c9.o] at a1;generalize (pC (vn:Int) os).1=res at *;clear t1 t2 t3 t4 h1 h2 h3 a5 c0 b4 ht hw;have d4:=aB (Below.refl w.heap.size w);go_in;go_wp2_with fail;go_loopw [5] (fun iv wr=>∃i:Nat,iv=.int .i64 (i:Int)/\i<=n/\Hid (∀o ∈ os.take i,jK (vn:Int) o=false)/\Hid (Below w.heap.size w wr)) (fun i _=>n-(intOf i).toNat)
 case atStart=>exact⟨0,rfl,by omega,aB aD,d4⟩
 case round =>
  obtain⟨i,rfl,d5,b9,a4⟩:=hrel;by_cases hi2:i<n
  · have b8:decide ((i:Int)<(n:Int))=true:=decide_eq_true aA;obtain⟨ba,oa,rfl,d6,g0,g1,g2⟩:=(HT.o wr a4.o).at_ hi2;have b5:i<os.length:=by rw[c3.o];exact hi2
    obtain⟨o,ho⟩ : ∃o,o=bD os i:=⟨_,rfl⟩;have a2:o ∈ os:=by rw[ho,kQ b5];exact List.getElem_mem _
    have b2:os.take (i+1)=os.take i++[o]:=by rw[ho,kQ b5,List.take_add_one,List.getElem?_eq_getElem b5];rfl
    rw[<-ho] at g0 g1 g2;cases hbad:jK (vn:Int) o with
    | true =>
     have HR:=aB (b0.o ⟨o,a2,hbad⟩);have c1:=aB (a4.o.alloc a4.o.size (.cells #[.int .i64 o.op,.int .i64 o.a,.int .i64 o.b] 66));have c8:=LD hbad;generalize o.op=lo at *;generalize o.a=ad at *;generalize o.b=hi at *;clear a2 b2 hbad ho;rcases c8 with h | ⟨e1,h⟩ | ⟨e1,e2,h⟩ | ⟨e1,e2,e3,h⟩ | ⟨e1,e2,e3,e4,h⟩ | ⟨e1,e2,e3,e4,e5,h⟩;all_goals
      (try have k1:=decide_eq_false e1)
      (try have k2:=decide_eq_false e2)
      (try have k3:=decide_eq_false e3)
      (try have k4:=decide_eq_false e4)
      (try have k5:=decide_eq_false e5)
      have k6:=decide_eq_true h
      (try clear e1)
      (try clear e2)
      (try clear e3)
      (try clear e4)
      (try clear e5)
      clear h;go_wp2_with fail;go_ret;rw[HR.o];exact⟨rfl,c1.o⟩
    | false =>
     have HG:=aB (show ∀o' ∈ os.take (i+1),jK (vn:Int) o'=false from fun o' b1=>by
      rw[b2,List.mem_append,List.mem_singleton] at b1;rcases b1 with b1 | rfl
      · exact b9.o o' b1
      exact hbad)
     have c1:=aB (a4.o.alloc a4.o.size (.cells #[.int .i64 o.op,.int .i64 o.a,.int .i64 o.b] 66));obtain⟨e1,e2,e3,e4,e5,e6⟩:=yO hbad;generalize o.op=lo at *;generalize o.a=ad at *;generalize o.b=hi at *;have k1:=decide_eq_false e1;have k2:=decide_eq_false e2;have k3:=decide_eq_false e3;have k4:=decide_eq_false e4;have k5:=decide_eq_false e5;have k6:=decide_eq_false e6;clear a2 b2 hbad ho e1 e2 e3 e4 e5 e6;go_wp2_with fail;go_roundw
     case rel=>exact⟨i+1,by go_num,by omega,HG,c1⟩
     case measure=>simp[intOf];omega
  have b8:decide ((i:Int)<(n:Int))=false:=decide_eq_false aA;have a0:∀o ∈ os,jK (vn:Int) o=false:=by
   have:=b9.o
   rwa [List.take_of_length_le (by rw[c3.o];omega)] at this
  have c5:=aB (a9.o a0);have d0:=aB (fun (w':World) (h:Below w.heap.size w w') (low:Nat) (hl:low<=vn)=>a8.o w' h a0 low hl);have c4:=aB (a1.o a0);clear a0 b9;go_wp2_with fail;obtain⟨wo,rfl⟩ : ∃wo:World,wo=wr:=⟨_,rfl⟩;go_loopw [7] (fun iv wr=>∃v:Nat,iv=.int .i64 (v:Int)/\v<=vn+1/\Hid (∀low,low<v->pM (lS (vn+1) os) (vn+1+1) (mO (vn+1) low) ≠ none)/\Hid (Below w.heap.size w wr)) (fun i _=>vn+1-(intOf i).toNat)
  case atStart=>exact⟨0,rfl,by omega,aB (fun low h=>absurd h aA),a4⟩
  case round =>
   obtain⟨v,rfl,a5,a7,a3⟩:=hrel;by_cases hv2:v<=vn;rotate_left
   · have b7:decide ((v:Int)<=(vn:Int))=false:=decide_eq_false aA;have b6:decide (v<=vn)=false:=decide_eq_false hv2;have HR:Hid (res=0):=aB (c4.o.2 (c5.o.1 (fun low hl=>a7.o low aA)));go_wp2_with fail;go_ret;rw[HR.o];exact⟨rfl,a3.o⟩
   have b7:decide ((v:Int)<=(vn:Int))=true:=decide_eq_true aA;have b6:decide (v<=vn)=true:=decide_eq_true hv2;have HC:=aB (d0.o wr a3.o v hv2);go_wp2_with fail;refine HC.o.mono ?_;rintro e w2 ⟨c2,a6⟩;have c6:=bZ a3 c2;clear c2;rcases a6 with⟨hr,rfl⟩ | ⟨ds,A',n',c',hr,rfl,_⟩
   · have HR:Hid (res=7):=aB (by
      by_cases hp:P3 (vn+1) os
      · exact c4.o.1 hp
      exact absurd hr (c5.o.2 hp v aA))
     clear hr;go_wp2_with fail;go_ret;rw[HR.o];exact⟨rfl,c6.o⟩
   have HA:Hid (∀low,low<v+1->pM (lS (vn+1) os) (vn+1+1) (mO (vn+1) low) ≠ none):=aB (fun low hl=>by
    by_cases h:low<v
    · exact a7.o low h
    have:low=v:=aA;subst this;rw[hr];simp)
   clear hr;go_wp2_with fail;go_roundw
   case rel=>exact⟨v+1,by go_num,by omega,HA,c6⟩
   case measure=>simp[intOf];omega
end
end Go.Proofs.YtjoddliplahgkaaGreat
