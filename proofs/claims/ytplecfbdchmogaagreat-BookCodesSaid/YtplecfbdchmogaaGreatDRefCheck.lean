/- Merged: Bell, RefCheck. -/
import Derived.Test.YtplecfbdchmogaaGreatDGraphs
import Derived.Test.YtplecfbdchmogaaGreatDBooks
import Derived.Deep.QuietTactic
import Derived.BigQuiet
import Derived.RegionTactic
namespace Go.Proofs.YtplecfbdchmogaaGreat
section
open Go.Lib (hid)
open Go.RowKit
def iN (ds:List Int):Array Value:=(ds.map (Value.int .i64)).toArray
theorem DM (ds:List Int) (i:Nat) (z:Int):(iN ds).setIfInBounds i (.int .i64 z)=iN (ds.set i z):=by
 unfold iN;rw [List.setIfInBounds_toArray,List.map_set]
theorem GM {ds:List Int} {i:Nat} (h:i<ds.length):(iN ds)[i]? = some (.int .i64 (DB ds i)):=by
 unfold iN DB;simp [List.getElem?_eq_getElem h]
theorem aE.int_at {w:World} {g:Nat} {ds:List Int} (h:aE w g 3 (iN ds)) {i:Nat} (hi:i<ds.length):w.cell? ⟨g,i,none⟩=some (.int .i64 (DB ds i)):=by
 rw [h.cell,GM hi]
theorem aE.int_set {w:World} {g:Nat} {ds:List Int} (h:aE w g 3 (iN ds)) (i:Nat) (z:Int):aE (w.setCell ⟨g,i,none⟩ (.int .i64 z)) g 3 (iN (ds.set i z)):=by
 rw [<-DM];exact h.set_ i _
theorem KZ {N low:Nat} {os:List Nd} (hlow:low<N):yP N os low 0 (lU N low):=by
 have hll:low<(List.replicate N bF).length:=by simpa using hlow
 refine ⟨by simp [lU],fun v hv hn => ?_⟩;unfold lU at hn ⊢;rw [jS hll] at hn ⊢;by_cases hvl:v=low
 · subst hvl;rw [if_pos rfl];exact ⟨⟨_,.one aA aA⟩,by omega,by omega⟩
 rw [if_neg hvl] at hn;exact absurd (by unfold DB;rw [List.getD_eq_getElem?_getD,List.getElem?_replicate];split<;>rfl) hn
def FD (r:Option (List Int)) (w:World) (e:Ending) (w':World):Prop:=Below w.heap.size w w'/\((r=none/\e=.returned (.tuple #[.slice none 0 0,.bool false]))\/∃ ds A n c,r=some ds/\e=.returned (.tuple #[.slice A n c,.bool true])/\iZ (· < w'.heap.size) w' A n c ds)
theorem DP (n:Nat) (hn:n<=1000000) (w:World):(Instr.makeSlice 123 (.int .i64 (n:Int)) (.int .i64 (n:Int))).run Tryz.prog w=.ok (.slice (some ⟨w.heap.size,0,none⟩) n n) (w.alloc (.cells (iN (List.replicate n 0)) 3)):=by
 obtain ⟨i,hi,h1,h2,h3⟩:=info_parts LT;rw [run_make (P:=Tryz.prog) w 123 3 i (.int .i64 0) Tryz.underlying123 hi h1 .i64 .i64 n n aA aA (by rw [h3];omega) aA,h2];simp only [Int.toNat_natCast,Nat.mul_one];show Result.ok _ (w.alloc (.cells (madeCells #[Value.int .i64 0] n) _))=_;rw [zX];unfold iN;rw [List.map_replicate]
set_option linter.unusedSimpArgs false in
set_option linter.unusedVariables false in
set_option maxRecDepth 100000 in
set_option maxHeartbeats 4000000 in
theorem GD {w:World} {A:Option Addr} {n c:Nat} {os:List Nd} (ht:aQ w A n c os) (vars low:Nat) (hv:vars<=16) (hn:n<=64) (hlow:low<=vars) (hos:∀ o ∈ os,iL (vars:Int) o=false) :
 Calls Tryz.prog 82 #[.int .i64 (vars:Int),.slice A n c,.int .i64 (low:Int)] w (FD (oE (kV (vars+1) os) (vars+1+1) (lU (vars+1) low)) w):=by
 have HT:=hid (fun (w':World) (h:Below w.heap.size w w')=>ht.below h);have HLN:=hid ht.len;have hmk:=DP (vars+1) aA;rw [show ((vars+1:Nat):Int)=(vars:Int)+1 from by omega] at hmk;obtain ⟨res,hres⟩ : ∃ res,res=oE (kV (vars+1) os) (vars+1+1) (lU (vars+1) low):=⟨_,rfl⟩;rw [<-hres];have HRES:=hid hres;have HOS:=hid hos;clear ht hres hos;have HB0:=hid (aB w (.cells (iN (List.replicate (vars+1) 0)) 3));have HK0:=hid (aE.new w 3 (iN (List.replicate (vars+1) 0)));go_in;go_wp2_with fail
 go_loopw [9] (fun iv wr=>∃ (v:Nat) (ds:List Int),iv=.int .i64 (v:Int)/\v<=vars+1/\ds.length=vars+1/\Hid (∀ j,j<v->DB ds j=bF)/\Hid (aE wr w.heap.size 3 (iN ds))/\Hid (Below w.heap.size w wr)) (fun i _=>vars+1-(intOf i).toNat)
 case atStart=>exact ⟨0,List.replicate (vars+1) 0,rfl,by omega,by simp,hid (fun j hj=>absurd hj aA),HK0,HB0⟩
 case round =>
  obtain ⟨v,ds,rfl,hvv,hdl,hdn,hbk,hbw⟩:=hrel;have hbl:=hbk.o.lt;by_cases hlt:v<=vars
  · have hib:decide ((v:Int)<=(vars:Int))=true:=decide_eq_true aA;have hib2:decide (v<=vars)=true:=decide_eq_true hlt;have cv:=hbk.o.int_at (i:=v) aA;have hfz:=aE.frozen hbk.o;have HKn:Hid (aE (wr.setCell ⟨w.heap.size,v,none⟩ (.int .i64 (-1000000000))) w.heap.size 3 (iN (ds.set v bF))):=hid (hbk.o.int_set v bF);have HDn:Hid (∀ j,j<v+1->DB (ds.set v bF) j=bF):=hid (fun j hj=>by
     rw [jS aA];split
     · rfl
     exact hdn.o j aA)
    have HBn:Hid (Below w.heap.size w (wr.setCell ⟨w.heap.size,v,none⟩ (.int .i64 (-1000000000)))):=hid (hbw.o.setCell (by simp) _);go_wp2_with fail
    go_roundw
    case rel=>exact ⟨v+1,ds.set v bF,by go_num,by omega,by simpa using hdl,HDn,HKn,HBn⟩
    case measure=>simp [intOf];omega
  have hib:decide ((v:Int)<=(vars:Int))=false:=decide_eq_false aA;have hib2:decide (v<=vars)=false:=decide_eq_false hlt;have hds:ds=List.replicate (vars+1) bF:=by
   apply List.ext_getElem (by simpa using hdl);intro i h1 h2;have:=hdn.o i aA;unfold DB at this;rw [List.getD_eq_getElem?_getD,List.getElem?_eq_getElem h1] at this;simpa using this
  subst hds;have cl:=hbk.o.int_at (i:=low) (by simp;omega);have hfz:=aE.frozen hbk.o;have hll:low<vars+1:=aA;clear hdn hdl;have HK1:Hid (aE (wr.setCell ⟨w.heap.size,low,none⟩ (.int .i64 0)) w.heap.size 3 (iN (lU (vars+1) low))):=hid (hbk.o.int_set low 0);have HB1:Hid (Below w.heap.size w (wr.setCell ⟨w.heap.size,low,none⟩ (.int .i64 0))):=hid (hbw.o.setCell (by simp) _);have HOK0:Hid (yP (vars+1) os low 0 (lU (vars+1) low)):=hid (KZ hll);go_wp2_with fail
  clear hbk hbw hbl cl hfz hib hib2 hlt hvv;go_loopw [10] (fun rv wr=>∃ (r:Nat) (ds:List Int),rv=.int .i64 (r:Int)/\r<=vars+2/\Hid (yP (vars+1) os low (81000*(r:Int)) ds)/\Hid (oE (kV (vars+1) os) (vars+2-r) ds=res)/\Hid (aE wr w.heap.size 3 (iN ds))/\Hid (Below w.heap.size w wr)) (fun i _=>vars+2-(intOf i).toNat)
  case atStart=>exact ⟨0,lU (vars+1) low,rfl,by omega,HOK0,hid HRES.o.symm,HK1,HB1⟩
  case round =>
   obtain ⟨r,ds,rfl,hr,hok,hfr,hbk,hbw⟩:=hrel;by_cases hlt:r<=vars+1;case neg =>
    have hib:decide ((r:Int)<=(vars:Int)+1)=false:=decide_eq_false aA;have HR:Hid (res=none):=hid (by
     have:=hfr.o;rw [show vars+2-r=0 from by omega] at this;exact this.symm)
    go_wp2_with fail
    go_ret2;exact ⟨hbw.o,.inl ⟨HR.o,rfl⟩⟩
   have hib:decide ((r:Int)<=(vars:Int)+1)=true:=decide_eq_true aA;have hfr2:=hfr.o;rw [show vars+2-r=(vars+1-r)+1 from by omega] at hfr2;have HFR:=hid hfr2;clear hfr hfr2;obtain ⟨wo,rfl⟩ : ∃ wo:World,wo=wr:=⟨_,rfl⟩;go_wp2_with fail
   go_loopw [11,12] (fun tv iv wr=>∃ (v:Nat) (d1:List Int) (t:Bool),tv=.bool t/\iv=.int .i64 (v:Int)/\v<=vars+1/\Hid (p8 ((List.range v).map fun x=>(0,x,(0:Int))) ds false=(d1,t))/\Hid (yP (vars+1) os low (81000*(r:Int)+1000*(v:Int)) d1)/\Hid (aE wr w.heap.size 3 (iN d1))/\Hid (Below w.heap.size w wr)) (fun _ i _=>vars+1-(intOf i).toNat)
   case atStart=>exact ⟨0,ds,false,rfl,rfl,by omega,hid rfl,hid (by rw [show (81000*(r:Int)+1000*((0:Nat):Int))=81000*(r:Int) from by omega];exact hok.o),hbk,hbw⟩
   case round =>
    obtain ⟨v,d1,t,rfl,rfl,hvv,hsw,hok1,hbk1,hbw1⟩:=hrel;clear hbk hbw;by_cases hv2:v<=vars
    · have hib2:decide ((v:Int)<=(vars:Int))=true:=decide_eq_true aA;have hib3:decide (v<=vars)=true:=decide_eq_true hv2;have hl:=hok1.o.len;have hbl:=hbk1.o.lt;have hfz:=aE.frozen hbk1.o;have c0:=hbk1.o.int_at (i:=0) aA;have cv:=hbk1.o.int_at (i:=v) aA;obtain ⟨x0,hx0⟩ : ∃ x0,x0=DB d1 0:=⟨_,rfl⟩;obtain ⟨xv,hxv⟩ : ∃ xv,xv=DB d1 v:=⟨_,rfl⟩;rw [<-hx0] at c0;rw [<-hxv] at cv;have hstep:p8 ((List.range (v+1)).map fun x=>(0,x,(0:Int))) ds false=(sT d1 0 v 0,t||r7 d1 0 v 0):=by
       rw [List.range_succ,List.map_append,qK,hsw.o];rfl
      have hed:Ed (vars+1) os ((0:Nat):Int) ((v:Nat):Int) 0:=⟨by omega,.inr (.inl ⟨rfl,rfl⟩)⟩;have hokn:=(AT hok1.o (e:=(0,v,0)) ⟨hed,show (-1000:Int)<=0 by decide,show (0:Int)<=1000 by decide⟩).1;rw [show 81000*(r:Int)+1000*(v:Int)+1000=81000*(r:Int)+1000*((v+1:Nat):Int) from by omega] at hokn;by_cases c1:x0 ≠ bF/\xv<x0
      · have hr1:sT d1 0 v 0=d1.set v x0:=by
         unfold sT;rw [if_pos (by rw [Int.add_zero];show DB d1 0 ≠ bF/\DB d1 v<DB d1 0;rw [<-hx0,<-hxv];exact c1),Int.add_zero];show d1.set v (DB d1 0)=_;rw [<-hx0]
        have ht1:r7 d1 0 v 0=true:=decide_eq_true (by rw [Int.add_zero];show DB d1 0 ≠ bF/\DB d1 v<DB d1 0;rw [<-hx0,<-hxv];exact c1);rw [hr1,ht1,Bool.or_true] at hstep;rw [hr1] at hokn;have HS:=hid hstep;have HO:=hid hokn;have d1':(x0 != -1000000000)=true:=by simpa [bF] using c1.1
        have d2':decide (xv<x0)=true:=decide_eq_true c1.2;have HKn:=hid (fun (k:Nat)=>(hbk1.o.drewN k).int_set v x0);have HBn:=hid (fun (k:Nat)=>(aK hbw1.o k).setCell (p:=⟨w.heap.size,v,none⟩) (by simp) (.int .i64 x0));clear hstep hokn hr1 ht1 hx0 hxv c1 hed hl;go_wp2_with fail
        go_quiet (fail)
        go_wp2_with fail
        go_roundw
        case rel=>exact ⟨v+1,d1.set v x0,true,rfl,by go_num,by omega,HS,HO,hid (HKn.o _),hid (HBn.o _)⟩
        case measure=>simp [intOf];omega
      have hr1:sT d1 0 v 0=d1:=by
       unfold sT;rw [if_neg (by rw [Int.add_zero];show ¬ (DB d1 0 ≠ bF/\DB d1 v<DB d1 0);rw [<-hx0,<-hxv];exact c1)]
      have ht1:r7 d1 0 v 0=false:=decide_eq_false (by rw [Int.add_zero];show ¬ (DB d1 0 ≠ bF/\DB d1 v<DB d1 0);rw [<-hx0,<-hxv];exact c1);rw [hr1,ht1,Bool.or_false] at hstep;rw [hr1] at hokn;have HS:=hid hstep;have HO:=hid hokn;have HKn:=hid (fun (k:Nat)=>hbk1.o.drewN k);have HBn:=hid (fun (k:Nat)=>aK hbw1.o k);clear hstep hokn hr1 ht1 hx0 hxv hed hl;by_cases c2:x0=bF
      · have d1':(x0 != -1000000000)=false:=by simpa [bF] using c2
        clear c1 c2;go_wp2_with fail
        go_quiet (fail)
        go_wp2_with fail
        go_roundw
        case rel=>exact ⟨v+1,d1,t,rfl,by go_num,by omega,HS,HO,hid (HKn.o _),hid (HBn.o _)⟩
        case measure=>simp [intOf];omega
      have d1':(x0 != -1000000000)=true:=by simpa [bF] using c2
      have d2':decide (xv<x0)=false:=decide_eq_false (fun h=>c1 ⟨c2,h⟩);clear c1 c2;go_wp2_with fail
      go_quiet (fail)
      go_wp2_with fail
      go_roundw
      case rel=>exact ⟨v+1,d1,t,rfl,by go_num,by omega,HS,HO,hid (HKn.o _),hid (HBn.o _)⟩
      case measure=>simp [intOf];omega
    have hib2:decide ((v:Int)<=(vars:Int))=false:=decide_eq_false aA;have hib3:decide (v<=vars)=false:=decide_eq_false hv2;obtain rfl:v=vars+1:=aA;obtain ⟨wo2,rfl⟩ : ∃ wo:World,wo=wr:=⟨_,rfl⟩;obtain ⟨F,hF⟩ : ∃ F:Nd->Nat×Nat×Int,F=fun o=>(o.op.toNat,o.b.toNat,o.a):=⟨_,rfl⟩;have HSW0:=hid hsw.o;clear hsw;go_wp2_with fail
    go_loopw [11,13] (fun tv iv wr=>∃ (i:Nat) (d2:List Int) (t2:Bool),tv=.bool t2/\iv=.int .i64 (i:Int)/\i<=n/\Hid (p8 ((os.take i).map F) d1 t=(d2,t2))/\Hid (yP (vars+1) os low (81000*(r:Int)+1000*((vars+1:Nat):Int)+1000*(i:Int)) d2)/\Hid (aE wr w.heap.size 3 (iN d2))/\Hid (Below w.heap.size w wr)) (fun _ i _=>n-(intOf i).toNat)
    case atStart=>exact ⟨0,d1,t,rfl,rfl,by omega,hid rfl,hid (by rw [show 81000*(r:Int)+1000*((vars+1:Nat):Int)+1000*((0:Nat):Int)=81000*(r:Int)+1000*((vars+1:Nat):Int) from by omega];exact hok1.o),hbk1,hbw1⟩
    case round =>
     obtain ⟨i,d2,t2,rfl,rfl,hin,hsw2,hok2,hbk2,hbw2⟩:=hrel;clear hbk1 hbw1;by_cases hi2:i<n;rotate_left
     · have hib4:decide ((i:Int)<(n:Int))=false:=decide_eq_false aA;have hib5:decide (i<n)=false:=decide_eq_false hi2;have hall:p8 (kV (vars+1) os) ds false=(d2,t2):=by
        unfold kV;rw [qK,HSW0.o];have:=hsw2.o;rw [List.take_of_length_le (by rw [HLN.o];omega),hF] at this;exact this
       have hfr3:=HFR.o;simp only [oE,hall] at hfr3;have hokn:=hok2.o;cases t2 with
       | true =>
        have HF3:Hid (oE (kV (vars+1) os) (vars+2-(r+1)) d2=res):=hid (by
         rw [show vars+2-(r+1)=vars+1-r from by omega];simpa using hfr3)
        have HO3:Hid (yP (vars+1) os low (81000*((r+1:Nat):Int)) d2):=hid ⟨hokn.len,fun v hv hn=>by
         obtain ⟨a1,a2,a3⟩:=hokn.way v hv hn;exact ⟨a1,by omega,by omega⟩⟩
        clear hall hfr3 hokn hF;go_wp2_with fail
        go_roundw
        case rel=>exact ⟨r+1,d2,by go_num,by omega,HO3,HF3,hbk2,hbw2⟩
        case measure=>simp [intOf];omega
       | false =>
        have HR:Hid (res=some d2):=hid (by simpa using hfr3.symm);have HI:Hid (iZ (· < wr.heap.size) wr (some ⟨w.heap.size,0,none⟩) (vars+1) (vars+1) d2):=hid ⟨hokn.len,by omega,fun _=>⟨w.heap.size,0,rfl,hbk2.o.lt,fun k hk=>by
         rw [Nat.zero_add,hbk2.o.int_at (by rw [hokn.len];exact hk)];have:k<d2.length:=by rw [hokn.len];exact hk
         unfold DB;rw [List.getD_eq_getElem?_getD,List.getD_eq_getElem?_getD,List.getElem?_eq_getElem this];rfl⟩⟩
        clear hall hfr3 hokn hF;go_wp2_with fail
        go_ret2;exact ⟨hbw2.o,.inr ⟨d2,_,_,_,HR.o,rfl,HI.o⟩⟩
     have hib4:decide ((i:Int)<(n:Int))=true:=decide_eq_true aA;have hib5:decide (i<n)=true:=decide_eq_true hi2;obtain ⟨ba,oa,rfl,hba,g0,g1,g2⟩:=(HT.o wr hbw2.o).at_ hi2;have hio:i<os.length:=by rw [HLN.o];exact hi2
     obtain ⟨o,ho⟩ : ∃ o,o=aL os i:=⟨_,rfl⟩;have hmem:o ∈ os:=by rw [ho,kE hio];exact List.getElem_mem _
     have hbad:=HOS.o o hmem;have hbi:=yU hbad;have htk:os.take (i+1)=os.take i++[o]:=by rw [ho,kE hio,List.take_add_one,List.getElem?_eq_getElem hio];rfl
     rw [<-ho] at g0 g1 g2;obtain ⟨oo,oadd,ob⟩:=o;simp only at hbi g0 g1 g2;obtain ⟨u,rfl⟩ : ∃ u:Nat,oo=u:=⟨oo.toNat,by omega⟩;obtain ⟨z,rfl⟩ : ∃ z:Nat,ob=z:=⟨ob.toNat,by omega⟩;have hl:=hok2.o.len;have hbl:=hbk2.o.lt;have HKa:=hid (hbk2.o.alloc (.cells #[.int .i64 (u:Int),.int .i64 oadd,.int .i64 (z:Int)] 78));have HBa:=hid (hbw2.o.alloc hbw2.o.size (.cells #[.int .i64 (u:Int),.int .i64 oadd,.int .i64 (z:Int)] 78));have hfz:=aE.frozen HKa.o;have cu:=HKa.o.int_at (i:=u) aA;have cz:=HKa.o.int_at (i:=z) aA;obtain ⟨xu,hxu⟩ : ∃ xu,xu=DB d2 u:=⟨_,rfl⟩;obtain ⟨xz,hxz⟩ : ∃ xz,xz=DB d2 z:=⟨_,rfl⟩;rw [<-hxu] at cu;rw [<-hxz] at cz;have hstep:p8 ((os.take (i+1)).map F) d1 t=(sT d2 u z oadd,t2||r7 d2 u z oadd):=by
      rw [htk,List.map_append,qK,hsw2.o,hF];rfl
     have hed:Ed (vars+1) os ((u:Nat):Int) ((z:Nat):Int) oadd:=⟨by omega,.inr (.inr ⟨_,hmem,rfl,rfl,rfl⟩)⟩;have hokn:=(AT hok2.o (e:=(u,z,oadd)) ⟨hed,by simp only;omega,by simp only;omega⟩).1;rw [show 81000*(r:Int)+1000*((vars+1:Nat):Int)+1000*(i:Int)+1000=81000*(r:Int)+1000*((vars+1:Nat):Int)+1000*((i+1:Nat):Int) from by omega] at hokn;have hxb : -1000000000<=xu/\xu<=900000000:=by
      by_cases hn:DB d2 u=bF
      · rw [hxu,hn];unfold bF;omega
      have:=(hok2.o.way u aA hn).2;rw [hxu];omega
     obtain ⟨hxb1,hxb2⟩:=hxb;have hob : -1000<=oadd/\oadd<=1000:=aA;obtain ⟨hob1,hob2⟩:=hob;have huz:u<vars+1/\z<vars+1:=aA;obtain ⟨hu1,hz1⟩:=huz;have hwrap:IntKind.i64.wrap (xu+oadd)=xu+oadd:=by rw [IntKind.wrap_i64];omega
     clear hmem hbad hbi htk ho hF hl;by_cases c1:xu ≠ bF/\xz<xu+oadd
     · have hr1:sT d2 u z oadd=d2.set z (xu+oadd):=by
        unfold sT;rw [if_pos (by show DB d2 u ≠ bF/\DB d2 z<DB d2 u+oadd;rw [<-hxu,<-hxz];exact c1)];show d2.set z (DB d2 u+oadd)=_;rw [<-hxu]
       have ht1:r7 d2 u z oadd=true:=decide_eq_true (by show DB d2 u ≠ bF/\DB d2 z<DB d2 u+oadd;rw [<-hxu,<-hxz];exact c1);rw [hr1,ht1,Bool.or_true] at hstep;rw [hr1] at hokn;have HS:=hid hstep;have HO:=hid hokn;have d1':(xu != -1000000000)=true:=by simpa [bF] using c1.1
       have d2':decide (xz<xu+oadd)=true:=decide_eq_true c1.2;have HKn:=hid (fun (k:Nat)=>(HKa.o.drewN k).int_set z (xu+oadd));have HBn:=hid (fun (k:Nat)=>(aK HBa.o k).setCell (p:=⟨w.heap.size,z,none⟩) (by simp) (.int .i64 (xu+oadd)));clear hstep hokn hr1 ht1 hxu hxz c1 hed;go_wp2_with fail
       go_quiet (fail)
       go_wp2_with fail
       go_region
       all_goals
        go_wp2_with fail
        go_roundw
        case rel=>exact ⟨i+1,d2.set z (xu+oadd),true,rfl,by go_num,by omega,HS,HO,hid (HKn.o _),hid (HBn.o _)⟩
        case measure=>simp [intOf];omega
     have hr1:sT d2 u z oadd=d2:=by
      unfold sT;rw [if_neg (by show ¬ (DB d2 u ≠ bF/\DB d2 z<DB d2 u+oadd);rw [<-hxu,<-hxz];exact c1)]
     have ht1:r7 d2 u z oadd=false:=decide_eq_false (by show ¬ (DB d2 u ≠ bF/\DB d2 z<DB d2 u+oadd);rw [<-hxu,<-hxz];exact c1);rw [hr1,ht1,Bool.or_false] at hstep;rw [hr1] at hokn;have HS:=hid hstep;have HO:=hid hokn;have HKn:=hid (fun (k:Nat)=>HKa.o.drewN k);have HBn:=hid (fun (k:Nat)=>aK HBa.o k);clear hstep hokn hr1 ht1 hxu hxz hed;by_cases c2:xu=bF
     · have d1':(xu != -1000000000)=false:=by simpa [bF] using c2
       clear c1 c2;go_wp2_with fail
       go_quiet (fail)
       go_wp2_with fail
       go_roundw
       case rel=>exact ⟨i+1,d2,t2,rfl,by go_num,by omega,HS,HO,hid (HKn.o _),hid (HBn.o _)⟩
       case measure=>simp [intOf];omega
     have d1':(xu != -1000000000)=true:=by simpa [bF] using c2
     have d2':decide (xz<xu+oadd)=false:=decide_eq_false (fun h=>c1 ⟨c2,h⟩);clear c1 c2;go_wp2_with fail
     go_quiet (fail)
     go_wp2_with fail
     go_roundw
     case rel=>exact ⟨i+1,d2,t2,rfl,by go_num,by omega,HS,HO,hid (HKn.o _),hid (HBn.o _)⟩
     case measure=>simp [intOf];omega
end
section
open Go.Lib (hid)
open Go.RowKit
theorem FJ {vars:Int} {o:Nd} (h:iL vars o=true):(o.op<0)\/(¬ o.op<0/\o.op>vars)\/(¬ o.op<0/\¬ o.op>vars/\o.b<0)\/(¬ o.op<0/\¬ o.op>vars/\¬ o.b<0/\o.b>vars)\/(¬ o.op<0/\¬ o.op>vars/\¬ o.b<0/\¬ o.b>vars/\o.a < -1000)\/(¬ o.op<0/\¬ o.op>vars/\¬ o.b<0/\¬ o.b>vars/\¬ o.a < -1000/\o.a>1000):=by
 simp only [iL,Bool.or_eq_true,decide_eq_true_eq] at h;omega
set_option linter.unusedSimpArgs false in
set_option linter.unusedVariables false in
set_option maxRecDepth 100000 in
set_option maxHeartbeats 4000000 in
theorem vA {w:World} {A:Option Addr} {n c:Nat} {os:List Nd} (ht:aQ w A n c os) (vars:Int) (hw:(Lit.int .i64 vars).wf=true) :
 Calls Tryz.prog 30 #[.int .i64 vars,.slice A n c] w (gD (mL vars os).1 w):=by
 have HT:=hid (fun (w':World) (h:Below w.heap.size w w')=>ht.below h);have HLN:=hid ht.len;obtain ⟨t1,t2,t3,t4⟩:=IR vars os;by_cases h1:vars<0
 · have d1:decide (vars<0)=true:=decide_eq_true h1;have HR:=hid (t1 (.inl h1));clear t1 t2 t3 t4 h1 ht;go_in;go_wp2_with fail
   go_ret;rw [HR.o];exact ⟨rfl,Below.refl _ _⟩
 have d1:decide (vars<0)=false:=decide_eq_false h1;by_cases h2:16<vars
 · have d2:decide (vars>16)=true:=decide_eq_true h2;have HR:=hid (t1 (.inr h2));clear t1 t2 t3 t4 h1 h2 ht;go_in;go_wp2_with fail
   go_ret;rw [HR.o];exact ⟨rfl,Below.refl _ _⟩
 have d2:decide (vars>16)=false:=decide_eq_false h2;have hvv:¬ (vars<0\/16<vars):=aA;have hln:=ht.len;by_cases h3:64<n
 · have d3:decide ((n:Int)>64)=true:=decide_eq_true aA;have HR:=hid (t2 hvv (by rw [hln];exact h3));clear t1 t2 t3 t4 h1 h2 h3 ht hln;go_in;go_wp2_with fail
   go_ret;rw [HR.o];exact ⟨rfl,Below.refl _ _⟩
 have d3:decide ((n:Int)>64)=false:=decide_eq_false aA;have hn64:n<=64:=aA;have h64:¬ 64<os.length:=aA;have HBADR:=hid (t3 hvv h64);have HGOODR:=hid (t4 hvv h64);obtain ⟨vn,rfl⟩ : ∃ vn:Nat,vars=vn:=⟨vars.toNat,by omega⟩;have hvn:vn<=16:=aA;have HBELL:=hid (fun (hb:∀ o ∈ os,iL (vn:Int) o=false)=>FK (N:=vn+1) (os:=os) aA aA aA (by rw [show (((vn+1:Nat):Int)-1)=(vn:Int) from by omega];exact hb));have HFROM:=hid (fun (w':World) (h:Below w.heap.size w w') (hb:∀ o ∈ os,iL (vn:Int) o=false) (low:Nat) (hl:low<=vn)=>GD (ht.below h) vn low hvn hn64 hl hb);have HTN:=hid (show ((vn:Int).toNat+1)=vn+1 from by omega);rw [HTN.o] at HGOODR;generalize (mL (vn:Int) os).1=res at *;clear t1 t2 t3 t4 h1 h2 h3 hvv h64 hln ht hw;have HB0:=hid (Below.refl w.heap.size w);go_in;go_wp2_with fail
 go_loopw [5] (fun iv wr=>∃ i:Nat,iv=.int .i64 (i:Int)/\i<=n/\Hid (∀ o ∈ os.take i,iL (vn:Int) o=false)/\Hid (Below w.heap.size w wr)) (fun i _=>n-(intOf i).toNat)
 case atStart=>exact ⟨0,rfl,by omega,hid (by simp),HB0⟩
 case round =>
  obtain ⟨i,rfl,hin,hgd,hbw⟩:=hrel;by_cases hi2:i<n
  · have hib4:decide ((i:Int)<(n:Int))=true:=decide_eq_true aA;have hib5:decide (i<n)=true:=decide_eq_true hi2;obtain ⟨ba,oa,rfl,hba,g0,g1,g2⟩:=(HT.o wr hbw.o).at_ hi2;have hio:i<os.length:=by rw [HLN.o];exact hi2
    obtain ⟨o,ho⟩ : ∃ o,o=aL os i:=⟨_,rfl⟩;have hmem:o ∈ os:=by rw [ho,kE hio];exact List.getElem_mem _
    have htk:os.take (i+1)=os.take i++[o]:=by rw [ho,kE hio,List.take_add_one,List.getElem?_eq_getElem hio];rfl
    rw [<-ho] at g0 g1 g2;cases hbad:iL (vn:Int) o with
    | true =>
     have HR:=hid (HBADR.o ⟨o,hmem,hbad⟩);have HBa:=hid (hbw.o.alloc hbw.o.size (.cells #[.int .i64 o.op,.int .i64 o.a,.int .i64 o.b] 78));have hsp:=FJ hbad;generalize o.op=lo at *;generalize o.a=ad at *;generalize o.b=hi at *;clear hmem htk hbad ho;rcases hsp with h | ⟨e1,h⟩ | ⟨e1,e2,h⟩ | ⟨e1,e2,e3,h⟩ | ⟨e1,e2,e3,e4,h⟩ | ⟨e1,e2,e3,e4,e5,h⟩;all_goals
      (try have k1:=decide_eq_false e1)
      (try have k2:=decide_eq_false e2)
      (try have k3:=decide_eq_false e3)
      (try have k4:=decide_eq_false e4)
      (try have k5:=decide_eq_false e5)
      have k6:=decide_eq_true h
      (try clear e1)
      (try clear e2)
      (try clear e3)
      (try clear e4)
      (try clear e5)
      clear h;go_wp2_with fail
      go_ret;rw [HR.o];exact ⟨rfl,HBa.o⟩
    | false =>
     have HG:=hid (show ∀ o' ∈ os.take (i+1),iL (vn:Int) o'=false from fun o' ho'=>by
      rw [htk,List.mem_append,List.mem_singleton] at ho';rcases ho' with ho' | rfl
      · exact hgd.o o' ho'
      exact hbad)
     have HBa:=hid (hbw.o.alloc hbw.o.size (.cells #[.int .i64 o.op,.int .i64 o.a,.int .i64 o.b] 78));obtain ⟨e1,e2,e3,e4,e5,e6⟩:=uI hbad;generalize o.op=lo at *;generalize o.a=ad at *;generalize o.b=hi at *;have k1:=decide_eq_false e1;have k2:=decide_eq_false e2;have k3:=decide_eq_false e3;have k4:=decide_eq_false e4;have k5:=decide_eq_false e5;have k6:=decide_eq_false e6;clear hmem htk hbad ho e1 e2 e3 e4 e5 e6;go_wp2_with fail
     go_roundw
     case rel=>exact ⟨i+1,by go_num,by omega,HG,HBa⟩
     case measure=>simp [intOf];omega
  have hib4:decide ((i:Int)<(n:Int))=false:=decide_eq_false aA;have hib5:decide (i<n)=false:=decide_eq_false hi2;have hgood:∀ o ∈ os,iL (vn:Int) o=false:=by
   have:=hgd.o
   rwa [List.take_of_length_le (by rw [HLN.o];omega)] at this
  have HBL:=hid (HBELL.o hgood);have HFR:=hid (fun (w':World) (h:Below w.heap.size w w') (low:Nat) (hl:low<=vn)=>HFROM.o w' h hgood low hl);have HGR:=hid (HGOODR.o hgood);clear hgood hgd;go_wp2_with fail
  obtain ⟨wo,rfl⟩ : ∃ wo:World,wo=wr:=⟨_,rfl⟩;go_loopw [7] (fun iv wr=>∃ v:Nat,iv=.int .i64 (v:Int)/\v<=vn+1/\Hid (∀ low,low<v->oE (kV (vn+1) os) (vn+1+1) (lU (vn+1) low) ≠ none)/\Hid (Below w.heap.size w wr)) (fun i _=>vn+1-(intOf i).toNat)
  case atStart=>exact ⟨0,rfl,by omega,hid (fun low h=>absurd h aA),hbw⟩
  case round =>
   obtain ⟨v,rfl,hvv,hall,hbw2⟩:=hrel;by_cases hv2:v<=vn;rotate_left
   · have hib6:decide ((v:Int)<=(vn:Int))=false:=decide_eq_false aA;have hib7:decide (v<=vn)=false:=decide_eq_false hv2;have HR:Hid (res=0):=hid (HGR.o.2 (HBL.o.1 (fun low hl=>hall.o low aA)));go_wp2_with fail
     go_ret;rw [HR.o];exact ⟨rfl,hbw2.o⟩
   have hib6:decide ((v:Int)<=(vn:Int))=true:=decide_eq_true aA;have hib7:decide (v<=vn)=true:=decide_eq_true hv2;have HC:=hid (HFR.o wr hbw2.o v hv2);go_wp2_with fail
   refine HC.o.mono ?_;rintro e w2 ⟨hb2,hcase⟩;have HB2:=cN hbw2 hb2;clear hb2;rcases hcase with ⟨hr,rfl⟩ | ⟨ds,A',n',c',hr,rfl,_⟩
   · have HR:Hid (res=7):=hid (by
      by_cases hp:KB (vn+1) os
      · exact HGR.o.1 hp
      exact absurd hr (HBL.o.2 hp v aA))
     clear hr;go_wp2_with fail
     go_ret;rw [HR.o];exact ⟨rfl,HB2.o⟩
   have HA:Hid (∀ low,low<v+1->oE (kV (vn+1) os) (vn+1+1) (lU (vn+1) low) ≠ none):=hid (fun low hl=>by
    by_cases h:low<v
    · exact hall.o low h
    have:low=v:=aA;subst this;rw [hr];simp)
   clear hr;go_wp2_with fail
   go_roundw
   case rel=>exact ⟨v+1,by go_num,by omega,HA,HB2⟩
   case measure=>simp [intOf];omega
end
end Go.Proofs.YtplecfbdchmogaaGreat
