/- Merged: SenseX, Join. -/
import Derived.Test.YtjllmblbbgojbaaGreatXRvJ
import Derived.Test.YtjllmblbbgojbaaGreatXSameB
import Derived.ProofKit
import Derived.SizedLaws
import Derived.Deep.Slices
import Derived.Deep.Fields
namespace Go.Proofs.YtjllmblbbgojbaaGreat
set_option linter.unusedVariables false
set_option linter.unusedSimpArgs false
open Go.RowKit
open Option renaming some → O, none → X
section
open Go.Lib renaming hid->aB
set_option maxRecDepth 100000 in
set_option maxHeartbeats 8000000 in
theorem zW {w:World} {v:bN} {b:Bk} (hb:bV w v b) (hcp:v.Ap=X->v.cp=0) {A:Option Addr} {n c:Nat} {t:List Nd} (ht:bB w A n c t) :
 Calls Tryz.prog 4 #[.agg #[.int .i64 b.vars,.slice v.Ao v.no v.co,.slice v.Ae v.ne v.ce,.int .i64 b.nat,.slice v.Ap v.np v.cp],.slice A n c] w (fP true w):=by
 obtain⟨i0,hi,hy0,hy1,hy2⟩:=info_parts kW;have HI0:=aB hi;have HY0:=aB hy0;have HY1:=aB hy1;have HY2:=aB hy2;clear hi hy0 hy1 hy2;have HHV:=aB (fun (w':World) (h:Below w.heap.size w w')=>GV (hb.below h) (A:=A) (n:=n) (c:=c) 0);have HCB:=aB (fun (hs:wU b) (w':World) (h:Below w.heap.size w w')=>xE (hb.below h) hs hcp);have HCT:=aB (fun (w':World) (h:Below w.heap.size w w')=>fI (ht.below h));have HER:=aB (fun (w':World) (h:Below w.heap.size w w')=>AR (fun hr w0 g d h0=>(FM hr h0 d).1) (hb.below h) 200 rfl (ht.below h));have HEV:=aB (fun (w':World) (u:bN) (B:Option Addr) (m d:Nat) (hu:bV w' u b) (h:bB w' B m d t)=>tI hu 200 h);have HSB:=aB (fun (w':World) (u:bN) (hu:bV w' u b) (h:Below w.heap.size w w')=>uM (hb.below h) hu);have HSR:=aB (fun (w':World) (B:Option Addr) (d:Nat) (h1:bB w' B n d t) (hh:Below w.heap.size w w')=>(kM w' h1 (ht.below hh)).mono (fun e w'' ⟨h1,m,h2⟩=>(⟨by rw[decide_eq_true rfl] at h1;exact h1,by rw[h2];exact aV (Below.refl _ _) m⟩:fP true w' e w'')));have HSS:=aB (fun (h:pO b n 0=false)=>(by
  unfold pO at h;simp only[Bool.or_eq_false_iff,decide_eq_false_iff_not] at h;exact⟨DZ (lid:=4000) aA aA,by omega⟩:wU b/\n<=3000))
 have hln:=ht.len;have hfn:=ht.few;have HLN:=aB hln;have HB0:=aB (aP w (.cells #[.int .i64 b.vars,.slice v.Ao v.no v.co,.slice v.Ae v.ne v.ce,.int .i64 b.nat,.slice v.Ap v.np v.cp] 26));have HK0:=aB (aS.new w 26 #[.int .i64 b.vars,.slice v.Ao v.no v.co,.slice v.Ae v.ne v.ce,.int .i64 b.nat,.slice v.Ap v.np v.cp]);obtain⟨⟨ql,qn,qe⟩,hq⟩ : ∃q,q=jL b t 200:=⟨_,rfl⟩;rw[<-hq] at HEV HER;obtain⟨hv,hhv⟩ : ∃q,q=pO b n 0:=⟨_,rfl⟩;rw[<-hhv] at HHV HSS;obtain⟨Ao,no,co,Ae,ne,ce,Ap,np,cp⟩:=v;simp only at HHV HCB HCT HER HEV HSB HB0 HK0 ⊢;clear hb ht hcp hln hq hhv;generalize b.vars=bv at *;generalize b.nat=bn at *;go_in;go_wp2_with fail;refine DW.mono ?_;rintro e w1 ⟨rfl,hw1⟩;have HB1:=dA HB0 hw1;have HK1:=aB (aS.below HK0.o hw1 aD);have zk1:=aS.cell HK1.o;clear hw1;have HHW:=aB (HHV.o w1 HB1.o);cases hv with
 | true =>
  go_wp2_with fail;refine (HHW.o).mono ?_;rintro e w2 ⟨rfl,hw2⟩;go_wp2_with fail;go_ret;exact⟨rfl,HB1.o.trans (hw2.mono HB1.o.size)⟩
 | false =>
 go_wp2_with fail;refine (HHW.o).mono ?_;rintro e w2 ⟨rfl,hw2⟩;have HB2:=dA HB1 hw2;have HK2:=gK HK1 hw2;have zk2:=aS.cell HK2.o;obtain⟨hsm,hn4⟩:=HSS.o (by first | rfl | trivial);have HSM:=aB hsm;clear hw2 zk1 hsm;go_wp2_with fail;refine (HCB.o HSM.o _ HB2.o).mono ?_;rintro e w3 ⟨hd3,u,rfl,hu3⟩;obtain⟨Bo,mo,do_,Be,me,de,Bp,mp,dp⟩:=u;simp only;have HB3:=dA HB2 hd3;have HK3:=gK HK2 hd3;have HU3:=aB hu3;clear hd3 hu3 zk2;go_wp2_with fail;refine (HCT.o _ HB3.o).mono ?_;rintro e w4 ⟨hd4,A4,c4,rfl,ho4⟩;have hs4:=hd4.size;rw[bR,HLN.o] at ho4;rw[HLN.o];have hal4:=aP w4 (.cells #[.int .i64 77,.int .i64 0,.int .i64 0] 40);have HOW:=aB (bL ho4 hal4);have HBK:=aB (aS.new w4 40 #[.int .i64 77,.int .i64 0,.int .i64 0]);have HNEW:=aB (rW HBK.o);have HA4:=aB (hd4.trans (hal4.mono hs4));clear hd4 ho4 hal4;go_wp2_with (at_builtin;go_loud (refine bM rfl (aX (.tmp 26) (.tmp 28) 28 rfl w3.heap.size 40 i0 _ 3 24 Tryz.underlying28 HI0.o HY0.o HY1.o HY2.o rfl aE (.slice A4 n c4) n (fS t) rfl HOW.o (O ⟨w4.heap.size,0,X⟩) 1 1 [.int .i64 77,.int .i64 0,.int .i64 0] rfl rfl (fun e=>by cases e) HNEW.o (by simp[Value.oneCell']) aJ aA aG ?_));intro A5 c5 w5 hap;have HAP:=aB hap;clear hap)
 have hd5:Below w3.heap.size w3 w5:=HA4.o.grown HAP.o.grown (by have:=HA4.o.size;omega) (fun g e=>(aR HOW.o e).1);have hown5:bR w5 w3.heap.size (.slice A5 (t++[(⟨77,0,0⟩:Nd)]).length c5) (t++[(⟨77,0,0⟩:Nd)]):=by
  have h1:=HAP.o.own;unfold bR;rw[List.length_append,HLN.o,qN];exact h1
 have hal5:=aP w5 (.cells #[.int .i64 bv,.slice Bo mo do_,.slice Be me de,.int .i64 bn,.slice Bp mp dp] 26);have HW6:=aB (hal5);have htm:bB (w5.alloc (.cells #[.int .i64 bv,.slice Bo mo do_,.slice Be me de,.int .i64 bn,.slice Bp mp dp] 26)) A5 (t++[(⟨77,0,0⟩:Nd)]).length c5 (t++[(⟨77,0,0⟩:Nd)]):=by
  obtain⟨A',n',c',e,ht⟩:=bR.termS hown5 (by rw[List.length_append,HLN.o];simp;omega);injection e with e1 e2 e3;subst e1 e2 e3;have h2:=ht.keep (R':=(· < w5.heap.size)) (w':=w5) fun b hb=>⟨(aR hown5 hb).2.1,fun _=>rfl⟩;exact bB.below h2 hal5
 have hlen:(t++[(⟨77,0,0⟩:Nd)]).length=n+1:=by rw[List.length_append,HLN.o];rfl
 rw[hlen] at htm;have hc5:=htm.cap;have hfr:=htm.front (k:=n) aA;rw[List.take_append_of_le_length (by rw[HLN.o];exact Nat.le_refl _),List.take_of_length_le (by rw[HLN.o];exact Nat.le_refl _)] at hfr;have HTF:Hid (bB (w5.alloc (.cells #[.int .i64 bv,.slice Bo mo do_,.slice Be me de,.int .i64 bn,.slice Bp mp dp] 26)) A5 n c5 t):=aB hfr;have HTM:=aB htm;have HBW:=aB ((HB3.o.trans (hd5.mono HB3.o.size)).trans (hal5.mono (by have:=HB3.o.size;have:=hd5.size;omega)));have HKW:=aB ((HK3.o.below hd5 HK3.o.lt).alloc (.cells #[.int .i64 bv,.slice Bo mo do_,.slice Be me de,.int .i64 bn,.slice Bp mp dp] 26));have HUV:=aB ((HU3.o.below hd5).below hal5);have HU6:=aB (aS.new w5 26 #[.int .i64 bv,.slice Bo mo do_,.slice Be me de,.int .i64 bn,.slice Bp mp dp]);have hcz:(n:Int)<=(c5:Int):=aA;have hn0:(0:Int)<=(n:Int):=aA;clear hd5 hown5 htm hlen hfr hal5;generalize hg:(w5.alloc (.cells #[.int .i64 bv,.slice Bo mo do_,.slice Be me de,.int .i64 bn,.slice Bp mp dp] 26))=w6 at *;clear hg;obtain⟨bq,oq,rfl,hbq,hq0,_,_⟩:=HTM.o.at_ (p:=n) aA;have e77:bD (t++[(⟨77,0,0⟩:Nd)]) n=⟨77,0,0⟩:=by
  rw[<-HLN.o];simp[bD]
 rw[e77] at hq0;have HQ0:=aB hq0;have HBQ:=aB hbq;clear e77 hq0 hbq;have HW6:Hid (Below w6.heap.size w6 w6):=aB (Below.refl _ _);have HWd:=aB (aV HW6.o 1);have HUd:=aB (HU6.o.drewN 1);refine wp_region_held_drew (S:=(fun w'=>w'.cell? ⟨w5.heap.size,0,X⟩=O (.int .i64 bv)/\w'.cell? ⟨w5.heap.size,1,X⟩=O (.slice Bo mo do_)/\w'.cell? ⟨w5.heap.size,2,X⟩=O (.slice Be me de)/\w'.cell? ⟨w5.heap.size,3,X⟩=O (.int .i64 bn)/\w'.cell? ⟨w5.heap.size,4,X⟩=O (.slice Bp mp dp))) aC ?_ (fun hZ => ?_)
 · (try dsimp only);exact⟨HUd.o.cell 0,HUd.o.cell 1,HUd.o.cell 2,HUd.o.cell 3,HUd.o.cell 4⟩
 refine aL 0 hZ ?_;refine aL 1 hZ ?_;refine aL 2 hZ ?_;refine aL 3 hZ ?_;refine aL 4 hZ ?_;refine r1 5 fun K hK => ?_;go_simp;go_at_call 9
 refine (HEV.o w6.drew ⟨Bo,mo,do_,Be,me,de,Bp,mp,dp⟩ (O ⟨bq,oq,X⟩) n c5 (HUV.o.below HWd.o) (HTF.o.below HWd.o)).mono ?_;rintro e7 w7 ⟨hd7,A7,n7,c7,rfl,ho7,hl7⟩;have HW7:=dA HWd hd7;have HU7:=gK HUd hd7;have HO7:=aB ho7;clear hd7 ho7 hl7;go_wp2_with fail;refine hK.o _ _ (by exact⟨HU7.o.cell 0,HU7.o.cell 1,HU7.o.cell 2,HU7.o.cell 3,HU7.o.cell 4⟩) fun hZ => ?_;clear hK K;try simp only[p7]
 refine aL 6 hZ ?_;refine aL 7 hZ ?_;refine aL 8 hZ ?_;refine aL 9 hZ ?_;refine aL 10 hZ ?_;refine aL 11 hZ ?_;refine aL 12 hZ ?_;refine wpAnyH_done aC ?_ _
 -- the whole of the answer is written over
 have hown7:=HO7.o;have HFU:Hid (c7=0\/∃g cur,A7=O ⟨g,0,X⟩/\w6.heap.size<=g/\aS w7 g 40 cur/\cur.size=c7*3):=aB (by
  rcases hown7.2 with⟨e,_⟩ | ⟨g,cap,cur,e,hg,hblk,_,_,hsz,_⟩
  · injection e with e1 e2 e3;exact .inl e3
  injection e with e1 e2 e3;subst e3;exact .inr ⟨g,cur,e1,hg,hblk,hsz⟩)
 have hcm:c7<=maxLen:=by
  rcases hown7.2 with⟨e,_⟩ | ⟨g,cap,cur,e,hg,hblk,_,hm,hsz,_⟩
  · injection e with e1 e2 e3;rw[e3];exact Nat.zero_le _
  injection e with e1 e2 e3;rw[e3];exact hm
 unfold maxLen at hcm;have hnc:n7<=c7:=by
  rcases hown7.2 with⟨e,_⟩ | ⟨g,cap,cur,e,hg,hblk,hh,_,hsz,_⟩
  · injection e with e1 e2 e3;omega
  injection e with e1 e2 e3;omega
 have hcc:(c7:Int)<=(c7:Int):=Int.le_refl _;have hc0:(0:Int)<=(c7:Int):=aA;have HM7:Hid (Below w6.heap.size w6 w7):=HW7;clear hown7;go_wp2_with fail;go_loopw [11] (fun iv wr=>∃(k:Nat),iv=.int .i64 (k:Int)/\k<=c7/\Hid (Below w6.heap.size w6 wr)/\Hid (c7=0\/∃g cur,A7=O ⟨g,0,X⟩/\w6.heap.size<=g/\aS wr g 40 cur/\cur.size=c7*3)) (fun iv _=>c7-(intOf iv).toNat)
 case atStart=>exact⟨0,rfl,Nat.zero_le _,HM7,HFU⟩
 case round =>
  obtain⟨k,rfl,hk,hbr,hfr⟩:=hrel;by_cases hkc:k<c7
  · have d3:decide ((k:Int)<(c7:Int))=true:=decide_eq_true aA;obtain⟨g,cur,rfl,hg,hblk,hsz⟩:=hfr.o.resolve_left aA;obtain⟨u0,hci⟩ : ∃u,cur[k*3]? = O u:=⟨_,Array.getElem?_eq_getElem aA⟩;have zc:wr.cell? ⟨g,k*3,X⟩=O u0:=(hblk.cell (k*3)).trans hci;have zf:=hblk.frozen (k*3);have hk0:(0:Int)<=(k:Int):=aA;have hk1:(k:Int)<(c7:Int):=aA;have hnext:IntKind.i64.wrap ((k:Int)+1)=((k+1:Nat):Int):=by rw[IntKind.wrap_i64];omega
    have HNW:Hid (Below w6.heap.size w6 (wr.setCell ⟨g,k*3,X⟩ (.int .i64 99))):=aB (hbr.o.setCell hg _);have HNB:Hid (c7=0\/∃g' cur,(O ⟨g,0,X⟩:Option Addr)=O ⟨g',0,X⟩/\w6.heap.size<=g'/\aS (wr.setCell ⟨g,k*3,X⟩ (.int .i64 99)) g' 40 cur/\cur.size=c7*3):=aB (.inr ⟨g,_,rfl,hg,hblk.set_ (k*3) (.int .i64 99),by simpa using hsz⟩);have HHK:=aB hkc;clear hci hblk hbr hfr hkc hsz;go_wp2_with fail;go_roundw
    case measure=>simp[intOf];have:=HHK.o;omega
    exact⟨k+1,by simp,HHK.o,HNW,HNB⟩
  have hkk:k=c7:=aA;subst hkk;have d3:decide ((k:Int)<(k:Int))=false:=decide_eq_false aA;have HWL:=hbr;clear hkc hfr hbr;go_wp2_with fail
  -- LOOPEND
  have HUw:Hid (aS wr w5.heap.size 26 #[.int .i64 bv,.slice Bo mo do_,.slice Be me de,.int .i64 bn,.slice Bp mp dp]):=aB (aS.below HU6.o HWL.o HU6.o.lt);have HWe:=aB (aV HWL.o 1);have HUe:=aB (HUw.o.drewN 1);refine wp_region_held_drew (S:=(fun w'=>w'.cell? ⟨w5.heap.size,0,X⟩=O (.int .i64 bv)/\w'.cell? ⟨w5.heap.size,1,X⟩=O (.slice Bo mo do_)/\w'.cell? ⟨w5.heap.size,2,X⟩=O (.slice Be me de)/\w'.cell? ⟨w5.heap.size,3,X⟩=O (.int .i64 bn)/\w'.cell? ⟨w5.heap.size,4,X⟩=O (.slice Bp mp dp))) aC ?_ (fun hZ => ?_)
  · (try dsimp only);exact⟨HUe.o.cell 0,HUe.o.cell 1,HUe.o.cell 2,HUe.o.cell 3,HUe.o.cell 4⟩
  refine aL 0 hZ ?_;refine aL 1 hZ ?_;refine aL 2 hZ ?_;refine aL 3 hZ ?_;refine aL 4 hZ ?_;refine r1 5 fun K hK => ?_;go_simp;go_at_call 9
  refine (HEV.o wr.drew ⟨Bo,mo,do_,Be,me,de,Bp,mp,dp⟩ (O ⟨bq,oq,X⟩) n c5 (HUV.o.below HWe.o) (HTF.o.below HWe.o)).mono ?_;rintro e8 w8 ⟨hd8,A8,n8,c8,rfl,ho8,hl8⟩;have HW8:=dA HWe hd8;have HU8:=gK HUe hd8;have HO8:=aB ho8;have HL8:=aB hl8;clear hd8 ho8 hl8;go_wp2_with fail;refine hK.o _ _ (by exact⟨HU8.o.cell 0,HU8.o.cell 1,HU8.o.cell 2,HU8.o.cell 3,HU8.o.cell 4⟩) fun hZ => ?_;clear hK K;try simp only[p7]
  refine aL 6 hZ ?_;refine aL 7 hZ ?_;refine aL 8 hZ ?_;refine aL 9 hZ ?_;refine aL 10 hZ ?_;refine aL 11 hZ ?_;refine aL 12 hZ ?_;refine wpAnyH_done aC ?_ _;have HB8:=aB (HBW.o.trans (HW8.o.mono HBW.o.size));have HK8:=aB (HKW.o.below HW8.o HKW.o.lt);have HT8:=aB (kI HO8.o HL8.o);have zk8:=aS.cell HK8.o;go_wp2_with fail;refine (HER.o w8 HB8.o).mono ?_;rintro e w9 ⟨hd9,A9,n9,c9,rfl,ht9⟩;have HW9:=dA HW8 hd9;have HB9:=dA HB8 hd9;have HK9:=aB (HK8.o.below hd9 HK8.o.lt);have HU9:=aB (HU8.o.below hd9 HU8.o.lt);have HX9:Hid (bB w9 A8 n8 c8 ql):=aB (bB.below (HT8.o.keep (R':=(· < w8.heap.size)) (w':=w8) fun q hq=>⟨hq.2,fun _=>rfl⟩) hd9);have HY9:Hid (bB w9 A9 n9 c9 ql):=aB (ht9.keep fun q hq=>⟨hq.2,fun _=>rfl⟩);have zk9:=aS.cell HK9.o;have zu9:=aS.cell HU9.o;clear hd9 zk8 ht9;go_wp2_with fail;refine (HSB.o w9 ⟨Bo,mo,do_,Be,me,de,Bp,mp,dp⟩ (HUV.o.below HW9.o) HB9.o).mono ?_;rintro e w10 ⟨rfl,hd10⟩;have HW10:=dA HW9 hd10;have HB10:=dA HB9 hd10;have HX10:=aB (HX9.o.below hd10);have HY10:=aB (HY9.o.below hd10);clear hd10 zk9 zu9;go_wp2_with fail;refine (HSR.o w10 (O ⟨bq,oq,X⟩) c5 (HTF.o.below HW10.o) HB10.o).mono ?_;rintro e w11 ⟨rfl,hd11⟩;have HW11:=dA HW10 hd11;have HB11:=dA HB10 hd11;have hq11:=(Below.cell HW11.o (p:=⟨bq,oq+n*3,X⟩) HBQ.o).trans HQ0.o;have hn1:(n:Int)<(n:Int)+1:=aA;have HSM:=aB (kM w11 (HX10.o.below hd11) (HY10.o.below hd11));have HSQ:Hid (decide (ql=ql)=true):=aB aD;rw[HSQ.o] at HSM;clear hd11;go_wp2_with fail;refine (HSM.o).mono ?_;rintro e w12 ⟨rfl,m,rfl⟩;have HB12:=aB (aV HB11.o m);clear hq11;go_wp2_with fail;go_ret;exact⟨rfl,HB12.o⟩
end
section
set_option maxRecDepth 100000
open Go.ChangeShapes Go.WideShapes Go.ChangeAt Go.RowKit Go.Deep
theorem Tryz.own:ownKnob Tryz.prog.godebug=X:=by kernel_rfl
theorem Tryz.laidOut:laidOutB Tryz.prog=true:=by kernel_rfl
theorem pR:Tryz.prog.cellsOf 40=3:=by kernel_rfl
theorem vN:Tryz.prog.bytesOf 40=24:=by kernel_rfl
theorem lS:Tryz.prog.cellsOf 3=1:=by kernel_rfl
section
variable {H : Type} {enc : TypeId × Value->H}
theorem EY {w:World} {base:Nat} {spare:Nat->Bool} {held:Bool} {n:Nat} {cs:List Value} {x:DataW H×List MemPlace} (h:DataW.trod enc Tryz.prog w base spare held n 40 cs=O x) : ∃o a b:Int,cs=[.int .i64 o,.int .i64 a,.int .i64 b]:=by
 obtain⟨xs,m,_,_,hlen,hxs,hf⟩:=DataW.trod_struct Tryz.underlying40 h;rw[pR] at hlen;have g0:DataW.trod enc Tryz.prog w base spare held m 3 ((cs.drop 0).take (Tryz.prog.cellsOf 3))=xs[0]?:=hf 0 _ rfl;have g1:DataW.trod enc Tryz.prog w base spare held m 3 ((cs.drop 1).take (Tryz.prog.cellsOf 3))=xs[1]?:=hf 1 _ rfl;have g2:DataW.trod enc Tryz.prog w base spare held m 3 ((cs.drop 2).take (Tryz.prog.cellsOf 3))=xs[2]?:=hf 2 _ rfl;have hx3:xs.length=3:=hxs;rw[lS] at g0 g1 g2
 match cs,hlen with
 | [c0,c1,c2],_ =>
  match xs,hx3 with
  | [y0,y1,y2],_ =>
   obtain⟨o,ho,_⟩:=DataW.trod_int Tryz.underlying3 g0;obtain⟨a,ha,_⟩:=DataW.trod_int Tryz.underlying3 g1;obtain⟨b,hb,_⟩:=DataW.trod_int Tryz.underlying3 g2;simp at ho ha hb;subst ho ha hb;exact⟨o,a,b,rfl⟩
theorem H0 {W:World} {base:Nat} {held:Bool} {v:Value} {d:DataW H} {p:List MemPlace} (hv:Value.okWide Tryz.prog W .any base 28 v) (h:DataW.Trod enc Tryz.prog W 0 (fun _=>true) held 28 v d p)
 (hsz:∀es sp,d=.slice es sp->(es.length+sp.length)*Tryz.prog.bytesOf 40<=reachBytes) (hlt:∀x ∈ p,x.block<W.heap.size) :
 ∃A n c l,v=.slice A n c/\bB W A n c l:=by
 obtain⟨a0,len,cap,rfl⟩:=okWide_slice Tryz.underlying28 hv;obtain⟨fuel,hf⟩:=h;rcases open_slice Tryz.underlying28 hf with⟨hcs,hx⟩ | ⟨a,len',cap',m,n,D,Pl,hcs,_,hl,hm,hmm,hx,hi⟩
 · simp[Value.cells] at hcs;obtain⟨rfl,rfl,rfl⟩:=hcs;exact⟨X,0,0,[],rfl,rfl,Nat.le_refl _,by decide,fun _=>rfl,fun h=>absurd h aE⟩
 simp[Value.cells] at hcs;obtain⟨rfl,rfl,rfl⟩:=hcs;simp only[Prod.mk.injEq] at hx;obtain⟨rfl,rfl⟩:=hx;simp only[if_true] at hmm;subst hmm;have hreach:=hsz _ _ rfl;rw[vN] at hreach;simp only[List.length_map,List.length_range,reachBytes] at hreach;rw[pR] at hi hlt;obtain⟨b,off,spot⟩:=a;have hc:∀i:Nat,∃o x y:Int,i<m->W.cell? ((⟨b,off,spot⟩:Addr).add (i*3))=O (.int .i64 o)/\W.cell? (((⟨b,off,spot⟩:Addr).add (i*3)).add 1)=O (.int .i64 x)/\W.cell? (((⟨b,off,spot⟩:Addr).add (i*3)).add 2)=O (.int .i64 y):=by
  intro i;by_cases him:i<m
  · obtain⟨cs',hc,ht⟩:=hi i him;obtain⟨o,x,y,rfl⟩:=EY ht;obtain⟨_,_,hat⟩:=World.cells?_some hc;refine⟨o,x,y,fun _=>⟨?_,hat 1 aA,hat 2 aA⟩⟩;have h0:=hat 0 aA
    rwa [show (((⟨b,off,spot⟩:Addr).add (i*3)).add 0)=(⟨b,off,spot⟩:Addr).add (i*3) from by simp[Go.Deep.add_add]] at h0
  exact⟨0,0,0,fun h=>absurd h him⟩
 have hn:∃N:Nat->Nd,∀i,i<m->W.cell? ((⟨b,off,spot⟩:Addr).add (i*3))=O (.int .i64 (N i).op)/\W.cell? (((⟨b,off,spot⟩:Addr).add (i*3)).add 1)=O (.int .i64 (N i).a)/\W.cell? (((⟨b,off,spot⟩:Addr).add (i*3)).add 2)=O (.int .i64 (N i).b) :=
  ⟨fun i=>⟨(hc i).choose,(hc i).choose_spec.choose,(hc i).choose_spec.choose_spec.choose⟩,fun i him=>(hc i).choose_spec.choose_spec.choose_spec him⟩
 obtain⟨N,hN⟩:=hn;refine⟨_,_,_,(List.range len).map N,rfl,by simp,hl,by omega,(fun e=>by cases e),fun hpos => ?_⟩;have hspot:spot=X:=by simpa[Addr.add] using World.cell?_spot (hN 0 aA).1
 subst hspot;have hb:b<W.heap.size:=hlt (.cell b off) (List.mem_append.2 (.inl (MemPlace.mem_row.2 ⟨0,by omega,by simp⟩)));refine⟨b,off,rfl,hb,fun k hk => ?_⟩;simp only[List.length_map,List.length_range] at hk;have hnk:bD ((List.range len).map N) k=N k:=by
  rw[jN (by simpa using hk)];simp
 obtain⟨q0,q1,q2⟩:=hN k aA;rw[add_plain] at q0 q1 q2;rw[add_plain] at q1 q2;rw[hnk];exact⟨q0,q1,q2⟩
theorem IQ {W:World} {base:Nat} {sp:Nat->Bool} {held:Bool}:DataW.Trod enc Tryz.prog W base sp held 4 (.bool true) (.lit (.bool true)) []:=⟨1,by simp[DataW.trod,Value.cells,Tryz.underlying4]⟩
end
end
end Go.Proofs.YtjllmblbbgojbaaGreat
