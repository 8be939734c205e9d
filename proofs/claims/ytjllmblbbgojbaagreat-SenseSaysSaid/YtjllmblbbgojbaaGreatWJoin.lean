/- Merged: RvI, SenseW, Join. -/
import Derived.Test.YtjllmblbbgojbaaGreatWRvF
import Derived.Test.YtjllmblbbgojbaaGreatWRefGd
import Derived.Test.YtjllmblbbgojbaaGreatWRvJ
import Derived.Test.YtjllmblbbgojbaaGreatChecked
import Derived.Test.YtjllmblbbgojbaaGreatWBase
import Derived.ProofKit
import Derived.SizedLaws
import Derived.Deep.Slices
import Derived.Deep.Fields
namespace Go.Proofs.YtjllmblbbgojbaaGreat
section
open Go.RowKit
theorem DZ {w0:World} {g:Nat} {v:aZ} {b:Bk} (hr:bY b=0) (hb:bM w0 v b) : ∀ d,qD w0 g v b d/\s7 w0 g v b d
 | 0=>⟨fun _ _ _ _ _ h=>absurd h aA,fun _ _ _ _ _ _ _ h=>absurd h aA⟩
 | d+1=>by
  obtain ⟨h1,h2⟩:=DZ hr hb d;have e1:qD w0 g v b (d+1):=by
   intro w f R t x hf hf1 hw hR ht fx;cases f with
   | zero =>
    have:eO b (d+1) 0 x=.er 10:=by rw [gZ];rfl
    rw [this];exact CF hw hR
   | succ m =>
    have hmd:m<d:=aA;have hm1:m<=100000:=aA;cases hv:cJ x with
    | true=>exact FU hr hb h1 h2 hmd hm1 hw hR ht fx hv trivial
    | false =>
     by_cases o8:x.1.op=8
     · exact FS hr hb h1 h2 hmd hm1 hw hR ht fx hv o8
     by_cases o7:x.1.op=7
     · exact FT hr hb h1 h2 hmd hm1 hw hR ht fx hv o7
     by_cases o11:x.1.op=11
     · exact zJ hr hb h1 h2 hmd hm1 hw hR ht fx hv o11
     exact FR hr hb h1 h2 hmd hm1 hw hR ht fx hv (AJ fx hv o7 o8 o11)
  refine ⟨e1,fun w f R t x s a hf hf1 hw hR ht hs ox oa => ?_⟩;by_cases o5:(cP x).1.1.op=5
  · exact FW hr e1 h2 hf hf1 hw hR ht hs ox oa o5
  by_cases o9:(cP x).1.1.op=9\/(cP x).1.1.op=10
  · exact CG hr e1 h2 hf hf1 hw hR ht hs ox oa o9
  by_cases o12:(cP x).1.1.op=12
  · exact FV hr e1 h2 hf hf1 hw hR ht hs ox oa o12
  exact CH hr e1 h2 hf hf1 hw hR ht hs ox oa ⟨o5,fun h=>o9 (.inl h),fun h=>o9 (.inr h),o12⟩
end
section
open Go.Lib (hid)
open Go.RowKit
set_option linter.unusedSimpArgs false in
set_option linter.unusedVariables false in
set_option maxRecDepth 100000 in
set_option maxHeartbeats 8000000 in
theorem CN {w:World} {v:aZ} {b:Bk} (hb:bM w v b) {A:Option Addr} {n c:Nat} {t:List Nd} (ht:aP w A n c t) (fuel:Int) (hfu:(Lit.int .i64 fuel).wf=true) :
 Calls Tryz.prog 3 #[.agg #[.int .i64 b.vars,.slice v.Ao v.no v.co,.slice v.Ae v.ne v.ce,.int .i64 b.nat,.slice v.Ap v.np v.cp],.slice A n c,.int .i64 fuel] w (fH true w):=by
 have HHV:=hid (fun (w':World) (h:Below w.heap.size w w')=>E4 (hb.below h) (A:=A) (n:=n) (c:=c) fuel);have HVA:=hid (fun (w':World) (h:Below w.heap.size w w')=>sN (hb.below h) (ht.below h));have HVR:=hid (fun (w':World) (h:Below w.heap.size w w')=>wR (hb.below h) (ht.below h));have HEV:=hid (fun (w':World) (h:Below w.heap.size w w')=>lT (hb.below h) fuel (ht.below h));have HER:=hid (fun (w':World) (h:Below w.heap.size w w')=>zI (fun hr w0 g d h0=>(DZ hr h0 d).1) (hb.below h) fuel hfu (ht.below h));have HB0:=hid (aB w (.cells #[.int .i64 b.vars,.slice v.Ao v.no v.co,.slice v.Ae v.ne v.ce,.int .i64 b.nat,.slice v.Ap v.np v.cp] 26));have HK0:=hid (aD.new w 26 #[.int .i64 b.vars,.slice v.Ao v.no v.co,.slice v.Ae v.ne v.ce,.int .i64 b.nat,.slice v.Ap v.np v.cp]);obtain ⟨⟨ql,qn,qe⟩,hq⟩ : ∃ q,q=jD b t fuel:=⟨_,rfl⟩;rw [<-hq] at HEV HER;obtain ⟨vq,hvq⟩ : ∃ q,q=(decide (eM b 0 t=0)&&cJ (dX t)):=⟨_,rfl⟩;obtain ⟨z,hz⟩ : ∃ q,q=eM b 0 t:=⟨_,rfl⟩;rw [<-hvq,<-hz] at HVA HVR;generalize vV b n fuel=hv at *;clear hb ht hq hvq hz hfu;go_in;go_wp2_with fail
 refine CM.mono ?_;rintro e w1 ⟨rfl,hw1⟩;have HB1:=cO HB0 hw1;have HK1:=hid (aD.below HK0.o hw1 (by simp));have zk1:=aD.cell HK1.o;clear hw1;have HHW:=hid (HHV.o w1 HB1.o);cases hv with
 | true =>
  go_wp2_with fail
  refine (HHW.o).mono ?_;rintro e w2 ⟨rfl,hw2⟩;go_wp2_with fail
  go_ret;exact ⟨rfl,HB1.o.trans (hw2.mono HB1.o.size)⟩
 | false =>
 go_wp2_with fail
 refine (HHW.o).mono ?_;rintro e w2 ⟨rfl,hw2⟩;have HB2:=cO HB1 hw2;have HK2:=gU HK1 hw2;have zk2:=aD.cell HK2.o;clear hw2 zk1;go_wp2_with fail
 refine (HVA.o w2 HB2.o).mono ?_;rintro e w3 ⟨rfl,hw3⟩;have HB3:=cO HB2 hw3;have HK3:=gU HK2 hw3;have zk3:=aD.cell HK3.o;clear hw3 zk2;go_wp2_with fail
 refine (HVR.o w3 HB3.o).mono ?_;rintro e w4 ⟨rfl,hw4⟩;have HB4:=cO HB3 hw4;have HK4:=gU HK3 hw4;have zk4:=aD.cell HK4.o;clear hw4 zk3;go_wp2_with fail
 refine (HEV.o w4 HB4.o).mono ?_;rintro e w5 ⟨hw5,A5,n5,c5,rfl,ht5⟩;have HB5:=cO HB4 hw5;have HK5:=gU HK4 hw5;have HT5:Hid (aP w5 A5 n5 c5 ql):=hid (ht5.keep fun q hq=>⟨hq.2,fun _=>rfl⟩);have zk5:=aD.cell HK5.o;clear hw5 zk4 ht5;go_wp2_with fail
 refine (HER.o w5 HB5.o).mono ?_;rintro e w6 ⟨hw6,A6,n6,c6,rfl,ht6⟩;have HB6:=cO HB5 hw6;have HT6:Hid (aP w6 A6 n6 c6 ql):=hid (ht6.keep fun q hq=>⟨hq.2,fun _=>rfl⟩);have HSM:=hid (sK w6 (HT5.o.below hw6) HT6.o);have HSQ:Hid (decide (ql=ql)=true):=hid (by simp);rw [HSQ.o] at HSM;have b1:(vq==vq)=true:=by simp
 have b2:(z==z)=true:=by simp
 have b3:(qn==qn)=true:=by simp
 have b4:(qe==qe)=true:=by simp
 clear hw6 zk5 ht6;go_wp2_with fail
 refine (HSM.o).mono ?_;rintro e w7 ⟨rfl,m,rfl⟩;have HB7:=hid (aI HB6.o m);go_wp2_with fail
 go_ret;exact ⟨rfl,HB7.o⟩
end
section
set_option maxRecDepth 100000
open Go.ChangeShapes Go.WideShapes Go.ChangeAt Go.RowKit Go.Deep
theorem Tryz.own:ownKnob Tryz.prog.godebug=none:=by kernel_rfl
theorem Tryz.laidOut:laidOutB Tryz.prog=true:=by kernel_rfl
theorem oT:Tryz.prog.cellsOf 40=3:=by kernel_rfl
theorem uF:Tryz.prog.bytesOf 40=24:=by kernel_rfl
theorem kT:Tryz.prog.cellsOf 3=1:=by kernel_rfl
section
variable {H : Type} {enc : TypeId × Value->H}
theorem DL {w:World} {base:Nat} {spare:Nat->Bool} {held:Bool} {n:Nat} {cs:List Value} {x:DataW H×List MemPlace} (h:DataW.trod enc Tryz.prog w base spare held n 40 cs=some x) : ∃ o a b:Int,cs=[.int .i64 o,.int .i64 a,.int .i64 b]:=by
 obtain ⟨xs,m,_,_,hlen,hxs,hf⟩:=DataW.trod_struct Tryz.underlying40 h;rw [oT] at hlen;have g0:DataW.trod enc Tryz.prog w base spare held m 3 ((cs.drop 0).take (Tryz.prog.cellsOf 3))=xs[0]?:=hf 0 _ rfl;have g1:DataW.trod enc Tryz.prog w base spare held m 3 ((cs.drop 1).take (Tryz.prog.cellsOf 3))=xs[1]?:=hf 1 _ rfl;have g2:DataW.trod enc Tryz.prog w base spare held m 3 ((cs.drop 2).take (Tryz.prog.cellsOf 3))=xs[2]?:=hf 2 _ rfl;have hx3:xs.length=3:=hxs;rw [kT] at g0 g1 g2
 match cs,hlen with
 | [c0,c1,c2],_ =>
  match xs,hx3 with
  | [y0,y1,y2],_ =>
   obtain ⟨o,ho,_⟩:=DataW.trod_int Tryz.underlying3 g0;obtain ⟨a,ha,_⟩:=DataW.trod_int Tryz.underlying3 g1;obtain ⟨b,hb,_⟩:=DataW.trod_int Tryz.underlying3 g2;simp at ho ha hb;subst ho ha hb;exact ⟨o,a,b,rfl⟩
theorem FI {W:World} {base:Nat} {held:Bool} {v:Value} {d:DataW H} {p:List MemPlace} (hv:Value.okWide Tryz.prog W .any base 28 v) (h:DataW.Trod enc Tryz.prog W 0 (fun _=>true) held 28 v d p)
 (hsz:∀ es sp,d=.slice es sp->(es.length+sp.length)*Tryz.prog.bytesOf 40<=reachBytes) (hlt:∀ x ∈ p,x.block<W.heap.size) :
 ∃ A n c l,v=.slice A n c/\aP W A n c l:=by
 obtain ⟨a0,len,cap,rfl⟩:=okWide_slice Tryz.underlying28 hv;obtain ⟨fuel,hf⟩:=h;rcases open_slice Tryz.underlying28 hf with ⟨hcs,hx⟩ | ⟨a,len',cap',m,n,D,Pl,hcs,_,hl,hm,hmm,hx,hi⟩
 · simp [Value.cells] at hcs;obtain ⟨rfl,rfl,rfl⟩:=hcs;exact ⟨none,0,0,[],rfl,rfl,Nat.le_refl _,by decide,fun _=>rfl,fun h=>absurd h (by decide)⟩
 simp [Value.cells] at hcs;obtain ⟨rfl,rfl,rfl⟩:=hcs;simp only [Prod.mk.injEq] at hx;obtain ⟨rfl,rfl⟩:=hx;simp only [if_true] at hmm;subst hmm;have hreach:=hsz _ _ rfl;rw [uF] at hreach;simp only [List.length_map,List.length_range,reachBytes] at hreach;rw [oT] at hi hlt;obtain ⟨b,off,spot⟩:=a;have hc:∀ i:Nat,∃ o x y:Int,i<m->W.cell? ((⟨b,off,spot⟩:Addr).add (i*3))=some (.int .i64 o)/\W.cell? (((⟨b,off,spot⟩:Addr).add (i*3)).add 1)=some (.int .i64 x)/\W.cell? (((⟨b,off,spot⟩:Addr).add (i*3)).add 2)=some (.int .i64 y):=by
  intro i;by_cases him:i<m
  · obtain ⟨cs',hc,ht⟩:=hi i him;obtain ⟨o,x,y,rfl⟩:=DL ht;obtain ⟨_,_,hat⟩:=World.cells?_some hc;refine ⟨o,x,y,fun _=>⟨?_,hat 1 aA,hat 2 aA⟩⟩;have h0:=hat 0 aA
    rwa [show (((⟨b,off,spot⟩:Addr).add (i*3)).add 0)=(⟨b,off,spot⟩:Addr).add (i*3) from by simp [Go.Deep.add_add]] at h0
  exact ⟨0,0,0,fun h=>absurd h him⟩
 have hn:∃ N:Nat->Nd,∀ i,i<m->W.cell? ((⟨b,off,spot⟩:Addr).add (i*3))=some (.int .i64 (N i).op)/\W.cell? (((⟨b,off,spot⟩:Addr).add (i*3)).add 1)=some (.int .i64 (N i).a)/\W.cell? (((⟨b,off,spot⟩:Addr).add (i*3)).add 2)=some (.int .i64 (N i).b) :=
  ⟨fun i=>⟨(hc i).choose,(hc i).choose_spec.choose,(hc i).choose_spec.choose_spec.choose⟩,fun i him=>(hc i).choose_spec.choose_spec.choose_spec him⟩
 obtain ⟨N,hN⟩:=hn;refine ⟨_,_,_,(List.range len).map N,rfl,by simp,hl,by omega,(fun e=>by cases e),fun hpos => ?_⟩;have hspot:spot=none:=by simpa [Addr.add] using World.cell?_spot (hN 0 aA).1
 subst hspot;have hb:b<W.heap.size:=hlt (.cell b off) (List.mem_append.2 (.inl (MemPlace.mem_row.2 ⟨0,by omega,by simp⟩)));refine ⟨b,off,rfl,hb,fun k hk => ?_⟩;simp only [List.length_map,List.length_range] at hk;have hnk:aQ ((List.range len).map N) k=N k:=by
  rw [iV (by simpa using hk)];simp
 obtain ⟨q0,q1,q2⟩:=hN k aA;rw [add_plain] at q0 q1 q2;rw [add_plain] at q1 q2;rw [hnk];exact ⟨q0,q1,q2⟩
theorem F6 {W:World} {base:Nat} {sp:Nat->Bool} {held:Bool}:DataW.Trod enc Tryz.prog W base sp held 4 (.bool true) (.lit (.bool true)) []:=⟨1,by simp [DataW.trod,Value.cells,Tryz.underlying4]⟩
end
end
end Go.Proofs.YtjllmblbbgojbaaGreat
