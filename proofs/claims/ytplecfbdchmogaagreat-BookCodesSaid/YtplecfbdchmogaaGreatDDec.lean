/- Programs that are read: Decode (book). -/
import Derived.Test.YtplecfbdchmogaaGreatDRdO
import Derived.Test.YtplecfbdchmogaaGreatDEnc
namespace Go.Proofs.YtplecfbdchmogaaGreat
open Go.Value renaming slice → O, pointer → Y
open Option renaming none → S
open Go.Obj renaming cells → X
open Go.Lib (hid)
open Go.RowKit
theorem mA {α:Type} {chk:Rd->Bool} {f:bL α} {Q:α->Prop} (hf:∀ s,Q (f s).1) : ∀ (k:Nat) (s:Rd),∀ x ∈ (aP chk f k s).1,Q x
 | 0,s,x,h=>by cases h
 | k+1,s,x,h=>by
  simp only [aP] at h;split at h
  · cases h
  · split at h
    · cases h
    rcases List.mem_cons.1 h with rfl | h
    · exact hf s
    exact mA hf k _ x h
theorem l9 (most:Nat) (s:Rd):0<=(aZ most s).1/\(aZ most s).1<=most:=by
 have:=bD most s;simp only [aZ];omega
theorem xM (k:Int) (s:Rd):(fK k s).1.kind=k:=by
 unfold fK;by_cases h1:k=1
 · rw [if_pos h1];exact h1.symm
 rw [if_neg h1];by_cases h2:k=2
 · rw [if_pos h2];exact h2.symm
 rw [if_neg h2]
theorem uZ (s:Rd):0<=(bW s).1.kind/\(bW s).1.kind<=2:=by
 simp only [bW,bL.seq];rw [xM];exact l9 2 s
theorem EL (s:Rd):(0<=(dF s).1.1/\(dF s).1.1<=255)/\0<=(dF s).1.2/\(dF s).1.2<=255:=by
 simp only [dF,bL.seq,bL.pure];exact ⟨l9 255 _,l9 255 _⟩
theorem AN (s:Rd):(dF s).2.odd=s.odd:=by
 simp only [dF,bL.seq,bL.pure,iU]
theorem rU {α:Type} {chk:Rd->Bool} {f:bL α} {most:Nat} (hf:∀ s,(f s).2.odd=s.odd) (s:Rd):(bO chk most f s).2.odd=s.odd:=by
 simp only [bO,bL.seq];rw [i9 hf,bI]
structure nA (R:Nat->Prop) (w:World) (u:gX) (p:Pg):Prop where
 orders:bJ R w u.bk.Ao u.bk.no u.bk.co p.book.orders
 entries:sK R w u.bk.Ae u.bk.ne u.bk.ce p.book.entries
 prims:sL R w u.bk.Ap u.bk.np u.bk.cp p.book.prims
 main:bJ R w u.Am u.nm u.cm p.main
 type:bJ R w u.At u.nt u.ct p.type
 nul:u.bk.Ap=S->u.bk.cp=0
 vars:(Lit.int .i64 p.book.vars).wf=true
 nat:(Lit.int .i64 p.book.nat).wf=true
 kinds:∀ x ∈ p.book.entries,(Lit.int .i64 x.kind).wf=true
 primsw:∀ r ∈ p.book.prims,(Lit.int .i64 r.1).wf=true/\(Lit.int .i64 r.2).wf=true
theorem nA.keep {R R':Nat->Prop} {w w':World} {u:gX} {p:Pg} (h:nA R w u p) (hR:∀ b,R b->R' b/\∀ o,w'.cell? ⟨b,o,S⟩=w.cell? ⟨b,o,S⟩):nA R' w' u p :=
 ⟨h.orders.keep hR,h.entries.keep hR,h.prims.keep hR,h.main.keep hR,h.type.keep hR,h.nul,h.vars,h.nat,h.kinds,h.primsw⟩
theorem nA.progV {R:Nat->Prop} {w:World} {u:gX} {p:Pg} (h:nA R w u p) (hR:∀ b,R b->b<w.heap.size):iM w u p :=
 have hk:∀ b,R b->b<w.heap.size/\∀ o,w.cell? ⟨b,o,S⟩=w.cell? ⟨b,o,S⟩:=fun b hb=>⟨hR b hb,fun _=>rfl⟩
 ⟨⟨h.orders.keep hk,h.entries.ensV hR,h.prims.prsV hR,h.vars,h.nat,h.kinds,h.primsw⟩,h.main.keep hk,h.type.keep hk⟩
def nK:gX:=⟨⟨S,0,0,S,0,0,S,0,0⟩,S,0,0,S,0,0⟩
theorem oK (R:Nat->Prop) (w:World):nA R w nK fA :=
 ⟨bJ.nilR _ _,⟨rfl,by decide,fun h=>absurd h (by decide)⟩,⟨rfl,by decide,fun h=>absurd h (by decide)⟩,bJ.nilR _ _,bJ.nilR _ _,fun _=>rfl,by decide,by decide,(fun x h=>by cases h),(fun x h=>by cases h)⟩
def IK (q:Pg×Int) (w:World) (e:Ending) (w':World):Prop:=Below w.heap.size w w'/\∃ u:gX,e=.returned (.tuple #[.agg (cT u q.1),.int .i64 q.2])/\nA (fresh w w') w' u q.1
theorem hU {w:World} {g:Nat} {c0 c1 c2 c3 c4 c5 c6 z:Value} {tmps:Array Value} (h:aE w g 36 #[c0,c1,c2,c3,c4,c5,c6]) (ht:tmps.getD 2 undef=Y (some ⟨g,0,S⟩)) (hz:tmps.getD 3 undef=z) :
 (results Tryz.f15 tmps).run Tryz.prog w=.ok (.tuple #[.agg #[c0,c1,c2,c3,c4,c5,c6],z]) w:=by
 have hc:=h.cell;have ht':tmps[2]?.getD undef=Y (some ⟨g,0,S⟩):=by rw [<-ht];simp
 have hz':tmps[3]?.getD undef=z:=by rw [<-hz];simp
 simp [results,Tryz.results15,go_sem,ht',hz',hc]
theorem DN {w0 w:World} {κ:Rk} {s:Rd} (h:kC w0 κ s w):Calls Tryz.prog 56 #[Y (some ⟨κ.g,0,S⟩)] w (fun e w'=>e=.returned (.int .i64 (s.rest.length:Int))/\Below w.heap.size w w'):=by
 obtain ⟨k,h1,h2⟩:=h.st;have hc:=D6 h1;have e:κ.n-k=s.rest.length:=by rw [h2,List.length_drop,h1.byt.len]
 rwa [e] at hc
theorem EM {bs:List Nat} {x1:Int} {os:List Nd} {es:List En} {s1 s2 s3:Rd} (h1:(x1,s1)=aZ 255 ⟨bs,0,false⟩) (h2:(os,s2)=bO bK 255 eC s1) (h3:(es,s3)=bO bK 255 bW s2) :
 (s3.odd=true->dH ⟨bs,0,false⟩=(⟨⟨x1,os,es,0,[]⟩,[],[]⟩,s3)) ∧
 (s3.odd=false->∀ (x4:Int) (ps:List (Int×Int)) (m t:List Nd) (s4 s5 s6 s7:Rd),(x4,s4)=aZ 255 s3->(ps,s5)=bO bK 255 dF s4->(m,s6)=bT s5->(t,s7)=bT s6->dH ⟨bs,0,false⟩=(⟨⟨x1,os,es,x4-1,ps⟩,m,t⟩,s7)):=by
 refine ⟨fun ho => ?_,fun ho x4 ps m t s4 s5 s6 s7 h4 h5 h6 h7 => ?_⟩
 · simp only [dH,nP,bL.seq,bL.pure,bL.guard,<-h1,<-h2,<-h3,ho,if_true];rfl
 simp only [dH,nP,pJ,bL.seq,bL.pure,bL.guard,<-h1,<-h2,<-h3,ho,<-h4,<-h5,<-h6,<-h7,Bool.false_eq_true,if_false]
set_option linter.unusedSimpArgs false in
set_option linter.unusedVariables false in
set_option maxRecDepth 100000 in
set_option maxHeartbeats 16000000 in
theorem qZ {w:World} {A:Option Addr} {n c:Nat} {bs:List Nat} (h:gC w A n c bs) :
 Calls Tryz.prog 15 #[O A n c] w (IK (gP bs) w):=by
 have hmf:∀ (fn:Fn) (first cap:Array Value) (w:World),(Instr.makeFunc fn first cap).run Tryz.prog w=.ok (.func fn first cap) w:=fun _ _ _ _=>rfl;have hb0:=aB w (X #[.int .i64 0,O S 0 0,O S 0 0,.int .i64 0,O S 0 0,O S 0 0,O S 0 0] 36);have HB0:=hid hb0;have HB2:=hid (aE.new w 36 #[.int .i64 0,O S 0 0,O S 0 0,.int .i64 0,O S 0 0,O S 0 0,O S 0 0]);have HNW:=hid (GZ (h.below hb0));obtain rfl:=h.len;have hfew:=h.few;obtain ⟨res,hres⟩ : ∃ r,r=gP bs:=⟨_,rfl⟩;rw [<-hres];have HRES:=hid hres;have hs0:(w.alloc (X #[.int .i64 0,O S 0 0,O S 0 0,.int .i64 0,O S 0 0,O S 0 0,O S 0 0] 36)).heap.size=w.heap.size+1:=by simp
 have HS0:=hid hs0;clear h hb0 hres hs0;by_cases hbig:65536<bs.length
 · have d1:decide ((bs.length:Int)>65536)=true:=decide_eq_true aA;have d2:decide (65536<(bs.length:Int))=true:=decide_eq_true aA;have d3:decide (65536<bs.length)=true:=decide_eq_true hbig;have HR:Hid (res=(fA,6)):=hid (by rw [HRES.o];unfold gP;rw [if_pos hbig]);clear hbig;go_in;go_wp2_with fail
   have HBL:=HB0;have HBE:=HB2;rw [HR.o];refine bodyPost_ret (v:=.tuple #[.agg #[.int .i64 0,O S 0 0,O S 0 0,.int .i64 0,O S 0 0,O S 0 0,O S 0 0],.int .i64 6]) (by simp [results,Tryz.results15,go_sem]) rfl ⟨?_,nK,rfl,oK _ _⟩;exact HB0.o
 have d1:decide ((bs.length:Int)>65536)=false:=decide_eq_false aA;have d2:decide (65536<(bs.length:Int))=false:=decide_eq_false aA;have d3:decide (65536<bs.length)=false:=decide_eq_false hbig;have HRES1:Hid (res=if (dH ⟨bs,0,false⟩).2.err ≠ 0 then (fA,(dH ⟨bs,0,false⟩).2.err) else if (dH ⟨bs,0,false⟩).2.odd=true\/(dH ⟨bs,0,false⟩).2.rest ≠ [] then (fA,3) else if dU (dH ⟨bs,0,false⟩).1 ≠ 0 then (fA,dU (dH ⟨bs,0,false⟩).1) else ((dH ⟨bs,0,false⟩).1,0)):=hid (by rw [HRES.o];unfold gP;rw [if_neg hbig]);clear hbig;obtain ⟨q1,hq1⟩ : ∃ q,q=aZ 255 ⟨bs,0,false⟩:=⟨_,rfl⟩;obtain ⟨x1,s1⟩:=q1;obtain ⟨q2,hq2⟩ : ∃ q,q=bO bK 255 eC s1:=⟨_,rfl⟩;obtain ⟨x2,s2⟩:=q2;obtain ⟨q3,hq3⟩ : ∃ q,q=bO bK 255 bW s2:=⟨_,rfl⟩;obtain ⟨x3,s3⟩:=q3;have HEQ:=hid (EM hq1 hq2 hq3);have hv1:=l9 255 ⟨bs,0,false⟩;rw [<-hq1] at hv1;have HV1:=hid hv1;have HV3:Hid (∀ x ∈ x3,0<=x.kind/\x.kind<=2):=hid (by
  have h3:x3=(bO bK 255 bW s2).1:=by rw [<-hq3]
  rw [h3];exact mA uZ _ _)
 have HQ1:=hid hq1;have HQ2:=hid hq2;have HQ3:=hid hq3;clear hq1 hq2 hq3 hv1;go_in;go_wp2_with fail
 refine (HNW.o).mono ?_;rintro e w1 ⟨R,g,A1,c1,rfl,hrs,hR⟩;have hbq:=aB w1 (X #[Y (some ⟨g,0,S⟩),.bool false] 90);obtain ⟨κ,hkg,hkh,hkR,hst⟩ : ∃ κ:Rk,κ.g=g/\κ.h=w1.heap.size/\κ.R=R/\kC (w.alloc (X #[.int .i64 0,O S 0 0,O S 0 0,.int .i64 0,O S 0 0,O S 0 0,O S 0 0] 36)) κ ⟨bs,0,false⟩ (w1.alloc (X #[Y (some ⟨g,0,S⟩),.bool false] 90)) :=
  ⟨⟨R,g,w1.heap.size,bs.length,c1,A1,bs⟩,rfl,rfl,rfl,⟨⟨0,hrs.below hbq,rfl⟩,aE.new _ _ _,by have:=hrs.lt;simp only;omega,by have:=hrs.bel.size;simpa using this,fun q hq=>by have:=(hrs.off q hq).1;simp only;omega⟩⟩
 subst hkg;subst hkR;have HKH:=hid hkh;have HB1:Hid (Below w.heap.size w (w1.alloc (X #[Y (some ⟨κ.g,0,S⟩),.bool false] 90))):=hid ((HB0.o.trans (hrs.bel.mono HB0.o.size)).trans (hbq.mono (HB0.o.trans (hrs.bel.mono HB0.o.size)).size));have HB2a:=hid ((HB2.o.below hrs.bel HB2.o.lt).below hbq (Nat.lt_of_lt_of_le HB2.o.lt hrs.bel.size));have hwl:w.heap.size+1<=w1.heap.size:=by have:=hrs.bel.size;rw [HS0.o] at this;exact this
 have HWL:=hid hwl;have HBN:Hid (¬ (w.heap.size=κ.g\/w.heap.size=κ.h)):=hid (by
  have h1:=hrs.ge;rw [HS0.o] at h1;rw [hkh];rintro (e | e)<;>omega)
 have HGL:=hid hst.g_lt;have HHL:=hid hst.h_lt;have HRL:=hid hst.R_lt;have HW0:=hid hst.size;have HGE:Hid (w.heap.size<κ.g):=hid (by have:=hrs.ge;rw [HS0.o] at this;omega);have HRG:Hid (∀ q,κ.R q->w.heap.size<q):=hid (fun q hq=>by have:=hR q hq;rw [HS0.o] at this;omega);have hb5:=aB (w1.alloc (X #[Y (some ⟨κ.g,0,S⟩),.bool false] 90)) (X #[.int .i64 0,O S 0 0,O S 0 0,.int .i64 0,O S 0 0,O S 0 0,O S 0 0] 36);have HE0:=hid ((kB.refl hst).below hb5);have HB30:Hid (aE ((w1.alloc (X #[Y (some ⟨κ.g,0,S⟩),.bool false] 90)).alloc (X #[.int .i64 0,O S 0 0,O S 0 0,.int .i64 0,O S 0 0,O S 0 0,O S 0 0] 36)) (w1.heap.size+1) 36 #[.int .i64 0,O S 0 0,O S 0 0,.int .i64 0,O S 0 0,O S 0 0,O S 0 0]):=hid (aE.new' (by simp));have HB20:=hid (HB2a.o.below hb5 HB2a.o.lt);have HB23:Hid (w.heap.size ≠ w1.heap.size+1):=hid aA;have HSZ0:Hid (w1.heap.size+1<((w1.alloc (X #[Y (some ⟨κ.g,0,S⟩),.bool false] 90)).alloc (X #[.int .i64 0,O S 0 0,O S 0 0,.int .i64 0,O S 0 0,O S 0 0,O S 0 0] 36)).heap.size):=hid (by simp);have HB00:=cN HB1 hb5;clear hbq hkh hst hrs hR hwl hb5;have HN1:=hid (fY HE0.o.2);rw [<-HQ1.o,HKH.o] at HN1;go_wp2_with fail
 refine (HN1.o).mono ?_;rintro e w1_ ⟨rfl,h1⟩;simp only at h1 ⊢;have HE1:=hid ((HE0.o.call h1).set (b:=w1.heap.size+1) (by simp) HGL.o HHL.o HRL.o HW0.o 0 (.int .i64 x1));have HB3r1:=hid (HB30.o.mvk h1.1 (by have:=HGL.o;simpa using this) (by have:=HHL.o;simpa using this));have HB2_1:=hid ((aE.moved HB20.o h1.1 HBN.o (by simp)).far (p:=⟨w1.heap.size+1,0,S⟩) HB23.o (.int .i64 x1));have HB3_1:=hid (HB3r1.o.set_ 0 (.int .i64 x1));have HSZ1:Hid (w1.heap.size+1<(w1_.setCell ⟨w1.heap.size+1,0,S⟩ (.int .i64 x1)).heap.size):=hid (by have:=HSZ0.o;have:=h1.1.size;rw [aR];omega);have y1:=HB3r1.o.cell;have yf1:=HB3r1.o.frozen;clear h1;have HN2:=hid (DS HE1.o.2);rw [<-HQ2.o,HKH.o] at HN2;go_wp2_with fail
 refine (HN2.o).mono ?_;rintro e w2_ ⟨A2,n2,c2,rfl,ht2,h2⟩;simp only at h2 ht2 ⊢;have HE2:=hid ((HE1.o.call h2).set (b:=w1.heap.size+1) (by simp) HGL.o HHL.o HRL.o HW0.o 1 (O A2 n2 c2));have HB3r2:=hid (HB3_1.o.mvk h2.1 (by have:=HGL.o;simpa using this) (by have:=HHL.o;simpa using this));have HB2_2:=hid ((aE.moved HB2_1.o h2.1 HBN.o (by simp)).far (p:=⟨w1.heap.size+1,1,S⟩) HB23.o (O A2 n2 c2));have HB3_2:=hid (HB3r2.o.set_ 1 (O A2 n2 c2));have HD2_2:=hid (ht2.keep (jE (lo:=w1.heap.size+1+1) (b:=w1.heap.size+1) HSZ1.o HSZ1.o 1 (O A2 n2 c2)));have HSZ2:Hid (w1.heap.size+1<(w2_.setCell ⟨w1.heap.size+1,1,S⟩ (O A2 n2 c2)).heap.size):=hid (by have:=HSZ1.o;have:=h2.1.size;rw [aR];omega);have y2:=HB3r2.o.cell;have yf2:=HB3r2.o.frozen;clear h2 ht2;clear y1 yf1;have HN3:=hid (DR HE2.o.2);rw [<-HQ3.o,HKH.o] at HN3;go_wp2_with fail
 refine (HN3.o).mono ?_;rintro e w3_ ⟨A3,n3,c3,rfl,ht3,h3⟩;simp only at h3 ht3 ⊢;have HE3:=hid ((HE2.o.call h3).set (b:=w1.heap.size+1) (by simp) HGL.o HHL.o HRL.o HW0.o 2 (O A3 n3 c3));have HB3r3:=hid (HB3_2.o.mvk h3.1 (by have:=HGL.o;simpa using this) (by have:=HHL.o;simpa using this));have HB2_3:=hid ((aE.moved HB2_2.o h3.1 HBN.o (by simp)).far (p:=⟨w1.heap.size+1,2,S⟩) HB23.o (O A3 n3 c3));have HB3_3:=hid (HB3r3.o.set_ 2 (O A3 n3 c3));have HD2_3:=hid (HD2_2.o.keep (dX h3.1 (by have:=HGL.o;simp at this;omega) (by have:=HHL.o;simp at this;omega) 2 (O A3 n3 c3)));have HD3_3:=hid (ht3.keep (jE (lo:=w1.heap.size+1+1) (b:=w1.heap.size+1) HSZ2.o HSZ2.o 2 (O A3 n3 c3)));have HSZ3:Hid (w1.heap.size+1<(w3_.setCell ⟨w1.heap.size+1,2,S⟩ (O A3 n3 c3)).heap.size):=hid (by have:=HSZ2.o;have:=h3.1.size;rw [aR];omega);have y3:=HB3r3.o.cell;have yf3:=HB3r3.o.frozen;clear h3 ht3;clear y2 yf2;have HBL:Hid (Below w.heap.size w (w3_.setCell ⟨w1.heap.size+1,2,S⟩ (O A3 n3 c3))):=hid ((HB1.o.trans (HE3.o.1.to_below HB1.o.size (fun k hk=>by have h1:=HWL.o;have h2:=HKH.o;have h3:=HGE.o;rcases hk with e | e<;>omega) (fun _ e=>by cases e))));have y0:=HE3.o.2.blk.cell;rw [HKH.o] at y0;by_cases ho:s3.odd=true
 · have HPR:=hid (HEQ.o.1 ho);have hr2:=HRES1.o;rw [HPR.o] at hr2;simp only at hr2;have HER:=hid (oJ HE3.o.2);rw [ho] at y0;have yl:=HB2_3.o.cell;have yf:=HB2_3.o.frozen;have HBE:=HB2_3;obtain ⟨z,hz⟩ : ∃ z,z=s3.err:=⟨_,rfl⟩;rw [<-hz] at HER hr2;by_cases hz0:z=0
   · have HR3:Hid (res=(fA,3)):=hid (by rw [hr2,if_neg (by simpa using hz0),if_pos (Or.inl ho)]);have dz:(z != 0)=false:=by rw [hz0];rfl
     clear hr2 hz ho hz0;go_wp2_with fail
     refine (HER.o).mono ?_;rintro e w4_ ⟨rfl,rfl⟩;go_wp2_with fail
     rw [HR3.o];refine bodyPost_ret (v:=.tuple #[.agg #[.int .i64 0,O S 0 0,O S 0 0,.int .i64 0,O S 0 0,O S 0 0,O S 0 0],.int .i64 3]) (hU (g:=w.heap.size) (z:=.int .i64 3) (by have:=(((((((HBE.o.set_ 0 (.int .i64 0)).set_ 1 (O S 0 0)).set_ 2 (O S 0 0)).set_ 3 (.int .i64 0)).set_ 4 (O S 0 0)).set_ 5 (O S 0 0)).set_ 6 (O S 0 0));simpa using this) (by simp) (by simp)) rfl ⟨?_,nK,rfl,oK _ _⟩;exact HBL.o.grown (bA _ w.heap.size (.int .i64 0) (O S 0 0) (O S 0 0) (.int .i64 0) (O S 0 0) (O S 0 0) (O S 0 0)) HBL.o.size (fun b e=>by injection e with e;omega)
   have HR3:Hid (res=(fA,z)):=hid (by rw [hr2,if_pos hz0]);have dz:(z != 0)=true:=by simpa using hz0
   clear hr2 hz ho hz0;go_wp2_with fail
   refine (HER.o).mono ?_;rintro e w4_ ⟨rfl,rfl⟩;go_wp2_with fail
   refine (HER.o).mono ?_;rintro e w5_ ⟨rfl,rfl⟩;go_wp2_with fail
   rw [HR3.o];refine bodyPost_ret (v:=.tuple #[.agg #[.int .i64 0,O S 0 0,O S 0 0,.int .i64 0,O S 0 0,O S 0 0,O S 0 0],.int .i64 z]) (hU (g:=w.heap.size) (z:=.int .i64 z) (by have:=(((((((HBE.o.set_ 0 (.int .i64 0)).set_ 1 (O S 0 0)).set_ 2 (O S 0 0)).set_ 3 (.int .i64 0)).set_ 4 (O S 0 0)).set_ 5 (O S 0 0)).set_ 6 (O S 0 0));simpa using this) (by simp) (by simp)) rfl ⟨?_,nK,rfl,oK _ _⟩;exact HBL.o.grown (bA _ w.heap.size (.int .i64 0) (O S 0 0) (O S 0 0) (.int .i64 0) (O S 0 0) (O S 0 0) (O S 0 0)) HBL.o.size (fun b e=>by injection e with e;omega)
 have ho:s3.odd=false:=by simpa using ho
 have HPR0:=hid (HEQ.o.2 ho);obtain ⟨q4,hq4⟩ : ∃ q,q=aZ 255 s3:=⟨_,rfl⟩;obtain ⟨x4,s4⟩:=q4;obtain ⟨q5,hq5⟩ : ∃ q,q=bO bK 255 dF s4:=⟨_,rfl⟩;obtain ⟨x5,s5⟩:=q5;obtain ⟨q6,hq6⟩ : ∃ q,q=bT s5:=⟨_,rfl⟩;obtain ⟨x6,s6⟩:=q6;obtain ⟨q7,hq7⟩ : ∃ q,q=bT s6:=⟨_,rfl⟩;obtain ⟨x7,s7⟩:=q7;have HPR:=hid (HPR0.o x4 x5 x6 x7 s4 s5 s6 s7 hq4 hq5 hq6 hq7);have hv4:=l9 255 s3;rw [<-hq4] at hv4;simp only at hv4;have hv4a:0<=x4:=hv4.1;have hv4b:x4<=255:=by have:=hv4.2;omega
 have HV5:Hid (∀ x ∈ x5,(0<=x.1/\x.1<=255)/\0<=x.2/\x.2<=255):=hid (by
  have h3:x5=(bO bK 255 dF s4).1:=by rw [<-hq5]
  rw [h3];exact mA EL _ _)
 have HO7:Hid (s7.odd=false):=hid (by
  have e4:=iU 255 s3;have e5:=rU (chk:=bK) (most:=255) AN s4;have e6:=eP s5;have e7:=eP s6;rw [<-hq4] at e4;rw [<-hq5] at e5;rw [<-hq6] at e6;rw [<-hq7] at e7;rw [e7,e6,e5,e4,ho])
 have HQ4:=hid hq4;have HQ5:=hid hq5;have HQ6:=hid hq6;have HQ7:=hid hq7;have hr2:=HRES1.o;rw [HPR.o] at hr2;simp only at hr2;have HR2:=hid hr2;rw [ho] at y0;clear hq4 hq5 hq6 hq7 hv4 ho hr2 HBL;have y00:=y0 1;clear y0;have HN4:=hid (fY HE3.o.2);rw [<-HQ4.o,HKH.o] at HN4;go_wp2_with fail
 refine (HN4.o).mono ?_;rintro e w4_ ⟨rfl,h4⟩;simp only at h4 ⊢;have HE4:=hid ((HE3.o.call h4).set (b:=w1.heap.size+1) (by simp) HGL.o HHL.o HRL.o HW0.o 3 (.int .i64 (x4-1)));have HB3r4:=hid (HB3_3.o.mvk h4.1 (by have:=HGL.o;simpa using this) (by have:=HHL.o;simpa using this));have HB2_4:=hid ((aE.moved HB2_3.o h4.1 HBN.o (by simp)).far (p:=⟨w1.heap.size+1,3,S⟩) HB23.o (.int .i64 (x4-1)));have HB3_4:=hid (HB3r4.o.set_ 3 (.int .i64 (x4-1)));have HD2_4:=hid (HD2_3.o.keep (dX h4.1 (by have:=HGL.o;simp at this;omega) (by have:=HHL.o;simp at this;omega) 3 (.int .i64 (x4-1))));have HD3_4:=hid (HD3_3.o.keep (dX h4.1 (by have:=HGL.o;simp at this;omega) (by have:=HHL.o;simp at this;omega) 3 (.int .i64 (x4-1))));have HSZ4:Hid (w1.heap.size+1<(w4_.setCell ⟨w1.heap.size+1,3,S⟩ (.int .i64 (x4-1))).heap.size):=hid (by have:=HSZ3.o;have:=h4.1.size;rw [aR];omega);have y4:=HB3r4.o.cell;have yf4:=HB3r4.o.frozen;clear h4 y00;clear y3 yf3;have HN5:=hid (DT HE4.o.2);rw [<-HQ5.o,HKH.o] at HN5;go_wp2_with fail
 refine (HN5.o).mono ?_;rintro e w5_ ⟨A5,n5,c5,rfl,ht5,hnl,h5⟩;simp only at h5 ht5 ⊢;have HE5:=hid ((HE4.o.call h5).set (b:=w1.heap.size+1) (by simp) HGL.o HHL.o HRL.o HW0.o 4 (O A5 n5 c5));have HB3r5:=hid (HB3_4.o.mvk h5.1 (by have:=HGL.o;simpa using this) (by have:=HHL.o;simpa using this));have HB2_5:=hid ((aE.moved HB2_4.o h5.1 HBN.o (by simp)).far (p:=⟨w1.heap.size+1,4,S⟩) HB23.o (O A5 n5 c5));have HB3_5:=hid (HB3r5.o.set_ 4 (O A5 n5 c5));have HD2_5:=hid (HD2_4.o.keep (dX h5.1 (by have:=HGL.o;simp at this;omega) (by have:=HHL.o;simp at this;omega) 4 (O A5 n5 c5)));have HD3_5:=hid (HD3_4.o.keep (dX h5.1 (by have:=HGL.o;simp at this;omega) (by have:=HHL.o;simp at this;omega) 4 (O A5 n5 c5)));have HD5_5:=hid (ht5.keep (jE (lo:=w1.heap.size+1+1) (b:=w1.heap.size+1) HSZ4.o HSZ4.o 4 (O A5 n5 c5)));have HSZ5:Hid (w1.heap.size+1<(w5_.setCell ⟨w1.heap.size+1,4,S⟩ (O A5 n5 c5)).heap.size):=hid (by have:=HSZ4.o;have:=h5.1.size;rw [aR];omega);have y5:=HB3r5.o.cell;have yf5:=HB3r5.o.frozen;have HNL:=hid hnl;clear h5 ht5 hnl;clear y4 yf4;have HN6:=hid (kM HE5.o.2);rw [<-HQ6.o] at HN6;have y0:=HE5.o.2.blk.cell 0;rw [HKH.o] at y0;go_wp2_with fail
 refine (HN6.o).mono ?_;rintro e w6_ ⟨A6,n6,c6,rfl,ht6,h6⟩;simp only at h6 ht6 ⊢;have HE6:=hid ((HE5.o.call h6).set (b:=w1.heap.size+1) (by simp) HGL.o HHL.o HRL.o HW0.o 5 (O A6 n6 c6));have HB3r6:=hid (HB3_5.o.mvk h6.1 (by have:=HGL.o;simpa using this) (by have:=HHL.o;simpa using this));have HB2_6:=hid ((aE.moved HB2_5.o h6.1 HBN.o (by simp)).far (p:=⟨w1.heap.size+1,5,S⟩) HB23.o (O A6 n6 c6));have HB3_6:=hid (HB3r6.o.set_ 5 (O A6 n6 c6));have HD2_6:=hid (HD2_5.o.keep (dX h6.1 (by have:=HGL.o;simp at this;omega) (by have:=HHL.o;simp at this;omega) 5 (O A6 n6 c6)));have HD3_6:=hid (HD3_5.o.keep (dX h6.1 (by have:=HGL.o;simp at this;omega) (by have:=HHL.o;simp at this;omega) 5 (O A6 n6 c6)));have HD5_6:=hid (HD5_5.o.keep (dX h6.1 (by have:=HGL.o;simp at this;omega) (by have:=HHL.o;simp at this;omega) 5 (O A6 n6 c6)));have HD6_6:=hid (ht6.keep (jE (lo:=w1.heap.size+1+1) (b:=w1.heap.size+1) HSZ5.o HSZ5.o 5 (O A6 n6 c6)));have HSZ6:Hid (w1.heap.size+1<(w6_.setCell ⟨w1.heap.size+1,5,S⟩ (O A6 n6 c6)).heap.size):=hid (by have:=HSZ5.o;have:=h6.1.size;rw [aR];omega);have y6:=HB3r6.o.cell;have yf6:=HB3r6.o.frozen;clear h6 ht6 y0;clear y5 yf5;have HN7:=hid (kM HE6.o.2);rw [<-HQ7.o] at HN7;have y0:=HE6.o.2.blk.cell 0;rw [HKH.o] at y0;go_wp2_with fail
 refine (HN7.o).mono ?_;rintro e w7_ ⟨A7,n7,c7,rfl,ht7,h7⟩;simp only at h7 ht7 ⊢;have HE7:=hid ((HE6.o.call h7).set (b:=w1.heap.size+1) (by simp) HGL.o HHL.o HRL.o HW0.o 6 (O A7 n7 c7));have HB3r7:=hid (HB3_6.o.mvk h7.1 (by have:=HGL.o;simpa using this) (by have:=HHL.o;simpa using this));have HB2_7:=hid ((aE.moved HB2_6.o h7.1 HBN.o (by simp)).far (p:=⟨w1.heap.size+1,6,S⟩) HB23.o (O A7 n7 c7));have HB3_7:=hid (HB3r7.o.set_ 6 (O A7 n7 c7));have HD2_7:=hid (HD2_6.o.keep (dX h7.1 (by have:=HGL.o;simp at this;omega) (by have:=HHL.o;simp at this;omega) 6 (O A7 n7 c7)));have HD3_7:=hid (HD3_6.o.keep (dX h7.1 (by have:=HGL.o;simp at this;omega) (by have:=HHL.o;simp at this;omega) 6 (O A7 n7 c7)));have HD5_7:=hid (HD5_6.o.keep (dX h7.1 (by have:=HGL.o;simp at this;omega) (by have:=HHL.o;simp at this;omega) 6 (O A7 n7 c7)));have HD6_7:=hid (HD6_6.o.keep (dX h7.1 (by have:=HGL.o;simp at this;omega) (by have:=HHL.o;simp at this;omega) 6 (O A7 n7 c7)));have HD7_7:=hid (ht7.keep (jE (lo:=w1.heap.size+1+1) (b:=w1.heap.size+1) HSZ6.o HSZ6.o 6 (O A7 n7 c7)));have HSZ7:Hid (w1.heap.size+1<(w7_.setCell ⟨w1.heap.size+1,6,S⟩ (O A7 n7 c7)).heap.size):=hid (by have:=HSZ6.o;have:=h7.1.size;rw [aR];omega);have y7:=HB3r7.o.cell;have yf7:=HB3r7.o.frozen;clear h7 ht7 y0;clear y6 yf6;have HBL:Hid (Below w.heap.size w (w7_.setCell ⟨w1.heap.size+1,6,S⟩ (O A7 n7 c7))):=hid ((HB1.o.trans (HE7.o.1.to_below HB1.o.size (fun k hk=>by have h1:=HWL.o;have h2:=HKH.o;have h3:=HGE.o;rcases hk with e | e<;>omega) (fun _ e=>by cases e))));have HPQ:Hid (nA (Nb (w1.heap.size+1+1) (w1.heap.size+1) (w7_.setCell ⟨w1.heap.size+1,6,S⟩ (O A7 n7 c7))) (w7_.setCell ⟨w1.heap.size+1,6,S⟩ (O A7 n7 c7)) ⟨⟨A2,n2,c2,A3,n3,c3,A5,n5,c5⟩,A6,n6,c6,A7,n7,c7⟩ ⟨⟨x1,x2,x3,x4-1,x5⟩,x6,x7⟩):=hid
  ⟨HD2_7.o,HD3_7.o,HD5_7.o,HD6_7.o,HD7_7.o,HNL.o,WalkArith.wf_i64 ⟨by have:=HV1.o;simp only at this ⊢;omega,by have:=HV1.o;simp only at this ⊢;omega⟩,WalkArith.wf_i64 ⟨by simp only;omega,by simp only;omega⟩,fun x hx=>WalkArith.wf_i64 ⟨by have:=HV3.o x hx;omega,by have:=HV3.o x hx;omega⟩,fun x hx=>⟨WalkArith.wf_i64 ⟨by have:=HV5.o x hx;omega,by have:=HV5.o x hx;omega⟩,WalkArith.wf_i64 ⟨by have:=HV5.o x hx;omega,by have:=HV5.o x hx;omega⟩⟩⟩
 have HER:=hid (oJ HE7.o.2);have HLF:=hid (DN HE7.o.2);have y0:=HE7.o.2.blk.cell;rw [HKH.o,HO7.o] at y0;have yl:=HB2_7.o.cell;have yf:=HB2_7.o.frozen;obtain ⟨z,hz⟩ : ∃ z,z=s7.err:=⟨_,rfl⟩;rw [<-hz] at HER HR2;by_cases hz0:z=0;rotate_left
 · have HR3:Hid (res=(fA,z)):=hid (by rw [HR2.o,if_pos hz0]);have dz:(z != 0)=true:=by simpa using hz0
   have HBE:=HB2_7;clear hz hz0;go_wp2_with fail
   refine (HER.o).mono ?_;rintro e w8_ ⟨rfl,rfl⟩;go_wp2_with fail
   refine (HER.o).mono ?_;rintro e w9_ ⟨rfl,rfl⟩;go_wp2_with fail
   rw [HR3.o];refine bodyPost_ret (v:=.tuple #[.agg #[.int .i64 0,O S 0 0,O S 0 0,.int .i64 0,O S 0 0,O S 0 0,O S 0 0],.int .i64 z]) (hU (g:=w.heap.size) (z:=.int .i64 z) (by have:=(((((((HBE.o.set_ 0 (.int .i64 0)).set_ 1 (O S 0 0)).set_ 2 (O S 0 0)).set_ 3 (.int .i64 0)).set_ 4 (O S 0 0)).set_ 5 (O S 0 0)).set_ 6 (O S 0 0));simpa using this) (by simp) (by simp)) rfl ⟨?_,nK,rfl,oK _ _⟩;exact HBL.o.grown (bA _ w.heap.size (.int .i64 0) (O S 0 0) (O S 0 0) (.int .i64 0) (O S 0 0) (O S 0 0) (O S 0 0)) HBL.o.size (fun b e=>by injection e with e;omega)
 have dz:(z != 0)=false:=by rw [hz0];rfl
 have HR3:Hid (res=if s7.rest ≠ [] then (fA,3) else if dU ⟨⟨x1,x2,x3,x4-1,x5⟩,x6,x7⟩ ≠ 0 then (fA,dU ⟨⟨x1,x2,x3,x4-1,x5⟩,x6,x7⟩) else (⟨⟨x1,x2,x3,x4-1,x5⟩,x6,x7⟩,0)):=hid (by
  rw [HR2.o,if_neg (by simpa using hz0)];by_cases hr:s7.rest ≠ []
  · rw [if_pos (Or.inr hr),if_pos hr]
  rw [if_neg (by rintro (h | h);(rw [HO7.o] at h;cases h);exact hr h),if_neg hr])
 obtain ⟨m,hm⟩ : ∃ m,m=s7.rest.length:=⟨_,rfl⟩;rw [<-hm] at HLF;clear hz hz0;by_cases hr:s7.rest=[];rotate_left
 · have hmp:0<m:=by rw [hm];exact List.length_pos_iff.2 hr
   have e1:decide ((m:Int)>0)=true:=decide_eq_true aA;have e2:decide (0<m)=true:=decide_eq_true hmp;have HR4:Hid (res=(fA,3)):=hid (by rw [HR3.o,if_pos hr]);clear hm hr hmp;go_wp2_with fail
   refine (HER.o).mono ?_;rintro e w8_ ⟨rfl,rfl⟩;go_wp2_with fail
   refine (HLF.o).mono ?_;rintro e w9_ ⟨rfl,hb9⟩;have HBE:=hid (HB2_7.o.below hb9 HB2_7.o.lt);have HBL9:=cN HBL hb9;clear HBL yl yf;have HBL:=HBL9;have yl:=HBE.o.cell;have yf:=HBE.o.frozen;clear hb9;go_wp2_with fail
   rw [HR4.o];refine bodyPost_ret (v:=.tuple #[.agg #[.int .i64 0,O S 0 0,O S 0 0,.int .i64 0,O S 0 0,O S 0 0,O S 0 0],.int .i64 3]) (hU (g:=w.heap.size) (z:=.int .i64 3) (by have:=(((((((HBE.o.set_ 0 (.int .i64 0)).set_ 1 (O S 0 0)).set_ 2 (O S 0 0)).set_ 3 (.int .i64 0)).set_ 4 (O S 0 0)).set_ 5 (O S 0 0)).set_ 6 (O S 0 0));simpa using this) (by simp) (by simp)) rfl ⟨?_,nK,rfl,oK _ _⟩;exact HBL.o.grown (bA _ w.heap.size (.int .i64 0) (O S 0 0) (O S 0 0) (.int .i64 0) (O S 0 0) (O S 0 0) (O S 0 0)) HBL.o.size (fun b e=>by injection e with e;omega)
 obtain rfl:m=0:=by rw [hm,hr];rfl
 have HR4:Hid (res=if dU ⟨⟨x1,x2,x3,x4-1,x5⟩,x6,x7⟩ ≠ 0 then (fA,dU ⟨⟨x1,x2,x3,x4-1,x5⟩,x6,x7⟩) else (⟨⟨x1,x2,x3,x4-1,x5⟩,x6,x7⟩,0)):=hid (by rw [HR3.o,if_neg (by simpa using hr)]);clear hm hr;go_wp2_with fail
 refine (HER.o).mono ?_;rintro e w8_ ⟨rfl,rfl⟩;go_wp2_with fail
 refine (HLF.o).mono ?_;rintro e w9_ ⟨rfl,hb9⟩;have HPQ9:=hid (HPQ.o.keep fun q hq=>⟨(⟨hq.1,Nat.lt_of_lt_of_le hq.2.1 hb9.size,hq.2.2⟩:Nb (w1.heap.size+1+1) (w1.heap.size+1) w9_ q),fun o=>hb9.cell (p:=⟨q,o,S⟩) hq.2.1⟩);have HBE:=hid (HB2_7.o.below hb9 HB2_7.o.lt);have HB39:=hid (HB3_7.o.below hb9 HB3_7.o.lt);have HBL9:=cN HBL hb9;have HFT:=hid (tQ (HPQ9.o.progV fun q hq=>hq.2.1));clear yl yf;have yl:=HB39.o.cell;clear hb9;obtain ⟨z,hz⟩ : ∃ z,z=dU ⟨⟨x1,x2,x3,x4-1,x5⟩,x6,x7⟩:=⟨_,rfl⟩;rw [<-hz] at HFT HR4;clear hz;go_wp2_with fail
 refine (HFT.o).mono ?_;rintro e w10_ ⟨rfl,hb10⟩;have HPQ10:=hid (HPQ9.o.keep fun q hq=>⟨(⟨hq.1,Nat.lt_of_lt_of_le hq.2.1 hb10.size,hq.2.2⟩:Nb (w1.heap.size+1+1) (w1.heap.size+1) w10_ q),fun o=>hb10.cell (p:=⟨q,o,S⟩) hq.2.1⟩);have HBE10:=hid (HBE.o.below hb10 HBE.o.lt);have HB310:=hid (HB39.o.below hb10 HB39.o.lt);have HBL10:=cN HBL9 hb10;clear HBE HBL yl hb10;have HBE:=HBE10;have HBL:=HBL10;have yl:=HBE.o.cell;have yf:=HBE.o.frozen;have ym:=HB310.o.cell;by_cases hz0:z=0;rotate_left
 · have HR5:Hid (res=(fA,z)):=hid (by rw [HR4.o,if_pos hz0]);have dz2:(z != 0)=true:=by simpa using hz0
   clear hz0;go_wp2_with fail
   rw [HR5.o];refine bodyPost_ret (v:=.tuple #[.agg #[.int .i64 0,O S 0 0,O S 0 0,.int .i64 0,O S 0 0,O S 0 0,O S 0 0],.int .i64 z]) (hU (g:=w.heap.size) (z:=.int .i64 z) (by have:=(((((((HBE.o.set_ 0 (.int .i64 0)).set_ 1 (O S 0 0)).set_ 2 (O S 0 0)).set_ 3 (.int .i64 0)).set_ 4 (O S 0 0)).set_ 5 (O S 0 0)).set_ 6 (O S 0 0));simpa using this) (by simp) (by simp)) rfl ⟨?_,nK,rfl,oK _ _⟩;exact HBL.o.grown (bA _ w.heap.size (.int .i64 0) (O S 0 0) (O S 0 0) (.int .i64 0) (O S 0 0) (O S 0 0) (O S 0 0)) HBL.o.size (fun b e=>by injection e with e;omega)
 have HR5:Hid (res=(⟨⟨x1,x2,x3,x4-1,x5⟩,x6,x7⟩,0)):=hid (by rw [HR4.o,if_neg (by simpa using hz0)]);have dz2:(z != 0)=false:=by rw [hz0];rfl
 clear hz0;go_wp2_with fail
 rw [HR5.o];have hF:=bA w10_ w.heap.size (.int .i64 x1) (O A2 n2 c2) (O A3 n3 c3) (.int .i64 (x4-1)) (O A5 n5 c5) (O A6 n6 c6) (O A7 n7 c7);refine bodyPost_ret (v:=.tuple #[.agg #[.int .i64 x1,O A2 n2 c2,O A3 n3 c3,.int .i64 (x4-1),O A5 n5 c5,O A6 n6 c6,O A7 n7 c7],.int .i64 0]) (hU (g:=w.heap.size) (z:=.int .i64 0) (by have:=(((((((HBE.o.set_ 0 (.int .i64 x1)).set_ 1 (O A2 n2 c2)).set_ 2 (O A3 n3 c3)).set_ 3 (.int .i64 (x4-1))).set_ 4 (O A5 n5 c5)).set_ 5 (O A6 n6 c6)).set_ 6 (O A7 n7 c7));simpa using this) (by simp) (by simp)) rfl ⟨?_,⟨⟨A2,n2,c2,A3,n3,c3,A5,n5,c5⟩,A6,n6,c6,A7,n7,c7⟩,rfl,HPQ10.o.keep (kY hF (by have:=HWL.o;omega) (by have:=HWL.o;omega))⟩;exact HBL.o.grown hF HBL.o.size (fun b e=>by injection e with e;omega)
end Go.Proofs.YtplecfbdchmogaaGreat
