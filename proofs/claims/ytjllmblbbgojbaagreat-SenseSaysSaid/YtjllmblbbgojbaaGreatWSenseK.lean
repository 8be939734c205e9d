/- Merged: SenseU, SenseF, SenseC, SenseK. -/
import Derived.Test.YtjllmblbbgojbaaGreatWSenseV
import Derived.Test.YtjllmblbbgojbaaGreatWKidss
import Derived.Test.YtjllmblbbgojbaaGreatWErr18
import Derived.Test.YtjllmblbbgojbaaGreatWSenseM
import Derived.Test.YtjllmblbbgojbaaGreatWBooks
import Derived.Test.YtjllmblbbgojbaaGreatWSenseL
namespace Go.Proofs.YtjllmblbbgojbaaGreat
open Go.Value renaming int → O, slice → Y
open Go.IntKind renaming i64 → X
open Option renaming none → Z
section
open Go.Lib (hid)
set_option maxHeartbeats 8000000
set_option maxRecDepth 100000
open Go.RowKit
abbrev AF (w w':World) (q:Nat):Prop:=w.heap.size<=q/\q<w'.heap.size
def L5 (l:List Nd) (w:World) (e:Ending) (w':World):Prop:=Below w.heap.size w w'/\∃ g c,e=.returned (Y (some ⟨g,0,Z⟩) l.length c)/\bE w' w.heap.size (Y (some ⟨g,0,Z⟩) l.length c) l
theorem ES {A:Option Addr} {n c:Nat} {l:List Nd} {w:World} (h:aP w A n c l) (h0:0<n) :
 Calls Tryz.prog 23 #[Y A n c] w (L5 l w):=by
 have q22:∀ (w:World) (a:Option Addr) (n c n' c':Nat),(binOp .eql 28 (Y a n c) (Y Z n' c')).run Tryz.prog w=.ok (.bool a.isNone) w:=fun w a n c n' c'=>Lib.run_eql_slice_nil w _ _ a n c n' c' Tryz.underlying28;cases A with
 | none =>
  have h1:=h.nul rfl;have h2:=h.cap;omega
 | some a =>
  obtain ⟨i0,hi,hy0,hy1,hy2⟩:=info_parts mQ;have HI0:=hid hi;have HY0:=hid hy0;have HY1:=hid hy1;have HY2:=hid hy2;clear hi hy0 hy1 hy2;have hfew:=h.few;have hb0:=aB w (.cells #[] 40);have hm:aP (w.alloc (.cells #[] 40)) (some a) n c l:=h.below hb0;have hown:bE (w.alloc (.cells #[] 40)) w.heap.size (Y (some ⟨w.heap.size,0,Z⟩) 0 0) []:=World.ownsRow_made w #[] 0 (Nat.le_refl _) (Nat.zero_le _) rfl;have HM:=hid hm;have HOWN:=hid hown;have HB:=hid hb0;have HLN:=hid h.len;clear hm hown hb0 h;go_in;go_wp2_with (at_builtin;go_loud (refine a8 rfl (cK (.tmp 5) (.tmp 6) 28 28 rfl w.heap.size i0 Tryz.underlying28 Tryz.underlying28 HI0.o HY0.o HY1.o HY2.o (Y (some ⟨w.heap.size,0,Z⟩) 0 0) [] l rfl HOWN.o rfl HM.o (by simpa using hfew) (by simp) ?_));intro A4 c4 w4 hown4 happ4)
  go_ret;simp only [List.length_nil,Nat.zero_add,List.nil_append] at hown4;have hown5:bE w4 w.heap.size (Y A4 l.length c4) l:=by rw [HLN.o];exact hown4
  rcases hown5.2 with ⟨_,h2⟩ | ⟨g,cap',cur,hv,_⟩
  · have:=HLN.o;omega
  · injection hv with e1 e2 e3;subst e1;exact ⟨HB.o.grown happ4.grown HB.o.size (fun g hg=>(aE HOWN.o hg).1),g,c4,by rw [HLN.o];simp,hown5⟩
theorem LD {w:World} {base g c:Nat} {n0:Nd} {r:List Nd} (h:bE w base (Y (some ⟨g,0,Z⟩) (n0::r).length c) (n0::r)) (hf:(n0::r).length<=5864062014805) (z:Int):bA (fun q=>q=g) (w.setCell ⟨g,1,Z⟩ (O X z)) (some ⟨g,0,Z⟩) (n0::r).length c (⟨n0.op,z,n0.b⟩::r):=by
 have h0:=h;rcases h.2 with ⟨hv,_⟩ | ⟨g',cap',cur,hv,hg,hh,hc,_⟩
 · cases hv
 injection hv with e1 e2 e3;injection e1 with e1;injection e1 with e1;subst e1;have hb:aD w g 40 cur:=hh;have hs:=hb.set_ 1 (O X z);refine ⟨rfl,by omega,hf,(fun e=>by cases e),fun _=>⟨g,0,rfl,rfl,fun k hk => ?_⟩⟩;obtain ⟨x1,x2,x3⟩:=j7 (n0::r) k hk;have c1:=gR h0 x1;have c2:=gR h0 x2;have c3:=gR h0 x3;rw [hb.cell] at c1 c2 c3;rw [Nat.zero_add,hs.cell,hs.cell,hs.cell];have hne:∀ j:Nat,j ≠ 1->(cur.setIfInBounds 1 (O X z))[j]? = cur[j]?:=fun j hj=>by
  rw [Array.getElem?_setIfInBounds_ne (Ne.symm hj)]
 have h1lt:1<cur.size:=by
  obtain ⟨y1,y2,_⟩:=j7 (n0::r) 0 (by simp);have:=gR h0 y2;rw [hb.cell] at this;exact (Array.getElem?_eq_some_iff.1 this).1
 cases k with
 | zero =>
  refine ⟨by rw [hne _ aA];exact c1,?_,by rw [hne _ aA];exact c3⟩;rw [Nat.zero_mul,Nat.zero_add,Array.getElem?_setIfInBounds_self_of_lt h1lt];rfl
 | succ k =>
  refine ⟨by rw [hne _ aA];exact c1,by rw [hne _ aA];exact c2,by rw [hne _ aA];exact c3⟩
def NF (res:TT×Int) (w:World) (e:Ending) (w':World):Prop:=Below w.heap.size w w'/\((res.2=0/\∃ A' n' c',e=.returned (Y A' n' c')/\bA (AF w w') w' A' n' c' (aJ res.1))\/(res.2 ≠ 0/\e=.panicked (C3 res.2)))
set_option linter.unusedSimpArgs false in
set_option linter.unusedVariables false in
theorem wY {b:Bk} {A:Option Addr} {n c:Nat} {h:TT} {w:World} (ht:aP w A n c (aJ h)) (hf:bR b 0 h) (h12:h.1.op=12) :
 Calls Tryz.prog 77 #[Y A n c] w (NF (iN h) w):=by
 obtain ⟨f1,f2,f3,f4,_⟩:=fN hf.okt h12;obtain ⟨nb,hnb⟩ : ∃ nb:Nat,h.1.b=(nb:Int):=⟨h.1.b.toNat,by omega⟩;obtain ⟨ia,hia⟩ : ∃ ia:Nat,h.1.a=(ia:Int):=⟨h.1.a.toNat,by omega⟩;obtain ⟨y0,hy1,hy2,hy3,hy4⟩:=q8 hf h12 (⟨0,0,0⟩,[],.nil);rw [show h.1.a.toNat=ia from by omega] at hy1;rw [hnb,Int.toNat_natCast] at hy4;have hres:iN h=m5 h nb y0:=by unfold iN;rw [hy2,hnb,Int.toNat_natCast]
 rw [hres];have HFI:=hid (fun (i:Nat) (hi:(i:Int)<h.1.b)=>oM hf h12 hi);rw [hnb] at HFI;have hn0:0<n:=by rw [<-ht.len];simp [aJ]
 have hn4:n<=4096:=by rw [<-ht.len];exact hf.few
 have hcap:=ht.cap;have HPL:=hid (pW ht hf.rt h12 hnb);have HT:=hid (fun (w':World) (hb:Below w.heap.size w w')=>ht.below hb);have HCL:=hid (fun (w':World) (hb:Below w.heap.size w w')=>ES (ht.below hb) hn0);have HEN:=hid (fun (w':World) (hb:Below w.heap.size w w') (z:Int)=>gG (ht.below hb) z);obtain ⟨bf,off,rfl,hbf,_,hc1,hc2⟩:=ht.at_ hn0;simp only [Nat.zero_mul,Nat.add_zero] at hc1 hc2;rw [show aQ (aJ h) 0=h.1 from rfl] at hc1 hc2;rw [hia] at hc1;rw [hnb] at hc2;have hin:ia<nb:=aA;have hnb4:nb<=4:=aA;have HY1:=hid hy1;have HFY:=hid hy4;have HLN:=hid ht.len;clear ht h12 f1 f2 f3 f4 hy1 hy2 hy3 hy4 hres hia hnb;go_in;go_wp2_with fail
 refine (HPL.o).mono ?_;rintro e w2 ⟨hd,A1,c1,A2,c2,bq,rfl,ho1,ho2,hbp⟩;obtain ⟨g1,g2,hz,he,hgg,hgn,hcut⟩:=GK.at_ ia y0 hbp HY1.o;obtain ⟨g,rfl,hg,_,hcg,_⟩:=ho2.at_ hz;have hca:=(hd.cell (p:=⟨bf,off+1,Z⟩) hbf).trans hc1;have hcb:=(hd.cell (p:=⟨bf,off+2,Z⟩) hbf).trans hc2;have hi0:(0:Int)<=(ia:Int):=aA;have hi1:(ia:Int)<(nb:Int):=aA;obtain ⟨A3,hcut3,hcutr3⟩:=lG (some ⟨bf,off,Z⟩) n c g1 g2 hgg hgn hcap;have HP:=hid (fun (w':World) (hb:Below w.heap.size w w')=>(by have:=hcutr3 _ _ _ (HT.o w' hb);rwa [hcut] at this:aP w' A3 (g2-g1) (c-g1) (aJ y0)));have HEN1:=hid (HEN.o w2 hd (g1:Int));rw [he] at HEN1;have HD:=hid hd;clear hd ho1 ho2 hbp hz he hcut hcutr3 hc1;go_wp2_with fail
 refine (HEN1.o).mono ?_;rintro e w3 ⟨rfl,hd3⟩;have HD3:=cO HD hd3;have hcb3:=(HD3.o.cell (p:=⟨bf,off+2,Z⟩) hbf).trans hc2;have hg12:(g1:Int)<=(g2:Int):=aA;clear hd3 hca hcb hcg;go_wp2_with fail
 obtain ⟨nm,hnm⟩ : ∃ nm,nm=nb-1:=⟨_,rfl⟩;go_loopw [6,7] (fun bv iv wr=>∃ (r:Nat) (x:TT) (A':Option Addr) (n' c':Nat),bv=Y A' n' c'/\iv=O X ((r:Int)-1)/\r<=nb/\Hid (bR b (r:Int) x)/\Hid (m5 h r x=m5 h nb y0)/\Hid (aP wr A' n' c' (aJ x))/\Hid (r=nb\/bA (AF w wr) wr A' n' c' (aJ x))/\Hid (Below w.heap.size w wr)) (fun _ iv _=>(intOf iv+1).toNat)
 case atStart=>exact ⟨nb,y0,A3,g2-g1,c-g1,rfl,rfl,by omega,HFY,hid rfl,hid (HP.o _ HD3.o),hid (.inl rfl),HD3⟩
 case round =>
  obtain ⟨r,x,A',n',c',rfl,rfl,hr,hfx,hun,htx,hnew,hbw⟩:=hrel;have hbs:=hbw.o.size;cases r with
  | zero =>
   rw [show ((0:Nat):Int)-1 = -1 from by omega];have hun2:m5 h nb y0=(x,0):=hun.o.symm;have HU:=hid hun2;have HNW:Hid (bA (AF w wr) wr A' n' c' (aJ x)):=hid (hnew.o.elim (fun e=>by omega) id);clear hun2 hr hnew hun;go_wp2_with fail
   go_ret;rw [HU.o];exact ⟨hbw.o,.inl ⟨rfl,A',n',c',rfl,HNW.o⟩⟩
  | succ i =>
   rw [show ((i+1:Nat):Int)-1=(i:Int) from by omega];have hi9:(0:Int)<=(i:Int):=aA;have y1:decide ((i:Int) ≥ 0)=true:=decide_eq_true aA;have hib:i<nb:=aA;have hff:=HFI.o i aA;have hS:=gV (b:=b) (free:=(i:Int)) (x:=x) (u:=eV h i) aA aA (by have:=hfx.o;simpa using this) (hff.mono aA);have HS:=hid hS;have hstep:m5 h (i+1) x=if (bQ x (eV h i)).2=0 then m5 h i (bQ x (eV h i)).1 else bQ x (eV h i):=rfl;have HST:=hid (hun.o.symm.trans hstep);have hlc:=yQ hff (up:=(i:Int)) aA aA;have HLC:=hid hlc;have hri:aJ (eV h i)=⟨h.1.op,(i:Int),h.1.b⟩::(h.2.1++row h.2.2):=rfl;have HRI:=hid hri;have HRL:Hid ((aJ (eV h i)).length=n):=hid HLN.o;have HCW:=hid (HCL.o wr hbw.o);generalize bQ x (eV h i)=sx at *;generalize aJ (eV h i)=rf at *;clear hff hS hstep hlc hri hun;go_wp2_with fail
   refine (HCW.o).mono ?_;rintro e w5 ⟨hd5,gc,cc,rfl,ho5⟩;have hput:=LD (n0:=h.1) (r:=h.2.1++row h.2.2) ho5 (by have:=HLN.o;show (aJ h).length<=_;omega) (i:Int);rw [show (h.1::(h.2.1++row h.2.2)).length=n from HLN.o,<-HRI.o] at hput;have hbl:=aE ho5 (g:=gc) rfl;obtain ⟨hgc0,hgc1,cur,hcur⟩:=hbl;have hcb5:aD w5 gc 40 cur:=hcur;have hcell:=gR ho5 (j7 (aJ h) 0 (by have:=HLN.o;omega)).2.1;have hcell2:w5.cell? ⟨gc,1,Z⟩=some (O X (aQ (aJ h) 0).a):=hcell;have hfro:w5.frozen? ⟨gc,1,Z⟩=false:=hcb5.frozen 1;have hg6:=bN w5 gc 1 (O X (i:Int));have hb5:=hbw.o.trans (hd5.mono hbs);have hB6:Below wr.heap.size wr (w5.setCell ⟨gc,1,Z⟩ (O X (i:Int))):=hd5.grown hg6 (by have:=hd5.size;omega) (fun q e=>by injection e with e;omega);have HB6:=hid (hbw.o.trans (hB6.mono hbs));have HTX6:=hid (htx.o.below hB6);have htf6:aP (w5.setCell ⟨gc,1,Z⟩ (O X (i:Int))) (some ⟨gc,0,Z⟩) n cc rf:=hput.keep fun q hq=>⟨by have:=hg6.size;omega,fun _=>rfl⟩;have HLF:=hid (IK htf6 (i:Int) 0 aA);rw [HLC.o] at HLF;have hnr:(aJ h).length=n:=HLN.o;rw [hnr];have hnn:0<(n:Int):=aA;clear hput hcur hcb5 hcell hd5 ho5 hg6 hb5 hB6 htf6 hnr;go_wp2_with fail
   refine (HLF.o).mono ?_;rintro e w7 ⟨hd7,A7,n7,c7,rfl,ho7⟩;have HB7:=cO HB6 hd7;have HTX7:=hid (HTX6.o.below hd7);have HO7:=hid ho7;have hl7:rf.length=n7:=by
    have h1:=ho7.slice;obtain ⟨_,_,e⟩:=h1;injection e with _ e2;exact e2.symm
   have HL7:=hid hl7;clear hd7 ho7 hfro hcell2 hl7;go_wp2_with fail
   refine j8.mono ?_;rintro e w8 ⟨rfl,rfl⟩;have htf7:aP w8 A7 n7 c7 rf:=by
    have h1:=HO7.o;rw [<-HL7.o] at h1 ⊢;obtain ⟨Aq,nq,cq,e,hq⟩:=bE.termS h1 (by rw [HRL.o];omega);injection e with e1 e2 e3;subst e1 e2 e3;exact hq.keep fun q hq=>⟨(aE h1 hq).2.1,fun _=>rfl⟩
   have HSB:=hid (uY HTX7.o htf7 0 (fun _ _ _=>HS.o.1));rw [HS.o.2.1] at HSB;clear htf7;by_cases h0:sx.2=0
   · rw [if_pos h0,h0] at HSB;have hst:=HST.o;rw [if_pos h0] at hst;have HST2:=hid hst.symm;have HFS:=hid (HS.o.2.2 h0);clear hst h0;go_wp2_with fail
     refine (HSB.o).mono ?_;rintro e w9 ⟨hd9,A9,n9,c9,rfl,ho9⟩;have HB9:=cO HB7 hd9;have hl9:(aJ sx.1).length=n9:=by
      obtain ⟨_,_,e⟩:=ho9.slice;injection e with _ e2;exact e2.symm
     have hnew9:bA (AF w w9) w9 A9 n9 c9 (aJ sx.1):=by
      have h1:=ho9;rw [<-hl9] at h1 ⊢;obtain ⟨Aq,nq,cq,e,hq⟩:=bE.termS h1 (by have:=HFS.o.few;have h9:(aJ sx.1).length=bU sx.1:=rfl;show (aJ sx.1).length<=_;omega);injection e with e1 e2 e3;subst e1 e2 e3;exact hq.keep fun q hq=>⟨⟨by have:=(aE h1 hq).1;have:=HB7.o.size;omega,(aE h1 hq).2.1⟩,fun _=>rfl⟩
     have HN9:=hid hnew9;have HT9:Hid (aP w9 A9 n9 c9 (aJ sx.1)):=hid (hnew9.keep fun q hq=>⟨hq.2,fun _=>rfl⟩);clear hd9 ho9 hl9 hnew9;go_wp2_with fail
     refine j8.mono ?_;rintro e w10 ⟨rfl,rfl⟩;go_wp2_with fail
     go_roundw
     case rel=>exact ⟨i,sx.1,A9,n9,c9,rfl,rfl,by omega,HFS,HST2,HT9,hid (.inr HN9.o),HB9⟩
     case measure=>simp [intOf]
   · rw [if_neg h0] at HSB;have hst:=HST.o;rw [if_neg h0] at hst;have HST2:=hid hst;have HZ:=hid h0;clear hst h0;go_wp2_with fail
     refine (HSB.o).mono ?_;rintro e w9 ⟨hd9,A9,n9,c9,rfl,ho9⟩;have HB9:=cO HB7 hd9;clear hd9 ho9;go_wp2_with fail
     refine (lL HZ.o).mono ?_;rintro e w10 ⟨rfl,rfl⟩;go_wp2_with fail
     rw [HST2.o];exact ⟨rfl,HB9.o,.inr ⟨HZ.o,rfl⟩⟩
end
section
open Go.RowKit
structure Fu (C:Nat->Nat->RV) (n:Nat) (v:TT) (f':Nat):Prop where
 le:f'<=n
 all:∀ d0 f0,f0<d0->C d0 f0=if n-f'<=f0 then .ok v (f0-(n-f')) else .er 10
theorem Fu.congr {C C':Nat->Nat->RV} {n:Nat} {v:TT} {f':Nat} (h:Fu C n v f') (e:∀ d0 f0,f0<d0->C' d0 f0=C d0 f0):Fu C' n v f':=⟨h.le,fun d0 f0 hd=>(e d0 f0 hd).trans (h.all d0 f0 hd)⟩
theorem Fu.pure (v:TT) (n:Nat):Fu (fun _ f0=>.ok v f0) n v n:=⟨Nat.le_refl _,fun d0 f0 _=>by simp⟩
theorem Fu.bind {C:Nat->Nat->RV} {K:TT->Nat->Nat->RV} {n f1 f':Nat} {u v:TT} (h:Fu C n u f1) (hk:Fu (K u) f1 v f'):Fu (fun d0 f0=>(C d0 f0).bind fun u f=>K u d0 f) n v f':=by
 have h1:=h.le;have h2:=hk.le;refine ⟨by omega,fun d0 f0 hd => ?_⟩;rw [h.all d0 f0 hd];by_cases hc:n-f1<=f0
 · rw [if_pos hc];show K u d0 (f0-(n-f1))=_;rw [hk.all d0 _ aA];by_cases hc2:n-f'<=f0
   · rw [if_pos aA,if_pos hc2]
     congr 1
     omega
   rw [if_neg aA,if_neg hc2]
 rw [if_neg hc,if_neg aA];rfl
theorem Fu.givens {b:Bk} {d:Nat} (H:∀ f g a v f',f<d->fB b d f g a=.ok v f'->Fu (fun d0 f0=>fB b d0 f0 g a) f v f') : ∀ (l:List TT) (g:TT) (f:Nat) (v:TT) (f':Nat),f<d->givens (fB b d) l g f=.ok v f'->Fu (fun d0 f0=>Go.Proofs.YtjllmblbbgojbaaGreat.givens (fB b d0) l g f0) f v f'
 | [],g,f,v,f',_,h=>by
  simp only [Go.Proofs.YtjllmblbbgojbaaGreat.givens,RV.ok.injEq] at h;obtain ⟨rfl,rfl⟩:=h;exact Fu.pure _ _
 | a::r,g,f,v,f',hf,h=>by
  simp only [Go.Proofs.YtjllmblbbgojbaaGreat.givens] at h;obtain ⟨u,f1,h1,h2⟩:=RV.bind_ok h;have a1:=H f g a u f1 hf h1;have a2:=Fu.givens H r u f1 v f' (by have:=a1.le;omega) h2;exact Fu.bind (K:=fun u d0 f0=>Go.Proofs.YtjllmblbbgojbaaGreat.givens (fB b d0) r u f0) a1 a2
theorem Fu.step {b:Bk} {x:TT} {C:Nat->Nat->RV} {n:Nat} {v:TT} {f':Nat} (h:Fu C n v f') (e:∀ d m,m<d->eO b (d+1) (m+1) x=C d m):Fu (fun d0 f0=>eO b d0 f0 x) (n+1) v f'/\f'<n+1:=by
 have h1:=h.le;refine ⟨⟨by omega,fun d0 f0 hd => ?_⟩,by omega⟩;cases d0 with
 | zero=>omega
 | succ d0 =>
  cases f0 with
  | zero =>
   rw [if_neg aA];rfl
  | succ f0 =>
   rw [e d0 f0 aA,h.all d0 f0 aA];by_cases hc:n-f'<=f0
   · rw [if_pos hc,if_pos aA]
     congr 1
     omega
   · rw [if_neg hc,if_neg aA]
end
section
open Go.Lib (hid)
open Go.RowKit
structure vJ (w0:World) (g:Nat) (v:aZ) (b:Bk) (f:Nat) (w:World):Prop where
 bel:Below w0.heap.size w0 w
 blk:aD w g 58 #[O X b.vars,Y v.Ao v.no v.co,Y v.Ae v.ne v.ce,O X b.nat,Y v.Ap v.np v.cp,O X (f:Int)]
 ge:w0.heap.size<=g
abbrev RG (g:Nat) (w:World) (q:Nat):Prop:=q<w.heap.size/\q ≠ g
abbrev dO (g:Nat) (w:World) (A:Option Addr) (n c:Nat) (l:List Nd):Prop:=bA (RG g w) w A n c l
def L7 (w0:World) (g:Nat) (v:aZ) (b:Bk) (w:World) (r:RV) (e:Ending) (w':World):Prop:=aG (fun q=>q=g) Z w w'/\match r with
 | .ok y f'=>∃ A n c,e=.returned (Y A n c)/\vJ w0 g v b f' w'/\dO g w' A n c (aJ y)
 | .er z=>e=.panicked (C3 z)
section
variable {w0 w w' w1 : World} {g f n c : Nat} {v : aZ} {b : Bk} {A : Option Addr} {l : List Nd} {r : RV} {e : Ending}
theorem vJ.lt (h:vJ w0 g v b f w):g<w.heap.size:=h.blk.lt
theorem vJ.below (h:vJ w0 g v b f w) (hb:Below w.heap.size w w'):vJ w0 g v b f w':=⟨h.bel.trans (hb.mono h.bel.size),h.blk.below hb h.blk.lt,h.ge⟩
theorem vJ.drew (h:vJ w0 g v b f w):vJ w0 g v b f w.drew:=⟨aI h.bel 1,h.blk.drewN 1,h.ge⟩
theorem L7.of (h:L7 w0 g v b w1 r e w') (hm:aG (fun q=>q=g) Z w w1):L7 w0 g v b w r e w':=⟨hm.trans h.1 (fun _ e=>by cases e),h.2⟩
theorem bA.gv (h:dO g w A n c l):aP w A n c l:=h.keep fun _ hq=>⟨hq.1,fun _=>rfl⟩
theorem bA.movedG (h:dO g w A n c l) (hm:aG (fun q=>q=g) Z w w'):dO g w' A n c l:=h.keep fun q hq=>⟨⟨Nat.lt_of_lt_of_le hq.1 hm.size,hq.2⟩,fun o=>aH (hm.block _ hq.1 hq.2 (by simp)) o⟩
theorem bA.belowG (h:dO g w A n c l) (hb:Below w.heap.size w w'):dO g w' A n c l:=h.movedG (aG.of_below hb)
theorem fD.movedG {ls:List (List Nd)} (h:fD (RG g w) w A n c ls) (hm:aG (fun q=>q=g) Z w w'):fD (RG g w') w' A n c ls:=h.keep fun q hq=>⟨⟨Nat.lt_of_lt_of_le hq.1 hm.size,hq.2⟩,fun o=>aH (hm.block _ hq.1 hq.2 (by simp)) o⟩
theorem NH {B:Nat} (h:bE w' B (Y A n c) l) (hg:g<B) (hl:l.length<=5864062014805):dO g w' A n c l:=by
 obtain ⟨_,_,e0⟩:=h.slice;injection e0 with _ e2;subst e2;obtain ⟨Aq,nq,cq,e,hq⟩:=bE.termS h hl;injection e with e1 e2 e3;subst e1 e2 e3;exact hq.keep fun q hq=>⟨⟨(aE h hq).2.1,by have:=(aE h hq).1;omega⟩,fun _=>rfl⟩
theorem vJ.fuel (h:vJ w0 g v b f w) (f':Nat):vJ w0 g v b f' (w.setCell ⟨g,5,Z⟩ (O X (f':Int)))/\aG (fun q=>q=g) Z w (w.setCell ⟨g,5,Z⟩ (O X (f':Int))):=by
 have hg:=bN w g 5 (O X (f':Int));have hl:=h.lt;have hs:=h.bel.size;have hge:=h.ge;exact ⟨⟨h.bel.grown hg aA (fun q e=>by injection e with e;omega),by simpa using h.blk.set_ 5 (O X (f':Int)),hge⟩,aG.setCell (S:=fun q=>q=g) (aG.refl _ _ _) (p:=⟨g,5,Z⟩) rfl _⟩
end
def NC (w0:World) (g:Nat) (v:aZ) (b:Bk) (d:Nat):Prop:=∀ (w:World) (f:Nat) (A:Option Addr) (n c:Nat) (x:TT),f<d->f<=100000->vJ w0 g v b f w->dO g w A n c (aJ x)->bR b 0 x →
 Calls Tryz.prog 24 #[.pointer (some ⟨g,0,Z⟩),Y A n c] w (L7 w0 g v b w (eO b d f x))
def M5 (w0:World) (g:Nat) (v:aZ) (b:Bk) (d:Nat):Prop:=∀ (w:World) (f:Nat) (A:Option Addr) (n c:Nat) (B:Option Addr) (m k:Nat) (x a:TT),f<d->f<=100000->vJ w0 g v b f w->dO g w A n c (aJ x)->dO g w B m k (aJ a)->jZ b x->jZ b a →
 Calls Tryz.prog 44 #[.pointer (some ⟨g,0,Z⟩),Y A n c,Y B m k] w (L7 w0 g v b w (fB b d f x a))
set_option linter.unusedSimpArgs false in
set_option linter.unusedVariables false in
set_option maxRecDepth 100000 in
set_option maxHeartbeats 4000000 in
theorem oP {w0:World} {g:Nat} {v:aZ} {b:Bk} {d:Nat} (hr:bY b=0) (H:M5 w0 g v b d) {w:World} {f:Nat} {A:Option Addr} {n c:Nat} {B:Option Addr} {k dd:Nat} {x:TT} {L:List TT} (hf:f<d) (hf1:f<=100000) (hw:vJ w0 g v b f w) (hx:dO g w A n c (aJ x)) (hL:fD (RG g w) w B k dd (L.map aJ)) (ox:jZ b x) (oL:∀ y ∈ L,jZ b y) :
 Calls Tryz.prog 74 #[.pointer (some ⟨g,0,Z⟩),Y A n c,Y B k dd] w (L7 w0 g v b w (givens (fB b d) L x f)):=by
 have hk:L.length=k:=by have:=hL.len;rwa [List.length_map] at this
 have hfew:=hL.few;have HL:=hid hL;have HK:=hid hk;have HO:=hid oL;have HH:=hid H;have HRT:=hid hr;have HX:=hid hx;have HW:=hid hw;have HOX:=hid ox;obtain ⟨res,hres⟩ : ∃ r,r=givens (fB b d) L x f:=⟨_,rfl⟩;have HRS:=hid hres;rw [<-hres];clear hL hk oL H hr hx hw ox hres;go_in;go_wp2_with fail
 go_loopw [1,11] (fun tv iv wr=>∃ (i f':Nat) (y:TT) (A':Option Addr) (n' c':Nat),tv=Y A' n' c'/\iv=O X (i:Int)/\i<=k/\f'<=f/\Hid (vJ w0 g v b f' wr)/\Hid (dO g wr A' n' c' (aJ y))/\Hid (jZ b y)/\Hid (res=givens (fB b d) (L.drop i) y f')/\Hid (aG (fun q=>q=g) Z w wr)) (fun _ iv _=>k-(intOf iv).toNat)
 case atStart=>exact ⟨0,f,x,A,n,c,rfl,rfl,by omega,by omega,HW,HX,HOX,HRS,hid (aG.refl _ _ _)⟩
 case round =>
  obtain ⟨i,f',y,A',n',c',rfl,rfl,hi,hff,hw,hy,oy,hrs,hm⟩:=hrel;by_cases hlt:i<k;rotate_left
  · have y1:decide ((i:Int)<(k:Int))=false:=decide_eq_false aA;have y2:decide (i<k)=false:=decide_eq_false hlt;have HRZ:Hid (res=.ok y f'):=hid (by
     have:=hrs.o;rw [List.drop_of_length_le (by rw [HK.o];omega)] at this;exact this)
    clear hlt hrs;go_wp2_with fail
    go_ret;rw [HRZ.o];exact ⟨hm.o,A',n',c',rfl,hw.o,hy.o⟩
  have y1:decide ((i:Int)<(k:Int))=true:=decide_eq_true aA;have y2:decide (i<k)=true:=decide_eq_true hlt;have hil:i<L.length:=by rw [HK.o];exact hlt
  have hr9:=fD.movedG HL.o hm.o;obtain ⟨bb,oo,hBB,hbb,hmem⟩:=hr9.mem aA;obtain ⟨A3,n3,c3,hc3,ht3⟩:=hmem i hlt;subst hBB;have hgd:(L.map aJ).getD i []=aJ L[i]:=by
   rw [List.getD_eq_getElem?_getD,List.getElem?_map,List.getElem?_eq_getElem hil];rfl
  rw [hgd] at ht3;have hoy:=HO.o L[i] (List.getElem_mem hil);have hdr:L.drop i=L[i]::L.drop (i+1):=List.drop_eq_getElem_cons hil;obtain ⟨li,hli⟩ : ∃ y,y=L[i]:=⟨_,rfl⟩;rw [<-hli] at ht3 hoy hdr;have HC:=hid (HH.o wr f' A' n' c' A3 n3 c3 y li aA aA hw.o hy.o ht3 oy.o hoy);have hfit:=(eW (b:=b) HRT.o d).2 f' y li;have HRS2:=hid (by have:=hrs.o;rw [hdr] at this;exact this);have HFT:=hid (fun v1 f1 h=>hfit v1 f1 oy.o hoy h);have hi0:(0:Int)<=(i:Int):=aA;have hi1:(i:Int)<(k:Int):=aA;clear hr9 hmem ht3 hgd hoy hdr hfit hrs hli hil;cases hE:fB b d f' y li with
  | er z =>
   have HRZ:Hid (res=.er z):=hid (by have:=HRS2.o;simp only [givens] at this;rw [hE] at this;exact this);rw [hE] at HC;clear hE HRS2 HFT;go_wp2_with fail
   refine (HC.o).mono ?_;rintro e w7 ⟨hm7,he7⟩;simp only at he7;subst he7;have HM7:=hid (hm.o.trans hm7 (fun _ e=>by cases e));clear hm7;go_wp2_with fail
   rw [HRZ.o];exact ⟨rfl,HM7.o,rfl⟩
  | ok u f1 =>
   have HRZ:Hid (res=givens (fB b d) (L.drop (i+1)) u f1):=hid (by have:=HRS2.o;simp only [givens] at this;rw [hE] at this;exact this);have HFU:=hid (HFT.o u f1 hE);rw [hE] at HC;clear hE HRS2 HFT;have hf11:=HFU.o.2;go_wp2_with fail
   refine (HC.o).mono ?_;rintro e w7 ⟨hm7,A7,n7,c7,rfl,hw7,ht7⟩;have HM7:=hid (hm.o.trans hm7 (fun _ e=>by cases e));have HW7:=hid hw7;have HT7:=hid ht7;clear hm7 hw7 ht7;go_wp2_with fail
   go_roundw
   case rel=>exact ⟨i+1,f1,u,A7,n7,c7,rfl,by go_num,by omega,by omega,HW7,HT7,hid HFU.o.1,HRZ,HM7⟩
   case measure=>simp [intOf];omega
end
section
open Go.Lib (hid)
open Go.RowKit
def GO (ls:List (List Nd)) (w:World) (e:Ending) (w':World):Prop:=Below w.heap.size w w'/\∃ A n c,e=.returned (Y A n c)/\fD (fun q=>w.heap.size<=q/\q<w'.heap.size) w' A n c ls
set_option linter.unusedSimpArgs false in
set_option maxRecDepth 100000 in
set_option maxHeartbeats 4000000 in
theorem E6 {A:Option Addr} {nn c:Nat} {l:List Nd} {w:World} (h:aP w A nn c l) :
 Calls Tryz.prog 73 #[Y A nn c] w (GO (gM (pZ l).2) w):=by
 by_cases hs:aN l=0;rotate_left
 · have htop:pZ l=(⟨0,0,0⟩,.nil):=by
    unfold pZ;rw [if_neg hs]
   have HTOP:=hid htop;have hsb:(aN l != 0)=true:=by simpa using hs
   have HSH:=hid (cS h);clear htop hs h;go_in;go_wp2_with fail
   refine (HSH.o).mono ?_;rintro e w2 ⟨rfl,hb2⟩;have HB2:=hid hb2;clear hb2;go_wp2_with fail
   go_ret;rw [HTOP.o];exact ⟨HB2.o,Z,0,0,rfl,rfl,by decide,fun h=>absurd h (by decide)⟩
 obtain ⟨_,n,ats,k,hpp,hrow,hfs⟩:=dQ hs;have htop:pZ l=(n,k):=by
  unfold pZ;rw [if_pos hs,hpp]
 have hfl:aT k<=4096:=by have:=eH k;omega
 have HTOP:=hid htop;have hsh:=cS h;rw [hs] at hsh;have hparts:∀ w2,Below w.heap.size w w2->Calls Tryz.prog 103 #[Y A nn c] w2 (tO n k w2):=fun w2 hb=>FK (h.below hb) hs hpp;have HSH:=hid hsh;have HPARTS:=hid hparts;clear hsh hparts htop hs hpp hrow h;go_in;go_wp2_with fail
 refine (HSH.o).mono ?_;rintro e w2 ⟨rfl,hb2⟩;have HB2:=hid hb2;clear hb2;go_wp2_with fail
 refine (HPARTS.o _ HB2.o).mono ?_;rintro e w3 ⟨hb3,A1,k1,A2,k2,xs1,rfl,ho1,ho2,hr⟩;have HB3:=hid hb3;have HO1:=hid ho1;have HR:=hid hr;clear hb3 ho1 ho2 hr;go_wp2_with fail
 go_loopw [16] (fun i wr=>∃ (F1 F2:Fo) (j:Nat) (xa xb:List Value),Hid (k=F1.app F2)/\Hid (aT F1=j)/\i=O X (j:Int)/\Hid (wr.ownsRow (w2.heap.size+5) 28 1 (Y A1 (aT k) k1) (aT k) (xa++xb)) ∧
  Hid (eJ (LW (w2.heap.size+5) wr (Y A1 (aT k) k1)) wr xa (gM F1))/\Hid (eJ (· < w2.heap.size) w2 xb (gM F2))/\Hid (Below w2.heap.size w2 wr)) (fun i _=>aT k-(intOf i).toNat)
 case atStart=>exact ⟨.nil,k,0,[],xs1,hid rfl,hid rfl,rfl,HO1,hid trivial,HR,HB3⟩
 case round =>
  obtain ⟨F1,F2,j,xa,xb,hk,hj,rfl,hown,hra,hrb,hbw⟩:=hrel;cases F2 with
  | nil =>
   have hkf:k=F1:=hk.o.trans (iH F1);have hjn:¬ j<aT k:=by rw [hkf,hj.o];omega
   have HKF:=hid hkf;clear hkf
   match xb,hrb with
   | _::_,hrb=>exact hrb.o.elim
   | [],hrb =>
   go_wp2_with fail
   go_ret;rw [HTOP.o];refine ⟨HB2.o.trans (hbw.o.mono HB2.o.size),_,_,_,rfl,oW (R:=fun q=>w.heap.size<=q/\q<wr.heap.size) hown.o (by rw [pJ]) aA (ls:=gM k) (S:=LW (w2.heap.size+5) wr (Y A1 (aT k) k1)) ?_ (fun b hb=>⟨by have:=HB2.o.size;have:=hb.1;omega,hb.2.1⟩) (fun q e=>⟨by have:=HB2.o.size;have:=(aE hown.o e).1;omega,(aE hown.o e).2.1⟩)⟩;rw [List.append_nil];have:=hra.o
   rwa [<-HKF.o] at this
  | cons pre nd a ks F3 =>
   have hjn:j<aT k:=by rw [hk.o,bB,hj.o];simp [aT]
   match xb,hrb with
   | [],hrb=>exact hrb.o.elim
   | x::xb,hrb =>
   obtain ⟨⟨A',n',c',rfl,ht⟩,hrb2⟩:=hrb.o;obtain ⟨_,hcase⟩:=hown.o;rcases hcase with ⟨_,h2⟩ | ⟨g,cap',cur,hv,hg,hh,_⟩
   · omega
   injection hv with e1 e2 e3;subst e1;subst e3;clear e2;have hxa:xa.length=j:=by rw [hra.o.len,pJ,hj.o]
   have hblk:aD wr g 28 cur:=hh;have hcell:wr.cell? ⟨g,j,Z⟩=some (Y A' n' c'):=by
    have:=hown.o.cellAt (g:=g) j aA;rw [this,List.getElem?_append_right aA,hxa,Nat.sub_self];rfl
   have HCLONE:=hid (tQ (ht.keep (R':=(· < wr.heap.size)) (w':=wr) fun b hb=>⟨Nat.lt_of_lt_of_le hb hbw.o.size,fun o=>aH (hbw.o.block b hb) o⟩));have HG:=hid hg;have HBLK:=hid hblk;have HT:=hid ht;have HRB2:=hid hrb2;have HXA:=hid hxa;clear hg hh hblk ht hrb2 hxa;go_wp2_with fail
   refine (HCLONE.o).mono ?_;rintro e w4 ⟨hb4,A4,n4,c4,rfl,ht4⟩;have hblk4:aD w4 g 28 cur:=HBLK.o.below hb4 HBLK.o.lt;have hcell4:w4.cell? ⟨g,j,Z⟩=some (Y A' n' c'):=(aH (hb4.block g HBLK.o.lt) j).trans hcell;have hfz4:=hblk4.frozen;have HB4:=hid hb4;have HT4:=hid ht4;have HZ:=hid (HBLK.o.lt);clear hb4 ht4 hcell hblk4;go_wp2_with fail
   go_roundw
   case rel =>
    have hown4:=LE (aY hown.o HB4.o) j (Y A4 n4 c4);rw [List.set_append_right _ _ (by have:=HXA.o;omega),HXA.o,Nat.sub_self,List.set_cons_zero] at hown4;have hsz:wr.heap.size<=w4.heap.size:=HB4.o.size;have hcW:∀ b,b ≠ g->∀ o,(w4.setCell ⟨g,j,Z⟩ (Y A4 n4 c4)).cell? ⟨b,o,Z⟩=w4.cell? ⟨b,o,Z⟩:=fun b hb o=>aH (Below.heap_setCell _ _ _ _ hb) o;have hszW:(w4.setCell ⟨g,j,Z⟩ (Y A4 n4 c4)).heap.size=w4.heap.size:=by simp [World.setCell]
    have hgo:(Value.slice (some ⟨g,0,Z⟩) (aT k) k1).ownBlock=some g:=rfl;have hs2:=hbw.o.size;refine ⟨F1.app (.cons pre nd a ks .nil),F3,j+1,xa++[Y A4 n4 c4],xb,hid (by rw [hk.o,cM];rfl),hid (by rw [bB,hj.o];rfl),by go_num,hid ?_,hid ?_,HRB2,hid ?_⟩
    · rw [List.append_assoc];exact hown4
    · rw [lS];refine eJ.add (HT4.o.keep fun b hb => ?_) (hra.o.keep fun b hb => ?_)
      · obtain ⟨q1,q2⟩:=hb;have hgz:=HZ.o;have hgb:=HG.o;have hne:b ≠ g:=aA;exact ⟨⟨by omega,by rw [hszW];exact q2,by rw [hgo];intro e;injection e with e;exact hne e.symm⟩,hcW b hne⟩
      obtain ⟨q1,q2,q3⟩:=hb;have hne:b ≠ g:=fun e=>q3 (by rw [hgo,e]);refine ⟨⟨q1,by rw [hszW];omega,q3⟩,fun o => ?_⟩;rw [hcW b hne o];exact aH (HB4.o.block b q2) o
    have:=HG.o;exact (hbw.o.trans (HB4.o.mono hs2)).setCell (by simp;omega) _
   case measure=>simp [intOf];omega
theorem F7 (w:World):(sizeOf 28).run Tryz.prog w=.ok 1 w:=by kernel_rfl
theorem G4 (A:Option Addr) (n c k:Nat) (hk:k<=n) (hc:n<=c) : ∃ A',(∀ w:World,(Instr.slice 65 (Y A n c) (some (O X (k:Int))) Z Z).run Tryz.prog w=.ok (Y A' (n-k) (c-k)) w) ∧
 ∀ (R:Nat->Prop) (w:World) (ls:List (List Nd)),fD R w A n c ls->fD R w A' (n-k) (c-k) (ls.drop k):=by
 refine ⟨if c=k then A else A.map (·.add (k*1)),fun w => ?_,fun R w ls h => ?_⟩
 · rw [run_slice_l w 65 A n c (by kernel_rfl) .i64 (k:Int) aA aA];have e:Tryz.prog.elem 65=28:=by kernel_rfl
   rw [e,F7];rfl
 have h1:=h.len;have h2:=h.few;refine ⟨by rw [List.length_drop];omega,by omega,fun hn => ?_⟩;obtain ⟨b,off,rfl,hb,hm⟩:=h.mem aA;rw [if_neg aA];refine ⟨b,off+k,?_,hb,fun j hj => ?_⟩
 · simp only [Option.map_some,Addr.add,Nat.mul_one];split
   · rename_i h0;rw [h0,Nat.add_zero]
   rfl
 obtain ⟨A',n',c',hc,ht⟩:=hm (k+j) aA;refine ⟨A',n',c',by rw [Nat.add_assoc];exact hc,?_⟩;have e:(ls.drop k).getD j []=ls.getD (k+j) []:=by
  rw [List.getD_eq_getElem?_getD,List.getD_eq_getElem?_getD,List.getElem?_drop]
 rw [e];exact ht
theorem LT {x:TT} (h:jK x):gM (pZ (aJ x)).2=(cD x.2.2).map aJ:=by
 have:pZ (aJ x)=(x.1,x.2.2):=by
  unfold pZ;rw [if_pos h.shape,h.pp]
 rw [this,uR]
end
end Go.Proofs.YtjllmblbbgojbaaGreat
