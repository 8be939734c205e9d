/- Merged: Dz0, RWs. -/
import Derived.Test.YtplecfbdchmogaaGreatDNy
import Derived.Test.YtplecfbdchmogaaGreatDRdO
import Derived.Test.YtplecfbdchmogaaGreatDDec
import Derived.Test.YtplecfbdchmogaaGreatDShort2
import Derived.Test.YtplecfbdchmogaaGreatDRWr
import Derived.Test.YtplecfbdchmogaaGreatDCopyD
namespace Go.Proofs.YtplecfbdchmogaaGreat
open Option renaming none → O
open Go.Value renaming slice → X
section
open Go.RowKit
abbrev MO:Array Value:=#[.int .i64 0,X O 0 0,X O 0 0,.int .i64 0,X O 0 0,X O 0 0,X O 0 0]
structure mJ (w:World) (g gp:Nat) (R:Nat->Prop) (s:Rd) (cs:Array Value) (W:World):Prop where
 bel:Below w.heap.size w W
 rz:s9 R g s W
 res:aE W w.heap.size 36 MO
 box:aE W gp 36 cs
 g1:w.heap.size<g
 g2:g<gp
 off:∀ q,R q->q<gp/\w.heap.size<q
section
variable {w W W' : World} {g gp lo hi b i : Nat} {R : Nat->Prop} {s s' : Rd} {cs cs' : Array Value} {row : Option Nat} {u : Value}
theorem mJ.lt (h:mJ w g gp R s cs W):gp<W.heap.size:=h.box.lt
theorem DV {S:Nat->Prop} (hm:aG S row W W') (hr:∀ b,row=some b->S b):aG S O W W':=⟨hm.os,hm.tape,hm.output,hm.size,fun k hk hs _=>hm.block k hk hs (fun e=>hs (hr k e.symm))⟩
theorem mJ.move (h:mJ w g gp R s cs W) (hm:aG (fun q=>gp<=q) O W W') (hb:aE W' gp 36 cs'):mJ w g gp R s cs' W':=by
 have hg1:=h.g1;have hg2:=h.g2;obtain ⟨A,n,c,h1,h2⟩:=h.rz.at_;have hk:∀ q,q<gp->W'.heap[q]? = W.heap[q]?:=fun q hq=>hm.block q (by have:=h.lt;omega) aA (by simp);refine ⟨h.bel.trans (hm.to_below h.bel.size (fun k hk=>by omega) (fun _ e=>by cases e)),⟨Nat.lt_of_lt_of_le h.rz.lt hm.size,fun q hq=>⟨Nat.lt_of_lt_of_le (h.rz.off q hq).1 hm.size,(h.rz.off q hq).2⟩,A,n,c,h1.same (hk g hg2),h2.keep fun q hq=>⟨hq,fun o=>aF (hk q (h.off q hq).1) o⟩⟩,h.res.same (hk _ aA),hb,hg1,hg2,h.off⟩
theorem mJ.call (h:mJ w g gp R s cs W) (hm:aG (fun q=>q=g) O W W') (hz:s9 R g s' W'):mJ w g gp R s' cs W':=by
 have hg1:=h.g1;have hg2:=h.g2;exact ⟨h.bel.trans (hm.to_below h.bel.size (fun k hk=>by omega) (fun _ e=>by cases e)),hz,h.res.moved hm aA (by simp),h.box.moved hm aA (by simp),hg1,hg2,h.off⟩
theorem mJ.below (h:mJ w g gp R s cs W) (hb:Below W.heap.size W W'):mJ w g gp R s cs W':=h.move (aG.of_below hb) (h.box.below hb h.lt)
theorem mJ.set (h:mJ w g gp R s cs W) (i:Nat) (u:Value):mJ w g gp R s (cs.setIfInBounds i u) (W.setCell ⟨gp,i,O⟩ u) :=
 h.move (aG.setCell (S:=fun q=>gp<=q) (aG.refl _ _ _) (p:=⟨gp,i,O⟩) (Nat.le_refl _) u) (h.box.set_ i u)
theorem mJ.setNew (h:mJ w g gp R s cs W) (hb:gp<b) (i:Nat) (u:Value):mJ w g gp R s cs (W.setCell ⟨b,i,O⟩ u) :=
 h.move (aG.setCell (S:=fun q=>gp<=q) (aG.refl _ _ _) (p:=⟨b,i,O⟩) (Nat.le_of_lt hb) u) (h.box.far (p:=⟨b,i,O⟩) (by show gp ≠ b;omega) u)
theorem mJ.grown (h:mJ w g gp R s cs W) (hg:W.grownBy W' row) (hr:∀ b,row=some b->gp<b):mJ w g gp R s cs W' :=
 h.move (DV (aG.of_grown hg) (fun b e=>Nat.le_of_lt (hr b e))) (h.box.grown hg (fun e=>by have:=hr gp e.symm;omega))
theorem aX.mg (hm:aG (fun q=>q=g) O W W') (hg:g<lo) (hs:hi<=W.heap.size):aX lo hi W W':=fun q a b=>hm.block q aA aA (by simp)
theorem aX.gr (hg:W.grownBy W' row) (hr:∀ b,row=some b->hi<=b) (hs:hi<=W.heap.size):aX lo hi W W':=fun q _ b=>hg.block q aA (fun e=>by have:=hr q e.symm;omega)
def Bt (lo hi q:Nat):Prop:=lo<=q/\q<hi
theorem eF (h:aX lo hi W W') : ∀ q,Bt lo hi q->Bt lo hi q/\∀ o,W'.cell? ⟨q,o,O⟩=W.cell? ⟨q,o,O⟩:=fun q hq=>⟨hq,fun o=>h.cell q hq.1 hq.2 o⟩
theorem eO {base sz m:Nat} {e:TypeId} {v:Value} {xs:List Value} (h:W.ownsRow base e sz v m xs) (hm:aG (fun q=>q=g) O W W') (hg:g<base):W'.ownsRow base e sz v m xs:=fZ h hm hg
theorem iS {base sz m:Nat} {e:TypeId} {v:Value} {xs:List Value} (h:W.ownsRow base e sz v m xs) (hb:b<base) (i:Nat) (u:Value):(W.setCell ⟨b,i,O⟩ u).ownsRow base e sz v m xs:=ownsRow_setCell_below h (a:=⟨b,i,O⟩) hb u
end
theorem mF {α:Type} {chk:Rd->Bool} {f:bL α} (hf:f.Stays) (hc:s8 chk) (v:Nat) (s:Rd):(s.err=0->aP chk f v s=eE chk f [] (v-0) s)/\(s.err ≠ 0->aP chk f v s=([],s)):=⟨fun _=>by rw [Nat.sub_zero,eV],fun h=>(dP hf hc v).1 s h⟩
theorem oA {α:Type} {chk:Rd->Bool} {f:bL α} {res:List α×Rd} {acc:List α} {v i:Nat} {s:Rd} (hc:s.err=0->chk s=false) (h1:s.err=0->res=eE chk f acc (v-i) s) (h2:s.err ≠ 0->res=([],s)) (hq:s.err ≠ 0\/i=v):res.2=s/\(s.err=0->acc=res.1):=by
 by_cases he:s.err=0
 · have hi:i=v:=by rcases hq with h | h;exact absurd he h;exact h
   have h3:=h1 he;rw [hi,Nat.sub_self,gB (fun h9=>by rw [hc he] at h9;cases h9)] at h3;rw [h3];exact ⟨rfl,fun _=>rfl⟩
 rw [h2 he];exact ⟨rfl,fun h=>absurd h he⟩
theorem lE {α:Type} {chk:Rd->Bool} {f:bL α} {res:List α×Rd} {acc:List α} {v i:Nat} {s s':Rd} {x:α} (h1:s.err=0->res=eE chk f acc (v-i) s) (he:s.err=0) (hi:i<v) (hf:f s=(x,s')) (hc:chk s'=(s'.err != 0)):(s'.err=0->res=eE chk f (acc++[x]) (v-(i+1)) s')/\(s'.err ≠ 0->res=([],s')):=by
 have h3:=h1 he;rw [show v-i=(v-(i+1))+1 from by omega] at h3;constructor
 · intro h;rw [h3,fJ (by rw [hf,hc];simp [h]),hf]
 intro h;rw [h3,fO (by rw [hf,hc];simp [h]),hf]
theorem gO {s:Rd} (h:s.odd=false):bK s=(s.err != 0):=by simp [bK,h]
theorem j7 {s:Rd} (h:s.err ≠ 0):(bT s).2=s:=fQ.stays.err s h
theorem jM {x:Nat} (h:x<=255):(Lit.int .i64 (x:Int)).wf=true:=by
 have e1:IntKind.i64.min = -9223372036854775808:=rfl;have e2:IntKind.i64.max=9223372036854775807:=rfl;simp only [Lit.wf,Bool.and_eq_true,decide_eq_true_eq];omega
theorem xT {most:Nat} {s:Rd} (h:(aJ most s).2.err ≠ 0):(aJ most s).1=0:=by
 unfold aJ at h ⊢;by_cases h1:s.err ≠ 0
 · rw [if_pos h1]
 rw [if_neg h1] at h ⊢;by_cases h2:(bZ most 0 0 s.rest).1 ≠ 0
 · rw [if_pos h2]
 rw [if_neg h2] at h;exact absurd rfl h
theorem xN {s sk:Rd} {xk:Nat} (h:aJ 2 s=(xk,sk)) (ho:sk.odd=false) (he:sk.err ≠ 0) : ∃ x,bW s=(x,sk):=by
 have h0:xk=0:=by have h9:=xT (most:=2) (s:=s) (by rw [h];exact he);rw [h] at h9;exact h9
 subst h0;refine ⟨⟨0,[],[],[],[],[],[]⟩,?_⟩;unfold bW fK;simp only [bL.seq,aZ,h];rw [if_neg (by decide),if_neg (by decide)];obtain ⟨a,b,c⟩:=sk;simp only at ho he ⊢;simp [ho,he]
theorem xQ {s sk:Rd} (h:aJ 2 s=(0,sk)) (he:sk.err=0):bW s=(⟨0,[],[],[],[],[],[]⟩,⟨sk.rest,0,true⟩):=by
 unfold bW fK;simp only [bL.seq,aZ,h];rw [if_neg (by decide),if_neg (by decide)];simp [he]
theorem xO {s sk st sb:Rd} {t d:List Nd} (h:aJ 2 s=(2,sk)) (h1:bT sk=(t,st)) (h2:bT st=(d,sb)):bW s=(⟨2,[],[],[],[],t,d⟩,sb):=by
 unfold bW fK;simp only [bL.seq,bL.pure,aZ,h];rw [if_neg (by decide),if_pos (by decide)];simp only [h1,h2]
theorem xP {s sk s1 s2 s3 s4:Rd} {so:List Nd} {ps is:List (List Nd)} {cs:List Ct} (h:aJ 2 s=(1,sk)) (h1:bT sk=(so,s1)) (h2:eH s1=(ps,s2)) (h3:eH s2=(is,s3)) (h4:bO bK 255 eK s3=(cs,s4)):bW s=(⟨1,so,ps,is,cs,[],[]⟩,s4):=by
 unfold bW fK;simp only [bL.seq,bL.pure,aZ,h];rw [if_pos (by decide)];simp only [h1,h2,h3,h4]
theorem lA (s:Rd):(eH s).2.odd=s.odd:=rU eP s
theorem tU {sa sb sc se sn sp st sm sx sy s4:Rd} {xb xc xe xn xp:Nat} {ro:List Nd×Rd} {re:List En×Rd} {rp:List (Int×Int)×Rd} {m t:List Nd} (h1:aJ 255 sa=(xb,sb)) (h2:aJ 255 sb=(xc,sc)) (h3:ro=aP bK eC xc sc) (h4:ro.2=s4) (h5:aJ 255 s4=(xe,se)) (h6:re=aP bK bW xe se) (h7:re.2=sx) (h8:sx.odd=false) (h9:aJ 255 sx=(xn,sn)) (h10:aJ 255 sn=(xp,sp)) (h11:rp=aP bK dF xp sp) (h12:rp.2=sy) (h13:bT sy=(m,sm)) (h14:bT sm=(t,st)):dH sa=(⟨⟨(xb:Int),ro.1,re.1,(xn:Int)-1,rp.1⟩,m,t⟩,st):=by
 subst h4 h7 h12;subst h3 h6 h11;unfold dH nP pJ bL.guard;simp only [bL.seq,bL.pure,bO,aZ,h1,h2,h5,h8,h9,h10,h13,h14];rfl
theorem AO {sa sb sc se s4:Rd} {xb xc xe:Nat} {ro:List Nd×Rd} {re:List En×Rd} (h1:aJ 255 sa=(xb,sb)) (h2:aJ 255 sb=(xc,sc)) (h3:ro=aP bK eC xc sc) (h4:ro.2=s4) (h5:aJ 255 s4=(xe,se)) (h6:re=aP bK bW xe se) (h8:re.2.odd=true):(dH sa).2=re.2:=by
 subst h4;subst h3 h6;unfold dH nP pJ bL.guard;simp only [bL.seq,bL.pure,bO,aZ,h1,h2,h5,h8];rfl
theorem dT {w:World} {g:Nat} {c0 c1 c2 c3 c4 c5 c6 z:Value} {tmps:Array Value} (h:aE w g 36 #[c0,c1,c2,c3,c4,c5,c6]) (ht:tmps.getD 2 undef=.pointer (some ⟨g,0,O⟩)) (hz:tmps.getD 3 undef=z) :
 (results Tryz.f16 tmps).run Tryz.prog w=.ok (.tuple #[.agg #[c0,c1,c2,c3,c4,c5,c6],z]) w:=by
 have hc:=h.cell;have ht':tmps[2]?.getD undef=.pointer (some ⟨g,0,O⟩):=by rw [<-ht];simp
 have hz':tmps[3]?.getD undef=z:=by rw [<-hz];simp
 simp [results,Tryz.results16,go_sem,ht',hz',hc]
end
section
open Go.Lib (hid)
set_option maxHeartbeats 8000000
set_option maxRecDepth 100000
set_option linter.unusedVariables false
set_option linter.unusedSimpArgs false
open Go.RowKit
theorem zU (w:World) {g:Nat} (hg:g=w.heap.size) (x y z:Int):iZ (· < (w.alloc (.cells #[.int .i64 x,.int .i64 y,.int .i64 z] 3)).heap.size) (w.alloc (.cells #[.int .i64 x,.int .i64 y,.int .i64 z] 3)) (some ⟨g,0,O⟩) 3 3 [x,y,z]:=by
 subst hg;refine ⟨rfl,by decide,fun _=>⟨w.heap.size,0,rfl,by simp,fun k hk => ?_⟩⟩;have hb:=(aE.new w 3 #[.int .i64 x,.int .i64 y,.int .i64 z]).cell;have hk2:k=0\/k=1\/k=2:=aA;rcases hk2 with rfl | rfl | rfl
 · exact hb 0
 · exact hb 1
 exact hb 2
theorem E9 {w:World} {g:Nat} (hg:g=w.heap.size) {x:Nd} (hx:GU x) :
 Calls Tryz.prog 143 #[X O 0 0,X (some ⟨g,0,O⟩) 3 3] (w.alloc (.cells #[.int .i64 x.op,.int .i64 x.a,.int .i64 x.b] 3)).drew (pN (gG x,0) (w.alloc (.cells #[.int .i64 x.op,.int .i64 x.a,.int .i64 x.b] 3)).drew):=by
 have h3:=zU w hg x.op x.a x.b;have h:=IF (IQ (w.alloc (.cells #[.int .i64 x.op,.int .i64 x.a,.int .i64 x.b] 3)).drew) (zs:=[x.op,x.a,x.b]) (B:=some ⟨g,0,O⟩) (m:=3) (d:=3) ⟨h3.len,h3.few,h3.mem⟩ (fun z hz=>by
  obtain ⟨⟨a1,a2⟩,⟨a3,a4⟩,a5,a6⟩:=hx;simp only [List.mem_cons,List.not_mem_nil,or_false] at hz;rcases hz with rfl | rfl | rfl<;>omega) aA aA
 rwa [show []++cO [x.op,x.a,x.b]=gG x from by simp [cO,gG]] at h
theorem wZ (n:Nd) : ∀ x ∈ gG n,x<256:=fun x hx=>by
 unfold gG at hx;rw [List.append_assoc] at hx;exact i7 (dJ _) (i7 (dJ _) (dJ _)) x hx
theorem IG {w:World} {A B:Option Addr} {n c m d:Nat} {bs:List Nat} {t:List Nd} (h:gC w A n c bs) (ht:aQ w B m d t) (hw:m5 t) (hl:(bs++bU t).length<=4500000000000) :
 Calls Tryz.prog 129 #[X A n c,X B m d] w (pN (bs++bU t,0) w):=by
 obtain rfl:=h.len;have hml:=ht.len;have hm4:m<=4096:=by have:=hw.1;omega
 obtain ⟨F,h0,h1,h2,h3⟩:=AZ (default:Nd) gG bs t;rw [show bs++bU t=F t.length from by rw [h2];rfl] at hl ⊢;have HF0:=hid h0;have HF1:=hid h1;have HF3:=hid (fun k=>Nat.le_trans (h3 k) hl);have hl0:bs.length<=4500000000000:=by have h4:=Nat.le_trans (h3 0) hl;rw [h0,List.length_append] at h4;omega
 have HB1:=hid (aB w (.cells #[] 5));have HO1:=hid (oN (w:=w) (Nat.le_refl _));have HY1:=hid (h.below HB1.o);have HS1:=hid HB1.o.size;have HT:=hid ht;have HW:=hid hw.2;have HML:=hid hml;have HXB:=hid h.byte;have e1:IntKind.u64.wrap (m:Int)=(m:Int):=by rw [IntKind.wrap_u64];omega
 have hd0:decide ((m:Int)>4096)=false:=decide_eq_false aA;have HFO:=hid (fun W:World=>uD m W aA);have hfm:=(aW m).2;have HBM:=hid (dJ m);rw [hml] at h0;have HF00:=hid h0;rw [hml];clear h h0 h1 h2 h3 hl ht hw hml HF0;go_in;go_wp2_with (at_builtin;go_loud (refine aN rfl (bV (.tmp 14) (.tmp 15) rfl w.heap.size (bs:=[]) rfl HO1.o rfl HY1.o (by simp;omega) HS1.o ?_));intro A2 c2 w2 l2 hl2 hap;rw [List.nil_append] at hl2;have hl3:=hl2.symm;subst hl3;have HAP:=hid hap;clear hap)
 have HB2:Hid (Below w.heap.size w w2):=hid (HB1.o.trans (HAP.o.below HO1.o HS1.o));have HO2:=hid HAP.o.own;refine (HFO.o _).mono ?_;rintro e w3 ⟨hb3,A3,c3,rfl,ho3⟩;have HB3:=cN HB2 hb3;have HY3:=hid (gR.byt ho3 HBM.o aA);have HO3:=hid (HO2.o.below hb3);have HS3:=hid HB3.o.size;clear hb3 ho3;go_wp2_with (at_builtin;go_loud (refine aN rfl (bV (.tmp 16) (.tmp 20) rfl w.heap.size rfl HO3.o rfl HY3.o aA HS3.o ?_));intro A4 c4 w4 q0 hq0 hap;have HAP4:=hid hap;have HQ0:=hid hq0;clear hap hq0)
 have HB4:Hid (Below w.heap.size w w4):=hid (HB3.o.trans (HAP4.o.below HO3.o HS3.o));have HO4:Hid (bM w4 w.heap.size (X A4 q0.length c4) q0):=hid HAP4.o.own;rw [<-HQ0.o] at HF00;go_loopw [6,7] (fun ov iv wr=>∃ (k:Nat) (A1:Option Addr) (c1:Nat) (l:List Nat),ov=X A1 l.length c1/\iv=.int .i64 (k:Int)/\k<=m/\Hid (l=F k)/\Hid (bM wr w.heap.size (X A1 l.length c1) l)/\Hid (Below w.heap.size w wr)) (fun _ iv _=>m-(intOf iv).toNat)
 case atStart=>exact ⟨0,A4,c4,q0,rfl,rfl,Nat.zero_le _,hid HF00.o.symm,HO4,HB4⟩
 case round =>
  obtain ⟨k,A1,c1,l,rfl,rfl,hk,HL,HOl,HBl⟩:=hrel;by_cases hlt:k<m;rotate_left
  · have hkm:k=m:=aA;have d1:decide ((k:Int)<(m:Int))=false:=decide_eq_false aA;have d2:decide (k<m)=false:=decide_eq_false hlt;have HE:Hid (l=F m):=hid (by rw [HL.o,hkm]);clear hlt hkm;go_wp2_with fail
    go_ret2;refine ⟨HBl.o,A1,c1,?_,?_⟩
    · show _=Ending.returned (.tuple #[X A1 (F m).length c1,.int .i64 0]);rw [<-HE.o];rfl
    show bM wr w.heap.size (X A1 (F m).length c1) (F m);rw [<-HE.o];exact HOl.o
  have d1:decide ((k:Int)<(m:Int))=true:=decide_eq_true aA;have d2:decide (k<m)=true:=decide_eq_true hlt;have hlt2:(k:Int)<(m:Int):=aA;have hkl:k<t.length:=by rw [HML.o];exact hlt
  obtain ⟨b,off,e,hlb,hc0,hc1,hc2⟩:=HT.o.at_ hlt;subst e;have y0:=(HBl.o.cell (p:=⟨b,off+k*3,O⟩) hlb).trans hc0;have y1:=(HBl.o.cell (p:=⟨b,off+k*3+1,O⟩) hlb).trans hc1;have y2:=(HBl.o.cell (p:=⟨b,off+k*3+2,O⟩) hlb).trans hc2;have hx:=HW.o (aL t k) (by unfold aL;rw [List.getD_eq_getElem?_getD,List.getElem?_eq_getElem hkl];exact List.getElem_mem hkl);have HFK:=hid (HF1.o k hkl);have HFL:l.length<=4500000000000:=by rw [HL.o];exact HF3.o k
  have hxx:t.getD k default=aL t k:=rfl;rw [hxx] at HFK;obtain ⟨x,hxe⟩ : ∃ x,x=aL t k:=⟨_,rfl⟩;rw [<-hxe] at y0 y1 y2 hx HFK;have hlb2:=HBl.o.size;have hbw:b<wr.heap.size:=Nat.lt_of_lt_of_le hlb hlb2;have HNB:=hid (wZ x);have hnl:=nL x;have hWX:=hx;have HBA:=hid (cB (aB wr (.cells #[.int .i64 x.op,.int .i64 x.a,.int .i64 x.b] 3)));have HPT:=hid (E9 (w:=wr) (g:=wr.heap.size) rfl hx);obtain ⟨⟨a1,a2⟩,⟨a3,a4⟩,a5,a6⟩:=hx;have HY:Hid (((wr.alloc (.cells #[.int .i64 x.op,.int .i64 x.a,.int .i64 x.b] 3)).drew.cell? ⟨b,off+k*3,O⟩=some (.int .i64 x.op))/\((wr.alloc (.cells #[.int .i64 x.op,.int .i64 x.a,.int .i64 x.b] 3)).drew.cell? ⟨b,off+k*3+1,O⟩=some (.int .i64 x.a))/\((wr.alloc (.cells #[.int .i64 x.op,.int .i64 x.a,.int .i64 x.b] 3)).drew.cell? ⟨b,off+k*3+2,O⟩=some (.int .i64 x.b))):=hid ⟨(HBA.o.cell (p:=⟨b,off+k*3,O⟩) hbw).trans y0,(HBA.o.cell (p:=⟨b,off+k*3+1,O⟩) hbw).trans y1,(HBA.o.cell (p:=⟨b,off+k*3+2,O⟩) hbw).trans y2⟩;have HOA:=hid (HOl.o.below HBA.o);have d3:decide (x.op>255)=false:=decide_eq_false aA;have d4:decide (x.a>1048576)=false:=decide_eq_false aA;have d5:decide (x.b>1048576)=false:=decide_eq_false aA;obtain ⟨vo,hvo⟩ : ∃ v,v=x.op:=⟨_,rfl⟩;obtain ⟨va,hva⟩ : ∃ v,v=x.a:=⟨_,rfl⟩;obtain ⟨vb,hvb⟩ : ∃ v,v=x.b:=⟨_,rfl⟩;rw [<-hvo] at y0 HY HPT HBA HOA d3;rw [<-hva] at y1 HY HPT HBA HOA d4;rw [<-hvb] at y2 HY HPT HBA HOA d5;clear hc0 hc1 hc2 hkl hxe hxx hvo hva hvb a1 a2 a3 a4 a5 a6;go_wp2_with fail
  refine wp_region_held_drew (S:=(fun w'=>w'.cell? ⟨b,off+k*3,O⟩=some (.int .i64 vo)/\w'.cell? ⟨b,off+k*3+1,O⟩=some (.int .i64 va)/\w'.cell? ⟨b,off+k*3+2,O⟩=some (.int .i64 vb))) (by kernel_rfl) ?_ (fun hHeld => ?_)
  · (try dsimp only);exact ⟨y0,y1,y2⟩
  refine tq 0 hHeld ?_;try simp only [p7]
  refine tq 1 hHeld ?_;try simp only [p7]
  refine tq 2 hHeld ?_;try simp only [p7]
  refine tq 3 hHeld ?_;try simp only [p7]
  refine tq 4 hHeld ?_;try simp only [p7]
  refine tq 5 hHeld ?_;try simp only [p7]
  refine tq 6 hHeld ?_;try simp only [p7]
  refine tq 7 hHeld ?_;try simp only [p7]
  refine tq 8 hHeld ?_;try simp only [p7]
  refine tq 9 hHeld ?_;try simp only [p7]
  refine tq 10 hHeld ?_;try simp only [p7]
  refine tq 11 hHeld ?_;try simp only [p7]
  refine tq 12 hHeld ?_;try simp only [p7]
  refine tq 13 hHeld ?_;try simp only [p7]
  refine tq 14 hHeld ?_;try simp only [p7]
  refine r1 15 fun K hK => ?_;go_simp;refine hK.o _ _ (by exact HY.o) fun hHeld => ?_;clear hK K;try simp only [p7]
  refine tq 16 hHeld ?_;try simp only [p7]
  refine wpAnyH_done (by kernel_rfl) ?_ _;have z0:=HY.o.1;have z1:=HY.o.2.1;have z2:=HY.o.2.2;clear y0 y1 y2;go_wp2_with fail
  refine (HPT.o).mono ?_;rintro e w5 ⟨hb5,A5,c5,rfl,ho5⟩;simp only at ho5 ⊢;have HB5:=hid ((HBl.o.trans (HBA.o.mono HBl.o.size)).trans (hb5.mono (Nat.le_trans HBl.o.size HBA.o.size)));have HY5:=hid (gR.byt ho5 HNB.o aA);have HO5:=hid (HOA.o.below hb5);have HS5:=hid HB5.o.size;clear hb5 ho5 z0 z1 z2;go_wp2_with (at_builtin;go_loud (refine aN rfl (bV (.tmp 73) (.tmp 74) rfl w.heap.size rfl HO5.o rfl HY5.o aA HS5.o ?_));intro A6 c6 w6 l6 hl6 hap;have HAP6:=hid hap;have HL6:=hid hl6;clear hap hl6)
  go_roundw
  case rel=>exact ⟨k+1,A6,c6,l6,rfl,by go_num,by omega,hid (by rw [HL6.o,HFK.o,HL.o]),hid HAP6.o.own,hid (HB5.o.trans (HAP6.o.below HO5.o HS5.o))⟩
  case measure=>simp [intOf];omega
theorem iA {w:World} {base:Nat} {A B:Option Addr} {c m d:Nat} {bs:List Nat} {t:List Nd} (ho:bM w base (X A bs.length c) bs) (hb:base<=w.heap.size) (hx:∀ x ∈ bs,x<256) (ht:aQ w B m d t) (hw:m5 t) (hl:(bs++bU t).length<=4500000000000) :
 Calls Tryz.prog 102 #[X A bs.length c,X B m d] w (KP base A c bs (bs++bU t) w):=by
 have hl0:bs.length<=4500000000000:=by rw [List.length_append] at hl;omega
 have HR:=hid (IG (gR.byt ho hx aA) ht hw hl);have HS:=hid hb;clear ho hb hx ht hw hl;go_in;go_wp2_with fail
 refine (HR.o).mono ?_;rintro e w3 ⟨hb3,A3,c3,rfl,ho3⟩;have HB3:=hid hb3;have HO3:=hid ho3;clear hb3 ho3;go_wp2_with fail
 go_ret;exact ⟨A3,c3,by rw [List.length_append];rfl,f9.fresh HB3.o HO3.o HS.o⟩
theorem jL {w:World} {base:Nat} {A B:Option Addr} {c m d:Nat} {bs:List Nat} {ls:List (List Nd)} (ho:bM w base (X A bs.length c) bs) (hb:base<=w.heap.size) (hx:∀ x ∈ bs,x<256) (hw:p4 ls) (hl:(bs++cU ls).length<=4500000000000) (hrow:cW (· < base) w B m d ls) :
 Calls Tryz.prog 103 #[X A bs.length c,X B m d] w (KP base A c bs (bs++cU ls) w):=by
 have hml:=hrow.len;have hm1:m<=255:=by have:=hw.1;omega
 obtain ⟨F,h0,h1,h2,h3⟩:=AZ ([]:List Nd) bU bs ls;rw [show bs++cU ls=F ls.length from by rw [h2];rfl] at hl ⊢;have HF1:=hid h1;have HF3:=hid (fun k=>Nat.le_trans (h3 k) hl);have hl0:bs.length<=4500000000000:=by have h4:=Nat.le_trans (h3 0) hl;rw [h0,List.length_append] at h4;omega
 have HNU:=hid (fM ho hb (m:Int) aA aA hl0);rw [show ((m:Int)).toNat=m from by omega] at HNU;rw [hml] at h0;rw [<-h0] at HNU;rw [hml];have HD:=hid hrow;have HW:=hid hw.2;have HML:=hid hml;have HS:=hid hb;have HO:=hid ho;have HX0:Hid (∀ k,k<=m->∀ x ∈ F k,x<256):=hid (fun k=>by
  induction k with
  | zero=>intro _;rw [h0];exact i7 hx (dJ _)
  | succ k ih=>intro hk;rw [h1 k aA];exact i7 (ih aA) (r8 _))
 clear h0 h1 h2 h3 hl hw hml ho hb hx hrow;go_in;go_wp2_with fail
 refine (HNU.o).mono ?_;rintro e w1 ⟨A1,c1,rfl,hg1⟩;have HG1:=hid hg1;obtain ⟨q0,hq0⟩ : ∃ q,q=F 0:=⟨_,rfl⟩;rw [<-hq0] at HG1 ⊢;have HQ0:=hid hq0;clear hg1 hq0;go_wp2_with fail
 go_loopw [0,5] (fun ov iv wr=>∃ (k:Nat) (A2:Option Addr) (c2:Nat) (l:List Nat),ov=X A2 l.length c2/\iv=.int .i64 (k:Int)/\k<=m/\Hid (l=F k)/\Hid (f9 base A c bs w A2 c2 l wr)) (fun _ iv _=>m-(intOf iv).toNat)
 case atStart=>exact ⟨0,A1,c1,q0,rfl,rfl,Nat.zero_le _,HQ0,HG1⟩
 case round =>
  obtain ⟨k,A2,c2,l,rfl,rfl,hk,HL,HG⟩:=hrel;have HBl:=hid (HG.o.below HO.o HS.o);by_cases hlt:k<m;rotate_left
  · have hkm:k=m:=aA;have d1:decide ((k:Int)<(m:Int))=false:=decide_eq_false aA;have d2:decide (k<m)=false:=decide_eq_false hlt;have HE:Hid (l=F m):=hid (by rw [HL.o,hkm]);clear hlt hkm;go_wp2_with fail
    go_ret;refine ⟨A2,c2,?_,?_⟩
    · rw [<-HE.o];rfl
    rw [<-HE.o];exact HG.o
  have d1:decide ((k:Int)<(m:Int))=true:=decide_eq_true aA;have d2:decide (k<m)=true:=decide_eq_true hlt;have hlt2:(k:Int)<(m:Int):=aA;have hkl:k<ls.length:=by rw [HML.o];exact hlt
  have HW1:=hid (HW.o (ls.getD k []) (by rw [List.getD_eq_getElem?_getD,List.getElem?_eq_getElem hkl];exact List.getElem_mem hkl));have HFK:=hid (HF1.o k hkl);have hsz:w.heap.size<=wr.heap.size:=HG.o.moved.size;obtain ⟨b,off,e,hlb,hm9⟩:=HD.o.mem aA;subst e;obtain ⟨A',n',c',hc0,ht0⟩:=hm9 k hlt;have hcell:=(HBl.o.cell (p:=⟨b,off+k,O⟩) hlb).trans hc0;have ht:aQ wr A' n' c' (ls.getD k []):=ht0.keep fun q hq=>⟨by have:=HS.o;omega,fun o=>HBl.o.cell (p:=⟨q,o,O⟩) hq⟩;obtain ⟨x,hx⟩ : ∃ x,x=ls.getD k []:=⟨_,rfl⟩;rw [<-hx] at ht HW1 HFK;clear hx hkl hm9 hc0 ht0;have HC:=hid (iA HG.o.own (Nat.le_trans HS.o hsz) (by rw [HL.o];exact HX0.o k hk) ht HW1.o (by rw [HL.o,<-HFK.o];exact HF3.o _));clear ht;go_wp2_with fail
  refine (HC.o).mono ?_;rintro e w3 ⟨A3,c3,rfl,hg3⟩;obtain ⟨l3,hl3⟩ : ∃ q,q=l++bU x:=⟨_,rfl⟩;rw [<-hl3] at hg3 ⊢;have HL3:=hid hl3;have HG3:=hid (HG.o.trans (Below.refl _ _) hg3);clear hg3 hl3;go_wp2_with fail
  go_roundw
  case rel=>exact ⟨k+1,A3,c3,l3,rfl,by go_num,by omega,hid (by rw [HL3.o,HFK.o,HL.o]),HG3⟩
  case measure=>simp [intOf];omega
end
end Go.Proofs.YtplecfbdchmogaaGreat
