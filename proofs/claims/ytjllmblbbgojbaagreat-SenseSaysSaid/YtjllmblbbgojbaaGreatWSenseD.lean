/- sense: match: what becomes of a match. -/
import Derived.Test.YtjllmblbbgojbaaGreatWShort3
import Derived.Test.YtjllmblbbgojbaaGreatWSenseK
namespace Go.Proofs.YtjllmblbbgojbaaGreat
open Go.Value renaming int → O, slice → Y
open Go.IntKind renaming i64 → X
open Option renaming none → Z, some → I
open Go.Lib (hid)
open Go.RowKit
def M7 (b:Bk) (ev:Nat->TT->RV) (gv:Nat->TT->TT->RV) (f:Nat) (x:TT):RV:=match cD x.2.2 with
 | _::s::br=>(ev f s).bind fun v f' =>
  let c:=cP v
  if c.1.1.op=10/\c.1.1.a=x.1.a/\c.1.1.b<x.1.b/\c.2.length=(aV b x.1.a).params.length+((aV b x.1.a).ctors.getD c.1.1.b.toNat default).args.length then
   (ev f' (br.getD c.1.1.b.toNat (⟨0,0,0⟩,[],.nil))).bind fun g f2=>givens gv (c.2.drop (aV b x.1.a).params.length) g f2
  else .er 24
 | _=>.er 0
theorem tV {b:Bk} (hr:bY b=0) {e:Int} (h1:eL b b.entries.length e=true) (h0:0<=e):(aV b e).params.length<=16/\(aV b e).ctors.length<=16/\(∀ c ∈ (aV b e).ctors,c.args.length<=16)/\e<(b.entries.length:Int):=by
 unfold eL at h1;rw [Bool.and_eq_true,decide_eq_true_eq,beq_iff_eq] at h1;have hl:e.toNat<b.entries.length:=aA;have hx:b.entries[e.toNat]? = I (aV b e):=by
  unfold aV;rw [List.getD_eq_getElem?_getD,List.getElem?_eq_getElem hl];rfl
 have he:=mO _ _ (mJ hr) _ _ hx;have hs:=zL hr (aV b e) (List.mem_of_getElem? hx);unfold bX at he;rw [if_pos h1.2] at he;split at he
 · cases he
 split at he
 · cases he
 exact ⟨by omega,hs.1,hs.2,h1.1⟩
theorem IW {w:World} {base z n c:Nat} {e:TypeId} {A:Option Addr} {xs:List Value} (h:w.ownsRow base e z (Y A n c) n xs):n<=c:=by
 rcases h.2 with ⟨h1,h2⟩ | ⟨g,cap',cur,hv,_,_,h4,_⟩
 · omega
 injection hv with _ _ e3;omega
theorem gC.rows {A:Option Addr} {n c:Nat} {l:List Nd} {R:Nat->Prop} {w:World} (ht:bA R w A n c l) : ∀ {vs:List Value} {xs:List TT},gC A n c l vs xs->eJ R w vs (xs.map aJ)
 | [],[],_=>trivial
 | [],_::_,h=>h.elim
 | _::_,[],h=>h.elim
 | v::vs,x::xs,h=>by
  obtain ⟨⟨A',n',c',e,h1⟩,h2⟩:=h;exact ⟨⟨A',n',c',e,h1 R w ht⟩,gC.rows ht h2⟩
theorem xO {w:World} {base g k d n c:Nat} {A B:Option Addr} {l:List Nd} {vs:List Value} {xs:List TT} (h:w.ownsRow base 28 1 (Y B k d) k vs) (hk:k=xs.length) (hf:k<=4096) (hg:g<base) (hp:gC A n c l vs xs) (ht:dO g w A n c l):fD (RG g w) w B k d (xs.map aJ) :=
 oW h (by rw [List.length_map];exact hk) aA (hp.rows ht) (fun _ h=>h) (fun q e=>⟨(aE h e).2.1,by have:=(aE h e).1;omega⟩)
theorem nC.arg_at {w:World} {A:Option Addr} {n c:Nat} {cs:List Ct} (h:nC w A n c cs) {k:Nat} (hk:k<n) : ∃ b off A1 n1 c1,A=I ⟨b,off,Z⟩/\b<w.heap.size/\w.cell? ⟨b,off+k*2,Z⟩=I (Y A1 n1 c1)/\(cs.getD k default).args.length=n1:=by
 obtain ⟨b,off,e,hb,hm⟩:=h.mem aA;obtain ⟨A1,n1,c1,A2,n2,c2,h1,_,h3,_⟩:=hm k hk;exact ⟨b,off,A1,n1,c1,e,hb,h1,h3.len⟩
set_option linter.unusedSimpArgs false in
set_option linter.unusedVariables false in
set_option maxRecDepth 100000 in
set_option maxHeartbeats 8000000 in
theorem CQ {w0:World} {g:Nat} {v:aZ} {b:Bk} {d:Nat} (hr:bY b=0) (hb:bM w0 v b) (H:NC w0 g v b d) (HG:M5 w0 g v b d) {w:World} {f:Nat} {A:Option Addr} {n c:Nat} {x:TT} (hf:f<d) (hf1:f<=100000) (hw:vJ w0 g v b f w) (hx:dO g w A n c (aJ x)) (fx:bR b 0 x) (h11:x.1.op=11) :
 Calls Tryz.prog 43 #[.pointer (I ⟨g,0,Z⟩),Y A n c] w (L7 w0 g v b w (M7 b (eO b d) (fB b d) f x)):=by
 obtain ⟨p,s,br,hk,hbr⟩:=mR fx.okt h11;have hz:∀ k:Int,aC x.1.op x.1.b k=0:=dS aA aA aA aA;have hn:=fx.nod x.1 (by simp [aJ]);have hok:=fx.okt.ok;simp only [dG,Bool.and_eq_true] at hok;have ha0:=(eN hok.1.1).1;unfold bH at hn;rw [if_neg aA,if_neg aA,if_neg aA,if_pos h11] at hn;obtain ⟨e1,e2,e3,e4⟩:=tV hr hn ha0;obtain ⟨ia,hia⟩ : ∃ ia:Nat,x.1.a=(ia:Int):=⟨x.1.a.toNat,by omega⟩;obtain ⟨xb,hxb⟩ : ∃ z:Nat,x.1.b=(z:Int):=⟨br.length,hbr.symm⟩;have hil:ia<b.entries.length:=aA;have fs:bR b 0 s:=fx.kid0 (i:=1) (by rw [hk];rfl) (hz _);have HFB:=hid (fun (i:Nat) (y:TT) (h:br[i]? = I y)=>fx.kid0 (i:=i+2) (by rw [hk];simpa using h) (hz _));have HKD:=hid (fun (w':World) (hh:aG (fun q=>q=g) Z w w')=>E6 ((hx.movedG hh).gv));rw [LT fx.rt,hk] at HKD;have hmt:M7 b (eO b d) (fB b d) f x=(eO b d f s).bind fun v f'=>if (cP v).1.1.op=10/\(cP v).1.1.a=x.1.a/\(cP v).1.1.b<x.1.b/\(cP v).2.length=(aV b x.1.a).params.length+((aV b x.1.a).ctors.getD (cP v).1.1.b.toNat default).args.length then
       (eO b d f' (br.getD (cP v).1.1.b.toNat (⟨0,0,0⟩,[],.nil))).bind fun g f2=>givens (fB b d) ((cP v).2.drop (aV b x.1.a).params.length) g f2
  else .er 24:=by
  unfold M7;rw [hk]
 rw [hmt];obtain ⟨res,hres⟩ : ∃ r,r=(eO b d f s).bind fun v f'=>if (cP v).1.1.op=10/\(cP v).1.1.a=x.1.a/\(cP v).1.1.b<x.1.b/\(cP v).2.length=(aV b x.1.a).params.length+((aV b x.1.a).ctors.getD (cP v).1.1.b.toNat default).args.length then
       (eO b d f' (br.getD (cP v).1.1.b.toNat (⟨0,0,0⟩,[],.nil))).bind fun g f2=>givens (fB b d) ((cP v).2.drop (aV b x.1.a).params.length) g f2
  else .er 24:=⟨_,rfl⟩
 rw [<-hres];rw [hia,hxb] at hres;have hen:aV b (ia:Int)=b.entries.getD ia default:=by unfold aV;rw [Int.toNat_natCast]
 obtain ⟨be,oe,hAe,hbe,ev,c0,c1,c2,c3,c4,c5,c6,hec⟩:=hb.entries.at_ (k:=ia) (by have:=hb.entries.len;omega);rw [<-hen] at c0 hec;rw [hia] at e1 e2 e3;have hne:v.ne=b.entries.length:=hb.entries.len.symm;obtain ⟨x6,hx6⟩ : ∃ y,y=aV b (ia:Int):=⟨_,rfl⟩;have HX6:Hid (aV b (ia:Int)=x6):=hid hx6.symm;rw [<-hx6] at c0 hec e1 e2 e3 hres;clear hx6 hen;have hEV:∀ w',Below w0.heap.size w0 w'->xF w' ev x6:=fun w' h=>hec.below h;have HEV:=hid hEV;obtain ⟨As,ns,cs,Ap,np,cp,Ai,ni,ci,Ac,nc,cc,At,nt,ct,Ab,nb,cb⟩:=ev;simp only at c0 c1 c2 c3 c4 c5 c6 HEV;have hnp:x6.params.length=np:=hec.params.len;have hnc:x6.ctors.length=nc:=hec.ctors.len;have hln:=hx.len;have hn0:0<n:=by rw [<-hln];simp [aJ]
 obtain ⟨bf,off,hA,hbf,hc⟩:=hx.mem hn0;subst hA;obtain ⟨d0,d1,d2⟩:=hc 0 (by rw [hln];exact hn0);simp only [Nat.zero_mul,Nat.add_zero] at d0 d1 d2;rw [show aQ (aJ x) 0=x.1 from rfl] at d0 d1 d2;rw [h11] at d0;rw [hia] at d1;rw [hxb] at d2;have hgl:=hw.lt;have HW:=hid hw;have HX:=hid hx;have HFS:=hid fs;have HH:=hid H;have HHG:=hid HG;have HRT:=hid hr;have HB0:=hid hb;have HE3:=hid e3;have HNP:=hid hnp;have HNC:=hid hnc;have HRS:=hid hres;have HBR:=hid (show br.length=xb by omega);have hbw:=hw.bel;have H68:=hid (fun (w':World) (h:Below w0.heap.size w0 w') (j:Nat)=>h.cell (p:=⟨be,oe+ia*7+j,Z⟩) hbe);have hgee:=hw.ge;have HZ0:=hid c0;have HZ1:=hid c1;have HZ2:=hid c2;have HZ3:=hid c3;have HZ4:=hid c4;have HZ5:=hid c5;have HZ6:=hid c6;have hAe2:v.Ae=I ⟨be,oe,Z⟩:=hAe;have zg:=aD.cell hw.blk;rw [hAe2] at zg;clear hres hk hbr hz hn hok h11 hx fx hmt hec H HG hr hb fs hia hxb hw hEV hc e3 c0 c1 c2 c3 c4 c5 c6 hnp hnc;go_in;go_upto_region 2 with fail
 obtain ⟨w1,hw1e⟩ : ∃ w1:World,w1=w.alloc (.cells #[O X 11,O X (ia:Int),O X (xb:Int)] 40):=⟨_,rfl⟩;have hb1:Below w.heap.size w w1:=by rw [hw1e];exact aB _ _
 have hn1:aD w1 w.heap.size 40 #[O X 11,O X (ia:Int),O X (xb:Int)]:=by rw [hw1e];exact aD.new _ _ _
 have hs1:w1.heap.size=w.heap.size+1:=by rw [hw1e];simp
 rw [<-hw1e];clear hw1e;have zg1:=fun i=>(hb1.cell (p:=⟨g,i,Z⟩) hgl).trans (zg i);have zn1:=aD.cell hn1;have ze0:w1.cell? ⟨be,oe+ia*7,Z⟩=I (O X x6.kind):=(H68.out w1 (hbw.trans (hb1.mono hbw.size)) 0).trans HZ0.o;have hi0:(0:Int)<=(ia:Int):=aA;have hi1:(ia:Int)<(v.ne:Int):=aA;have ze1:=(H68.out w1 (hbw.trans (hb1.mono hbw.size)) 1).trans HZ1.o;have ze2:=(H68.out w1 (hbw.trans (hb1.mono hbw.size)) 2).trans HZ2.o;have ze3:=(H68.out w1 (hbw.trans (hb1.mono hbw.size)) 3).trans HZ3.o;have ze4:=(H68.out w1 (hbw.trans (hb1.mono hbw.size)) 4).trans HZ4.o;have ze5:=(H68.out w1 (hbw.trans (hb1.mono hbw.size)) 5).trans HZ5.o;have ze6:=(H68.out w1 (hbw.trans (hb1.mono hbw.size)) 6).trans HZ6.o;clear hne;have hb2':Below w1.heap.size w1 (w1.alloc (.cells #[O X x6.kind,Y As ns cs,Y Ap np cp,Y Ai ni ci,Y Ac nc cc,Y At nt ct,Y Ab nb cb] 68)):=aB _ _;have hn2':aD (w1.alloc (.cells #[O X x6.kind,Y As ns cs,Y Ap np cp,Y Ai ni ci,Y Ac nc cc,Y At nt ct,Y Ab nb cb] 68)) (w.heap.size+1) 68 #[O X x6.kind,Y As ns cs,Y Ap np cp,Y Ai ni ci,Y Ac nc cc,Y At nt ct,Y Ab nb cb]:=aD.new' aA;have hgl1:g<w1.heap.size:=aA;have hbe1:be<w1.heap.size:=by have:=hbw.size;omega
 have hnl1:w.heap.size<w1.heap.size:=aA;go_region_held3 (fun w'=>w'.cell? ⟨g,2,Z⟩=I (Y (I ⟨be,oe,Z⟩) v.ne v.ce)/\w'.cell? ⟨w.heap.size,1,Z⟩=I (O X (ia:Int))/\w'.cell? ⟨be,oe+ia*7,Z⟩=I (O X x6.kind)/\w'.cell? ⟨be,oe+ia*7+1,Z⟩=I (Y As ns cs)/\w'.cell? ⟨be,oe+ia*7+2,Z⟩=I (Y Ap np cp)/\w'.cell? ⟨be,oe+ia*7+3,Z⟩=I (Y Ai ni ci)/\w'.cell? ⟨be,oe+ia*7+4,Z⟩=I (Y Ac nc cc)/\w'.cell? ⟨be,oe+ia*7+5,Z⟩=I (Y At nt ct)/\w'.cell? ⟨be,oe+ia*7+6,Z⟩=I (Y Ab nb cb)) (first | exact ⟨zg1 2,zn1 1,ze0,ze1,ze2,ze3,ze4,ze5,ze6⟩ | exact ⟨((aB w1 _).cell (p:=⟨g,2,Z⟩) hgl1).trans (zg1 2),((aB w1 _).cell (p:=⟨w.heap.size,1,Z⟩) hnl1).trans (zn1 1),((aB w1 _).cell (p:=⟨be,oe+ia*7,Z⟩) hbe1).trans ze0,((aB w1 _).cell (p:=⟨be,oe+ia*7+1,Z⟩) hbe1).trans ze1,((aB w1 _).cell (p:=⟨be,oe+ia*7+2,Z⟩) hbe1).trans ze2,((aB w1 _).cell (p:=⟨be,oe+ia*7+3,Z⟩) hbe1).trans ze3,((aB w1 _).cell (p:=⟨be,oe+ia*7+4,Z⟩) hbe1).trans ze4,((aB w1 _).cell (p:=⟨be,oe+ia*7+5,Z⟩) hbe1).trans ze5,((aB w1 _).cell (p:=⟨be,oe+ia*7+6,Z⟩) hbe1).trans ze6⟩) (fail)
 obtain ⟨w2,hw2e⟩ : ∃ w2:World,w2=(w1.alloc (.cells #[O X x6.kind,Y As ns cs,Y Ap np cp,Y Ai ni ci,Y Ac nc cc,Y At nt ct,Y Ab nb cb] 68)).drew:=⟨_,rfl⟩;have HB2:Hid (Below w.heap.size w w2):=hid (by rw [hw2e];exact aI (hb1.trans (hb2'.mono aA)) 1);have HN2:Hid (aD w2 w.heap.size 40 #[O X 11,O X (ia:Int),O X (xb:Int)]):=hid (by rw [hw2e];exact (hn1.below hb2' aA).drewN 1);have HE2:Hid (aD w2 (w.heap.size+1) 68 #[O X x6.kind,Y As ns cs,Y Ap np cp,Y Ai ni ci,Y Ac nc cc,Y At nt ct,Y Ab nb cb]):=hid (by rw [hw2e];exact hn2'.drewN 1);have hs2:w2.heap.size=w.heap.size+2:=by rw [hw2e];simp [World.drew];omega
 rw [<-hw2e];have HM2:Hid (aG (fun q=>q=g) Z w w2):=hid (aG.of_below HB2.o);clear hw2e hb2' hn2' hgl1 hbe1 hnl1 ze0 ze1 ze2 ze3 ze4 ze5 ze6 zg1 zn1 hs1 hb1 hn1 zg hAe hAe2 HZ0 HZ1 HZ2 HZ3 HZ4 HZ5 HZ6 hbe hi0 hi1 H68 d0 d1 d2 hbf;go_wp2_with fail
 refine (HKD.o w2 HM2.o).mono ?_;rintro e w3 ⟨hb3,A3,n3,c3,rfl,hr3⟩;have hr3g:fD (RG g w3) w3 A3 n3 c3 ((p::s::br).map aJ):=hr3.keep (fun q hq=>⟨⟨hq.2,by omega⟩,fun _=>rfl⟩);have hn3:n3=xb+2:=by have h1:=hr3g.len;have h2:=HBR.o;simp only [List.length_map,List.length_cons] at h1;omega
 obtain ⟨bk,ok,rfl,hbk,hmk⟩:=hr3g.mem aA;obtain ⟨A4,n4,c4,hc4,ht4⟩:=hmk 1 aA;have HT4:Hid (dO g w3 A4 n4 c4 (aJ s)):=hid ht4;have hs3:=hb3.size;have HB3:Hid (Below w.heap.size w w3):=hid (HB2.o.trans (hb3.mono aA));have HN3:=hid (HN2.o.below hb3 aA);have HE3':=hid (HE2.o.below hb3 aA);have HR3:=hid hr3g;have HW3:=hid (HW.o.below HB3.o);have hk1:(1:Int)<(n3:Int):=aA;have hk1':1<n3:=aA;have HN3q:=hid hn3;clear hn3;clear hr3 hr3g hmk ht4 hb3;have HEV1:=hid (HH.o w3 f A4 n4 c4 s hf hf1 HW3.o HT4.o HFS.o);have hfit:=hid (fun v1 f1 h=>(eW (b:=b) HRT.o d).1 f s v1 f1 HFS.o h);cases hE:eO b d f s with
 | er z =>
  have HRZ:Hid (res=.er z):=hid (by have:=HRS.o;rw [hE] at this;exact this);rw [hE] at HEV1;clear hE HRS hfit;go_wp2_with fail
  refine (HEV1.o).mono ?_;rintro e w4 ⟨hm4,he4⟩;simp only at he4;subst he4;have HM4:Hid (aG (fun q=>q=g) Z w w4):=hid ((aG.of_below HB3.o).trans hm4 (fun _ e=>by cases e));clear hm4;go_wp2_with fail
  rw [HRZ.o];exact ⟨rfl,HM4.o,rfl⟩
 | ok vv f' =>
 have HFU:=hid (hfit.o vv f' hE);have hff:=HFU.o.2;obtain ⟨⟨⟨⟨zo,za,zb⟩,Fa,Fk⟩,L⟩,hqq⟩ : ∃ q,q=cP vv:=⟨_,rfl⟩;have HR1:Hid (res=if zo=10/\za=(ia:Int)/\zb<(xb:Int)/\L.length=x6.params.length+(x6.ctors.getD zb.toNat default).args.length then
       (eO b d f' (br.getD zb.toNat (⟨0,0,0⟩,[],.nil))).bind fun g f2=>givens (fB b d) (L.drop x6.params.length) g f2
  else .er 24):=hid (by have:=HRS.o;rw [hE] at this;simp only [RV.bind] at this;rw [<-hqq] at this;exact this)
 rw [hE] at HEV1;have hvt:=HFU.o.1.1;have HAP:=hid (fun (w':World) (A:Option Addr) (n c:Nat) (h:dO g w' A n c (aJ vv))=>lF h.gv hvt.rt);obtain ⟨hF,hL⟩:=bR.hd hvt;have hLv:zo=10->∀ y ∈ L,jZ b y:=fun h10 y hy=>⟨hL y (by rw [<-hqq];exact hy),i6 HFU.o.1.2 (by rw [<-hqq];exact Or.inr (Or.inl h10)) y (by rw [<-hqq];exact hy)⟩;have hLb:L.length<=4096:=by
  have h3:=jG (bU vv) vv hvt.rt;have h4:=hvt.few;have h5:(cP vv).2.length<bU vv:=h3;rw [<-hqq] at h5;simp only at h5;omega
 rw [<-hqq] at HAP hF;simp only at hF;have hFn:=hF.nod ⟨zo,za,zb⟩ (by simp [aJ]);have hFo:=hF.okt.ok;simp only [dG,Bool.and_eq_true] at hFo;have HFB0:=hid (aF.1 hFo.1.1);have hF10:Hid (zo=10->eL b b.entries.length za=true/\zb<((aV b za).ctors.length:Int)):=hid (fun h10=>by
  unfold bH at hFn;simp only at hFn;rw [if_neg aA,if_neg aA,if_neg aA,if_neg aA,if_pos h10,Bool.and_eq_true,decide_eq_true_eq] at hFn;exact hFn)
 have HLV:=hid hLv;obtain ⟨k,hk⟩ : ∃ k,k=L.length:=⟨_,rfl⟩;have HK:=hid hk;unfold oF at HAP;simp only at HAP;rw [<-hk] at HAP hLb;clear hE HRS hfit hqq hvt hF hL hLv hFn hFo hk;go_wp2_with fail
 refine (HEV1.o).mono ?_;rintro e w4 ⟨hm4,A5,n5,c5,rfl,hw4,ht5⟩;have HM4:Hid (aG (fun q=>q=g) Z w w4):=hid ((aG.of_below HB3.o).trans hm4 (fun _ e=>by cases e));have HAP4:=hid (HAP.o w4 A5 n5 c5 ht5);have HN4:=hid (HN3.o.moved hm4 aA (by simp));have HE4:=hid (HE3'.o.moved hm4 aA (by simp));have HR4:=hid (HR3.o.movedG hm4);have hs4:=hm4.size;have HT5:=hid ht5;have HW4:=hid hw4;clear hm4 hw4 ht5 HR3 HN3 HE3' HN2 HE2 HM2 hc4;go_wp2_with fail
 refine (HAP4.o).mono ?_;rintro e w5 ⟨hd5,A1,n1,c1,B,dd,vs,rfl,hpc,hown,hps⟩;have hs5:=hd5.size;have hT5:dO g w5 A5 n5 c5 (aJ vv):=HT5.o.belowG hd5;have htf:dO g (w5.alloc (.cells #[Y A1 n1 c1,Y B k dd] 83)) A1 n1 c1 (aJ ((⟨zo,za,zb⟩,Fa,Fk):TT)):=hpc _ _ (hT5.belowG (aB _ _));have hn1:0<n1:=by rw [<-htf.len];simp [aJ]
 obtain ⟨bf1,of1,rfl,hbf1,hcf⟩:=htf.mem hn1;obtain ⟨q0,q1,q2⟩:=hcf 0 (by rw [htf.len];exact hn1);simp only [Nat.zero_mul,Nat.add_zero] at q0 q1 q2;rw [show aQ (aJ ((⟨zo,za,zb⟩,Fa,Fk):TT)) 0=⟨zo,za,zb⟩ from rfl] at q0 q1 q2;simp only at q0 q1 q2;have hn1':(0:Int)<(n1:Int):=aA;have zs6:=aD.cell (aD.new w5 83 #[Y (I ⟨bf1,of1,Z⟩) n1 c1,Y B k dd]);have hW7:∃ w7:World,w7=(w5.alloc (.cells #[Y (I ⟨bf1,of1,Z⟩) n1 c1,Y B k dd] 83)).alloc (.cells #[O X zo,O X za,O X zb] 40):=⟨_,rfl⟩;obtain ⟨w7,hw7e⟩:=hW7;have hb7:Below w5.heap.size w5 w7:=by rw [hw7e];exact aS _ _ _
 have hs7:w7.heap.size=w5.heap.size+2:=by rw [hw7e];simp
 have hS7:aD w7 w5.heap.size 83 #[Y (I ⟨bf1,of1,Z⟩) n1 c1,Y B k dd]:=by rw [hw7e];exact (aD.new _ _ _).alloc _
 have hC7:aD w7 (w5.heap.size+1) 40 #[O X zo,O X za,O X zb]:=by rw [hw7e];exact aD.new' (by simp)
 have hb47:Below w4.heap.size w4 w7:=hd5.trans (hb7.mono hs5);have HM7:Hid (aG (fun q=>q=g) Z w w7):=hid (HM4.o.trans (row':=Z) (aG.of_below hb47) (fun _ e=>by cases e));have hN7:=HN4.o.below hb47 aA;have hE7:=HE4.o.below hb47 aA;have HW7:=hid (HW4.o.below hb47);have hbk7:RG g w7 bk:=⟨by have:=hbk.1;omega,hbk.2⟩;have HR7:=hid (HR4.o.movedG (aG.of_below hb47));have hgw4:=HW4.o.lt;have HL7:Hid (fD (RG g w7) w7 B k dd (L.map aJ)):=hid (xO (aY hown hb7) HK.o hLb hgw4 hps (hT5.belowG hb7));have hkd:k<=dd:=IW hown;clear hpc hown hps hT5 htf hcf hbf1 HN4 HE4 HR4 HW4 HT5 HAP4 HAP HEV1;go_upto_region 6 with fail
 rw [<-hw7e];clear hw7e q0 q1 q2 zs6 hn1';have zs7:=aD.cell hS7;have zc7:=aD.cell hC7;have zn7:=aD.cell hN7;have ze7:=aD.cell hE7;have HS7:=hid hS7;have HC7:=hid hC7;have HN7:=hid hN7;have HE7:=hid hE7;clear hb7 hb47 hS7 hC7 hN7 hE7;by_cases t1:zo=10;rotate_left
 · have u1:(zo != 10)=true:=by simpa using t1
   have HRZ:Hid (res=.er 24):=hid (by rw [HR1.o,if_neg (fun h=>t1 h.1)]);refine wp_region_held_drew (S:=(fun w'=>w'.cell? ⟨w5.heap.size+1,0,Z⟩=I (O X zo)/\w'.cell? ⟨w5.heap.size+1,1,Z⟩=I (O X za)/\w'.cell? ⟨w5.heap.size+1,2,Z⟩=I (O X zb)/\w'.cell? ⟨w.heap.size,1,Z⟩=I (O X (ia:Int))/\w'.cell? ⟨w.heap.size,2,Z⟩=I (O X (xb:Int))/\w'.cell? ⟨w5.heap.size,1,Z⟩=I (Y B k dd)/\w'.cell? ⟨w.heap.size+1,2,Z⟩=I (Y Ap np cp)/\w'.cell? ⟨w.heap.size+1,4,Z⟩=I (Y Ac nc cc))) (by kernel_rfl) ?_ (fun hHeld => ?_)
   · (try dsimp only);exact ⟨zc7 0,zc7 1,zc7 2,zn7 1,zn7 2,zs7 1,ze7 2,ze7 4⟩
   refine tq 0 hHeld ?_;try simp only [p7]
   refine tq 1 hHeld ?_;try simp only [p7]
   refine tq 2 hHeld ?_;try simp only [p7]
   refine tq 3 hHeld ?_;try simp only [p7]
   refine dk 4 hHeld ?_;try simp only [p7]
   refine dk 5 hHeld ?_;try simp only [p7]
   refine dk 6 hHeld ?_;try simp only [p7]
   refine dk 7 hHeld ?_;try simp only [p7]
   refine dk 8 hHeld ?_;try simp only [p7]
   refine tq 9 hHeld ?_;try simp only [p7]
   refine tq 10 hHeld ?_;try simp only [p7]
   refine dk 11 hHeld ?_;try simp only [p7]
   refine dk 12 hHeld ?_;try simp only [p7]
   refine dk 13 hHeld ?_;try simp only [p7]
   refine dk 14 hHeld ?_;try simp only [p7]
   refine dk 15 hHeld ?_;try simp only [p7]
   refine tq 16 hHeld ?_;try simp only [p7]
   refine tq 17 hHeld ?_;try simp only [p7]
   refine dk 18 hHeld ?_;try simp only [p7]
   refine dk 19 hHeld ?_;try simp only [p7]
   refine dk 20 hHeld ?_;try simp only [p7]
   refine dk 21 hHeld ?_;try simp only [p7]
   refine dk 22 hHeld ?_;try simp only [p7]
   refine dk 23 hHeld ?_;try simp only [p7]
   refine dk 24 hHeld ?_;try simp only [p7]
   refine dk 25 hHeld ?_;try simp only [p7]
   refine dk 26 hHeld ?_;try simp only [p7]
   refine dk 27 hHeld ?_;try simp only [p7]
   refine dk 28 hHeld ?_;try simp only [p7]
   refine dk 29 hHeld ?_;try simp only [p7]
   refine dk 30 hHeld ?_;try simp only [p7]
   refine dk 31 hHeld ?_;try simp only [p7]
   refine dk 32 hHeld ?_;try simp only [p7]
   refine dk 33 hHeld ?_;try simp only [p7]
   refine tq 34 hHeld ?_;try simp only [p7]
   refine wpAnyH_done (by kernel_rfl) ?_ _;go_wp2_with fail
   rw [HRZ.o];exact ⟨rfl,HM7.o.drew,rfl⟩
 have u1:(zo != 10)=false:=by simpa using t1
 by_cases t2:za=(ia:Int);rotate_left
 · have u2:(za != (ia:Int))=true:=by simpa using t2
   have HRZ:Hid (res=.er 24):=hid (by rw [HR1.o,if_neg (fun h=>t2 h.2.1)]);clear t1;refine wp_region_held_drew (S:=(fun w'=>w'.cell? ⟨w5.heap.size+1,0,Z⟩=I (O X zo)/\w'.cell? ⟨w5.heap.size+1,1,Z⟩=I (O X za)/\w'.cell? ⟨w5.heap.size+1,2,Z⟩=I (O X zb)/\w'.cell? ⟨w.heap.size,1,Z⟩=I (O X (ia:Int))/\w'.cell? ⟨w.heap.size,2,Z⟩=I (O X (xb:Int))/\w'.cell? ⟨w5.heap.size,1,Z⟩=I (Y B k dd)/\w'.cell? ⟨w.heap.size+1,2,Z⟩=I (Y Ap np cp)/\w'.cell? ⟨w.heap.size+1,4,Z⟩=I (Y Ac nc cc))) (by kernel_rfl) ?_ (fun hHeld => ?_)
   · (try dsimp only);exact ⟨zc7 0,zc7 1,zc7 2,zn7 1,zn7 2,zs7 1,ze7 2,ze7 4⟩
   refine tq 0 hHeld ?_;try simp only [p7]
   refine tq 1 hHeld ?_;try simp only [p7]
   refine tq 2 hHeld ?_;try simp only [p7]
   refine tq 3 hHeld ?_;try simp only [p7]
   refine tq 4 hHeld ?_;try simp only [p7]
   refine tq 5 hHeld ?_;try simp only [p7]
   refine tq 6 hHeld ?_;try simp only [p7]
   refine tq 7 hHeld ?_;try simp only [p7]
   refine tq 8 hHeld ?_;try simp only [p7]
   refine tq 9 hHeld ?_;try simp only [p7]
   refine tq 10 hHeld ?_;try simp only [p7]
   refine dk 11 hHeld ?_;try simp only [p7]
   refine dk 12 hHeld ?_;try simp only [p7]
   refine dk 13 hHeld ?_;try simp only [p7]
   refine dk 14 hHeld ?_;try simp only [p7]
   refine dk 15 hHeld ?_;try simp only [p7]
   refine tq 16 hHeld ?_;try simp only [p7]
   refine tq 17 hHeld ?_;try simp only [p7]
   refine dk 18 hHeld ?_;try simp only [p7]
   refine dk 19 hHeld ?_;try simp only [p7]
   refine dk 20 hHeld ?_;try simp only [p7]
   refine dk 21 hHeld ?_;try simp only [p7]
   refine dk 22 hHeld ?_;try simp only [p7]
   refine dk 23 hHeld ?_;try simp only [p7]
   refine dk 24 hHeld ?_;try simp only [p7]
   refine dk 25 hHeld ?_;try simp only [p7]
   refine dk 26 hHeld ?_;try simp only [p7]
   refine dk 27 hHeld ?_;try simp only [p7]
   refine dk 28 hHeld ?_;try simp only [p7]
   refine dk 29 hHeld ?_;try simp only [p7]
   refine dk 30 hHeld ?_;try simp only [p7]
   refine dk 31 hHeld ?_;try simp only [p7]
   refine dk 32 hHeld ?_;try simp only [p7]
   refine dk 33 hHeld ?_;try simp only [p7]
   refine tq 34 hHeld ?_;try simp only [p7]
   refine wpAnyH_done (by kernel_rfl) ?_ _;go_wp2_with fail
   rw [HRZ.o];exact ⟨rfl,HM7.o.drew,rfl⟩
 have u2:(za != (ia:Int))=false:=by simpa using t2
 by_cases t3:zb<(xb:Int);rotate_left
 · have u3:decide (zb ≥ (xb:Int))=true:=decide_eq_true aA;have HRZ:Hid (res=.er 24):=hid (by rw [HR1.o,if_neg (fun h=>t3 h.2.2.1)]);clear t1 t2;refine wp_region_held_drew (S:=(fun w'=>w'.cell? ⟨w5.heap.size+1,0,Z⟩=I (O X zo)/\w'.cell? ⟨w5.heap.size+1,1,Z⟩=I (O X za)/\w'.cell? ⟨w5.heap.size+1,2,Z⟩=I (O X zb)/\w'.cell? ⟨w.heap.size,1,Z⟩=I (O X (ia:Int))/\w'.cell? ⟨w.heap.size,2,Z⟩=I (O X (xb:Int))/\w'.cell? ⟨w5.heap.size,1,Z⟩=I (Y B k dd)/\w'.cell? ⟨w.heap.size+1,2,Z⟩=I (Y Ap np cp)/\w'.cell? ⟨w.heap.size+1,4,Z⟩=I (Y Ac nc cc))) (by kernel_rfl) ?_ (fun hHeld => ?_)
   · (try dsimp only);exact ⟨zc7 0,zc7 1,zc7 2,zn7 1,zn7 2,zs7 1,ze7 2,ze7 4⟩
   refine tq 0 hHeld ?_;try simp only [p7]
   refine tq 1 hHeld ?_;try simp only [p7]
   refine tq 2 hHeld ?_;try simp only [p7]
   refine tq 3 hHeld ?_;try simp only [p7]
   refine tq 4 hHeld ?_;try simp only [p7]
   refine tq 5 hHeld ?_;try simp only [p7]
   refine tq 6 hHeld ?_;try simp only [p7]
   refine tq 7 hHeld ?_;try simp only [p7]
   refine tq 8 hHeld ?_;try simp only [p7]
   refine tq 9 hHeld ?_;try simp only [p7]
   refine tq 10 hHeld ?_;try simp only [p7]
   refine tq 11 hHeld ?_;try simp only [p7]
   refine tq 12 hHeld ?_;try simp only [p7]
   refine tq 13 hHeld ?_;try simp only [p7]
   refine tq 14 hHeld ?_;try simp only [p7]
   refine tq 15 hHeld ?_;try simp only [p7]
   refine tq 16 hHeld ?_;try simp only [p7]
   refine tq 17 hHeld ?_;try simp only [p7]
   refine dk 18 hHeld ?_;try simp only [p7]
   refine dk 19 hHeld ?_;try simp only [p7]
   refine dk 20 hHeld ?_;try simp only [p7]
   refine dk 21 hHeld ?_;try simp only [p7]
   refine dk 22 hHeld ?_;try simp only [p7]
   refine dk 23 hHeld ?_;try simp only [p7]
   refine dk 24 hHeld ?_;try simp only [p7]
   refine dk 25 hHeld ?_;try simp only [p7]
   refine dk 26 hHeld ?_;try simp only [p7]
   refine dk 27 hHeld ?_;try simp only [p7]
   refine dk 28 hHeld ?_;try simp only [p7]
   refine dk 29 hHeld ?_;try simp only [p7]
   refine dk 30 hHeld ?_;try simp only [p7]
   refine dk 31 hHeld ?_;try simp only [p7]
   refine dk 32 hHeld ?_;try simp only [p7]
   refine dk 33 hHeld ?_;try simp only [p7]
   refine tq 34 hHeld ?_;try simp only [p7]
   refine wpAnyH_done (by kernel_rfl) ?_ _;go_wp2_with fail
   rw [HRZ.o];exact ⟨rfl,HM7.o.drew,rfl⟩
 have hz0:0<=zb:=by have:=HFB0.o;omega
 obtain ⟨j,hj⟩ : ∃ j:Nat,zb=(j:Int):=⟨zb.toNat,by omega⟩;subst hj;have u3:decide ((j:Int) ≥ (xb:Int))=false:=decide_eq_false aA;have u3b:decide (xb<=j)=false:=decide_eq_false aA;have u3c:decide ((xb:Int)<=(j:Int))=false:=decide_eq_false aA;have hjc:j<nc:=by
  have h1:=(hF10.o t1).2;rw [t2] at h1;have h2:=HX6.o;rw [h2,HNC.o] at h1;omega
 have hlt7:Below w0.heap.size w0 w7:=HW7.o.bel;obtain ⟨bc,oc,Aa,na,ca,hAc,hbc,hcc,hna⟩:=nC.arg_at (HEV.o w7 hlt7).ctors hjc;subst hAc;have hna16:na<=16:=by
  rw [<-hna];have hl:j<x6.ctors.length:=by rw [HNC.o];exact hjc
  have h1:=HE3.o x6.ctors[j] (List.getElem_mem hl);rw [List.getD_eq_getElem?_getD,List.getElem?_eq_getElem hl];exact h1
 have zt7:w7.cell? ⟨bc,oc+j*2,Z⟩=I (Y Aa na ca):=hcc;have hnp16:np<=16:=by rw [<-HNP.o];exact e1
 have hw1:IntKind.i64.wrap ((np:Int)+(na:Int))=(np:Int)+(na:Int):=by rw [IntKind.wrap_i64];omega
 have hj0:(0:Int)<=(j:Int):=aA;have hj1:(j:Int)<(nc:Int):=aA;have HR2:Hid (res=if L.length=np+na then
       (eO b d f' (br.getD j (⟨0,0,0⟩,[],.nil))).bind fun g f2=>givens (fB b d) (L.drop np) g f2
  else .er 24):=hid (by
  rw [HR1.o,HNP.o,show ((j:Nat):Int).toNat=j from Int.toNat_natCast j,hna];by_cases hk:L.length=np+na
  · rw [if_pos ⟨t1,t2,t3,hk⟩,if_pos hk]
  rw [if_neg (fun h=>hk h.2.2.2),if_neg hk])
 have hjx:j<xb:=aA;have HLO:=hid (HLV.o t1);clear t1 t2 t3 hcc hna HR1 hF10 HFB0 HLV hz0;by_cases t4:k=np+na;rotate_left
 · have u4:((k:Int) != (np:Int)+(na:Int))=true:=by rw [bne_iff_ne];omega
   have HRZ:Hid (res=.er 24):=hid (by rw [HR2.o,if_neg (by rw [<-HK.o];exact t4)]);refine wp_region_held_drew (S:=(fun w'=>w'.cell? ⟨w5.heap.size+1,0,Z⟩=I (O X zo)/\w'.cell? ⟨w5.heap.size+1,1,Z⟩=I (O X za)/\w'.cell? ⟨w5.heap.size+1,2,Z⟩=I (O X (j:Int))/\w'.cell? ⟨w.heap.size,1,Z⟩=I (O X (ia:Int))/\w'.cell? ⟨w.heap.size,2,Z⟩=I (O X (xb:Int))/\w'.cell? ⟨w5.heap.size,1,Z⟩=I (Y B k dd)/\w'.cell? ⟨w.heap.size+1,2,Z⟩=I (Y Ap np cp)/\w'.cell? ⟨w.heap.size+1,4,Z⟩=I (Y (I ⟨bc,oc,Z⟩) nc cc)/\w'.cell? ⟨bc,oc+j*2,Z⟩=I (Y Aa na ca))) (by kernel_rfl) ?_ (fun hHeld => ?_)
   · (try dsimp only);exact ⟨zc7 0,zc7 1,zc7 2,zn7 1,zn7 2,zs7 1,ze7 2,ze7 4,zt7⟩
   refine tq 0 hHeld ?_;try simp only [p7]
   refine tq 1 hHeld ?_;try simp only [p7]
   refine tq 2 hHeld ?_;try simp only [p7]
   refine tq 3 hHeld ?_;try simp only [p7]
   refine tq 4 hHeld ?_;try simp only [p7]
   refine tq 5 hHeld ?_;try simp only [p7]
   refine tq 6 hHeld ?_;try simp only [p7]
   refine tq 7 hHeld ?_;try simp only [p7]
   refine tq 8 hHeld ?_;try simp only [p7]
   refine tq 9 hHeld ?_;try simp only [p7]
   refine tq 10 hHeld ?_;try simp only [p7]
   refine tq 11 hHeld ?_;try simp only [p7]
   refine tq 12 hHeld ?_;try simp only [p7]
   refine tq 13 hHeld ?_;try simp only [p7]
   refine tq 14 hHeld ?_;try simp only [p7]
   refine tq 15 hHeld ?_;try simp only [p7]
   refine tq 16 hHeld ?_;try simp only [p7]
   refine tq 17 hHeld ?_;try simp only [p7]
   refine tq 18 hHeld ?_;try simp only [p7]
   refine tq 19 hHeld ?_;try simp only [p7]
   refine tq 20 hHeld ?_;try simp only [p7]
   refine tq 21 hHeld ?_;try simp only [p7]
   refine tq 22 hHeld ?_;try simp only [p7]
   refine tq 23 hHeld ?_;try simp only [p7]
   refine tq 24 hHeld ?_;try simp only [p7]
   refine tq 25 hHeld ?_;try simp only [p7]
   refine tq 26 hHeld ?_;try simp only [p7]
   refine tq 27 hHeld ?_;try simp only [p7]
   refine tq 28 hHeld ?_;try simp only [p7]
   refine tq 29 hHeld ?_;try simp only [p7]
   refine tq 30 hHeld ?_;try simp only [p7]
   refine tq 31 hHeld ?_;try simp only [p7]
   refine tq 32 hHeld ?_;try simp only [p7]
   refine tq 33 hHeld ?_;try simp only [p7]
   refine tq 34 hHeld ?_;try simp only [p7]
   refine wpAnyH_done (by kernel_rfl) ?_ _;go_wp2_with fail
   rw [HRZ.o];exact ⟨rfl,HM7.o.drew,rfl⟩
 have u4:((k:Int) != (np:Int)+(na:Int))=false:=by rw [bne_eq_false_iff_eq];omega
 refine wp_region_held_drew (S:=(fun w'=>w'.cell? ⟨w5.heap.size+1,0,Z⟩=I (O X zo)/\w'.cell? ⟨w5.heap.size+1,1,Z⟩=I (O X za)/\w'.cell? ⟨w5.heap.size+1,2,Z⟩=I (O X (j:Int))/\w'.cell? ⟨w.heap.size,1,Z⟩=I (O X (ia:Int))/\w'.cell? ⟨w.heap.size,2,Z⟩=I (O X (xb:Int))/\w'.cell? ⟨w5.heap.size,1,Z⟩=I (Y B k dd)/\w'.cell? ⟨w.heap.size+1,2,Z⟩=I (Y Ap np cp)/\w'.cell? ⟨w.heap.size+1,4,Z⟩=I (Y (I ⟨bc,oc,Z⟩) nc cc)/\w'.cell? ⟨bc,oc+j*2,Z⟩=I (Y Aa na ca))) (by kernel_rfl) ?_ (fun hHeld => ?_)
 · (try dsimp only);exact ⟨zc7 0,zc7 1,zc7 2,zn7 1,zn7 2,zs7 1,ze7 2,ze7 4,zt7⟩
 refine tq 0 hHeld ?_;try simp only [p7]
 refine tq 1 hHeld ?_;try simp only [p7]
 refine tq 2 hHeld ?_;try simp only [p7]
 refine tq 3 hHeld ?_;try simp only [p7]
 refine tq 4 hHeld ?_;try simp only [p7]
 refine tq 5 hHeld ?_;try simp only [p7]
 refine tq 6 hHeld ?_;try simp only [p7]
 refine tq 7 hHeld ?_;try simp only [p7]
 refine tq 8 hHeld ?_;try simp only [p7]
 refine tq 9 hHeld ?_;try simp only [p7]
 refine tq 10 hHeld ?_;try simp only [p7]
 refine tq 11 hHeld ?_;try simp only [p7]
 refine tq 12 hHeld ?_;try simp only [p7]
 refine tq 13 hHeld ?_;try simp only [p7]
 refine tq 14 hHeld ?_;try simp only [p7]
 refine tq 15 hHeld ?_;try simp only [p7]
 refine tq 16 hHeld ?_;try simp only [p7]
 refine tq 17 hHeld ?_;try simp only [p7]
 refine tq 18 hHeld ?_;try simp only [p7]
 refine tq 19 hHeld ?_;try simp only [p7]
 refine tq 20 hHeld ?_;try simp only [p7]
 refine tq 21 hHeld ?_;try simp only [p7]
 refine tq 22 hHeld ?_;try simp only [p7]
 refine tq 23 hHeld ?_;try simp only [p7]
 refine tq 24 hHeld ?_;try simp only [p7]
 refine tq 25 hHeld ?_;try simp only [p7]
 refine tq 26 hHeld ?_;try simp only [p7]
 refine tq 27 hHeld ?_;try simp only [p7]
 refine tq 28 hHeld ?_;try simp only [p7]
 refine tq 29 hHeld ?_;try simp only [p7]
 refine tq 30 hHeld ?_;try simp only [p7]
 refine tq 31 hHeld ?_;try simp only [p7]
 refine tq 32 hHeld ?_;try simp only [p7]
 refine tq 33 hHeld ?_;try simp only [p7]
 refine tq 34 hHeld ?_;try simp only [p7]
 refine wpAnyH_done (by kernel_rfl) ?_ _;go_upto_region 8 with fail
 have hjl:j<br.length:=by rw [HBR.o];exact hjx
 obtain ⟨y,hy⟩ : ∃ y,br[j]? = I y:=⟨br[j],List.getElem?_eq_getElem hjl⟩;have HFY:=hid (HFB.o j y hy);obtain ⟨jj,hjj⟩ : ∃ jj:Nat,jj=j+2:=⟨_,rfl⟩;have hn3:=HN3q.o;obtain ⟨bk2,ok2,ek,hbk2,hmk⟩:=HR7.o.mem aA;injection ek with ek;injection ek with ek1 ek2;subst ek1;subst ek2;obtain ⟨A8,n8,c8,hc8,ht8⟩:=hmk jj aA;have hgj:((p::s::br).map aJ).getD jj []=aJ y:=by
  rw [hjj,List.getD_eq_getElem?_getD,List.getElem?_map,List.getElem?_cons_succ,List.getElem?_cons_succ,hy];rfl
 rw [hgj] at ht8;have HT8:Hid (dO g w7 A8 n8 c8 (aJ y)):=hid ht8;have hwj:IntKind.i64.wrap (2+(j:Int))=(jj:Int):=by rw [IntKind.wrap_i64];have:=HR7.o.few;omega
 have hi80:(0:Int)<=(jj:Int):=aA;have hi81:(jj:Int)<(n3:Int):=aA;have hi82:jj<n3:=aA;have HR3q:Hid (res=(eO b d f' y).bind fun g f2=>givens (fB b d) (L.drop np) g f2):=hid (by
  rw [HR2.o,if_pos (by rw [<-HK.o];exact t4),List.getD_eq_getElem?_getD,hy];rfl)
 obtain ⟨B9,hcut,hcutr⟩:=G4 B k dd np aA hkd;have HCR:=hid hcutr;have HFT:=hid (fun v1 f1 h=>(eW (b:=b) HRT.o d).1 f' y v1 f1 HFY.o h);have HC:=hid (HH.o w7.drew.drew f' A8 n8 c8 y aA aA HW7.o.drew.drew (HT8.o.movedG (aG.refl _ _ _).drew.drew) HFY.o);have hgs4:g<w4.heap.size:=aA;have hgs7:w4.heap.size<=w5.heap.size:=hs5;clear hgj ht8 hmk hbk2 hy hjl hcutr t4 hn3 HR2 hjj hjx;cases hE:eO b d f' y with
 | er z =>
  have HRZ:Hid (res=.er z):=hid (by have:=HR3q.o;rw [hE] at this;exact this);rw [hE] at HC;clear hE HR3q HFT;refine wp_region_held_drew (S:=(fun w'=>w'.cell? ⟨w5.heap.size+1,2,Z⟩=I (O X (j:Int))/\w'.cell? ⟨bk,ok+jj,Z⟩=I (Y A8 n8 c8)/\w'.cell? ⟨w5.heap.size,1,Z⟩=I (Y B k dd)/\w'.cell? ⟨w.heap.size+1,2,Z⟩=I (Y Ap np cp))) (by kernel_rfl) ?_ (fun hHeld => ?_)
  · (try dsimp only);exact ⟨zc7 2,hc8,zs7 1,ze7 2⟩
  refine tq 0 hHeld ?_;try simp only [p7]
  refine tq 1 hHeld ?_;try simp only [p7]
  refine tq 2 hHeld ?_;try simp only [p7]
  refine tq 3 hHeld ?_;try simp only [p7]
  refine tq 4 hHeld ?_;try simp only [p7]
  refine tq 5 hHeld ?_;try simp only [p7]
  refine tq 6 hHeld ?_;try simp only [p7]
  refine tq 7 hHeld ?_;try simp only [p7]
  refine tq 9 hHeld ?_;try simp only [p7]
  refine tq 10 hHeld ?_;try simp only [p7]
  refine tq 11 hHeld ?_;try simp only [p7]
  refine tq 12 hHeld ?_;try simp only [p7]
  refine tq 13 hHeld ?_;try simp only [p7]
  refine tq 14 hHeld ?_;try simp only [p7]
  refine r1 8 fun K hK => ?_;go_simp;refine (HC.o).mono ?_;rintro e w8 ⟨hm8,he8⟩;simp only at he8;subst he8;have HM8:Hid (aG (fun q=>q=g) Z w w8):=hid (HM7.o.drew.drew.trans hm8 (fun _ e=>by cases e));clear hm8;go_wp2_with fail
  rw [HRZ.o];exact ⟨rfl,HM8.o,rfl⟩
 | ok g' f2 =>
 have HFU2:=hid (HFT.o g' f2 hE);have hff2:=HFU2.o.2;have HR4q:Hid (res=givens (fB b d) (L.drop np) g' f2):=hid (by have:=HR3q.o;rw [hE] at this;exact this);rw [hE] at HC;have HOD:Hid (∀ z ∈ L.drop np,jZ b z):=hid (fun z hz=>HLO.o z (List.drop_subset _ _ hz));clear hE HR3q HFT;cases hE2:givens (fB b d) (L.drop np) g' f2 with
 | er z =>
  have HRZ:Hid (res=.er z):=hid (by rw [HR4q.o,hE2]);have HE2:=hid hE2;clear hE2 HR4q;refine wp_region_held_drew (S:=(fun w'=>w'.cell? ⟨w5.heap.size+1,2,Z⟩=I (O X (j:Int))/\w'.cell? ⟨bk,ok+jj,Z⟩=I (Y A8 n8 c8)/\w'.cell? ⟨w5.heap.size,1,Z⟩=I (Y B k dd)/\w'.cell? ⟨w.heap.size+1,2,Z⟩=I (Y Ap np cp))) (by kernel_rfl) ?_ (fun hHeld => ?_)
  · (try dsimp only);exact ⟨zc7 2,hc8,zs7 1,ze7 2⟩
  refine tq 0 hHeld ?_;try simp only [p7]
  refine tq 1 hHeld ?_;try simp only [p7]
  refine tq 2 hHeld ?_;try simp only [p7]
  refine tq 3 hHeld ?_;try simp only [p7]
  refine tq 4 hHeld ?_;try simp only [p7]
  refine tq 5 hHeld ?_;try simp only [p7]
  refine tq 6 hHeld ?_;try simp only [p7]
  refine tq 7 hHeld ?_;try simp only [p7]
  refine tq 9 hHeld ?_;try simp only [p7]
  refine tq 10 hHeld ?_;try simp only [p7]
  refine tq 11 hHeld ?_;try simp only [p7]
  refine tq 12 hHeld ?_;try simp only [p7]
  refine tq 13 hHeld ?_;try simp only [p7]
  refine tq 14 hHeld ?_;try simp only [p7]
  refine r1 8 fun K hK => ?_;go_simp;refine (HC.o).mono ?_;rintro e w8 ⟨hm8,A88,n88,c88,rfl,hw8,ht8⟩;have HM8:Hid (aG (fun q=>q=g) Z w w8):=hid (HM7.o.drew.drew.trans hm8 (fun _ e=>by cases e));have hmv8:∀ q o:Nat,q<w7.heap.size->q ≠ g->w8.cell? ⟨q,o,Z⟩=w7.cell? ⟨q,o,Z⟩:=fun q o h1 h2=>aH (hm8.block q h1 h2 (by simp)) o;have HMQ8:=hid hm8;have HW8:=hid hw8;have HT88:=hid ht8;have HG8:=hid (oP HRT.o HHG.o (w:=w8) (f:=f2) (A:=A88) (n:=n88) (c:=c88) (B:=B9) (k:=k-np) (dd:=dd-np) (x:=g') (L:=L.drop np) aA aA HW8.o HT88.o (by rw [List.map_drop];exact HCR.o _ _ _ (HL7.o.movedG (aG.from_drew (aG.from_drew HMQ8.o)))) HFU2.o.1 HOD.o);rw [HE2.o] at HG8;clear hm8 hw8 ht8;go_wp2_with fail
  refine hK.o _ _ (by exact ⟨(hmv8 _ 2 aA aA).trans (zc7 2),(hmv8 _ (ok+jj) hbk7.1 hbk7.2).trans hc8,(hmv8 _ 1 aA aA).trans (zs7 1),(hmv8 _ 2 aA aA).trans (ze7 2)⟩) fun hHeld => ?_;clear hK K;try simp only [p7]
  refine r1 15 fun K hK => ?_;go_simp;refine (HG8.o).mono ?_;rintro e w9 ⟨hm9,he9⟩;simp only at he9;subst he9;have HM9:Hid (aG (fun q=>q=g) Z w w9):=hid (HM8.o.trans hm9 (fun _ e=>by cases e));clear hm9;go_wp2_with fail
  rw [HRZ.o];exact ⟨rfl,HM9.o,rfl⟩
 | ok g2 f3 =>
  have HRZ:Hid (res=.ok g2 f3):=hid (by rw [HR4q.o,hE2]);have HE2:=hid hE2;clear hE2 HR4q;refine wp_region_held_drew (S:=(fun w'=>w'.cell? ⟨w5.heap.size+1,2,Z⟩=I (O X (j:Int))/\w'.cell? ⟨bk,ok+jj,Z⟩=I (Y A8 n8 c8)/\w'.cell? ⟨w5.heap.size,1,Z⟩=I (Y B k dd)/\w'.cell? ⟨w.heap.size+1,2,Z⟩=I (Y Ap np cp))) (by kernel_rfl) ?_ (fun hHeld => ?_)
  · (try dsimp only);exact ⟨zc7 2,hc8,zs7 1,ze7 2⟩
  refine tq 0 hHeld ?_;try simp only [p7]
  refine tq 1 hHeld ?_;try simp only [p7]
  refine tq 2 hHeld ?_;try simp only [p7]
  refine tq 3 hHeld ?_;try simp only [p7]
  refine tq 4 hHeld ?_;try simp only [p7]
  refine tq 5 hHeld ?_;try simp only [p7]
  refine tq 6 hHeld ?_;try simp only [p7]
  refine tq 7 hHeld ?_;try simp only [p7]
  refine tq 9 hHeld ?_;try simp only [p7]
  refine tq 10 hHeld ?_;try simp only [p7]
  refine tq 11 hHeld ?_;try simp only [p7]
  refine tq 12 hHeld ?_;try simp only [p7]
  refine tq 13 hHeld ?_;try simp only [p7]
  refine tq 14 hHeld ?_;try simp only [p7]
  refine r1 8 fun K hK => ?_;go_simp;refine (HC.o).mono ?_;rintro e w8 ⟨hm8,A88,n88,c88,rfl,hw8,ht8⟩;have HM8:Hid (aG (fun q=>q=g) Z w w8):=hid (HM7.o.drew.drew.trans hm8 (fun _ e=>by cases e));have hmv8:∀ q o:Nat,q<w7.heap.size->q ≠ g->w8.cell? ⟨q,o,Z⟩=w7.cell? ⟨q,o,Z⟩:=fun q o h1 h2=>aH (hm8.block q h1 h2 (by simp)) o;have HMQ8:=hid hm8;have HW8:=hid hw8;have HT88:=hid ht8;have HG8:=hid (oP HRT.o HHG.o (w:=w8) (f:=f2) (A:=A88) (n:=n88) (c:=c88) (B:=B9) (k:=k-np) (dd:=dd-np) (x:=g') (L:=L.drop np) aA aA HW8.o HT88.o (by rw [List.map_drop];exact HCR.o _ _ _ (HL7.o.movedG (aG.from_drew (aG.from_drew HMQ8.o)))) HFU2.o.1 HOD.o);rw [HE2.o] at HG8;clear hm8 hw8 ht8;go_wp2_with fail
  refine hK.o _ _ (by exact ⟨(hmv8 _ 2 aA aA).trans (zc7 2),(hmv8 _ (ok+jj) hbk7.1 hbk7.2).trans hc8,(hmv8 _ 1 aA aA).trans (zs7 1),(hmv8 _ 2 aA aA).trans (ze7 2)⟩) fun hHeld => ?_;clear hK K;try simp only [p7]
  refine r1 15 fun K hK => ?_;go_simp;refine (HG8.o).mono ?_;rintro e w9 ⟨hm9,A9,n9,c9,rfl,hw9,ht9⟩;have HM9:Hid (aG (fun q=>q=g) Z w w9):=hid (HM8.o.trans hm9 (fun _ e=>by cases e));have hmv9:∀ q o:Nat,q<w7.heap.size->q ≠ g->w9.cell? ⟨q,o,Z⟩=w7.cell? ⟨q,o,Z⟩:=fun q o h1 h2=>(aH (hm9.block q (Nat.lt_of_lt_of_le h1 HMQ8.o.size) h2 (by simp)) o).trans (hmv8 q o h1 h2);have HW9:=hid hw9;have HT9:=hid ht9;clear hm9 hw9 ht9;go_wp2_with fail
  refine hK.o _ _ (by exact ⟨(hmv9 _ 2 aA aA).trans (zc7 2),(hmv9 _ (ok+jj) hbk7.1 hbk7.2).trans hc8,(hmv9 _ 1 aA aA).trans (zs7 1),(hmv9 _ 2 aA aA).trans (ze7 2)⟩) fun hHeld => ?_;clear hK K;try simp only [p7]
  refine tq 16 hHeld ?_;try simp only [p7]
  refine wpAnyH_done (by kernel_rfl) ?_ _;go_wp2_with fail
  go_ret;rw [HRZ.o];exact ⟨HM9.o,A9,n9,c9,rfl,HW9.o,HT9.o⟩
end Go.Proofs.YtjllmblbbgojbaaGreat
