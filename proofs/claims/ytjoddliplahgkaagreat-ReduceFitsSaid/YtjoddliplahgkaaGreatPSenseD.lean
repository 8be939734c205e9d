/- Merged: WhW, SenseK, WhK, SenseB, SenseV, SenseU, SenseF, SenseC, SenseD. -/
import Derived.Test.YtjoddliplahgkaaGreatPSenseG
namespace Go.Proofs.YtjoddliplahgkaaGreat
set_option linter.unusedVariables false
set_option linter.unusedSimpArgs false
open Go.RowKit
open Go.Value renaming int → O, slice → X
open Go.IntKind renaming i64 → S
open Option renaming none → Y
section
open Go.Lib renaming hid->aB
set_option maxHeartbeats 4000000
set_option maxRecDepth 100000
def oG (z:Int):List PanicEntry:=[{ v:=.iface 72 (.agg #[O S z]),recovered:=false }]
theorem jW {A:Option Addr} {n c:Nat} {w:World}:Calls Tryz.prog 76 #[X A n c,O S 0] w (fun e w'=>e=.returned (X A n c)/\w'=w):=by
 go_in;go_wp2_with fail;go_ret;exact⟨rfl,rfl⟩
theorem mG {A:Option Addr} {n c:Nat} {w:World} {z:Int} (hz:z ≠ 0):Calls Tryz.prog 76 #[X A n c,O S z] w (fun e w'=>e=.panicked (oG z)/\w'=w):=by
 have d1:(z != 0)=true:=by simpa using hz
 clear hz;go_in;go_wp2_with fail;exact⟨rfl,rfl,rfl⟩
theorem NL {b:Bk} {free:Int} : ∀(m:Nat) (x:TT),bR b free x->bI x<=m->DA m (aW x) x.1 x.2.2=(aW (bU x).1,(bU x).2.map aW)
 | 0,(n,a,k),_,h=>by rw[dL] at h;omega
 | m+1,x,hx,h=>by
  by_cases h6:x.1.op=6
  · obtain⟨f,a,rfl,h1,h2,h3⟩:=LA hx h6;have a0:=H9 (m:=m) (t:=aW (gF f a)) (n:=⟨6,0,0⟩) (n1:=f.1) (a1:=f.2.1) (k1:=f.2.2) (n2:=a.1) (a2:=a.2.1) (k2:=a.2.2) rfl;have ih:=NL m f h1 aA;rw[qY];show DA (m+1) (aW (gF f a)) ⟨6,0,0⟩ (.cons [] f.1 f.2.1 f.2.2 (.cons [] a.1 a.2.1 a.2.2 .nil))=_;rw[a0];show ((DA m (aW f) f.1 f.2.2).1,(DA m (aW f) f.1 f.2.2).2++[aW a])=_;rw[ih];simp
  · rw[pS h6,DC h6];rfl
theorem KC {b:Bk} {free:Int} {x:TT} (hx:bR b free x):mX (aW x)=(aW (bU x).1,(bU x).2.map aW):=by
 unfold mX;rw[if_pos hx.rt.shape,FS hx.rt];exact NL _ x hx (Nat.le_refl _)
theorem wD:∀(L:List TT),(L.map aW).flatten.length+(L.map aW).length=bT L
 | []=>rfl
 | a::r=>by
  have:=wD r;have h:bI a=(aW a).length:=rfl;simp only[List.map_cons,List.flatten_cons,List.length_append,List.length_cons,bT] at this ⊢;omega
theorem AW {b:Bk} {free:Int} : ∀(L:List TT),(∀a ∈ L,bR b free a)->eP (L.map aW)=0
 | [],_=>rfl
 | a::r,h=>by
  simp only[List.map_cons,eP];rw[if_pos (h a aD).rt.shape];exact AW r fun y hy=>h y (by simp[hy])
theorem AT {b:Bk} {free:Int} {x:TT} {L:List TT} (hx:bR b free x) (hL:∀a ∈ L,bR b free a):iJ (aW x) (L.map aW)=if 4096<bI x+bT L then ([],9) else (aW (eG x L),0):=by
 have h:bI x=(aW x).length:=rfl;have h2:=wD L;unfold iJ;rw[if_neg (by rw[hx.rt.shape];simp),if_neg (by rw[AW L hL];simp),AV,List.length_map];rw[List.length_map] at h2;rw[h2,<-h]
def fE (lo:Nat) (w:World) (f:Fc) (A:Option Addr) (n c:Nat) (B:Option Addr) (m d:Nat):Prop:=bJ (iS lo w (X B m d)) w A n c (aW f.1)/\∃xs,w.ownsRow lo 29 1 (X B m d) m xs/\bS (iS lo w (X B m d)) w xs (f.2.map aW)
def jU (g:Nat) (w:World) (f:Fc) (A:Option Addr) (n c:Nat) (B:Option Addr) (m d:Nat):Prop:=bJ (fun q=>q<w.heap.size/\q ≠ g) w A n c (aW f.1)/\gI (fun q=>q<w.heap.size/\q ≠ g) w B m d (f.2.map aW)/\(B=Y->d=0)
theorem gA (w:World) (b i:Nat) (u:Value):(w.setCell ⟨b,i,Y⟩ u).heap.size=w.heap.size:=by simp[World.setCell]
theorem C2 {g base sz m:Nat} {w w':World} {e:TypeId} {v:Value} {xs:List Value} (h:w.ownsRow base e sz v m xs) (hm:bE (fun q=>q=g) Y w w') (hg:g<base):w'.ownsRow base e sz v m xs:=by
 obtain⟨h1,h2⟩:=h;refine⟨h1,?_⟩;rcases h2 with h2 | ⟨b,cap,cur,hv,hb,hh,r⟩
 · exact Or.inl h2
 subst hv;exact Or.inr ⟨b,cap,cur,rfl,hb,(hm.block b (Array.getElem?_eq_some_iff.1 hh).1 aA aD).trans hh,r⟩
theorem t8 {w:World} {base n c:Nat} {A:Option Addr} {e:TypeId} {z:Nat} {xs:List Value} (h:w.ownsRow base e z (X A n c) n xs):A=Y->c=0:=by
 intro hA;rcases h.2 with⟨hv,_⟩ | ⟨g,cap,cur,hv,_⟩
 · injection hv
 injection hv with e1;rw[hA] at e1;cases e1
theorem iA {w:World} {B B':Nat} {v:Value} {l:List Nd} (h:bN w B v l) (hB:B'<=B):bN w B' v l:=by
 refine⟨h.1,?_⟩;rcases h.2 with h2 | ⟨g,cap,cur,h2,h3,h4⟩
 · exact .inl h2
 exact .inr ⟨g,cap,cur,h2,Nat.le_trans hB h3,h4⟩
theorem rA {w:World} {base base' sz n:Nat} {e:TypeId} {v:Value} {xs:List Value} (h:w.ownsRow base e sz v n xs) (hb:base'<=base):w.ownsRow base' e sz v n xs:=by
 obtain⟨hl,hc⟩:=h;refine⟨hl,?_⟩;rcases hc with h | ⟨g,cap,cur,hv,hg,rest⟩
 · exact .inl h
 exact .inr ⟨g,cap,cur,hv,Nat.le_trans hb hg,rest⟩
section
variable {lo lo' g : Nat} {w w' : World} {f : Fc} {A B : Option Addr} {n c m d : Nat}
theorem fE.base (h:fE lo w f A n c B m d) (hl:lo'<=lo):fE lo' w f A n c B m d:=by
 obtain⟨h1,xs,h2,h3⟩:=h;exact⟨h1.keep fun q hq=>⟨⟨Nat.le_trans hl hq.1,hq.2⟩,fun _=>rfl⟩,xs,rA h2 hl,bS.keep (fun q hq=>⟨⟨Nat.le_trans hl hq.1,hq.2⟩,fun _=>rfl⟩) h3⟩
theorem fE.len (h:fE lo w f A n c B m d):n=bI f.1/\m=f.2.length:=by
 obtain⟨h1,xs,h2,h3⟩:=h;exact⟨h1.len.symm,by have:=h3.len;have:=h2.1;simp at *;omega⟩
theorem fE.keep (h:fE lo w f A n c B m d) (hm:∀q,lo<=q->q<w.heap.size->w'.heap[q]? = w.heap[q]?) (hs:w.heap.size<=w'.heap.size) (hown:∀xs,w.ownsRow lo 29 1 (X B m d) m xs->w'.ownsRow lo 29 1 (X B m d) m xs):fE lo w' f A n c B m d:=by
 obtain⟨h1,xs,h2,h3⟩:=h;exact⟨h1.keep fun q hq=>⟨⟨hq.1,Nat.lt_of_lt_of_le hq.2.1 hs,hq.2.2⟩,fun o=>aQ (hm q hq.1 hq.2.1) o⟩,xs,hown xs h2,bS.keep (fun q hq=>⟨⟨hq.1,Nat.lt_of_lt_of_le hq.2.1 hs,hq.2.2⟩,fun o=>aQ (hm q hq.1 hq.2.1) o⟩) h3⟩
theorem fE.below (h:fE lo w f A n c B m d) (hb:Below w.heap.size w w'):fE lo w' f A n c B m d:=h.keep (fun q _ h=>hb.block q h) hb.size (fun _ h=>cB h hb)
theorem fE.movedG (h:fE lo w f A n c B m d) (hg:g<lo) (hm:bE (fun q=>q=g) Y w w'):fE lo w' f A n c B m d:=h.keep (fun q h1 h2=>hm.block q h2 aA aD) hm.size (fun _ h=>C2 h hm hg)
theorem fE.set (h:fE lo w f A n c B m d) {b:Nat} (hb:b<lo) (i:Nat) (u:Value):fE lo (w.setCell ⟨b,i,Y⟩ u) f A n c B m d:=h.keep (fun q h1 _=>Below.heap_setCell w ⟨b,i,Y⟩ u q (by show q ≠ b;omega)) (by rw[gA];exact Nat.le_refl _) (fun _ h=>ownsRow_setCell_below h (a:=⟨b,i,Y⟩) hb u)
theorem fE.read (h:fE lo w f A n c B m d) (hg:g<lo) (hf:m<=5864062014805):jU g w f A n c B m d:=by
 have hl:=h.len;obtain⟨h1,xs,h2,h3⟩:=h;exact⟨h1.keep fun q hq=>⟨⟨hq.2.1,by have:=hq.1;omega⟩,fun _=>rfl⟩,nN h2 (by simpa using hl.2) hf h3 (fun q hq=>⟨hq.2.1,by have:=hq.1;omega⟩) (fun q hq=>⟨(aU h2 hq).2.1,by have:=(aU h2 hq).1;omega⟩),t8 h2⟩
theorem jU.moved (h:jU g w f A n c B m d) (hm:bE (fun q=>q=g) Y w w'):jU g w' f A n c B m d:=by
 have hk:∀q,(q<w.heap.size/\q ≠ g)->(q<w'.heap.size/\q ≠ g)/\∀o,w'.cell? ⟨q,o,Y⟩=w.cell? ⟨q,o,Y⟩:=fun q hq=>⟨⟨Nat.lt_of_lt_of_le hq.1 hm.size,hq.2⟩,fun o=>aQ (hm.block q hq.1 hq.2 aD) o⟩;exact⟨h.1.keep hk,h.2.1.keep hk,h.2.2⟩
theorem jU.below (h:jU g w f A n c B m d) (hb:Below w.heap.size w w'):jU g w' f A n c B m d:=h.moved (bE.of_below hb)
theorem jU.head (h:jU g w f A n c B m d):aY w A n c (aW f.1):=h.1.keep fun _ hq=>⟨hq.1,fun _=>rfl⟩
theorem jU.args (h:jU g w f A n c B m d):gI (· < w.heap.size) w B m d (f.2.map aW):=h.2.1.keep fun _ hq=>⟨hq.1,fun _=>rfl⟩
end
def SR (f:Fc) (w:World) (e:Ending) (w':World):Prop:=Below w.heap.size w w'/\∃A n c B m d,e=.returned (.agg #[X A n c,X B m d])/\fE w.heap.size w' f A n c B m d
theorem CX {w:World} {g:Nat} {c0 c1:Value} {tmps:Array Value} (h:aS w g 78 #[c0,c1]) (ht:tmps.getD 2 undef=.pointer (some ⟨g,0,Y⟩)) :
 (results Tryz.f42 tmps).run Tryz.prog w=.ok (.agg #[c0,c1]) w:=by
 have hc:=h.cell;have a0:tmps[2]?.getD undef=.pointer (some ⟨g,0,Y⟩):=by rw[<-ht];simp
 simp[results,Tryz.results42,go_sem,a0,hc]
theorem fP {b:Bk} {free:Int} {x:TT} {A:Option Addr} {n c:Nat} {w:World} (h:aY w A n c (aW x)) (hx:bR b free x) :
 Calls Tryz.prog 42 #[X A n c] w (SR (bU x) w):=by
 have a2:=aP w (.cells #[X Y 0 0,X Y 0 0] 78);have a7:=aB a2;have a4:=aB (aS.new w 78 #[X Y 0 0,X Y 0 0]);have a0:=KA (h.below a2);rw[KC hx] at a0;have a5:=aB a0;clear a0 a2 h hx;go_in;go_wp2_with fail;refine (a5.o).mono ?_;rintro e w2 ⟨a1,A2,n2,c2,B2,m2,d2,xs,rfl,h1,h2,h3⟩;simp only at h1 h3 ⊢;have a6:=bZ a7 a1;have a3:=aB (a4.o.below a1 a4.o.lt);have HF:Hid (fE (w.alloc (.cells #[X Y 0 0,X Y 0 0] 78)).heap.size w2 (bU x) A2 n2 c2 B2 m2 d2):=aB ⟨h1,xs,h2,h3⟩;have z2:=a3.o.cell;have a8:=a3.o.frozen;clear h1 h2 h3 a1;go_wp2_with fail;refine bodyPost_ret (v:=.agg #[X A2 n2 c2,X B2 m2 d2]) (CX (g:=w.heap.size) (by have:=(a3.o.set_ 0 (X A2 n2 c2)).set_ 1 (X B2 m2 d2);simpa using this) aD) rfl ⟨?_,A2,n2,c2,B2,m2,d2,rfl,?_⟩
 · exact (a6.o.setCell (p:=⟨w.heap.size,0,Y⟩) (Nat.le_refl _) _).setCell (p:=⟨w.heap.size,1,Y⟩) (Nat.le_refl _) _
 exact (((HF.o.set (b:=w.heap.size) aD 0 _).set (b:=w.heap.size) aD 1 _)).base aD
def RP (f:Fc) (w:World) (e:Ending) (w':World):Prop:=Below w.heap.size w w'/\((dK f<=4096/\∃A n c,e=.returned (X A n c)/\bJ (fJ w w') w' A n c (aW (fI f))/\bN w' w.heap.size (X A n c) (aW (fI f)))\/(4096<dK f/\e=.panicked (oG 9)))
theorem pN {b:Bk} {free:Int} {g:Nat} {f:Fc} {A B:Option Addr} {n c m d:Nat} {w:World} (h:jU g w f A n c B m d) (hf:eH b free f) :
 Calls Tryz.prog 43 #[.agg #[X A n c,X B m d]] w (RP f w):=by
 have a4:=aP w (.cells #[X A n c,X B m d] 78);have a6:=aB a4;have b1:=aB (aS.new w 78 #[X A n c,X B m d]);have a1:=wB (h.below a4).head (h.below a4).args h.2.2;rw[AT hf.head hf.args] at a1;have z1:=b1.o.cell;have a8:dK f=bI f.1+bT f.2:=rfl;by_cases hbig:4096<bI f.1+bT f.2
 · rw[if_pos hbig] at a1;have a7:=aB a1;have a0:Hid (4096<dK f):=aB aA;clear a1 a4 h hf hbig a8;go_in;go_wp2_with fail;refine (a7.o).mono ?_;rintro e w2 ⟨a3,A2,n2,c2,rfl,a2⟩;have a5:=bZ a6 a3;clear a3 a2;go_wp2_with fail;refine (mG aE).mono ?_;rintro e w3 ⟨rfl,rfl⟩;go_wp2_with fail;exact⟨rfl,a5.o,.inr ⟨a0.o,rfl⟩⟩
 rw[if_neg hbig] at a1;have a7:=aB a1;have a0:Hid (dK f<=4096):=aB aA;clear a1 a4 h hf hbig a8;go_in;go_wp2_with fail;refine (a7.o).mono ?_;rintro e w2 ⟨a3,A2,n2,c2,rfl,a2⟩;have a5:=bZ a6 a3;simp only at a2 ⊢;have a9:=aB (iA a2 a6.o.size);have b0:=aB (nM a9.o (by have h8:=fY f;have h9:=a0.o;have h7:bI (fI f)=(aW (fI f)).length:=rfl;show (aW (eG f.1 f.2)).length<=_;have h6:fI f=eG f.1 f.2:=rfl;rw[h6] at h7 h8;omega));clear a3 a2;go_wp2_with fail;refine jW.mono ?_;rintro e w3 ⟨rfl,rfl⟩;go_wp2_with fail;go_ret;exact⟨a5.o,.inl ⟨a0.o,A2,n2,c2,rfl,b0.o,a9.o⟩⟩
theorem qV {g:Nat} {f:Fc} {A B:Option Addr} {n c m d:Nat} {w:World} (h:jU g w f A n c B m d) (hs:dK f<=100000) :
 Calls Tryz.prog 73 #[.agg #[X A n c,X B m d]] w (fun e w'=>e=.returned (O S (dK f:Int))/\Below w.heap.size w w'):=by
 have a7:=aP w (.cells #[X A n c,X B m d] 78);have b7:=aB a7;have b5:=aB (aS.new w 78 #[X A n c,X B m d]);have z1:=b5.o.cell;have hn:bI f.1=n:=h.1.len;have a9:f.2.length=m:=by have:=h.2.1.len;simpa using this
 have c0:=h.2.1.few;have HR:=aB (h.below a7).args;have b2:=aB a9;have a6:dK f=n+bT f.2:=by unfold dK;omega
 obtain⟨tot,a1⟩ : ∃t,t=dK f:=⟨_,rfl⟩;rw[<-a1] at hs a6 ⊢;have b6:=aB a6;clear a7 h hn a9 a6 a1;go_in;go_wp2_with fail;go_loopw [3,12] (fun sv iv wr=>∃i s:Nat,iv=O S (i:Int)/\sv=O S (s:Int)/\i<=m/\Hid (s+bT (f.2.drop i)=tot)/\wr=w.alloc (.cells #[X A n c,X B m d] 78)) (fun _ iv _=>m-(intOf iv).toNat)
 case atStart=>exact⟨0,n,rfl,rfl,Nat.zero_le _,aB b6.o.symm,rfl⟩
 case round =>
  obtain⟨i,s,rfl,rfl,hi,a3,rfl⟩:=hrel;by_cases hlt:i<m
  · have d1:decide ((i:Int)<(m:Int))=true:=decide_eq_true aA;have d2:decide (i<m)=true:=decide_eq_true hlt;have d3:(i:Int)<(m:Int):=aA;obtain⟨bb,oo,rfl,c2,a2⟩:=HR.o.mem aA;obtain⟨A3,n3,c3,c1,a4⟩:=a2 i hlt;have a5:i<f.2.length:=by rw[b2.o];exact hlt
    have b1:f.2.drop i=f.2[i]::f.2.drop (i+1):=List.drop_eq_getElem_cons a5;have b0:(f.2.map aW).getD i []=aW f.2[i]:=by
     rw[List.getD_eq_getElem?_getD,List.getElem?_map,List.getElem?_eq_getElem a5];rfl
    rw[b0] at a4;have a8:bI f.2[i]=n3:=a4.len;have a0:=a3.o;rw[b1] at a0;simp only[bT] at a0;rw[a8] at a0;have b4:Hid (s+(1+n3)+bT (f.2.drop (i+1))=tot):=aB aA;have b9:IntKind.i64.wrap (1+(n3:Int))=1+(n3:Int):=by rw[IntKind.wrap_i64];omega
    have b8:IntKind.i64.wrap ((s:Int)+(1+(n3:Int)))=((s+(1+n3):Nat):Int):=by rw[IntKind.wrap_i64];omega
    clear a2 a4 a5 b1 b0 a8 a0 a3;go_wp2_with fail;go_roundw
    case rel=>exact⟨i+1,s+(1+n3),by go_num,(by first | (congr 1;done) | (congr 1;omega)),by omega,b4,trivial⟩
    case measure=>simp[intOf];omega
  have d1:decide ((i:Int)<(m:Int))=false:=decide_eq_false aA;have d2:decide (i<m)=false:=decide_eq_false hlt;have b3:s=tot:=by
   have:=a3.o;rw[List.drop_of_length_le (by rw[b2.o];omega)] at this;simpa[bT] using this
  subst b3;clear a3 hlt;go_wp2_with fail;go_ret;exact⟨rfl,b7.o⟩
end
theorem J9 (w:World):(sizeOf 29).run Tryz.prog w=.ok 1 w:=by kernel_rfl
section
open Go.Lib renaming hid->aB
set_option maxHeartbeats 4000000
set_option maxRecDepth 100000
def OD (ls:List (List Nd)) (w:World) (e:Ending) (w':World):Prop:=Below w.heap.size w w'/\∃A n c xs,e=.returned (X A n c)/\w'.ownsRow w.heap.size 29 1 (X A n c) n xs/\bS (iS w.heap.size w' (X A n c)) w' xs ls
theorem kZ {A:Option Addr} {nn c:Nat} {l:List Nd} {w:World} (h:aY w A nn c l) (hs:a8 l=0) :
 Calls Tryz.prog 104 #[X A nn c] w (OD (i7 (sC l).2) w):=by
 obtain⟨_,n,ats,k,c5,c2,f3⟩:=fB hs;have b0:sC l=(n,k):=by
  unfold sC;rw[if_pos hs,c5]
 have f4:bF k<=4096:=by have:=e8 k;omega
 have c8:=aB b0;have c1:=dP h;rw[hs] at c1;have a0:∀w2,Below w.heap.size w w2->Calls Tryz.prog 130 #[X A nn c] w2 (wA n k w2):=fun w2 hb=>JU (h.below hb) hs c5;have e5:=aB c1;have a7:=aB a0;clear c1 a0 b0 hs c5 c2 h;go_in;go_wp2_with fail;refine (e5.o).mono ?_;rintro e w2 ⟨rfl,d5⟩;have b6:=aB d5;clear d5;go_wp2_with fail;refine (a7.o _ b6.o).mono ?_;rintro e w3 ⟨d4,A1,k1,A2,k2,xs1,rfl,d1,d8,hr⟩;have e9:=aB d4;have e6:=aB d1;have HR:=aB hr;clear d4 d1 d8 hr;go_wp2_with fail;go_loopw [16] (fun i wr=>∃(F1 F2:Fo) (j:Nat) (xa xb:List Value),Hid (k=F1.app F2)/\Hid (bF F1=j)/\i=O S (j:Int)/\Hid (wr.ownsRow (w2.heap.size+5) 29 1 (X A1 (bF k) k1) (bF k) (xa++xb)) ∧
  Hid (bS (iS (w2.heap.size+5) wr (X A1 (bF k) k1)) wr xa (i7 F1))/\Hid (bS (· < w2.heap.size) w2 xb (i7 F2))/\Hid (Below w2.heap.size w2 wr)) (fun i _=>bF k-(intOf i).toNat)
 case atStart=>exact⟨.nil,k,0,[],xs1,aB rfl,aB rfl,rfl,e6,aB trivial,HR,e9⟩
 case round =>
  obtain⟨F1,F2,j,xa,xb,hk,hj,rfl,a2,c3,a1,b4⟩:=hrel;cases F2 with
  | nil =>
   have c6:k=F1:=hk.o.trans (jJ F1);have d9:¬ j<bF k:=by rw[c6,hj.o];omega
   have e7:=aB c6;clear c6
   match xb,a1 with
   | _::_,a1=>exact a1.o.elim
   | [],a1 =>
   go_wp2_with fail;go_ret;rw[c8.o];refine⟨b6.o.trans (b4.o.mono b6.o.size),_,_,_,_,rfl,rA a2.o (by have:=b6.o.size;omega),?_⟩;rw[List.append_nil];have:=c3.o;rw[<-e7.o] at this;exact bS.keep (fun q hq=>⟨⟨by have:=b6.o.size;have:=hq.1;omega,hq.2⟩,fun _=>rfl⟩) this
  | cons pre nd a ks F3 =>
   have d9:j<bF k:=by rw[hk.o,bV,hj.o];simp[bF]
   match xb,a1 with
   | [],a1=>exact a1.o.elim
   | x::xb,a1 =>
   obtain⟨⟨A',n',c',rfl,ht⟩,b2⟩:=a1.o;obtain⟨_,b3⟩:=a2.o;rcases b3 with⟨_,h2⟩ | ⟨g,cap',cur,hv,hg,hh,_⟩
   · omega
   injection hv with e1 e2 e3;subst e1;subst e3;clear e2;have c0:xa.length=j:=by rw[c3.o.len,xO,hj.o]
   have b5:aS wr g 29 cur:=hh;have a5:wr.cell? ⟨g,j,Y⟩=some (X A' n' c'):=by
    have:=a2.o.cellAt (g:=g) j aA;rw[this,List.getElem?_append_right aA,c0,Nat.sub_self];rfl
   have a9:=aB (qM (ht.keep (R':=(· < wr.heap.size)) (w':=wr) fun b hb=>⟨Nat.lt_of_lt_of_le hb b4.o.size,fun o=>aQ (b4.o.block b hb) o⟩));have HG:=aB hg;have a3:=aB b5;have c9:=aB b2;have d6:=aB c0;clear hg hh b5 ht b2 c0;go_wp2_with fail;refine (a9.o).mono ?_;rintro e w4 ⟨b8,A4,n4,c4,rfl,d0⟩;have a6:aS w4 g 29 cur:=a3.o.below b8 a3.o.lt;have c7:w4.cell? ⟨g,j,Y⟩=some (X A' n' c'):=(aQ (b8.block g a3.o.lt) j).trans a5;have e0:=a6.frozen;have b9:=aB b8;have e4:=aB d0;have HZ:=aB (a3.o.lt);clear b8 d0 a5 a6;go_wp2_with fail;go_roundw
   case rel =>
    have a4:=PE (cB a2.o b9.o) j (X A4 n4 c4);rw[List.set_append_right _ _ (by have:=d6.o;omega),d6.o,Nat.sub_self,List.set_cons_zero] at a4;have f0:wr.heap.size<=w4.heap.size:=b9.o.size;have d3:∀b,b ≠ g->∀o,(w4.setCell ⟨g,j,Y⟩ (X A4 n4 c4)).cell? ⟨b,o,Y⟩=w4.cell? ⟨b,o,Y⟩:=fun b hb o=>aQ (Below.heap_setCell _ _ _ _ hb) o;have b1:(w4.setCell ⟨g,j,Y⟩ (X A4 n4 c4)).heap.size=w4.heap.size:=by simp[World.setCell]
    have d2:(Value.slice (some ⟨g,0,Y⟩) (bF k) k1).ownBlock=some g:=rfl;have d7:=b4.o.size;refine⟨F1.app (.cons pre nd a ks .nil),F3,j+1,xa++[X A4 n4 c4],xb,aB (by rw[hk.o,dG];rfl),aB (by rw[bV,hj.o];rfl),by go_num,aB ?_,aB ?_,c9,aB ?_⟩
    · rw[List.append_assoc];exact a4
    · rw[nT];refine bS.add (e4.o.keep fun b hb => ?_) (c3.o.keep fun b hb => ?_)
      · obtain⟨q1,q2⟩:=hb;have f1:=HZ.o;have f2:=HG.o;have b7:b ≠ g:=aA;exact⟨⟨by omega,by rw[b1];exact q2,by rw[d2];intro e;injection e with e;exact b7 e.symm⟩,d3 b b7⟩
      obtain⟨q1,q2,q3⟩:=hb;have b7:b ≠ g:=fun e=>q3 (by rw[d2,e]);refine⟨⟨q1,by rw[b1];omega,q3⟩,fun o => ?_⟩;rw[d3 b b7 o];exact aQ (b9.o.block b q2) o
    have:=HG.o;exact (b4.o.trans (b9.o.mono d7)).setCell aG _
   case measure=>simp[intOf];omega
theorem wT:∀(F:Fo),i7 F=(cI F).map aW
 | .nil=>rfl
 | .cons p n a k x=>by rw[iW];simp only[i7,List.map_cons,wT x];simp[row,aW]
theorem qF {b:Bk} {free:Int} {x:TT} (hx:bR b free x):i7 (sC (aW x)).2=(cI x.2.2).map aW:=by
 rw[FS hx.rt];exact wT _
structure S8 (tt:List Nd) (kk:Fo) (nb q p:Nat) (dF:Fo) (zq:List Int):Prop where
 at_:At tt p (QU (nb-q)) dF
 pl:zq++(cO dF).map (·.a)=lW kk
 len:zq.length=q
theorem lP {A:Option Addr} {n c:Nat} {x:TT} {w:World} (ht:aY w A n c (aW x)) (hy:II x) (h12:x.1.op=12) :
 Calls Tryz.prog 110 #[X A n c] w (fun e w'=>e=.returned (O S (dA x))/\Below w.heap.size w w'):=by
 have b9:=(Rt.wf hy).1;have d4:=aV.1 (by simp only[eN,Bool.and_eq_true] at b9;exact b9.1.1);obtain⟨nb,c5⟩ : ∃nb:Nat,x.1.b=(nb:Int):=⟨x.1.b.toNat,by omega⟩;obtain⟨na,c1⟩ : ∃na:Nat,x.1.a=(na:Int):=⟨x.1.a.toNat,by omega⟩;have f3:1<=nb/\nb<=4/\na<nb:=aA;have b4:At (aW x) 1 (ds x.1) x.2.2:=At.first (n:=x.1) (a:=x.2.1) (k:=x.2.2) hy aA;rw[QV h12 c5] at b4;have a0:=ht.len;have f0:n<=4096:=by rw[<-a0];exact Rt.few hy
 have d5:0<n:=by rw[<-a0];simp[aW]
 obtain⟨bf,off,rfl,e3,e0,d0,d9⟩:=ht.at_ d5;simp only[Nat.zero_mul,Nat.add_zero] at d0;rw[show bD (aW x) 0=x.1 from rfl,c1] at d0;have b5:=aB (fun (w':World) (h:Below w.heap.size w w')=>ht.below h);have b8:dA x=(lW x.2.2).getD na 0:=by unfold dA;rw[c1];rfl
 obtain⟨pt,a8⟩ : ∃z,z=dA x:=⟨_,rfl⟩;rw[<-a8] at b8 ⊢;have d1:=aB b8;obtain⟨tt,c4⟩ : ∃tt,tt=aW x:=⟨_,rfl⟩;rw[<-c4] at b4 a0 b5;have d3:=aB b4;have e5:=aB a0;obtain⟨nd,a,kk⟩:=x;simp only at d3 d1;clear b9 d4 b4 c4 ht hy h12 c5 c1 e0 d9 a0 b8 a8;go_in;go_wp2_with fail;go_loopw [3,8] (fun av iv wr=>∃(q p:Nat) (dF:Fo) (zq:List Int),av=O S (p:Int)/\iv=O S (q:Int)/\q<=na/\p<=n/\Hid (S8 tt kk nb q p dF zq)/\Hid (Below w.heap.size w wr)) (fun _ iv _=>na-(intOf iv).toNat)
 case atStart=>exact⟨0,1,kk,[],rfl,rfl,by omega,by omega,aB ⟨d3.o,rfl,rfl⟩,aB (Below.refl _ _)⟩
 case round =>
  obtain⟨q,p,dF,zq,rfl,rfl,e7,e8,hs,b3⟩:=hrel;obtain⟨a7,hZ,hL⟩:=hs.o;have b2:=yK _ a7;obtain⟨r,hr⟩ : ∃r,nb-q=r+1:=⟨nb-q-1,by omega⟩;rw[hr] at a7 b2;rw[show QU (r+1)=true::false::QU r from rfl] at a7;obtain⟨pre1,n1,a1,k1,nx1,rfl,s1⟩:=a7.step;obtain⟨pre2,n2',a2,k2,nx2,rfl,s2⟩:=s1.next.step;obtain⟨fd,rfl,c6,c0⟩:=s1.fun_ rfl;have a6:pre2.length=0:=s2.plen;obtain rfl:=List.eq_nil_of_length_eq_zero a6;have a4:=s2.next;have a3:=yK _ a4;obtain⟨e1,l1⟩:=(⟨s1.end_,s1.le⟩:_/\_);obtain⟨e2,c2',l2⟩:=(⟨s2.end_,s2.cut,s2.le⟩:_/\_/\_);simp only[List.length_cons,List.length_nil,Nat.zero_add,Nat.add_zero] at e1 l1 e2 c2' l2 a4 a3;rw[uA,uA,List.nil_append,List.singleton_append,List.map_cons] at hZ;obtain⟨y1,b7⟩ : ∃y1,y1=((n1,a1,k1):TT):=⟨_,rfl⟩;obtain⟨y2,b6⟩ : ∃y2,y2=((n2',a2,k2):TT):=⟨_,rfl⟩;rw[<-b7] at e1 l1 e2 c2' l2 a4 a3;rw[<-b6] at e2 c2' l2 a4 a3;obtain⟨g1,c3⟩ : ∃g,g=p+1+(aW y1).length:=⟨_,rfl⟩;obtain⟨g2,c2⟩ : ∃g,g=g1+(aW y2).length:=⟨_,rfl⟩;rw[<-c3] at e1 l1 e2 c2' l2 a4 a3;rw[<-c2] at e2 c2' l2 a4 a3;rw[e5.o] at l1 l2 b2 a3;have a5:0<(aW y1).length:=by simp[aW]
  rw[show ((p+1:Nat):Int)=(p:Int)+1 from by omega] at e1;obtain⟨b',o',e',_,_,a9,_⟩:=aY.at_ (b5.o w (Below.refl _ _)) (p:=p) aA;injection e' with e';injection e' with e1' e2';subst e1' e2';rw[c0] at a9;by_cases hlt:q<na
  · have b1:=aB (fun (wr:World) (h:Below w.heap.size w wr)=>jM (b5.o wr h) ((p:Int)+1));rw[e1] at b1;have b0:=aB (fun (wr:World) (h:Below w.heap.size w wr)=>jM (b5.o wr h) (g1:Int));rw[e2] at b0;have e4:Hid (S8 tt kk nb (q+1) g2 nx2 (zq++[fd.a])):=aB ⟨by rw[show nb-(q+1)=r from by omega];exact a4,by rw[List.append_assoc];exact hZ,by simp[hL]⟩;obtain⟨e9,f2,d7⟩:p+1<=g1/\g1<=g2/\g2<=n:=aA;clear a7 b2 s1 s2 a6 a4 a3 e1 l1 e2 c2' l2 b7 b6 c3 c2 hr c0 c6 a9 hZ hL a5 hs;go_wp2_with fail;refine (b1.o wr b3.o).mono ?_;rintro e w6 ⟨rfl,c9⟩;have d2:=bZ b3 c9;clear c9;go_wp2_with fail;refine (b0.o w6 d2.o).mono ?_;rintro e w7 ⟨rfl,c8⟩;have e6:=bZ d2 c8;clear c8;go_wp2_with fail;go_roundw
    case rel=>exact⟨q+1,g2,nx2,zq++[fd.a],rfl,by go_num,by omega,d7,e4,e6⟩
    case measure=>simp[intOf];omega
  obtain rfl:q=na:=aA;have c7:fd.a=pt:=by
   rw[d1.o,<-hZ,List.getD_eq_getElem?_getD,List.getElem?_append_right aA,hL,Nat.sub_self];rfl
  rw[c7] at a9;have f1:(0:Int)<=(p:Int):=aA;have d6:(p:Int)<(n:Int):=aA;have d8:=(b3.o.cell (p:=⟨bf,off+p*3+1,Y⟩) e3).trans a9;clear a7 b2 s1 s2 a6 a4 a3 e1 l1 e2 c2' l2 b7 b6 c3 c2 hr c0 c6 a9 hZ hL a5 hs hlt c7;go_wp2_with fail;go_ret;exact⟨rfl,b3.o⟩
end
theorem lB {w:World} {base j d z g:Nat} {e:TypeId} {xs:List Value} (h:w.ownsRow base e z (X (some ⟨g,0,Y⟩) j d) j xs) {i:Nat} {u:Value} (hu:xs[i]? = some u):w.cell? ⟨g,i,Y⟩=some u:=by
 have h1:=World.ownsRow.cells h (g:=g) rfl i u hu;have ea:(⟨g,0,Y⟩:Addr).add i=⟨g,i,Y⟩:=by unfold Addr.add;split<;>simp_all
 rw[ea] at h1;exact h1

section
open Go.Lib renaming hid->aB
abbrev OE (w w':World) (q:Nat):Prop:=w.heap.size<=q/\q<w'.heap.size
def QI (l:List Nd) (w:World) (e:Ending) (w':World):Prop:=Below w.heap.size w w'/\∃g c,e=.returned (X (some ⟨g,0,Y⟩) l.length c)/\bN w' w.heap.size (X (some ⟨g,0,Y⟩) l.length c) l
set_option maxRecDepth 100000 in
set_option maxHeartbeats 1000000 in
theorem D9 {A:Option Addr} {n c:Nat} {l:List Nd} {w:World} (h:aY w A n c l) (h0:0<n) :
 Calls Tryz.prog 119 #[X A n c] w (QI l w):=by
 have q22:∀(w:World) (a:Option Addr) (n c n' c':Nat),(binOp .eql 29 (X a n c) (X Y n' c')).run Tryz.prog w=.ok (.bool a.isNone) w:=fun w a n c n' c'=>Lib.run_eql_slice_nil w _ _ a n c n' c' Tryz.underlying29;cases A with
 | none =>
  have h1:=h.nul rfl;have h2:=h.cap;omega
 | some a =>
  obtain⟨i0,hi,b0,a9,a8⟩:=info_parts mN;have b4:=aB hi;have b3:=aB b0;have b2:=aB a9;have b1:=aB a8;clear hi b0 a9 a8;have a5:=h.few;have a6:=aP w (.cells #[] 46);have hm:aY (w.alloc (.cells #[] 46)) (some a) n c l:=h.below a6;have a2:bN (w.alloc (.cells #[] 46)) w.heap.size (X (some ⟨w.heap.size,0,Y⟩) 0 0) []:=World.ownsRow_made w #[] 0 (Nat.le_refl _) (Nat.zero_le _) rfl;have HM:=aB hm;have a4:=aB a2;have HB:=aB a6;have a7:=aB h.len;clear hm a2 a6 h;go_in;go_wp2_with (at_builtin;go_loud (refine bL rfl (cE (.tmp 5) (.tmp 6) 29 29 rfl w.heap.size i0 Tryz.underlying29 Tryz.underlying29 b4.o b3.o b2.o b1.o (X (some ⟨w.heap.size,0,Y⟩) 0 0) [] l rfl a4.o rfl HM.o (by simpa using a5) aD ?_));intro A4 c4 w4 a1 a3)
  go_ret;simp only[List.length_nil,Nat.zero_add,List.nil_append] at a1;have a0:bN w4 w.heap.size (X A4 l.length c4) l:=by rw[a7.o];exact a1
  rcases a0.2 with⟨_,h2⟩ | ⟨g,cap',cur,hv,_⟩
  · have:=a7.o;omega
  · injection hv with e1 e2 e3;subst e1;exact⟨HB.o.grown a3.grown HB.o.size (fun g hg=>(aU a4.o hg).1),g,c4,by rw[a7.o];simp,a0⟩
theorem PD {w:World} {base g c:Nat} {n0:Nd} {r:List Nd} (h:bN w base (X (some ⟨g,0,Y⟩) (n0::r).length c) (n0::r)) (hf:(n0::r).length<=5864062014805) (z:Int):bJ (fun q=>q=g) (w.setCell ⟨g,1,Y⟩ (O S z)) (some ⟨g,0,Y⟩) (n0::r).length c (⟨n0.op,z,n0.b⟩::r):=by
 have h0:=h;rcases h.2 with⟨hv,_⟩ | ⟨g',cap',cur,hv,hg,hh,hc,_⟩
 · cases hv
 injection hv with e1 e2 e3;injection e1 with e1;injection e1 with e1;subst e1;have hb:aS w g 46 cur:=hh;have hs:=hb.set_ 1 (O S z);refine⟨rfl,by omega,hf,(fun e=>by cases e),fun _=>⟨g,0,rfl,rfl,fun k hk => ?_⟩⟩;obtain⟨x1,x2,x3⟩:=lT (n0::r) k hk;have c1:=lB h0 x1;have c2:=lB h0 x2;have c3:=lB h0 x3;rw[hb.cell] at c1 c2 c3;rw[Nat.zero_add,hs.cell,hs.cell,hs.cell];have a0:∀j:Nat,j ≠ 1->(cur.setIfInBounds 1 (O S z))[j]? = cur[j]?:=fun j hj=>by
  rw[Array.getElem?_setIfInBounds_ne (Ne.symm hj)]
 have a1:1<cur.size:=by
  obtain⟨y1,y2,_⟩:=lT (n0::r) 0 aD;have:=lB h0 y2;rw[hb.cell] at this;exact (Array.getElem?_eq_some_iff.1 this).1
 cases k with
 | zero =>
  refine⟨by rw[a0 _ aA];exact c1,?_,by rw[a0 _ aA];exact c3⟩;rw[Nat.zero_mul,Nat.zero_add,Array.getElem?_setIfInBounds_self_of_lt a1];rfl
 | succ k =>
  refine⟨by rw[a0 _ aA];exact c1,by rw[a0 _ aA];exact c2,by rw[a0 _ aA];exact c3⟩
end

section
section
variable {w0 w w' w1 : World} {g f n c : Nat} {v : bO} {b : Bk} {A : Option Addr} {l : List Nd} {r : RV} {e : Ending}
end
end
theorem s8.arg_at {w:World} {A:Option Addr} {n c:Nat} {cs:List Ct} (h:s8 w A n c cs) {k:Nat} (hk:k<n) : ∃b off A1 n1 c1,A=some ⟨b,off,Y⟩/\b<w.heap.size/\w.cell? ⟨b,off+k*2,Y⟩=some (X A1 n1 c1)/\(cs.getD k default).args.length=n1:=by
 obtain⟨b,off,e,hb,hm⟩:=h.mem aA;obtain⟨A1,n1,c1,A2,n2,c2,h1,_,h3,_⟩:=hm k hk;exact⟨b,off,A1,n1,c1,e,hb,h1,h3.len⟩
end Go.Proofs.YtjoddliplahgkaaGreat
