/- Merged: Leaf, Leaf2, Atoms, Row, Cut, Rev, AppOne, Marks, AppZ, WalkP. -/
import Derived.Test.YtjoddliplahgkaaGreatProg
import Derived.Test.YtjoddliplahgkaaGreatPBase
import Derived.WalkLawsBesides
import Derived.WalkSpells
import Derived.Deep.QuietTactic
import Derived.BigQuiet
import Derived.Lib.SliceRun
namespace Go.Proofs.YtjoddliplahgkaaGreat
set_option linter.unusedVariables false
set_option linter.unusedSimpArgs false
open Go.RowKit
open Go.Value renaming int → O, slice → Z
open Go.IntKind renaming i64 → X
open Option renaming some → Y, none → I
open Go.Lib renaming hid->aB
set_option maxHeartbeats 2000000
set_option maxRecDepth 100000
theorem I7 (op a b:Int) (w:World) :
 Calls Tryz.prog 144 #[.agg #[O X op,O X a,O X b]] w fun e w'=>e=.returned (.bool (decide (0<=a)&&decide (a<64)))/\w.alloc (.cells #[O X op,O X a,O X b] 46)=w':=by
 go_in;go_wp2
 all_goals
  go_ret;exact⟨fH aH,rfl⟩
def IG (op a b:Int) (w:World) (e:Ending) (w':World):Prop:=e=.returned (.bool (cD op a b))/\Below w.heap.size w w'
theorem fZ (op a b:Int) (w:World) :
 Calls Tryz.prog 131 #[.agg #[O X op,O X a,O X b]] w (IG op a b w):=by
 by_cases h:1<=op/\op<=13
 · obtain⟨h0,a0⟩:=h;obtain⟨k,rfl⟩:=Int.eq_ofNat_of_zero_le (by omega:0<=op);have:k=1\/k=2\/k=3\/k=4\/k=5\/k=6\/k=7\/k=8\/k=9\/k=10\/k=11\/k=12\/k=13:=aA;clear h0 a0;rcases this with rfl | rfl | rfl | rfl | rfl | rfl | rfl | rfl | rfl | rfl | rfl | rfl | rfl;all_goals
    go_in;go_wp2_with (go_at_call 144;refine (I7 _ _ _ _).mono ?_;rintro e w' ⟨rfl,rfl⟩)
    all_goals
     go_ret;refine⟨fH ?_,by first | exact aP _ _ | exact a7 _ _ _⟩;rw[Bool.eq_iff_iff];simp[cD];try omega
 have b1:(op==1)=false:=beq_eq_false_iff_ne.2 aA;have b2:(op==2)=false:=beq_eq_false_iff_ne.2 aA;have b3:(op==3)=false:=beq_eq_false_iff_ne.2 aA;have b4:(op==4)=false:=beq_eq_false_iff_ne.2 aA;have b5:(op==5)=false:=beq_eq_false_iff_ne.2 aA;have b6:(op==6)=false:=beq_eq_false_iff_ne.2 aA;have b7:(op==7)=false:=beq_eq_false_iff_ne.2 aA;have b8:(op==8)=false:=beq_eq_false_iff_ne.2 aA;have b9:(op==9)=false:=beq_eq_false_iff_ne.2 aA;have b10:(op==10)=false:=beq_eq_false_iff_ne.2 aA;have b11:(op==11)=false:=beq_eq_false_iff_ne.2 aA;have b12:(op==12)=false:=beq_eq_false_iff_ne.2 aA;have b13:(op==13)=false:=beq_eq_false_iff_ne.2 aA;have hp:cD op a b=false:=by
  simp only[cD];repeat rw[if_neg aA]
 have HP:=aB hp;clear hp h;go_in;go_wp2
 go_ret;exact⟨fH HP.o.symm,aP _ _⟩
theorem eL (n lo hi:Int) (w:World) :
 Calls Tryz.prog 122 #[O X n,O X lo,O X hi] w fun e w'=>e=.returned (.bool (decide (lo<=n)&&decide (n<=hi)))/\w=w':=by
 go_in;go_wp2
 all_goals
  go_ret;exact⟨fH aH,rfl⟩
theorem pT (op a b:Int) (w:World) (hb : -1000<=b/\b<=1000) :
 Calls Tryz.prog 133 #[.agg #[O X op,O X a,O X b]] w fun e w'=>e=.returned (O X (dY op b))/\w.alloc (.cells #[O X op,O X a,O X b] 46)=w':=by
 obtain⟨a1,a0⟩:=hb;by_cases h:op=4\/op=5\/op=6\/op=7\/op=11\/op=12\/op=13
 · rcases h with rfl | rfl | rfl | rfl | rfl | rfl | rfl;all_goals
    go_in;go_wp2
    all_goals
     go_ret;refine⟨cT ?_,rfl⟩;simp[dY]
 ·
  have b4:(op==4)=false:=beq_eq_false_iff_ne.2 aA;have b5:(op==5)=false:=beq_eq_false_iff_ne.2 aA;have b6:(op==6)=false:=beq_eq_false_iff_ne.2 aA;have b7:(op==7)=false:=beq_eq_false_iff_ne.2 aA;have b11:(op==11)=false:=beq_eq_false_iff_ne.2 aA;have b12:(op==12)=false:=beq_eq_false_iff_ne.2 aA;have b13:(op==13)=false:=beq_eq_false_iff_ne.2 aA;have hp:dY op b=0:=by
   simp only[dY];repeat rw[if_neg aA]
  have HP:=aB hp;clear hp h;go_in;go_wp2
  go_ret;exact⟨cT HP.o.symm,rfl⟩
theorem rU (op a b k:Int) (w:World) :
 Calls Tryz.prog 143 #[.agg #[O X op,O X a,O X b],O X k] w fun e w'=>e=.returned (O X (eO op k))/\w.alloc (.cells #[O X op,O X a,O X b] 46)=w':=by
 by_cases h:op=4\/op=5\/op=7
 · rcases h with rfl | rfl | rfl;all_goals
    by_cases k1:k=1
    · subst k1;go_in;go_wp2
      all_goals
       go_ret;refine⟨cT ?_,rfl⟩;simp[eO]
    by_cases k2:k=2
    · subst k2;go_in;go_wp2
      all_goals
       go_ret;refine⟨cT ?_,rfl⟩;simp[eO]
    have c1:(k==1)=false:=beq_eq_false_iff_ne.2 k1;have c2:(k==2)=false:=beq_eq_false_iff_ne.2 k2;have K1:=aB k1;have K2:=aB k2;clear k1 k2;go_in;go_wp2
    all_goals
     go_ret;refine⟨cT ?_,rfl⟩;simp[eO,K1.o,K2.o]
 ·
  have b4:(op==4)=false:=beq_eq_false_iff_ne.2 aA;have b5:(op==5)=false:=beq_eq_false_iff_ne.2 aA;have b7:(op==7)=false:=beq_eq_false_iff_ne.2 aA;have hp:eO op k=0:=by
   simp only[eO];rw[if_neg aA]
  have HP:=aB hp;clear hp h;go_in;go_wp2
  go_ret;exact⟨cT HP.o.symm,rfl⟩
theorem jV (op a b k:Int) (w:World) (hk:0<=k) :
 Calls Tryz.prog 125 #[.agg #[O X op,O X a,O X b],O X k] w fun e w'=>e=.returned (O X (aR op b k))/\w.alloc (.cells #[O X op,O X a,O X b] 46)=w':=by
 by_cases h:op=4\/op=5\/op=7\/op=12
 · rcases h with rfl | rfl | rfl | rfl;iterate 3
    by_cases k1:k=1
    · subst k1;go_in;go_wp2
      all_goals
       go_ret;refine⟨cT ?_,rfl⟩;simp[aR]
    · by_cases k2:k=2
      · subst k2;go_in;go_wp2
        all_goals
         go_ret;refine⟨cT ?_,rfl⟩;simp[aR]
      have c1:(k==1)=false:=beq_eq_false_iff_ne.2 k1;have c2:(k==2)=false:=beq_eq_false_iff_ne.2 k2;have K1:=aB k1;have K2:=aB k2;clear k1 k2;go_in;go_wp2
      all_goals
       go_ret;refine⟨cT ?_,rfl⟩;simp[aR,K1.o,K2.o]
   by_cases k1:k % 2=1
   · have c1:(k % 2==1)=true:=beq_iff_eq.2 k1;have K1:=aB k1;clear k1;go_in;go_wp2
     all_goals
      go_ret;refine⟨cT ?_,rfl⟩;simp[aR,K1.o]
   have c1:(k % 2==1)=false:=beq_eq_false_iff_ne.2 k1;have K1:=aB k1;clear k1;go_in;go_wp2
   all_goals
    go_ret;refine⟨cT ?_,rfl⟩;simp[aR,K1.o]
 ·
  have b4:(op==4)=false:=beq_eq_false_iff_ne.2 aA;have b5:(op==5)=false:=beq_eq_false_iff_ne.2 aA;have b7:(op==7)=false:=beq_eq_false_iff_ne.2 aA;have b12:(op==12)=false:=beq_eq_false_iff_ne.2 aA;have hp:aR op b k=0:=by
   simp only[aR];rw[if_neg aA,if_neg aA]
  have HP:=aB hp;clear hp h;go_in;go_wp2
  go_ret;exact⟨cT HP.o.symm,rfl⟩
def eF (n:Int) (w:World) (e:Ending) (w':World):Prop:=e=.returned (O X n)/\Below w.heap.size w w'
theorem IM {A:Option Addr} {n c:Nat} {l:List Nd} {w:World} (h:aY w A n c l) (a0 b0:Int) (p0 k:Nat) (ha0:a0=p0) (hb0:b0=k) (hp0:p0<=n) (hk:k<=1000) :
 Calls Tryz.prog 132 #[Z A n c,O X a0,O X b0] w (eF (pW (jA k (-1) l p0)) w):=by
 have a9:=h.few;subst ha0 hb0;go_in;go_wp2
 go_loopw [1,7,9] (fun a t i wr=>∃(p j:Nat) (last:Int),p<=n/\j<=k/\a=O X p/\t=O X last/\i=O X j/\jA (k-j) last l p=jA k (-1) l p0/\Below w.heap.size w wr) (fun _ _ i _=>k-(intOf i).toNat)
 case atStart=>exact⟨p0,0,-1,hp0,Nat.zero_le _,rfl,rfl,rfl,by rw[Nat.sub_zero],Below.refl _ _⟩
 case round =>
  obtain⟨p,j,last,hp,hj,rfl,rfl,rfl,he,a1⟩:=hrel;have HE:=aB he;clear he;have h':=h.below a1;by_cases hlt:j<k;rotate_left
  · go_wp2
    go_ret;refine⟨cT ?_,a1⟩;rw[<-HE.o,show k-j=0 from by omega];rfl
  have a2:jA (k-j) last l p=if p<l.length/\(bD l p).op=3/\cD (bD l p).op (bD l p).a (bD l p).b=true/\last<(bD l p).a then jA (k-(j+1)) (bD l p).a l (p+1) else I:=by
   rw[show k-j=(k-(j+1))+1 from by omega];rfl
  have HS:=aB a2;clear a2;by_cases hpn:p<n;rotate_left
  · go_wp2
    go_ret;refine⟨cT ?_,a1⟩;rw[<-HE.o,HS.o,if_neg (fun hh=>hpn (by rw[<-h.len];exact hh.1))];rfl
  obtain⟨b,off,rfl,hb,c0,c1,c2⟩:=h'.at_ hpn;by_cases hop:(bD l p).op=3;rotate_left
  · have a8:((bD l p).op != 3)=true:=by simp[hop]
    have a5:=aB hop;clear hop;go_wp2
    go_ret;refine⟨cT ?_,a1⟩;rw[<-HE.o,HS.o,if_neg (fun hh=>a5.o hh.2.1)];rfl
  have a8:((bD l p).op != 3)=false:=by simp[hop]
  have a5:=aB hop;clear hop;cases hpl:cD (bD l p).op (bD l p).a (bD l p).b
  · go_wp2_with (go_at_call 131;refine (fZ _ _ _ _).mono ?_;rintro e w1 ⟨rfl,a3⟩;obtain⟨a7,a6⟩:=lZ a3)
    go_ret;refine⟨cT ?_,a1.trans (a3.mono a1.size)⟩;rw[<-HE.o,HS.o,if_neg (fun hh=>by rw[hpl] at hh;cases hh.2.2.1)];rfl
  by_cases hla:last<(bD l p).a
  · have a4:decide ((bD l p).a<=last)=false:=by simp;omega
    go_wp2_with (go_at_call 131;refine (fZ _ _ _ _).mono ?_;rintro e w1 ⟨rfl,a3⟩;obtain⟨a7,a6⟩:=lZ a3)
    go_roundw
    case rel=>exact⟨p+1,j+1,(bD l p).a,hpn,hlt,by go_num,rfl,by go_num,by rw[<-HE.o,HS.o,if_pos ⟨by rw[h.len];exact hpn,a5.o,hpl,hla⟩],a1.trans (a3.mono a1.size)⟩
    case measure=>simp[intOf];omega
  have a4:decide ((bD l p).a<=last)=true:=by simp;omega
  go_wp2_with (go_at_call 131;refine (fZ _ _ _ _).mono ?_;rintro e w1 ⟨rfl,a3⟩;obtain⟨a7,a6⟩:=lZ a3)
  go_ret;refine⟨cT ?_,a1.trans (a3.mono a1.size)⟩;rw[<-HE.o,HS.o,if_neg (fun hh=>by have:=hh.2.2.2;omega)];rfl
theorem mN:(Tryz.prog.info? 46).map (fun i=>(i.zero,i.size,i.bytes))=Y (Y (.agg #[O X 0,O X 0,O X 0]),3,24):=by kernel_rfl
def lL (l:List Nd) (w:World) (e:Ending) (w':World):Prop:=Below w.heap.size w w'/\∃A n c,e=.returned (Z A n c)/\bJ (fJ w w') w' A n c l
theorem bJ.cutAt {R:Nat->Prop} {w:World} {A:Option Addr} {n c:Nat} {l:List Nd} (h:bJ R w A n c l) {k:Nat} (hk:k<=n) :
 bJ R w (if c=k then A else A.map (·.add (k*3))) (n-k) (c-k) (l.drop k):=by
 refine⟨by rw[List.length_drop,h.len],by have:=h.cap;omega,by have:=h.few;omega,fun e => ?_,fun hn => ?_⟩
 · split at e
   · omega
   have:=h.nul (by simpa using e);omega
 obtain⟨b,off,rfl,hb,hc⟩:=h.mem aA;have:=h.cap;rw[if_neg aA];refine⟨b,off+k*3,?_,hb,?_⟩
 · simp only[Option.map_some,Addr.add];split
   · rename_i h0;rw[h0,Nat.add_zero]
   rfl
 intro j hj;rw[List.length_drop,h.len] at hj;rw[mQ];have:=hc (k+j) (by rw[h.len];omega)
 rwa [Nat.add_mul,<-Nat.add_assoc] at this
theorem bJ.frontAt {R:Nat->Prop} {w:World} {A:Option Addr} {n c:Nat} {l:List Nd} (h:bJ R w A n c l) {k:Nat} (hk:k<=n):bJ R w A k c (l.take k):=by
 refine⟨by rw[List.length_take,h.len];omega,by have:=h.cap;omega,by have:=h.few;omega,h.nul,fun hn => ?_⟩;obtain⟨b,off,e,hb,hc⟩:=h.mem aA;refine⟨b,off,e,hb,?_⟩;intro j hj;rw[List.length_take] at hj;rw[MO aA];exact hc j aA
theorem xY (w:World):(sizeOf 46).run Tryz.prog w=.ok 3 w:=by kernel_rfl
theorem kV (A:Option Addr) (n c k:Nat) (hk:k<=n) : ∃A',(∀w:World,(Instr.slice 29 (Z A n c) (Y (O X (k:Int))) I I).run Tryz.prog w=.ok (Z A' (n-k) (c-k)) w) ∧
 ∀(R:Nat->Prop) (w:World) (l:List Nd),bJ R w A n c l->bJ R w A' (n-k) (c-k) (l.drop k):=by
 refine⟨if c=k then A else A.map (·.add (k*3)),fun w => ?_,fun R w l h=>h.cutAt hk⟩;rw[run_slice_l w 29 A n c aC .i64 (k:Int) aA aA];have e:Tryz.prog.elem 29=46:=by kernel_rfl
 rw[e,xY];rfl
theorem yX (A:Option Addr) (n c j k:Nat) (hj:j<=k) (hk:k<=n) (hc:n<=c) : ∃A',(∀w:World,(Instr.slice 29 (Z A n c) (Y (O X (j:Int))) (Y (O X (k:Int))) I).run Tryz.prog w=.ok (Z A' (k-j) (c-j)) w) ∧
 ∀(R:Nat->Prop) (w:World) (l:List Nd),bJ R w A n c l->bJ R w A' (k-j) (c-j) ((l.take k).drop j):=by
 refine⟨if c=j then A else A.map (·.add (j*3)),fun w => ?_,fun R w l h=>(h.frontAt hk).cutAt hj⟩;rw[run_slice_lh w 29 A n c aC .i64 .i64 (j:Int) (k:Int) aA aA aA];have e:Tryz.prog.elem 29=46:=by kernel_rfl
 rw[e,xY];rfl
theorem pY {w:World} {base g n c:Nat} {e:TypeId} {xs:List Value} (h:w.ownsRow base e 1 (Z (Y ⟨g,0,I⟩) n c) n xs) (i:Nat) (u:Value):(w.setCell ⟨g,i,I⟩ u).ownsRow base e 1 (Z (Y ⟨g,0,I⟩) n c) n (xs.set i u):=by
 obtain⟨hl,hc⟩:=h;refine⟨by simpa using hl,.inr ?_⟩;rcases hc with⟨h1,_⟩ | ⟨g',cap,cur,hv,hg,hh,h1,h2,h3,h4⟩
 · cases h1
 injection hv with e1 e2 e3;injection e1 with e1;injection e1 with e1;subst e1 e3;refine⟨g,c,cur.setIfInBounds i u,rfl,hg,?_,h1,h2,by simpa using h3,?_⟩
 · have hb:aS w g e cur:=hh;exact hb.set_ i u
 rw[Array.toList_setIfInBounds,List.take_set,h4]
structure OG (xs l:List Value) (i:Nat):Prop where
 len:l.length=xs.length
 at_:∀p,p<xs.length->l[p]? = if p<i\/xs.length<=p+i then xs[xs.length-1-p]? else xs[p]?
theorem OG.start (xs:List Value):OG xs xs 0:=⟨rfl,fun p hp=>by rw[if_neg aA]⟩
theorem OG.step {xs l:List Value} {i j:Nat} {u v:Value} (h:OG xs l i) (hij:i<j) (hj:j+i+1=xs.length) (hu:l[i]? = Y u) (hv:l[j]? = Y v):OG xs ((l.set i v).set j u) (i+1):=by
 have hl:=h.len;refine⟨by simpa using hl,fun p hp => ?_⟩;have hi:=h.at_ i aA;have a0:=h.at_ j aA;rw[if_neg aA] at hi a0;rw[hu] at hi;rw[hv] at a0;rw[List.getElem?_set,List.getElem?_set];by_cases e1:j=p
 · subst e1;rw[if_pos rfl,if_pos aG,if_pos aA,show xs.length-1-j=i from by omega,<-hi]
 rw[if_neg e1];by_cases e2:i=p
 · subst e2;rw[if_pos rfl,if_pos aA,if_pos aA,show xs.length-1-i=j from by omega,<-a0]
 rw[if_neg e2,h.at_ p hp];by_cases e3:p<i\/xs.length<=p+i
 · rw[if_pos e3,if_pos aA]
 rw[if_neg e3,if_neg aA]
theorem OG.fin {xs l:List Value} {i:Nat} (h:OG xs l i) (hi:xs.length<=2*i+1):l=xs.reverse:=by
 apply List.ext_getElem?;intro p;by_cases hp:p<xs.length
 · rw[h.at_ p hp,List.getElem?_reverse hp];by_cases e:p<i\/xs.length<=p+i
   · rw[if_pos e]
   rw[if_neg e];congr 1;omega
 rw[List.getElem?_eq_none (by rw[h.len];omega),List.getElem?_eq_none aG]
theorem fV (W:World) (g k:Nat) (v:Value):W.grownBy (W.setCell ⟨g,k,I⟩ v) (Y g) :=
 ⟨rfl,rfl,rfl,by simp,fun i _ h2=>Below.heap_setCell _ _ _ _ (fun e=>h2 (by rw[e]))⟩
def OF (base:Nat) (A:Option Addr) (n c:Nat) (xs:List Value) (w:World) (e:Ending) (w':World):Prop:=e=.returned (.tuple #[])/\w'.ownsRow base 29 1 (Z A n c) n xs.reverse/\w.grownBy w' (Value.slice A n c).ownBlock
theorem CY {A:Option Addr} {n c base:Nat} {xs:List Value} {w:World} (h:w.ownsRow base 29 1 (Z A n c) n xs) (hf:n<=1000000) (hxs:∀x ∈ xs,∃A' n' c',x=Z A' n' c') :
 Calls Tryz.prog 120 #[Z A n c] w (OF base A n c xs w):=by
 have b2:xs.length=n:=by have:=h.1;omega
 have H:=aB h;have a9:=aB hxs;clear h hxs;go_in;go_wp2_with fail;go_loopw [2,3] (fun iv jv wr=>∃(i:Nat) (l:List Value),iv=O X (i:Int)/\jv=O X ((n:Int)-1-(i:Int))/\2*i<=n+1/\Hid (OG xs l i)/\Hid (wr.ownsRow base 29 1 (Z A n c) n l)/\Hid (w.grownBy wr (Value.slice A n c).ownBlock)) (fun i _ _=>n-(intOf i).toNat)
 case atStart=>exact⟨0,xs,rfl,by go_num,by omega,aB (OG.start xs),H,aB (World.grownBy.refl _ _)⟩
 case round =>
  obtain⟨i,l,rfl,rfl,hi,a2,a0,a7⟩:=hrel;by_cases hlt:(i:Int)<(n:Int)-1-(i:Int);rotate_left
  · have HE:=aB (a2.o.fin aA);go_wp2_with fail;go_end0
    refine⟨rfl,?_,a7.o⟩;rw[<-HE.o];exact a0.o
  obtain⟨j,hj⟩ : ∃j:Nat,j+i+1=n:=⟨n-1-i,by omega⟩;have a6:(n:Int)-1-(i:Int)=(j:Int):=aA;have b0:i<j:=aA;have b3:j<n:=aA;obtain⟨u,hu⟩ : ∃u,l[i]? = Y u:=⟨_,List.getElem?_eq_getElem (by rw[a2.o.len];omega)⟩;obtain⟨v,hv⟩ : ∃v,l[j]? = Y v:=⟨_,List.getElem?_eq_getElem (by rw[a2.o.len];omega)⟩;have a1:∀p x,l[p]? = Y x->x ∈ xs:=fun p x hp=>by
   have a5:=(List.getElem?_eq_some_iff.1 hp).1;rw[a2.o.len] at a5;rw[a2.o.at_ p a5] at hp;split at hp<;>exact List.mem_of_getElem? hp
  obtain⟨Au,nu,cu,rfl⟩:=a9.o _ (a1 _ _ hu);obtain⟨Av,nv,cv,rfl⟩:=a9.o _ (a1 _ _ hv);have a8:=a2.o.step b0 aA hu hv;obtain⟨_,a3⟩:=a0.o;rcases a3 with⟨_,h2⟩ | ⟨g,cap',cur,he,hg,hh,_⟩
  · omega
  injection he with e1 e2 e3;subst e1;subst e3;clear e2;have a4:aS wr g 29 cur:=hh;have b6:wr.cell? ⟨g,i,I⟩=Y (Z Au nu cu):=by rw[a0.o.cellAt i aA,hu]
  have b5:wr.cell? ⟨g,j,I⟩=Y (Z Av nv cv):=by rw[a0.o.cellAt j aA,hv]
  have b4:=aS.frozen a4;have b1:=aB a8;rw[a6];clear hu hv a1 a8 hh a4 a6;go_wp2_with fail;go_region
  go_wp2_with fail;have h3:w.grownBy ((wr.setCell ⟨g,i,I⟩ (Z Av nv cv)).setCell ⟨g,j,I⟩ (Z Au nu cu)) (Y g) :=
   (World.grownBy.trans (show w.grownBy wr (Y g) from a7.o) (fV wr g i _)).trans (fV _ g j _)
  have H3:=aB h3;clear h3;go_roundw
  case rel=>exact⟨i+1,(l.set i (Z Av nv cv)).set j (Z Au nu cu),by go_num,by go_num,by omega,b1,aB (pY (pY a0.o i (Z Av nv cv)) j (Z Au nu cu)),aB ⟨H3.o.os,H3.o.tape,H3.o.output,H3.o.size,H3.o.block⟩⟩
  case measure=>simp[intOf];omega
theorem jC {P:Program} {o:Oper} {a:Act} {w:World} {K:Act->World->Prop} {Q:Exit->Act->World->Prop}
 (s x:Operand) (t e:TypeId) (hop:o.op=Op.call { callee:=Callee.builtin Builtin.append,args:=#[s,x],argTypes:=#[t,t] })
 (base:Nat) (i:TypeInfo) (z:Value) (bytes:Nat) (h1:P.underlying t=Y (.slice e)) (h2:P.info? e=Y i) (h3:i.zero=Y z) (h4:i.size=1) (h5:i.bytes=bytes) (h6:z.cells.size=1) (hby:bytes<=24)
 (v:Value) (n:Nat) (xs:List Value) (u:Value) (hone:u.oneCell'=true) (W:World) (hW:w=W.alloc (.cells #[u] e)) (hs:a.eval s=v) (hown:W.ownsRow base e 1 v n xs)
 (g:Nat) (hx:a.eval x=Z (Y ⟨g,0,I⟩) 1 1) (hgW:g=W.heap.size) (b1:n+1<=1000000000) (b3:base<=W.heap.size)
 (hK:∀A' c' w',fD W w' base e 1 v A' (n+1) c' (xs++[u])->K (a.put o.dst (Z A' (n+1) c')) w'):Oper.wp P o a w K Q:=by
 subst hW;subst hgW;refine eE s x t hop base _ i _ 1 bytes h1 h2 h3 h4 h5 h6 aE v n xs hs (World.ownsRow.alloc hown _) _ 1 1 [u] hx aD (fun e=>by cases e) (fun ad e j u' hu => ?_) (fun q hq=>by simp at hq;subst hq;exact hone) aJ ?_ aG ?_
 · injection e with e;subst e;have ea:(⟨W.heap.size,0,I⟩:Addr).add j=⟨W.heap.size,j,I⟩:=by unfold Addr.add;split<;>simp_all
   rw[ea,World.cell?_alloc_new,<-hu];simp
 · exact Nat.le_trans (Nat.mul_le_mul b1 hby) aE
 intro A' c' w' h;refine hK A' c' w' ⟨h.own,?_,fun g hg=>(h.new g hg).imp id (fun hh=>by simp at hh;omega)⟩;refine⟨h.grown.os,h.grown.tape,h.grown.output,Nat.le_trans aD h.grown.size,fun k hk hne => ?_⟩;rw[h.grown.block k aG hne];exact Below.heap_alloc _ _ _ hk


section
structure cW (σ:Type) where
 em:σ->Nd->Int->List Nd
 nx:σ->Nd->Int->σ
 ok:σ->Nd->Int->Bool
 dm:σ->Nd->Int->Prop
section
variable {σ : Type} (V : cW σ)
def cW.S (pop pb:Int):Nat->Int->σ->Fo->σ
 | _,_,s,.nil=>s
 | j,a,s,.cons _ n _ k x=>cW.S pop pb (j+1) a (cW.S n.op n.b 0 (a+aR pop pb j) (V.nx s n (a+aR pop pb j)) k) x
def cW.E (pop pb:Int):Nat->Int->σ->Fo->List Nd
 | _,_,_,.nil=>[]
 | j,a,s,.cons p n at' k x=>p++(V.em s n (a+aR pop pb j)++(at'++(cW.E n.op n.b 0 (a+aR pop pb j) (V.nx s n (a+aR pop pb j)) k++cW.E pop pb (j+1) a (V.S n.op n.b 0 (a+aR pop pb j) (V.nx s n (a+aR pop pb j)) k) x)))
def cW.G (pop pb:Int):Nat->Int->σ->Fo->Bool
 | _,_,_,.nil=>true
 | j,a,s,.cons _ n _ k x=>V.ok s n (a+aR pop pb j)&&(cW.G n.op n.b 0 (a+aR pop pb j) (V.nx s n (a+aR pop pb j)) k&&cW.G pop pb (j+1) a (V.S n.op n.b 0 (a+aR pop pb j) (V.nx s n (a+aR pop pb j)) k) x)
def cW.D (pop pb:Int):Nat->Int->σ->Fo->Prop
 | _,_,_,.nil=>True
 | j,a,s,.cons _ n _ k x=>V.dm s n (a+aR pop pb j)/\cW.D n.op n.b 0 (a+aR pop pb j) (V.nx s n (a+aR pop pb j)) k/\cW.D pop pb (j+1) a (V.S n.op n.b 0 (a+aR pop pb j) (V.nx s n (a+aR pop pb j)) k) x
theorem cW.S_app (pop pb:Int) : ∀(j:Nat) (a:Int) (s:σ) (F G:Fo),V.S pop pb j a s (F.app G)=V.S pop pb (j+bF F) a (V.S pop pb j a s F) G
 | _,_,_,.nil,G=>by simp[Fo.app,cW.S,bF]
 | j,a,s,.cons p n at' k x,G=>by
  simp only[Fo.app,cW.S,bF];rw[cW.S_app pop pb (j+1) a _ x G,show j+1+bF x=j+(bF x+1) from by omega]
theorem cW.E_app (pop pb:Int) : ∀(j:Nat) (a:Int) (s:σ) (F G:Fo),V.E pop pb j a s (F.app G)=V.E pop pb j a s F++V.E pop pb (j+bF F) a (V.S pop pb j a s F) G
 | _,_,_,.nil,G=>by simp[Fo.app,cW.E,cW.S,bF]
 | j,a,s,.cons p n at' k x,G=>by
  simp only[Fo.app,cW.E,cW.S,bF];rw[cW.E_app pop pb (j+1) a _ x G,show j+1+bF x=j+(bF x+1) from by omega];simp only[List.append_assoc]
theorem cW.G_app (pop pb:Int) : ∀(j:Nat) (a:Int) (s:σ) (F G:Fo),V.G pop pb j a s (F.app G)=(V.G pop pb j a s F&&V.G pop pb (j+bF F) a (V.S pop pb j a s F) G)
 | _,_,_,.nil,G=>by simp[Fo.app,cW.G,cW.S,bF]
 | j,a,s,.cons p n at' k x,G=>by
  simp only[Fo.app,cW.G,cW.S,bF];rw[cW.G_app pop pb (j+1) a _ x G,show j+1+bF x=j+(bF x+1) from by omega];simp only[Bool.and_assoc]
theorem cW.D_app (pop pb:Int) : ∀(j:Nat) (a:Int) (s:σ) (F G:Fo),V.D pop pb j a s (F.app G) ↔ V.D pop pb j a s F/\V.D pop pb (j+bF F) a (V.S pop pb j a s F) G
 | _,_,_,.nil,G=>by simp[Fo.app,cW.D,cW.S,bF]
 | j,a,s,.cons p n at' k x,G=>by
  simp only[Fo.app,cW.D,cW.S,bF];rw[cW.D_app pop pb (j+1) a _ x G,show j+1+bF x=j+(bF x+1) from by omega];simp only[and_assoc]
def cW.S1 (a:Int) (s:σ) (n:Nd) (k:Fo):σ:=V.S n.op n.b 0 a (V.nx s n a) k
def cW.E1 (a:Int) (s:σ) (n:Nd) (at':List Nd) (k:Fo):List Nd:=V.em s n a++(at'++V.E n.op n.b 0 a (V.nx s n a) k)
def cW.G1 (a:Int) (s:σ) (n:Nd) (k:Fo):Bool:=V.ok s n a&&V.G n.op n.b 0 a (V.nx s n a) k
def cW.D1 (a:Int) (s:σ) (n:Nd) (k:Fo):Prop:=V.dm s n a/\V.D n.op n.b 0 a (V.nx s n a) k
theorem cW.S_cons (pop pb:Int) (j:Nat) (a:Int) (s:σ) (p:List Nd) (n:Nd) (at':List Nd) (k x:Fo):V.S pop pb j a s (.cons p n at' k x)=V.S pop pb (j+1) a (V.S1 (a+aR pop pb j) s n k) x:=rfl
theorem cW.E_cons (pop pb:Int) (j:Nat) (a:Int) (s:σ) (p:List Nd) (n:Nd) (at':List Nd) (k x:Fo):V.E pop pb j a s (.cons p n at' k x)=p++(V.E1 (a+aR pop pb j) s n at' k++V.E pop pb (j+1) a (V.S1 (a+aR pop pb j) s n k) x):=by
 simp only[cW.E,cW.E1,cW.S1,List.append_assoc]
theorem cW.G_cons (pop pb:Int) (j:Nat) (a:Int) (s:σ) (p:List Nd) (n:Nd) (at':List Nd) (k x:Fo):V.G pop pb j a s (.cons p n at' k x)=(V.G1 (a+aR pop pb j) s n k&&V.G pop pb (j+1) a (V.S1 (a+aR pop pb j) s n k) x):=by
 simp only[cW.G,cW.G1,cW.S1,Bool.and_assoc]
theorem cW.D_cons (pop pb:Int) (j:Nat) (a:Int) (s:σ) (p:List Nd) (n:Nd) (at':List Nd) (k x:Fo):V.D pop pb j a s (.cons p n at' k x) ↔ V.D1 (a+aR pop pb j) s n k/\V.D pop pb (j+1) a (V.S1 (a+aR pop pb j) s n k) x:=by
 simp only[cW.D,cW.D1,cW.S1,and_assoc]
end
structure bE (S:Nat->Prop) (row:Option Nat) (w w':World):Prop where
 os:w'.os=w.os
 tape:w'.tape=w.tape
 output:w'.output=w.output
 size:w.heap.size<=w'.heap.size
 block:∀k,k<w.heap.size->¬ S k->Y k ≠ row->w'.heap[k]? = w.heap[k]?
section
variable {S S' : Nat->Prop} {row row' : Option Nat} {w w' w'' : World}
theorem bE.refl (S:Nat->Prop) (row:Option Nat) (w:World):bE S row w w:=⟨rfl,rfl,rfl,Nat.le_refl _,fun _ _ _ _=>rfl⟩
theorem bE.mono (h:bE S row w w') (hS:∀k,S k->S' k):bE S' row w w':=⟨h.os,h.tape,h.output,h.size,fun k hk hs hr=>h.block k hk (fun x=>hs (hS k x)) hr⟩
theorem bE.trans (h:bE S row w w') (h':bE S row' w' w'') (hr:∀g,row'=Y g->row=Y g\/w.heap.size<=g):bE S row w w'' :=
 ⟨h'.os.trans h.os,h'.tape.trans h.tape,h'.output.trans h.output,Nat.le_trans h.size h'.size,fun k hk hs hn =>
  (h'.block k (Nat.lt_of_lt_of_le hk h.size) hs (fun e=>by
   rcases hr k e.symm with h1 | h1
   · exact hn h1.symm
   · omega)).trans (h.block k hk hs hn)⟩
theorem bE.of_below (h:Below w.heap.size w w'):bE S row w w':=⟨h.os,h.tape,h.output,h.size,fun k hk _ _=>h.block k hk⟩
theorem bE.of_grown (h:w.grownBy w' row):bE S row w w':=⟨h.os,h.tape,h.output,h.size,fun k hk _ hn=>h.block k hk hn⟩
theorem bE.to_below {B:Nat} (h:bE S row w w') (hB:B<=w.heap.size) (hS:∀k,S k->B<=k) (hr:∀g,row=Y g->B<=g):Below B w w' :=
 ⟨h.os,h.tape,h.output,h.size,fun k hk=>h.block k aA (fun x=>by have:=hS k x;omega) (fun e=>by have:=hr k e.symm;omega)⟩
theorem bE.alloc (h:bE S row w w') (o:Obj):bE S row w (w'.alloc o):=h.trans (row':=I) (bE.of_below (aP _ _)) (fun _ e=>by cases e)
theorem bE.setCell (h:bE S row w w') {p:Addr} (hp:S p.block) (u:Value):bE S row w (w'.setCell p u) :=
 h.trans (row':=I) ⟨rfl,rfl,rfl,by simp[World.setCell],fun k _ hs _=>Below.heap_setCell _ _ _ _ (fun e=>hs (e ▸ hp))⟩ (fun _ e=>by cases e)
theorem bE.setNew (h:bE S row w w') {p:Addr} (hp:w.heap.size<=p.block) (u:Value):bE S row w (w'.setCell p u) :=
 ⟨h.os,h.tape,h.output,by simpa[World.setCell] using h.size,fun k hk hs hn=>(Below.heap_setCell _ _ _ _ aA).trans (h.block k hk hs hn)⟩
theorem bE.over (hb:Below w.heap.size w w') (h:bE S' row w' w'') (hS:∀k,k<w.heap.size->S' k->S k):bE S row w w'' :=
 ⟨h.os.trans hb.os,h.tape.trans hb.tape,h.output.trans hb.output,Nat.le_trans hb.size h.size,fun k hk hs hn=>(h.block k (Nat.lt_of_lt_of_le hk hb.size) (fun x=>hs (hS k hk x)) hn).trans (hb.block k hk)⟩
theorem bE.drew (h:bE S row w w'):bE S row w w'.drew:=⟨h.os,h.tape,h.output,h.size,h.block⟩
theorem aS.moved {g:Nat} {t:TypeId} {cs:Array Value} (h:aS w g t cs) (hm:bE S row w w') (hs:¬ S g) (hr:row ≠ Y g):aS w' g t cs:=(hm.block g h.lt hs (fun e=>hr e.symm)).trans h
theorem aS.same {g:Nat} {t:TypeId} {cs:Array Value} (h:aS w g t cs) (e:w'.heap[g]? = w.heap[g]?):aS w' g t cs:=e.trans h
theorem aS.new' {g:Nat} {t:TypeId} {cs:Array Value} (hg:g=w.heap.size):aS (w.alloc (.cells cs t)) g t cs:=by subst hg;exact aS.new _ _ _
theorem aQ {b:Nat} (h:w'.heap[b]? = w.heap[b]?) (o:Nat):w'.cell? ⟨b,o,I⟩=w.cell? ⟨b,o,I⟩:=World.cell?_of_block (a:=⟨b,o,I⟩) h
end
theorem bJ.mid {R:Nat->Prop} {w:World} {b off n c p m:Nat} {l x rest:List Nd} (h:bJ R w (Y ⟨b,off,I⟩) n c l) (e:l.drop p=x++rest) (hm:x.length=m) (hp:p<=n) (hm0:0<m):bJ R w (Y ⟨b,off+p*3,I⟩) m (c-p) x:=by
 have hl:l.length=p+m+rest.length:=by
  have h1:=congrArg List.length e;rw[List.length_drop,List.length_append] at h1;have:=h.len;omega
 have hc:=h.cap;have hf:=h.few;have hn:=h.len;refine⟨hm,by omega,by omega,(fun e=>by cases e),fun _ => ?_⟩;obtain⟨b',off',e',hR,a0⟩:=h.mem aA;injection e' with e';injection e' with e1 e2;subst e1 e2;refine⟨b,off+p*3,rfl,hR,fun k hk => ?_⟩;have hx:bD x k=bD l (p+k):=by
  rw[<-mQ,e];simp[bD,hk,List.getElem?_append_left]
 have:=a0 (p+k) aA;rw[hx]
 rwa [Nat.add_mul,<-Nat.add_assoc] at this
theorem MW {l:List Nd} {q:Nat} {n:Nd} {ats:List Nd} {k x:Fo} {rest:List Nd} (h:pp [false] (l.drop q)=Y (.cons [] n ats k x,rest)) (h2:n.op=2):k=.nil/\x=.nil/\ats.length=n.b.toNat/\l.drop (q+1)=ats++rest/\1<=n.b/\n.b<=4:=by
 have hr:=oX h;cases hd:l.drop q with
 | nil=>rw[hd] at hr;simp[row] at hr
 | cons y t =>
  rw[hd] at h hr;simp only[row,List.nil_append,List.cons_append,List.cons.injEq] at hr;obtain⟨rfl,hr⟩:=hr;have a0:eN y=true:=by
   rw[eX] at h;simp only[fX,Option.bind_some] at h;split at h
   · assumption
   cases h
  rw[G4 (l:=y::t) (Nat.succ_pos _) a0 h2] at h;simp only[bD,List.getD_cons_zero,List.drop_one,List.tail_cons,Option.map_eq_some_iff,Prod.mk.injEq,Fo.cons.injEq] at h;obtain⟨z,hz,⟨_,_,rfl,rfl,rfl⟩,rfl⟩:=h;obtain⟨h5,h6⟩:=kT _ _ _ _ hz;have a2:l.drop (q+1)=t:=by rw[<-List.drop_drop,hd];rfl
  have a1:cD y.op y.a y.b=true:=by simp only[eN,Bool.and_eq_true] at a0;exact a0.1.1
  rw[aV] at a1;exact⟨rfl,rfl,h6,by rw[a2];exact h5,by omega,by omega⟩
theorem PF {l:List Nd} {q:Nat} {n:Nd} {ats:List Nd} {k x:Fo} {rest:List Nd} (h:pp [false] (l.drop q)=Y (.cons [] n ats k x,rest)) (h2:n.op ≠ 2):x=.nil/\ats=[]/\pp (ds n) (l.drop (q+1))=Y (k,rest):=by
 have hr:=oX h;cases hd:l.drop q with
 | nil=>rw[hd] at hr;simp[row] at hr
 | cons y t =>
  rw[hd] at h hr;simp only[row,List.nil_append,List.cons_append,List.cons.injEq] at hr;obtain⟨rfl,hr⟩:=hr;have a0:eN y=true:=by
   rw[eX] at h;simp only[fX,Option.bind_some] at h;split at h
   · assumption
   cases h
  rw[G3 (l:=y::t) (Nat.succ_pos _) a0 h2] at h;simp only[bD,List.getD_cons_zero,List.drop_one,List.tail_cons,Option.map_eq_some_iff,Prod.mk.injEq,Fo.cons.injEq] at h;obtain⟨z,hz,⟨_,_,rfl,rfl,rfl⟩,rfl⟩:=h;have a1:l.drop (q+1)=t:=by rw[<-List.drop_drop,hd];rfl
  exact⟨rfl,rfl,by rw[a1];exact hz⟩
theorem t9 {l:List Nd} {q:Nat} {dr:List Bool} {F:Fo} {rest:List Nd} (h:pp (false::dr) (l.drop q)=Y (F,rest)) (hq:q<=l.length) :
 ∃n ats k F' q2,F=.cons [] n ats k F'/\q<q2/\q2<=l.length/\pp [false] (l.drop q)=Y (.cons [] n ats k .nil,l.drop q2)/\pp dr (l.drop q2)=Y (F',rest):=by
 rw[p8] at h;simp only[Option.bind_eq_some_iff,Option.map_eq_some_iff,Prod.mk.injEq] at h;obtain⟨x,hx,y,hy,e1,e2⟩:=h;obtain⟨n,ats,k,hn⟩:=rD hx;obtain⟨h1,h2,h3⟩:=nQ hx hq;have h4:=wZ hx aD;rw[List.length_drop] at h4;obtain⟨x1,x2⟩:=x;obtain⟨y1,y2⟩:=y;simp only at hn h1 h2 h3 h4 hy e1 e2;subst hn e1 e2;refine⟨n,ats,k,y1,l.length-x2.length,rfl,by omega,by omega,?_,?_⟩
 · rw[<-h1];exact hx
 rw[<-h1];exact hy
theorem PG {l:List Nd} {q:Nat} {dr:List Bool} {F:Fo} {rest:List Nd} (h:pp (true::dr) (l.drop q)=Y (F,rest)) :
 q<l.length/\vI (bD l q)=true/\∃F',pp (false::dr) (l.drop (q+1))=Y (F',rest)/\F=F'.setPre [bD l q]:=by
 by_cases hq:q<l.length
 · rw[jX hq,G5] at h;split at h
   · rename_i hf
     refine⟨hq,hf,?_⟩;simp only[Option.bind_eq_some_iff,Option.map_eq_some_iff,Prod.mk.injEq] at h;obtain⟨x,hx,y,hy,e1,e2⟩:=h;obtain⟨n,ats,k,hn⟩:=rD hx;refine⟨x.1.app y.1,?_,?_⟩
     · rw[p8];simp only[Option.bind_eq_some_iff,Option.map_eq_some_iff,Prod.mk.injEq];exact⟨x,hx,y,hy,rfl,e2⟩
     rw[<-e1,hn];rfl
   cases h
 rw[List.drop_eq_nil_of_le aA,eX] at h;simp[fX] at h
theorem bN.moved {S:Nat->Prop} {row:Option Nat} {w w':World} {base:Nat} {v:Value} {l:List Nd} (h:bN w base v l) (hm:bE S row w w') (hs:∀g,v.ownBlock=Y g->¬ S g/\row ≠ Y g):bN w' base v l:=by
 unfold bN at h ⊢;obtain⟨h1,h2⟩:=h;refine⟨h1,?_⟩;rcases h2 with h2 | ⟨g,cap,cur,hv,hg,hh,r⟩
 · exact Or.inl h2
 subst hv;have hb:=hs g rfl;exact Or.inr ⟨g,cap,cur,rfl,hg,(hm.block g (Array.getElem?_eq_some_iff.1 hh).1 hb.1 (fun e=>hb.2 e.symm)).trans hh,r⟩
theorem bN.slice {w:World} {base:Nat} {v:Value} {l:List Nd} (h:bN w base v l) : ∃A c,v=Z A l.length c:=by
 rcases h.2 with⟨rfl,h0⟩ | ⟨g,cap,cur,rfl,_⟩
 · rw[h0];exact⟨I,0,rfl⟩
 exact⟨_,_,rfl⟩
def fK (v v':Value) (w:World):Prop:=∀g,v'.ownBlock=Y g->v.ownBlock=Y g\/w.heap.size<=g
theorem fK.refl (v:Value) (w:World):fK v v w:=fun _ h=>.inl h
theorem fK.trans {v v' v'':Value} {w w':World} (h:fK v v' w) (h':fK v' v'' w') (hs:w.heap.size<=w'.heap.size):fK v v'' w:=fun g hg=>by
 rcases h' g hg with h1 | h1
 · exact h g h1
 exact .inr (Nat.le_trans hs h1)
def pF {σ:Type} (V:cW σ) (J:World->σ->Prop) (S:Nat->Prop) (base:Nat) (pan:List PanicEntry) (w:World) (s:σ) (v:Value) (o:List Nd) (n:Nd) (a:Int) (e:Ending) (w':World):Prop :=
 (V.ok s n a=true/\bE S v.ownBlock w w'/\J w' (V.nx s n a)/\∃v',e=.returned v'/\bN w' base v' (o++V.em s n a)/\fK v v' w) ∨
 (V.ok s n a=false/\e=.panicked pan/\bE S v.ownBlock w w')
def AO (P:Program) (K:FuncId) (caps:Array Value) {σ:Type} (V:cW σ) (J:World->σ->Prop) (KK S:Nat->Prop) (base H:Nat) (pan:List PanicEntry) (M:Nat):Prop :=
 ∀(w:World) (s:σ) (v:Value) (o:List Nd) (n:Nd) (a:Int),H<=w.heap.size->J w s->bN w base v o->(∀k,v.ownBlock=Y k->¬ KK k)->eN n=true->V.dm s n a->0<=a->a<=1000000000000->o.length+(V.em s n a).length<=M →
  Calls P K (#[v,.agg #[O X n.op,O X n.a,O X n.b],O X a]++caps) w (pF V J S base pan w s v o n a)
structure oC (σ:Type) where
 H:Nat
 base:Nat
 A:Option Addr
 nn:Nat
 c:Nat
 l:List Nd
 R:Nat->Prop
 KK:Nat->Prop
 S:Nat->Prop
 fn:FuncId
 caps:Array Value
 J:World->σ->Prop
 V:cW σ
 pan:List PanicEntry
 M:Nat
section
variable {σ : Type} (C : oC σ)
structure oC.Good:Prop where
 hbase:C.base<=C.H
 hR:∀b,C.R b->b<C.H/\¬ C.S b
 hK:∀b,C.KK b->b<C.H
 hS:∀b,C.S b->C.KK b
 hJ:∀w w' s,C.J w s->(∀k,C.KK k->w'.heap[k]? = w.heap[k]?)->C.J w' s
 hM:C.M<=1000000000000
 en:∀args w,(callFunc C.fn args).run Tryz.prog w=.ok (.enter C.fn args) w
 one:AO Tryz.prog C.fn C.caps C.V C.J C.KK C.S C.base C.H C.pan C.M
def oC.tv:Value:=.func (.func 146) #[] #[.pointer (Y ⟨C.H,0,I⟩),.pointer (Y ⟨C.H+5,0,I⟩),.pointer (Y ⟨C.H+2,0,I⟩),.pointer (Y ⟨C.H+1,0,I⟩),.pointer (Y ⟨C.H+6,0,I⟩)]
structure oC.St (w:World) (v:Value) (q:Nat) (s:σ) (o:List Nd):Prop where
 bt:aS w C.H 29 #[Z C.A C.nn C.c]
 bo:aS w (C.H+1) 29 #[v]
 bf:aS w (C.H+2) 180 #[.func (.func C.fn) #[] C.caps]
 ba:aS w (C.H+5) 3 #[O X q]
 br:aS w (C.H+6) 184 #[C.tv]
 tm:bJ C.R w C.A C.nn C.c C.l
 own:bN w C.base v o
 j:C.J w s
 hv:∀g,v.ownBlock=Y g->¬ C.KK g/\¬ C.R g/\(g<C.H\/C.H+7<=g)
def oC.S' (k:Nat):Prop:=C.S k\/k=C.H+1\/k=C.H+5
variable {C} {w w' : World} {v v' : Value} {q : Nat} {s s' : σ} {o o' : List Nd}
theorem oC.St.size (h:C.St w v q s o):C.H+7<=w.heap.size:=h.br.lt
theorem oC.St.row (h:C.St w v q s o) (g:Nat) (hg:v.ownBlock=Y g):g<w.heap.size:=(aU h.own hg).2.1
theorem oC.St.below (hG:C.Good) (h:C.St w v q s o) (hb:Below w.heap.size w w'):C.St w' v q s o:=by
 have a0:=h.size;exact⟨h.bt.below hb h.bt.lt,h.bo.below hb h.bo.lt,h.bf.below hb h.bf.lt,h.ba.below hb h.ba.lt,h.br.below hb h.br.lt,
  h.tm.keep fun b hR=>⟨hR,fun o=>aQ (hb.block _ (by have:=(hG.hR b hR).1;omega)) o⟩,h.own.below hb,hG.hJ _ _ _ h.j (fun k hk=>hb.block k (by have:=hG.hK k hk;omega)),h.hv⟩
theorem oC.St.drew (hG:C.Good) (h:C.St w v q s o):C.St w.drew v q s o :=
 ⟨h.bt,h.bo,h.bf,h.ba,h.br,h.tm.keep fun _ hR=>⟨hR,fun _=>rfl⟩,h.own,hG.hJ _ _ _ h.j (fun _ _=>rfl),h.hv⟩
theorem oC.St.goOn (hG:C.Good) (h:C.St w v q s o) (x:Int) (p:Nat) (hx:x=p):C.St (w.setCell ⟨C.H+5,0,I⟩ (O X x)) v p s o:=by
 subst hx;have a0:∀g,v.ownBlock=Y g->g ≠ C.H+5:=fun g hg=>by have:=(h.hv g hg).2.2;omega
 refine⟨h.bt.far aD _,h.bo.far aD _,h.bf.far aD _,?_,h.br.far aD _,?_,?_,?_,h.hv⟩
 · have:=h.ba.set_ 0 (O X p);simpa using this
 · exact h.tm.keep fun b hR=>⟨hR,fun o=>aQ (Below.heap_setCell _ _ _ _ (by have:=(hG.hR b hR).1;simp;omega)) o⟩
 · exact ownsRow_setCell_other h.own (fun e=>a0 _ e rfl) _
 exact hG.hJ _ _ _ h.j fun k hk=>Below.heap_setCell _ _ _ _ (by have:=hG.hK k hk;simp;omega)
theorem oC.St.laid (hG:C.Good) (h:C.St w v q s o) (hg:w.grownBy w' v.ownBlock) (hown:bN w' C.base v' o') (hn:fK v v' w):C.St (w'.setCell ⟨C.H+1,0,I⟩ v') v' q s o':=by
 have a3:=h.size;have a0:∀k,(C.KK k\/C.R k\/(C.H<=k/\k<C.H+7))->Y k ≠ v.ownBlock:=fun k hk e=>by
  have:=h.hv k e.symm;rcases hk with hk | hk | hk
  · exact this.1 hk
  · exact this.2.1 hk
  omega
 have a1:∀g,v'.ownBlock=Y g->¬ C.KK g/\¬ C.R g/\(g<C.H\/C.H+7<=g):=fun g hg=>by
  rcases hn g hg with h1 | h1
  · exact h.hv g h1
  exact⟨fun x=>by have:=hG.hK g x;omega,fun x=>by have:=(hG.hR g x).1;omega,.inr aA⟩
 have a2:∀g,v'.ownBlock=Y g->g ≠ C.H+1:=fun g hg=>by have:=(a1 g hg).2.2;omega
 refine⟨(h.bt.grown hg (a0 _ aA)).far aD _,?_,(h.bf.grown hg (a0 _ aA)).far aD _,(h.ba.grown hg (a0 _ aA)).far aD _,(h.br.grown hg (a0 _ aA)).far aD _,?_,?_,?_,a1⟩
 · have:=(h.bo.grown hg (a0 _ aA)).set_ 0 v';simpa using this
 · refine h.tm.keep fun b hR=>⟨hR,fun o => ?_⟩;have:=(hG.hR b hR).1;exact aQ ((Below.heap_setCell _ _ _ _ aG).trans (hg.block b aA (a0 b (by simp[hR])))) o
 · exact ownsRow_setCell_other hown (fun e=>a2 _ e rfl) _
 refine hG.hJ _ _ _ h.j fun k hk => ?_;have:=hG.hK k hk;exact (Below.heap_setCell _ _ _ _ aG).trans (hg.block k aA (a0 k (by simp[hk])))
theorem oC.St.called (hG:C.Good) (h:C.St w v q s o) (hm:bE C.S v.ownBlock w w') (hown:bN w' C.base v' o') (hn:fK v v' w) (hj:C.J w' s'):C.St (w'.setCell ⟨C.H+1,0,I⟩ v') v' q s' o':=by
 have a3:=h.size;have a0:∀k,(C.KK k\/C.R k\/(C.H<=k/\k<C.H+7))->Y k ≠ v.ownBlock:=fun k hk e=>by
  have:=h.hv k e.symm;rcases hk with hk | hk | hk
  · exact this.1 hk
  · exact this.2.1 hk
  omega
 have hS:∀k,C.H<=k->¬ C.S k:=fun k hk hs=>by have:=hG.hK k (hG.hS k hs);omega
 have a1:∀g,v'.ownBlock=Y g->¬ C.KK g/\¬ C.R g/\(g<C.H\/C.H+7<=g):=fun g hg=>by
  rcases hn g hg with h1 | h1
  · exact h.hv g h1
  exact⟨fun x=>by have:=hG.hK g x;omega,fun x=>by have:=(hG.hR g x).1;omega,.inr aA⟩
 have a2:∀g,v'.ownBlock=Y g->g ≠ C.H+1:=fun g hg=>by have:=(a1 g hg).2.2;omega
 have hk:∀k,(C.H<=k/\k<C.H+7)->w'.heap[k]? = w.heap[k]?:=fun k hk=>hm.block k aA (hS k hk.1) (a0 k (by simp[hk]));refine⟨(h.bt.same (hk _ aA)).far aD _,?_,(h.bf.same (hk _ aA)).far aD _,(h.ba.same (hk _ aA)).far aD _,(h.br.same (hk _ aA)).far aD _,?_,?_,?_,a1⟩
 · have:=(h.bo.same (hk _ aA)).set_ 0 v';simpa using this
 · refine h.tm.keep fun b hR=>⟨hR,fun o => ?_⟩;have h1:=hG.hR b hR;exact aQ ((Below.heap_setCell _ _ _ _ aG).trans (hm.block b aA h1.2 (a0 b (by simp[hR])))) o
 · exact ownsRow_setCell_other hown (fun e=>a2 _ e rfl) _
 refine hG.hJ _ _ _ hj fun k hk => ?_;have:=hG.hK k hk;exact Below.heap_setCell _ _ _ _ aG
theorem oC.S_lt (hG:C.Good) {k:Nat} (hk:C.H<=k) : ¬ C.S k:=fun hs=>by have:=hG.hK k (hG.hS k hs);omega
theorem oC.St.keep (hG:C.Good) (h:C.St w v q s o) (hm:bE C.S v.ownBlock w w') {k:Nat} (hk:C.H<=k) (hk':k<C.H+7):w'.heap[k]? = w.heap[k]?:=by
 have a0:=h.size;exact hm.block k aA (oC.S_lt hG hk) (fun e=>by have:=(h.hv k e.symm).2.2;omega)
theorem oC.St.rowKeep (_hG:C.Good) (h:C.St w v q s o) (hg:w.grownBy w' v.ownBlock) {k:Nat} (hk:(C.H<=k/\k<C.H+7)\/(v.ownBlock ≠ Y k/\k<w.heap.size)):w'.heap[k]? = w.heap[k]?:=by
 have a0:=h.size;rcases hk with hk | hk
 · exact hg.block k aA (fun e=>by have:=(h.hv k e.symm).2.2;omega)
 exact hg.block k hk.2 (fun e=>hk.1 e.symm)
theorem oC.S'_new (hG:C.Good) {k:Nat} (hk:C.H+7<=k) : ¬ C.S' k:=fun hs=>by
 rcases hs with h | h | h
 · have:=hG.hK k (hG.hS k h);omega
 · omega
 omega
theorem oC.S_S' (k:Nat) (h:C.S k):C.S' k:=.inl h
def oC.Post (C:oC σ) (w:World) (v:Value) (o:List Nd) (q':Nat) (E:List Nd) (s':σ) (g:Bool) (e:Ending) (w':World):Prop :=
 (g=true/\e=.returned (.tuple #[])/\bE C.S' v.ownBlock w w'/\∃v',C.St w' v' q' s' (o++E)/\fK v v' w)\/(g=false/\e=.panicked C.pan/\bE C.S' v.ownBlock w w')
end
end
end Go.Proofs.YtjoddliplahgkaaGreat
