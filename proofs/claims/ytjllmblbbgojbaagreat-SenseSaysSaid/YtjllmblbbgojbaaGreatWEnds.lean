/- Merged: End, Shape, TermW, Rt, Below. -/
import Derived.Test.YtjllmblbbgojbaaGreatProg
import Derived.Test.YtjllmblbbgojbaaGreatWBase
import Derived.Test.YtjllmblbbgojbaaGreatWLeafs
import Derived.WalkKit
import Derived.WalkLawsBesides
import Derived.WalkSpells
import Derived.Lib.Hide
import Derived.Deep.QuietTactic
import Derived.BigQuiet
import Derived.Test.YtjllmblbbgojbaaGreatWWalks
namespace Go.Proofs.YtjllmblbbgojbaaGreat
open Go.Value renaming int → O, slice → Y
open Go.IntKind renaming i64 → X
open Option renaming some → Z
open Go.Lib (hid)
set_option maxHeartbeats 2000000
set_option maxRecDepth 100000
section
open Go.RowKit
theorem C9 {A:Option Addr} {n c:Nat} {w:World} (a:Int) (ha:a<0) :
 Calls Tryz.prog 40 #[Y A n c,O X a] w (dD (-1) w):=by
 go_in;go_wp2_with fail
 go_ret;exact ⟨rfl,Below.refl _ _⟩
theorem DA {A:Option Addr} {n c:Nat} {w:World} (a:Int) (p:Nat) (ha:a=p) (hp:n<=p) (_hn:n<=5864062014805) :
 Calls Tryz.prog 40 #[Y A n c,O X a] w (dD (-1) w):=by
 subst ha;have h0:(0:Int)<=(p:Int):=aA;go_in;go_wp2_with fail
 go_ret;exact ⟨rfl,Below.refl _ _⟩
theorem KR {A:Option Addr} {n c:Nat} {l:List Nd} {w:World} (h:aP w A n c l) (a:Int) (p:Nat) (ha:a=p) (hp:p<n) (hbad:dG (aQ l p)=false) :
 Calls Tryz.prog 40 #[Y A n c,O X a] w (dD (-1) w):=by
 subst ha;have hfew:=h.few;have h0:(0:Int)<=(p:Int):=aA;obtain ⟨b,off,rfl,hb,c0,c1,c2⟩:=h.at_ hp;cases hpl:bD (aQ l p).op (aQ l p).a (aQ l p).b
 · clear hbad;go_in;go_wp2_with (go_at_call 64;refine (fF _ _ _ _).mono ?_;rintro e w1 ⟨rfl,hb1⟩;obtain ⟨hc1,hf1⟩:=kE hb1)
   go_ret;exact ⟨rfl,hb1⟩
 by_cases h3:(aQ l p).op=3
 · have hb3:((aQ l p).op==3)=true:=by simp [h3]
   clear h3 hbad;go_in;go_wp2_with (go_at_call 64;refine (fF _ _ _ _).mono ?_;rintro e w1 ⟨rfl,hb1⟩;obtain ⟨hc1,hf1⟩:=kE hb1)
   go_ret;exact ⟨rfl,hb1⟩
 have h13:(aQ l p).op=13:=by simpa [dG,hpl,h3] using hbad
 have hb3:((aQ l p).op==3)=false:=by simp [h3]
 have hb13:((aQ l p).op==13)=true:=by simp [h13]
 clear h3 h13 hbad;go_in;go_wp2_with (go_at_call 64;refine (fF _ _ _ _).mono ?_;rintro e w1 ⟨rfl,hb1⟩;obtain ⟨hc1,hf1⟩:=kE hb1)
 go_ret;exact ⟨rfl,hb1⟩
theorem H4 {A:Option Addr} {n c:Nat} {l:List Nd} (p:Nat) (hp:p<n) (hok:dG (aQ l p)=true)
 (ih:∀ (w:World) (a:Int) (q:Nat),aP w A n c l->a=q->p<q->Calls Tryz.prog 40 #[Y A n c,O X a] w (dD (nS (ends [false] l q)) w))
 {w:World} (h:aP w A n c l) :
 Calls Tryz.prog 40 #[Y A n c,O X p] w (dD (nS (ends [false] l p)) w):=by
 have hfew:=h.few;have h0:(0:Int)<=(p:Int):=aA;have HI:=hid ih;clear ih;have hpl:bD (aQ l p).op (aQ l p).a (aQ l p).b=true:=by
  simp only [dG,Bool.and_eq_true] at hok;exact hok.1.1
 have hb3:((aQ l p).op==3)=false:=by
  simp only [dG,Bool.and_eq_true,decide_eq_true_eq] at hok;simp [hok.1.2]
 have hb13:((aQ l p).op==13)=false:=by
  simp only [dG,Bool.and_eq_true,decide_eq_true_eq] at hok;simp [hok.2]
 have he1:ends [false] l p=if (aQ l p).op=2 then iB (aQ l p).b.toNat (-1) l (p+1) else ends (ds (aQ l p)) l (p+1):=by
  rw [xZ (by rw [h.len];exact hp),if_pos hok]
 have HE1:=hid he1;have HOK:=hid hok;clear he1 hok;obtain ⟨hb0,hb1000⟩:=hP hpl;obtain ⟨hk0,hk18⟩:=yP hpl;obtain ⟨b,off,rfl,hb,c0,c1,c2⟩:=h.at_ hp;by_cases h2:(aQ l p).op=2
 · have hb2:((aQ l p).op==2)=true:=by simp [h2]
   have H2:=hid h2;clear h2;go_in;go_wp2_with (go_at_call 64;refine (fF _ _ _ _).mono ?_;rintro e w1 ⟨rfl,hb1⟩;obtain ⟨hc1,hf1⟩:=kE hb1)
   refine (EL ((h.below hb1).alloc _) _ _ (p+1) (aQ l p).b.toNat aA aA aA aA).mono ?_;rintro e w2 ⟨rfl,hb2⟩;go_wp2
   go_ret;refine ⟨bW ?_,hb1.trans ((((Below.refl _ _).alloc (Nat.le_refl _) _).trans (hb2.mono (by simp))).mono hb1.size)⟩;rw [HE1.o,if_pos H2.o]
 have hb2:((aQ l p).op==2)=false:=by simp [h2]
 have he2:ends [false] l p=ends (ds (aQ l p)) l (p+1):=by rw [HE1.o,if_neg h2]
 have HE:=hid he2;clear HE1 he2 h2;go_in;go_wp2_with (first | (go_at_call 64;refine (fF _ _ _ _).mono ?_;rintro e w1 ⟨rfl,hb1⟩;obtain ⟨hc1,hf1⟩:=kE hb1) | (go_at_call 66;refine (nR _ _ _ _ aA).mono ?_;rintro e w2 ⟨rfl,rfl⟩))
 have h1:=(h.below hb1).alloc (.cells #[O X (aQ l p).op,O X (aQ l p).a,O X (aQ l p).b] 40);go_loopw [1,54] (fun a i wr=>∃ (q j:Nat),q<=n/\p<q/\(j:Int)<=dA (aQ l p).op (aQ l p).b/\a=O X q/\i=O X j/\ends (fX (aQ l p) j) l q=ends (ds (aQ l p)) l (p+1)/\Below (w1.heap.size+1) (w1.alloc (.cells #[O X (aQ l p).op,O X (aQ l p).a,O X (aQ l p).b] 40)) wr) (fun _ i _=>(dA (aQ l p).op (aQ l p).b).toNat-(intOf i).toNat)
 case atStart=>exact ⟨p+1,0,hp,by omega,hk0,by go_num,rfl,by rw [pG],(Below.refl _ _).alloc (by simp) _⟩
 case round =>
  obtain ⟨q,j,hq,hpq,hj,rfl,rfl,he,hbw⟩:=hrel;have HR:=hid he;clear he;have hwr:=h1.below (hbw.mono (by simp));have g0:wr.cell? ⟨w1.heap.size,0,none⟩=Z (O X (aQ l p).op):=(hbw.cell (by simp)).trans (GX _ _ _ _ _ _ _ rfl);have hbt:∀ w2:World,Below wr.heap.size wr w2->Below w.heap.size w w2:=fun _ hx=>hb1.trans (((aB w1 _).trans ((hbw.mono aA).trans (hx.mono (by have:=hbw.size;simp at this;omega)))).mono hb1.size);have hbt2:∀ w2:World,Below wr.heap.size wr w2->Below (w1.heap.size+1) (w1.alloc (.cells #[O X (aQ l p).op,O X (aQ l p).a,O X (aQ l p).b] 40)) w2:=fun _ hx=>hbw.trans (hx.mono (by have:=hbw.size;simp at this;omega));have HT:=hid hbt;have HT2:=hid hbt2;clear hbt hbt2;by_cases hlt:(j:Int)<dA (aQ l p).op (aQ l p).b;rotate_left
  · have hre:=rX (aQ l p) (i:=j) aA;have hno:ends (fX (aQ l p) j) l q=Z q:=by rw [hre,H6 (by rw [h.len];exact hq)]
    have HNO:=hid hno;clear hno hre;go_wp2_with fail
    go_ret;refine ⟨bW ?_,HT.o _ (Below.refl _ _)⟩;rw [HE.o,<-HR.o,HNO.o];rfl
  by_cases h12:(aQ l p).op=12
  · have hb12:((aQ l p).op==12)=true:=by simp [h12]
    have hjb:(j:Int)<(aQ l p).b:=by simpa [dA,h12] using hlt
    have hre:=rY h12 hjb;have HRE:=hid hre;clear hre h12 hjb;by_cases hqn:q<n;rotate_left
    · have hno:ends (fX (aQ l p) j) l q=none:=by rw [HRE.o,nH _ _ (by rw [h.len];omega)]
      have HNO:=hid hno;clear hno;go_wp2_with fail
      go_ret;refine ⟨bW ?_,HT.o _ (Below.refl _ _)⟩;rw [HE.o,<-HR.o,HNO.o];rfl
    have hef:ends (fX (aQ l p) j) l q=if sX (aQ l q) then ends (false::false::fX (aQ l p) (j+1)) l (q+1) else none:=by
     rw [HRE.o,H5 _ (by rw [h.len];exact hqn)]
    obtain ⟨hbr,d0,d1,d2⟩:=hwr.cells hqn;cases hf:sX (aQ l q)
    · have hno:ends (fX (aQ l p) j) l q=none:=by rw [hef,hf];rfl
      have HNO:=hid hno;clear hno hef;by_cases h13:(aQ l q).op=13
      · have hpf:bD (aQ l q).op (aQ l q).a (aQ l q).b=false:=by simpa [sX,h13] using hf
        have hq13:((aQ l q).op != 13)=false:=by simp [h13]
        clear h13 hf;go_wp2_with (go_at_call 64;refine (fF _ _ _ _).mono ?_;rintro e w2 ⟨rfl,hb2⟩;obtain ⟨hc2,hf2⟩:=kE hb2)
        go_ret;refine ⟨bW ?_,HT.o _ hb2⟩;rw [HE.o,<-HR.o,HNO.o];rfl
      have hq13:((aQ l q).op != 13)=true:=by simp [h13]
      clear h13 hf;go_wp2_with fail
      go_ret;refine ⟨bW ?_,HT.o _ (Below.refl _ _)⟩;rw [HE.o,<-HR.o,HNO.o];rfl
    have hpf:bD (aQ l q).op (aQ l q).a (aQ l q).b=true:=by
     simp only [sX,Bool.and_eq_true] at hf;exact hf.1
    have hq13:((aQ l q).op != 13)=false:=by
     simp only [sX,Bool.and_eq_true,decide_eq_true_eq] at hf;simp [hf.2]
    have hgo:ends (fX (aQ l p) j) l q=(ends [false] l (q+1)).bind fun q1=>(ends [false] l q1).bind (ends (fX (aQ l p) (j+1)) l):=by
     rw [hef,if_pos hf,oI false _ (by rw [h.len];omega)];refine Option.bind_congr fun q1 hq1 => ?_;rw [oI false _ (qJ hq1 (by rw [h.len];omega)).2.1]
    have HGO:=hid hgo;clear hgo hef hf;go_wp2_with (go_at_call 64;refine (fF _ _ _ _).mono ?_;rintro e w2 ⟨rfl,hb2⟩;obtain ⟨hc2,hf2⟩:=kE hb2)
    have hw2:=hwr.below hb2;refine (HI.o w2 _ (q+1) hw2 aA aA).mono ?_;rintro e w3 ⟨rfl,hb3'⟩;have hw3:=hw2.below hb3';cases hq1:ends [false] l (q+1) with
    | none =>
     have hno:ends (fX (aQ l p) j) l q=none:=by rw [HGO.o,hq1];rfl
     have HNO:=hid hno;clear hno hq1;simp only [nS];go_wp2_with fail
     refine (C9 (w:=w3) _ aA).mono ?_;rintro e w4 ⟨rfl,hb4⟩;go_wp2_with fail
     go_ret;refine ⟨bW ?_,HT.o _ (hb2.trans ((hb3'.trans (hb4.mono hb3'.size)).mono hb2.size))⟩;rw [HE.o,<-HR.o,HNO.o];rfl
    | some q1 =>
     obtain ⟨hq1a,hq1b,hq1c⟩:=qJ hq1 (by rw [h.len];omega);rw [h.len] at hq1b;have hgo2:ends (fX (aQ l p) j) l q=(ends [false] l q1).bind (ends (fX (aQ l p) (j+1)) l):=by rw [HGO.o,hq1];rfl
     have HGO2:=hid hgo2;clear hgo2 hq1 hq1c;simp only [nS];go_wp2_with fail
     refine (HI.o w3 _ q1 hw3 rfl aA).mono ?_;rintro e w4 ⟨rfl,hb4⟩;have hb24:Below wr.heap.size wr w4:=hb2.trans ((hb3'.trans (hb4.mono hb3'.size)).mono hb2.size);cases hq2:ends [false] l q1 with
     | none =>
      have hno:ends (fX (aQ l p) j) l q=none:=by rw [HGO2.o,hq2];rfl
      have HNO:=hid hno;clear hno hq2;simp only [nS];go_wp2_with fail
      go_ret;refine ⟨bW ?_,HT.o _ hb24⟩;rw [HE.o,<-HR.o,HNO.o];rfl
     | some q2 =>
      obtain ⟨hq2a,hq2b,hq2c⟩:=qJ hq2 (by rw [h.len];omega);rw [h.len] at hq2b;have hgo3:ends (fX (aQ l p) j) l q=ends (fX (aQ l p) (j+1)) l q2:=by rw [HGO2.o,hq2];rfl
      have HGO3:=hid hgo3;clear hgo3 hq2 hq2c;simp only [nS];have hq20:(0:Int)<=(q2:Int):=aA;go_wp2_with fail
      go_roundw
      case rel=>exact ⟨q2,j+1,hq2b,by omega,by omega,rfl,by go_num,by rw [<-HGO3.o,HR.o],HT2.o _ hb24⟩
      case measure=>simp [intOf];omega
  have hb12:((aQ l p).op==12)=false:=by simp [h12]
  have hre:=rZ h12 hlt;have hgo:ends (fX (aQ l p) j) l q=(ends [false] l q).bind (ends (fX (aQ l p) (j+1)) l):=by
   rw [hre,oI false _ (by rw [h.len];omega)]
  have HGO:=hid hgo;clear hre hgo h12;go_wp2_with fail
  refine (HI.o wr _ q hwr rfl aA).mono ?_;rintro e w4 ⟨rfl,hb4⟩;cases hq2:ends [false] l q with
  | none =>
   have hno:ends (fX (aQ l p) j) l q=none:=by rw [HGO.o,hq2];rfl
   have HNO:=hid hno;clear hno hq2;simp only [nS];go_wp2_with fail
   go_ret;refine ⟨bW ?_,HT.o _ hb4⟩;rw [HE.o,<-HR.o,HNO.o];rfl
  | some q2 =>
   obtain ⟨hq2a,hq2b,hq2c⟩:=qJ hq2 (by rw [h.len];omega);rw [h.len] at hq2b;have hgo3:ends (fX (aQ l p) j) l q=ends (fX (aQ l p) (j+1)) l q2:=by rw [HGO.o,hq2];rfl
   have HGO3:=hid hgo3;clear hgo3 hq2 hq2c;simp only [nS];have hq20:(0:Int)<=(q2:Int):=aA;go_wp2_with fail
   go_roundw
   case rel=>exact ⟨q2,j+1,hq2b,by omega,by omega,rfl,by go_num,by rw [<-HGO3.o,HR.o],HT2.o _ hb4⟩
   case measure=>simp [intOf];omega
theorem KS {A:Option Addr} {n c:Nat} {l:List Nd} : ∀ (m:Nat) (w:World) (a:Int) (p:Nat),aP w A n c l->a=p->n<=p+m →
 Calls Tryz.prog 40 #[Y A n c,O X a] w (dD (nS (ends [false] l p)) w):=by
 intro m
 induction m with
 | zero =>
  intro w a p h ha hm;rw [nH _ _ (by rw [h.len];omega)];exact DA a p ha aA h.few
 | succ m ih =>
  intro w a p h ha hm;by_cases hp:p<n
  · cases hok:dG (aQ l p)
    · have:ends [false] l p=none:=by rw [xZ (by rw [h.len];exact hp),hok];rfl
      rw [this];exact KR h a p ha hp hok
    subst ha;exact H4 p hp hok (fun w a q h ha hq=>ih w a q h ha aA) h
  · rw [nH _ _ (by rw [h.len];omega)];exact DA a p ha aA h.few
theorem gG {A:Option Addr} {n c:Nat} {l:List Nd} {w:World} (h:aP w A n c l) (a:Int) :
 Calls Tryz.prog 40 #[Y A n c,O X a] w (dD (i7 l a) w):=by
 by_cases h0:0<=a
 · obtain ⟨p,rfl⟩:=Int.eq_ofNat_of_zero_le h0;rw [kN];exact KS n w p p h rfl aA
 have:i7 l a = -1:=by simp only [i7];rw [if_neg aA]
 rw [this];exact C9 a aA
end
section
open Go.RowKit
def aN (l:List Nd):Int:=if 4096<l.length then 9 else if i7 l 0=l.length then 0 else 8
theorem cS {A:Option Addr} {nn c:Nat} {l:List Nd} {w:World} (h:aP w A nn c l) :
 Calls Tryz.prog 52 #[Y A nn c] w (dD (aN l) w):=by
 have hfew:=h.few;have hlen:=h.len;by_cases h1:4096<nn
 · have hs:aN l=9:=by unfold aN;rw [if_pos aA]
   have HS:=hid hs;have h1b:(4096:Int)<(nn:Int):=aA;clear hs hlen;go_in;go_wp2_with fail
   go_ret;exact ⟨bW HS.o.symm,Below.refl _ _⟩
 have h1b:decide ((4096:Int)<(nn:Int))=false:=by simp;omega
 by_cases h2:i7 l 0=nn
 · have hs:aN l=0:=by unfold aN;rw [if_neg aA,if_pos aA]
   have HS:=hid hs;have h2b:(i7 l 0 != (nn:Int))=false:=by simp [h2]
   clear hs hlen h2;go_in;go_wp2_with (go_at_call 40;refine (gG h 0).mono ?_;rintro e w2 ⟨rfl,hb2⟩)
   go_ret;exact ⟨bW HS.o.symm,hb2⟩
 have hs:aN l=8:=by unfold aN;rw [if_neg aA,if_neg aA]
 have HS:=hid hs;have h2b:(i7 l 0 != (nn:Int))=true:=by simp [h2]
 clear hs hlen h2;go_in;go_wp2_with (go_at_call 40;refine (gG h 0).mono ?_;rintro e w2 ⟨rfl,hb2⟩)
 go_ret;exact ⟨bW HS.o.symm,hb2⟩
theorem eG:∀ (F:Fo),aL F<=(row F).length
 | .nil=>Nat.le_refl _
 | .cons p n a k x=>by
  have h1:=eG k;have h2:=eG x;simp only [aL,row,List.length_append,List.length_cons];omega
theorem dQ {l:List Nd} (h:aN l=0):l.length<=4096/\∃ n ats k,pp [false] l=Z (.cons [] n ats k .nil,[])/\l=n::(ats++row k)/\aL k<=4096:=by
 unfold aN at h;split at h
 · cases h
 split at h
 · rename_i h1 h2
   refine ⟨by omega,?_⟩;unfold i7 at h2;split at h2
   rotate_left
   · omega
   rename_i h3
   split at h2
   rotate_left
   · omega
   rename_i q hq
   simp only [ends,Option.map_eq_some_iff,Int.toNat_zero,List.drop_zero] at hq;obtain ⟨x,hx,hxl⟩:=hq;obtain ⟨n,ats,k,hn⟩:=oZ hx;have hr:=kW hx;have hrl:=congrArg List.length hr;rw [List.length_append] at hrl;have h0:x.2=[]:=List.eq_nil_of_length_eq_zero aA;obtain ⟨x1,x2⟩:=x;simp only at hn h0 hr hx;subst hn h0;have hl:l=n::(ats++row k):=by simpa [row] using hr
   refine ⟨n,ats,k,hx,hl,?_⟩;have h5:=eG k;have h6:=congrArg List.length hl;simp only [List.length_cons,List.length_append] at h6;omega
 cases h
def rJ (l:List Nd) (up fr:Int):List Nd×Int :=
 match pp [false] l with
 | some (.cons _ n ats k _,_)=>if (fJ up (min fr 1048577)).G1 0 () n k=true then ((fJ up (min fr 1048577)).E1 0 () n ats k,0) else ([],6)
 | _=>([],0)
def eQ (l:List Nd) (up fr:Int):List Nd×Int:=if aN l=0 then (if up<0\/fr<0 then ([],1) else rJ l up fr) else ([],aN l)
theorem qO (up fr:Int) (pop pb:Int) : ∀ (j:Nat) (a:Int) (F:Fo),((fJ up fr).E pop pb j a () F).length=(row F).length
 | _,_,.nil=>rfl
 | j,a,.cons p n at' k x=>by
  rw [bV.E_cons,bV.E1];have h1:=qO up fr n.op n.b 0 (a+aC pop pb j) k;have h2:=qO up fr pop pb (j+1) a x;have h3:((fJ up fr).em () n (a+aC pop pb j)).length=1:=by
   simp only [fJ];split<;>rfl
  simp only [List.length_append,row,List.length_cons];have e:∀ s:Unit,s=():=fun _=>rfl;rw [e ((fJ up fr).nx () n (a+aC pop pb j)),e ((fJ up fr).S1 (a+aC pop pb j) () n k),h1,h2,h3];omega
theorem rT (up fr:Int) (a:Int) (n:Nd) (ats:List Nd) (k:Fo):((fJ up fr).E1 a () n ats k).length=(n::(ats++row k)).length:=by
 have h3:((fJ up fr).em () n a).length=1:=by simp only [fJ];split<;>rfl
 have e:∀ s:Unit,s=():=fun _=>rfl;rw [bV.E1,List.length_append,List.length_append,h3,e ((fJ up fr).nx () n a),qO];simp only [List.length_cons,List.length_append];omega
def mL (r:List Nd×Int) (w:World) (e:Ending) (w':World):Prop:=Below w.heap.size w w'/\∃ A n c,e=.returned (.tuple #[Y A n c,O X r.2])/\bE w' w.heap.size (Y A n c) r.1
theorem dW {r:List Nd×Int} {x:Int} {w w':World} (hb:Below w.heap.size w w') (hr:r=([],x)):mL r w (.returned (.tuple #[Y none 0 0,O X x])) w':=by
 subst hr;exact ⟨hb,_,_,_,rfl,bE.nil _ _⟩
theorem uE {r:List Nd×Int} {w w2 w':World} {A:Option Addr} {m c:Nat} {l:List Nd} (hb:Below w.heap.size w w2) (hm:aG (fun _=>False) (Value.slice none ([]:List Nd).length 0).ownBlock w2 w') (hr:r=(l,0)) (hown:bE w' w.heap.size (Y A m c) ([]++l)):mL r w (.returned (.tuple #[Y A m c,O X 0])) w':=by
 subst hr;exact ⟨hb.trans (hm.to_below hb.size (fun _ h=>h.elim) (fun g hg=>by simp [Value.ownBlock] at hg)),_,_,_,rfl,hown⟩
theorem IK {A:Option Addr} {nn c:Nat} {l:List Nd} {w:World} (h:aP w A nn c l) (up fr:Int) (hup:up<=9223372036854775807) :
 Calls Tryz.prog 105 #[Y A nn c,O X up,O X fr] w (mL (eQ l up fr) w):=by
 by_cases hs:aN l=0;rotate_left
 · have hr:eQ l up fr=([],aN l):=by unfold eQ;rw [if_neg hs]
   have hsb:(aN l != 0)=true:=by simp [hs]
   have HR:=hid hr;have HS:=hid hs;clear hr hs;go_in;go_wp2_with (go_at_call 52;refine (cS h).mono ?_;rintro e w2 ⟨rfl,hb2⟩)
   go_ret2;exact dW hb2 HR.o
 obtain ⟨hl,n,ats,k,hpp,hrow,hfs⟩:=dQ hs;have hsb:(aN l != 0)=false:=by simp [hs]
 by_cases h1:up<0
 · have hr:eQ l up fr=([],1):=by unfold eQ;rw [if_pos hs,if_pos (.inl h1)]
   have HR:=hid hr;have HS:=hid hs;clear hr hs hpp hrow;go_in;go_wp2_with (go_at_call 52;refine (cS h).mono ?_;rintro e w2 ⟨rfl,hb2⟩)
   go_ret2;exact dW hb2 HR.o
 by_cases h2:fr<0
 · have hr:eQ l up fr=([],1):=by unfold eQ;rw [if_pos hs,if_pos (.inr h2)]
   have h1b:decide (up<0)=false:=by simp;omega
   have HR:=hid hr;have HS:=hid hs;clear hr hs hpp hrow h1;go_in;go_wp2_with (go_at_call 52;refine (cS h).mono ?_;rintro e w2 ⟨rfl,hb2⟩)
   go_ret2;exact dW hb2 HR.o
 have h1b:decide (up<0)=false:=by simp;omega
 have h2b:decide (fr<0)=false:=by simp;omega
 have hup0:0<=up:=aA;have hfr0:0<=fr:=aA;have hr:eQ l up fr=rJ l up fr:=by unfold eQ;rw [if_pos hs,if_neg aA]
 have hlt:rJ l up fr=if (fJ up (min fr 1048577)).G1 0 () n k=true then ((fJ up (min fr 1048577)).E1 0 () n ats k,0) else ([],6):=by unfold rJ;rw [hpp]
 have hlen:∀ f,((fJ up f).E1 0 () n ats k).length<=1000000000000:=fun f=>by rw [rT,<-hrow];omega
 have HR:=hid (hr.trans hlt);have HS:=hid hs;have HPP:=hid hpp;have HLEN:=hid hlen;have H:=hid h;clear hr hs hpp hrow hlt h1 h2 hlen;by_cases hm:fr<=1048577
 · have hmf:min fr 1048577=fr:=aA;have HR2:=HR.o;rw [hmf] at HR2;have HR3:=hid HR2;clear HR2 hmf;go_in;go_wp2_with (go_at_call 52;refine (cS H.o).mono ?_;rintro e w2 ⟨rfl,hb2⟩)
   refine (mY (base:=w.heap.size) (R:=(· < w.heap.size)) hb2.size (fun b hb=>Nat.lt_of_lt_of_le hb hb2.size) (H.o.keep fun b hb=>⟨hb,fun o=>aH (hb2.block b hb) o⟩) (bE.nil _ _) (fun g hg=>by simp [Value.ownBlock] at hg) HPP.o aA (by simpa using HLEN.o fr) hup0 hup hfr0 aA).mono ?_;rintro e w3 ⟨hm3,(⟨hg,v',rfl,hown,hnr⟩ | ⟨hg,rfl⟩)⟩
   · obtain ⟨A',c',rfl⟩:=hown.slice;have HOWN:=hid hown;have HG:=hid hg;clear hown hg;go_wp2_with fail
     go_ret2;exact uE hb2 hm3 (by rw [HR3.o,if_pos HG.o]) HOWN.o
   have HG:=hid hg;clear hg;go_wp2_with fail
   go_ret2;exact dW (hb2.trans (hm3.to_below hb2.size (fun _ h=>h.elim) (fun g hg=>by simp [Value.ownBlock] at hg))) (by rw [HR3.o,if_neg (by rw [HG.o];simp)])
 have hmf:min fr 1048577=1048577:=aA;have hm':1048577<fr:=aA;have HR2:=HR.o;rw [hmf] at HR2;have HR3:=hid HR2;clear HR2 hmf hm;go_in;go_wp2_with (go_at_call 52;refine (cS H.o).mono ?_;rintro e w2 ⟨rfl,hb2⟩)
 refine (mY (base:=w.heap.size) (R:=(· < w.heap.size)) hb2.size (fun b hb=>Nat.lt_of_lt_of_le hb hb2.size) (H.o.keep fun b hb=>⟨hb,fun o=>aH (hb2.block b hb) o⟩) (bE.nil _ _) (fun g hg=>by simp [Value.ownBlock] at hg) HPP.o aA (by simpa using HLEN.o 1048577) hup0 hup aA aA).mono ?_;rintro e w3 ⟨hm3,(⟨hg,v',rfl,hown,hnr⟩ | ⟨hg,rfl⟩)⟩
 · obtain ⟨A',c',rfl⟩:=hown.slice;have HOWN:=hid hown;have HG:=hid hg;clear hown hg;go_wp2_with fail
   go_ret2;exact uE hb2 hm3 (by rw [HR3.o,if_pos HG.o]) HOWN.o
 have HG:=hid hg;clear hg;go_wp2_with fail
 go_ret2;exact dW (hb2.trans (hm3.to_below hb2.size (fun _ h=>h.elim) (fun g hg=>by simp [Value.ownBlock] at hg))) (by rw [HR3.o,if_neg (by rw [HG.o];simp)])
end
section
open Go.RowKit
def gW (n:Nd) (ats:List Nd):Prop:=if n.op=2 then aU n.b.toNat (-1) ats=Z (ats,[]) else ats=[]
def Wf:List Bool->Fo->Prop
 | [],.nil=>True
 | d::dr,.cons p n ats k x=>(match d with | false=>p=[] | true=>∃ f,p=[f]/\sX f=true)/\dG n=true/\gW n ats/\Wf (ds n) k/\Wf dr x
 | _,_=>False
theorem lC:∀ (k:Nat) (last:Int) (l m rest:List Nd),aU k last l=Z (m,[])->aU k last (l++rest)=Z (m,rest)
 | 0,_,l,m,rest,h=>by
  simp only [aU,Option.some.injEq,Prod.mk.injEq] at h;obtain ⟨rfl,rfl⟩:=h;simp [aU]
 | k+1,last,[],m,rest,h=>by simp [aU] at h
 | k+1,last,x::l,m,rest,h=>by
  simp only [aU,List.cons_append] at h ⊢;split at h
  · rename_i hc
    rw [if_pos hc];simp only [Option.map_eq_some_iff,Prod.mk.injEq] at h ⊢;obtain ⟨q,hq,rfl,hq2⟩:=h;obtain ⟨q1,q2⟩:=q;simp only at hq2;subst hq2;exact ⟨_,lC k x.a l q1 rest hq,rfl,rfl⟩
  · cases h
theorem lB:∀ (k:Nat) (last:Int) (l:List Nd) (p:List Nd×List Nd),aU k last l=Z p->aU k last p.1=Z (p.1,[])
 | 0,_,l,p,h=>by
  simp only [aU,Option.some.injEq] at h;subst h;rfl
 | k+1,last,[],p,h=>by simp [aU] at h
 | k+1,last,x::l,p,h=>by
  simp only [aU] at h;split at h
  · rename_i hc
    simp only [Option.map_eq_some_iff] at h;obtain ⟨q,hq,rfl⟩:=h;simp only [aU];rw [if_pos hc,lB k x.a l q hq];rfl
  · cases h
theorem GT {n:Nd} {l:List Nd} {q:List Nd×List Nd} (h:gF n l=Z q):gW n q.1:=by
 unfold gF at h;unfold gW;split at h
 · rename_i h2
   rw [if_pos h2];exact lB _ _ _ _ h
 rename_i h2
 rw [if_neg h2];simp only [Option.some.injEq] at h;subst h;rfl
theorem GS {n:Nd} {ats:List Nd} (h:gW n ats) (rest:List Nd):gF n (ats++rest)=Z (ats,rest):=by
 unfold gW at h;unfold gF;split at h
 · rename_i h2
   rw [if_pos h2];exact lC _ _ _ _ _ h
 rename_i h2
 rw [if_neg h2,h];rfl
theorem iA:∀ (F:Fo) (dl:List Bool) (rest:List Nd),Wf dl F->pp dl (row F++rest)=Z (F,rest)
 | .nil,[],rest,_=>by rw [iX];rfl
 | .nil,_::_,_,h=>h.elim
 | .cons _ _ _ _ _,[],_,h=>h.elim
 | .cons p n ats k x,d::dr,rest,h=>by
  obtain ⟨hp,hok,hat,hk,hx⟩:=h;have e:row (.cons p n ats k x)++rest=p++(n::(ats++(row k++(row x++rest)))):=by simp [row]
  have hpre:fE d (p++(n::(ats++(row k++(row x++rest)))))=Z (p,n::(ats++(row k++(row x++rest)))):=by
   cases d with
   | false=>simp only at hp;subst hp;rfl
   | true =>
    obtain ⟨f,rfl,hf⟩:=hp;simp only [List.cons_append,List.nil_append,fE,hf,if_true]
  rw [e,dZ,hpre];simp only [Option.bind_some,hok,if_true,GS hat];rw [iA k (ds n) _ hk];simp only [Option.bind_some];rw [iA x dr rest hx];rfl
theorem m7:∀ (f:Nat) (dl:List Bool) (l:List Nd) (x:Fo×List Nd),jH f dl l=Z x->Wf dl x.1
 | 0,_,_,_,h=>by simp [jH] at h
 | _+1,[],l,x,h=>by simp only [jH,Option.some.injEq] at h;subst h;trivial
 | f+1,d::dr,l,x,h=>by
  simp only [jH,Option.bind_eq_some_iff] at h;obtain ⟨p,hp,h⟩:=h;split at h
  · cases h
  · split at h
    · rename_i hok
      simp only [Option.bind_eq_some_iff] at h;obtain ⟨q,hq,k,hk,y,hy,h⟩:=h;simp only [Option.some.injEq] at h;subst h;refine ⟨?_,hok,GT hq,m7 f _ _ _ hk,m7 f _ _ _ hy⟩;cases d with
      | false=>simp only [fE,Option.some.injEq] at hp;subst hp;rfl
      | true =>
       cases l with
       | nil=>simp [fE] at hp
       | cons z l =>
        simp only [fE] at hp;split at hp
        · rename_i hz
          simp only [Option.some.injEq] at hp;subst hp;exact ⟨z,rfl,hz⟩
        · cases hp
    cases h
theorem fT {dl:List Bool} {l:List Nd} {x:Fo×List Nd} (h:pp dl l=Z x):Wf dl x.1:=m7 _ _ _ _ h
theorem lA {l:List Nd} {x:Fo} (h:pp [false] l=Z (x,[])) (hl:l.length<=4096):aN l=0:=by
 have h0:=uH h (by simp);simp only [List.length_nil] at h0;have he:i7 l 0=l.length:=by
  unfold i7;rw [if_pos aA];have:ends [false] l 0=Z l.length:=by
   unfold ends;rw [List.drop_zero,h];rfl
  simp only [Int.toNat_zero,this]
 unfold aN;rw [if_neg aA,if_pos he]
end
section
open Go.RowKit
structure Rt (t:List Nd) (n:Nd) (a:List Nd) (k:Fo):Prop where
 pp:pp [false] t=Z (.cons [] n a k .nil,[])
 few:t.length<=4096
theorem JF {t:List Nd} (h:aN t=0) : ∃ n a k,Rt t n a k:=by
 obtain ⟨h1,n,a,k,h2,_,_⟩:=dQ h;exact ⟨n,a,k,h2,h1⟩
theorem Rt.shape {t:List Nd} {n:Nd} {a:List Nd} {k:Fo} (h:Rt t n a k):aN t=0:=lA h.pp h.few
theorem Rt.eq {t:List Nd} {n:Nd} {a:List Nd} {k:Fo} (h:Rt t n a k):t=n::(a++row k):=by
 have:=kW h.pp;simpa [row] using this
theorem Rt.wf {t:List Nd} {n:Nd} {a:List Nd} {k:Fo} (h:Rt t n a k):dG n=true/\gW n a/\Wf (ds n) k:=by
 obtain ⟨_,h1,h2,h3,_⟩:=fT h.pp;exact ⟨h1,h2,h3⟩
theorem kC {n:Nd} {a:List Nd} {k:Fo} (h1:dG n=true) (h2:gW n a) (h3:Wf (ds n) k) (hl:(n::(a++row k)).length<=4096):Rt (n::(a++row k)) n a k:=by
 refine ⟨?_,hl⟩;have:=iA (.cons [] n a k .nil) [false] [] ⟨rfl,h1,h2,h3,trivial⟩;simpa [row] using this
theorem GR {n:Nd} (h:dG n=true) (h6:n.op=6):n=⟨6,0,0⟩:=by
 obtain ⟨op,a,b⟩:=n;simp only at h6;subst h6;simp only [dG,Bool.and_eq_true] at h;have h1:=aF.1 h.1.1;obtain ⟨rfl,rfl⟩:a=0/\b=0:=aA;rfl
structure NN (t:List Nd) (n1:Nd) (a1:List Nd) (k1:Fo) (n2:Nd) (a2:List Nd) (k2:Fo):Prop where
 fst:Rt (n1::(a1++row k1)) n1 a1 k1
 snd:Rt (n2::(a2++row k2)) n2 a2 k2
 eq:t=⟨6,0,0⟩::((n1::(a1++row k1))++(n2::(a2++row k2)))
 end_:i7 t 1=((1+(n1::(a1++row k1)).length:Nat):Int)
theorem oG {t:List Nd} {n:Nd} {a:List Nd} {k:Fo} (h:Rt t n a k) (h6:n.op=6) : ∃ n1 a1 k1 n2 a2 k2,k=.cons [] n1 a1 k1 (.cons [] n2 a2 k2 .nil)/\NN t n1 a1 k1 n2 a2 k2:=by
 obtain ⟨hok,hat,hw⟩:=h.wf;have hrow:=h.eq;have hn:=GR hok h6;have ha:a=[]:=by
  unfold gW at hat
  rwa [if_neg aA] at hat
 have hds:ds n=[false,false]:=by rw [hn];rfl
 rw [hds] at hw
 match k,hw with
 | .cons p1 n1 a1 k1 (.cons p2 n2 a2 k2 .nil),hw =>
  obtain ⟨hp1,o1,t1,w1,hp2,o2,t2,w2,_⟩:=hw;simp only at hp1 hp2;subst hp1 hp2;have hr:t=⟨6,0,0⟩::((n1::(a1++row k1))++(n2::(a2++row k2))):=by
   rw [hrow,ha,hn];simp [row]
  have hl:=h.few;rw [hr] at hl;simp only [List.length_cons,List.length_append] at hl;have f1:=kC o1 t1 w1 (by simp;omega);have f2:=kC o2 t2 w2 (by simp;omega);refine ⟨n1,a1,k1,n2,a2,k2,rfl,f1,f2,hr,?_⟩;have he:=kN t 1;rw [show ((1:Nat):Int)=1 from rfl] at he;rw [he];have hpp:=iA (.cons [] n1 a1 k1 .nil) [false] (n2::(a2++row k2)) ⟨rfl,o1,t1,w1,trivial⟩;have hd:t.drop 1=row (.cons [] n1 a1 k1 .nil)++(n2::(a2++row k2)):=by rw [hr];simp [row]
  unfold ends;rw [hd,hpp];simp only [Option.map_some,nS];rw [hr];simp only [List.length_cons,List.length_append];omega
end
section
open Go.RowKit
def DC (p:Int->Int->Bool):EF Unit := { an:=fun _ v a=>p v a,nx:=fun _ _ _=>() }
def ME (pb:Nat) (x:Int) (w:World) (_:Unit):Prop:=aD w pb 3 #[O X x]
theorem EN {pb H:Nat} {x:Int} (hpb:pb<H):tN Tryz.prog 92 #[.pointer (Z ⟨pb,0,none⟩)] (DC fun v a=>decide (max x 0<=v-a)) (ME pb x) (fun _=>False) H:=by
 intro w t v a hH hj hv0 hv1 ha0 ha1;have cb:=aD.cell hj;have hl:pb<w.heap.size:=aA;have HJ:=hid hj;clear hj;show Calls Tryz.prog 92 #[O X v,O X a,.pointer (Z ⟨pb,0,none⟩)] w _;go_in;go_wp2_with fail
 all_goals
  go_ret;refine ⟨eS ?_,aG.refl _ _ _,HJ.o⟩;simp only [DC];rw [decide_eq_decide];omega
def lZ (p:Int->Int->Bool) (pop pb:Int):Nat->Int->Fo->Bool
 | _,_,.nil=>false
 | j,a,.cons _ n _ k x=>((decide (n.op=1)&&p n.a (a+aC pop pb j))||lZ p n.op n.b 0 (a+aC pop pb j) k)||lZ p pop pb (j+1) a x
def mB (p:Int->Int->Bool) (a:Int) (n:Nd) (k:Fo):Bool:=(decide (n.op=1)&&p n.a a)||lZ p n.op n.b 0 a k
theorem eF (p:Int->Int->Bool) (pop pb:Int) (j:Nat) (a:Int) (pre:List Nd) (n:Nd) (ats:List Nd) (k x:Fo):lZ p pop pb j a (.cons pre n ats k x)=(mB p (a+aC pop pb j) n k||lZ p pop pb (j+1) a x):=rfl
theorem H9 (p:Int->Int->Bool) (f:Bool) (n:Nd) (a:Int):(qI (DC p)).nx (f,()) n a=((f||(decide (n.op=1)&&p n.a a)),()):=by
 simp only [qI,DC];cases f
 · by_cases h:n.op=1<;>simp [h]
 simp
theorem H8 (p:Int->Int->Bool) (pop pb:Int) : ∀ (j:Nat) (a:Int) (f:Bool) (F:Fo),(qI (DC p)).S pop pb j a (f,()) F=((f||lZ p pop pb j a F),())
 | _,_,_,.nil=>by simp [bV.S,lZ]
 | j,a,f,.cons pre n ats k x=>by
  rw [bV.S_cons,bV.S1,H9,H8 p n.op n.b 0 _ _ k,H8 p pop pb (j+1) a _ x,eF,mB];simp only [Bool.or_assoc]
theorem xX (p:Int->Int->Bool) (n:Nd) (k:Fo):(tU (DC p) () n k).1=mB p 0 n k:=by
 rw [tU,bV.S1,H9,H8,mB,Bool.false_or]
theorem vP {τ:Type} (T:EF τ) (pop pb:Int) : ∀ (j:Nat) (a:Int) (s:Bool×τ) (F:Fo),((qI T).E pop pb j a s F).length<=(row F).length
 | _,_,_,.nil=>Nat.le_refl _
 | j,a,s,.cons p n at' k x=>by
  rw [bV.E_cons,bV.E1];have h1:=vP T n.op n.b 0 (a+aC pop pb j) ((qI T).nx s n (a+aC pop pb j)) k;have h2:=vP T pop pb (j+1) a ((qI T).S1 (a+aC pop pb j) s n k) x;have h3:((qI T).em s n (a+aC pop pb j)).length=0:=rfl;simp only [List.length_append,row,List.length_cons];omega
theorem rA {τ:Type} (T:EF τ) (a:Int) (s:Bool×τ) (n:Nd) (ats:List Nd) (k:Fo):((qI T).E1 a s n ats k).length<=(n::(ats++row k)).length:=by
 have h1:=vP T n.op n.b 0 a ((qI T).nx s n a) k;have h3:((qI T).em s n a).length=0:=rfl;rw [bV.E1,List.length_append,List.length_append,h3];simp only [List.length_cons,List.length_append];omega
def KT (p:Int->Int->Bool) (l:List Nd):Bool :=
 match pp [false] l with
 | some (.cons _ n _ k _,_)=>mB p 0 n k
 | _=>false
def L0 (l:List Nd) (v:Int):Bool:=decide (0<=v)&&(decide (aN l=0)&&KT (fun x a=>decide (x-a=v)) l)
def eT (l:List Nd) (v:Int):Bool:=decide (aN l=0) && !KT (fun x a=>decide (max v 0<=x-a)) l
def nB (b:Bool) (w:World) (e:Ending) (w':World):Prop:=e=.returned (.bool b)/\Below w.heap.size w w'
theorem H0 {p:Int->Int->Bool} {mk:FuncId} {x:Int} {A:Option Addr} {nn c:Nat} {l:List Nd} {w w2:World} (h:aP w A nn c l) (hs:aN l=0) (hb:Below w.heap.size w w2) (hg:w.heap.size<w2.heap.size) (hbx:aD w2 w.heap.size 3 #[O X x])
 (hen:∀ args w,(callFunc mk args).run Tryz.prog w=.ok (.enter mk args) w) (hmet:∀ H pb,pb<H->tN Tryz.prog mk #[.pointer (Z ⟨pb,0,none⟩)] (DC p) (ME pb x) (fun _=>False) H) :
 Calls Tryz.prog 67 #[Y A nn c,.func (.func mk) #[] #[.pointer (Z ⟨w.heap.size,0,none⟩)]] w2 (nB (KT p l) w2):=by
 obtain ⟨hl,n,ats,k,hpp,hrow,hfs⟩:=dQ hs;refine (rB (T:=DC p) (J:=ME w.heap.size x) (K:=fun k=>k=w.heap.size) (S:=fun _=>False) (R:=(· < w.heap.size)) (t:=()) (fun b hb'=>⟨by omega,fun h=>h⟩) (h.keep fun b hb'=>⟨hb',fun o=>aH (hb.block b hb') o⟩) (fun k hk=>by omega) (fun k hk=>hk.elim)
  (fun w w' t hj hk=>hj.same (hk _ rfl)) hen (hmet _ _ hg) hbx hpp aA (by have:=rA (DC p) 0 (false,()) n ats k;rw [<-hrow] at this;omega)).mono ?_
 rintro e w3 ⟨rfl,hm,_⟩;refine ⟨eS ?_,hm.to_below (Nat.le_refl _) (fun _ h=>h.elim) (fun g hg=>by cases hg)⟩;rw [xX];unfold KT;rw [hpp]
theorem EO {A:Option Addr} {nn c:Nat} {l:List Nd} {w:World} (h:aP w A nn c l) (v:Int) :
 Calls Tryz.prog 53 #[Y A nn c,O X v] w (nB (eT l v) w):=by
 have hmf:∀ (fn:Fn) (first cap:Array Value) (w:World),(Instr.makeFunc fn first cap).run Tryz.prog w=.ok (.func fn first cap) w:=fun _ _ _ _=>rfl;have hbw:=aB w (.cells #[O X v] 3);by_cases hs:aN l=0
 · have hf:eT l v = !KT (fun x a=>decide (max v 0<=x-a)) l:=by simp [eT,hs]
   have hsb:(aN l==0)=true:=by simp [hs]
   have HF:=hid hf;have HS:=hid hs;have H:=hid h;have HBW:=hid hbw;have HA:=hid (h.below hbw);clear hf hs h hbw;go_in;go_wp2_with (go_at_call 52;refine (cS HA.o).mono ?_;rintro e w2 ⟨rfl,hb2⟩)
   have hb3:Below w.heap.size w w2:=HBW.o.trans (hb2.mono HBW.o.size);have hx:aD w2 w.heap.size 3 #[O X v]:=(aD.new w _ _).below hb2 (by simp);refine (H0 H.o HS.o hb3 hx.lt hx (fun _ _=>by kernel_rfl) (fun H pb hp=>EN hp)).mono ?_;rintro e w4 ⟨rfl,hb4⟩;go_wp2_with fail
   go_ret;exact ⟨eS HF.o.symm,hb3.trans (hb4.mono hb3.size)⟩
 have hf:eT l v=false:=by simp [eT,hs]
 have hsb:(aN l==0)=false:=by simp [hs]
 have HF:=hid hf;have HBW:=hid hbw;have HA:=hid (h.below hbw);clear hf hs h hbw;go_in;go_wp2_with (go_at_call 52;refine (cS HA.o).mono ?_;rintro e w2 ⟨rfl,hb2⟩)
 go_ret;exact ⟨eS HF.o.symm,HBW.o.trans (hb2.mono HBW.o.size)⟩
end
end Go.Proofs.YtjllmblbbgojbaaGreat
