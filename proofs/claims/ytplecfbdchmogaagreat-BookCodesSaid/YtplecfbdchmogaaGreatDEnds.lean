/- Merged: End, Shape, TermW, Rt, Below. -/
import Derived.Test.YtplecfbdchmogaaGreatProg
import Derived.Test.YtplecfbdchmogaaGreatDBase
import Derived.Test.YtplecfbdchmogaaGreatDLeafs
import Derived.WalkKit
import Derived.WalkLawsBesides
import Derived.WalkSpells
import Derived.Lib.Hide
import Derived.Deep.QuietTactic
import Derived.BigQuiet
import Derived.Test.YtplecfbdchmogaaGreatDWalks
namespace Go.Proofs.YtplecfbdchmogaaGreat
open Go.Value renaming int → O
open Go.IntKind renaming i64 → X
open Go.Lib (hid)
set_option maxHeartbeats 2000000
set_option maxRecDepth 100000
section
open Go.RowKit
theorem BR {A:Option Addr} {n c:Nat} {w:World} (a:Int) (ha:a<0) :
 Calls Tryz.prog 119 #[.slice A n c,O X a] w (fH (-1) w):=by
 go_in;go_wp2_with fail
 go_ret;exact ⟨rfl,Below.refl _ _⟩
theorem BS {A:Option Addr} {n c:Nat} {w:World} (a:Int) (p:Nat) (ha:a=p) (hp:n<=p) (_hn:n<=5864062014805) :
 Calls Tryz.prog 119 #[.slice A n c,O X a] w (fH (-1) w):=by
 subst ha;have h0:(0:Int)<=(p:Int):=aA;go_in;go_wp2_with fail
 go_ret;exact ⟨rfl,Below.refl _ _⟩
theorem I7 {A:Option Addr} {n c:Nat} {l:List Nd} {w:World} (h:aQ w A n c l) (a:Int) (p:Nat) (ha:a=p) (hp:p<n) (hbad:iC (aL l p)=false) :
 Calls Tryz.prog 119 #[.slice A n c,O X a] w (fH (-1) w):=by
 subst ha;have hfew:=h.few;have h0:(0:Int)<=(p:Int):=aA;obtain ⟨b,off,rfl,hb,c0,c1,c2⟩:=h.at_ hp;cases hpl:bQ (aL l p).op (aL l p).a (aL l p).b
 · clear hbad;go_in;go_wp2_with (go_at_call 135;refine (fN _ _ _ _).mono ?_;rintro e w1 ⟨rfl,hb1⟩;obtain ⟨hc1,hf1⟩:=lI hb1)
   go_ret;exact ⟨rfl,hb1⟩
 by_cases h3:(aL l p).op=3
 · have hb3:((aL l p).op==3)=true:=by simp [h3]
   clear h3 hbad;go_in;go_wp2_with (go_at_call 135;refine (fN _ _ _ _).mono ?_;rintro e w1 ⟨rfl,hb1⟩;obtain ⟨hc1,hf1⟩:=lI hb1)
   go_ret;exact ⟨rfl,hb1⟩
 have h13:(aL l p).op=13:=by simpa [iC,hpl,h3] using hbad
 have hb3:((aL l p).op==3)=false:=by simp [h3]
 have hb13:((aL l p).op==13)=true:=by simp [h13]
 clear h3 h13 hbad;go_in;go_wp2_with (go_at_call 135;refine (fN _ _ _ _).mono ?_;rintro e w1 ⟨rfl,hb1⟩;obtain ⟨hc1,hf1⟩:=lI hb1)
 go_ret;exact ⟨rfl,hb1⟩
theorem F0 {A:Option Addr} {n c:Nat} {l:List Nd} (p:Nat) (hp:p<n) (hok:iC (aL l p)=true)
 (ih:∀ (w:World) (a:Int) (q:Nat),aQ w A n c l->a=q->p<q->Calls Tryz.prog 119 #[.slice A n c,O X a] w (fH (rN (ends [false] l q)) w))
 {w:World} (h:aQ w A n c l) :
 Calls Tryz.prog 119 #[.slice A n c,O X p] w (fH (rN (ends [false] l p)) w):=by
 have hfew:=h.few;have h0:(0:Int)<=(p:Int):=aA;have HI:=hid ih;clear ih;have hpl:bQ (aL l p).op (aL l p).a (aL l p).b=true:=by
  simp only [iC,Bool.and_eq_true] at hok;exact hok.1.1
 have hb3:((aL l p).op==3)=false:=by
  simp only [iC,Bool.and_eq_true,decide_eq_true_eq] at hok;simp [hok.1.2]
 have hb13:((aL l p).op==13)=false:=by
  simp only [iC,Bool.and_eq_true,decide_eq_true_eq] at hok;simp [hok.2]
 have he1:ends [false] l p=if (aL l p).op=2 then jD (aL l p).b.toNat (-1) l (p+1) else ends (ds (aL l p)) l (p+1):=by
  rw [wE (by rw [h.len];exact hp),if_pos hok]
 have HE1:=hid he1;have HOK:=hid hok;clear he1 hok;obtain ⟨hb0,hb1000⟩:=kP hpl;obtain ⟨hk0,hk18⟩:=wT hpl;obtain ⟨b,off,rfl,hb,c0,c1,c2⟩:=h.at_ hp;by_cases h2:(aL l p).op=2
 · have hb2:((aL l p).op==2)=true:=by simp [h2]
   have H2:=hid h2;clear h2;go_in;go_wp2_with (go_at_call 135;refine (fN _ _ _ _).mono ?_;rintro e w1 ⟨rfl,hb1⟩;obtain ⟨hc1,hf1⟩:=lI hb1)
   refine (CQ ((h.below hb1).alloc _) _ _ (p+1) (aL l p).b.toNat aA aA aA aA).mono ?_;rintro e w2 ⟨rfl,hb2⟩;go_wp2
   go_ret;refine ⟨cH ?_,hb1.trans ((((Below.refl _ _).alloc (Nat.le_refl _) _).trans (hb2.mono (by simp))).mono hb1.size)⟩;rw [HE1.o,if_pos H2.o]
 have hb2:((aL l p).op==2)=false:=by simp [h2]
 have he2:ends [false] l p=ends (ds (aL l p)) l (p+1):=by rw [HE1.o,if_neg h2]
 have HE:=hid he2;clear HE1 he2 h2;go_in;go_wp2_with (first | (go_at_call 135;refine (fN _ _ _ _).mono ?_;rintro e w1 ⟨rfl,hb1⟩;obtain ⟨hc1,hf1⟩:=lI hb1) | (go_at_call 137;refine (rJ _ _ _ _ aA).mono ?_;rintro e w2 ⟨rfl,rfl⟩))
 have h1:=(h.below hb1).alloc (.cells #[O X (aL l p).op,O X (aL l p).a,O X (aL l p).b] 53);go_loopw [1,54] (fun a i wr=>∃ (q j:Nat),q<=n/\p<q/\(j:Int)<=eI (aL l p).op (aL l p).b/\a=O X q/\i=O X j/\ends (iB (aL l p) j) l q=ends (ds (aL l p)) l (p+1)/\Below (w1.heap.size+1) (w1.alloc (.cells #[O X (aL l p).op,O X (aL l p).a,O X (aL l p).b] 53)) wr) (fun _ i _=>(eI (aL l p).op (aL l p).b).toNat-(intOf i).toNat)
 case atStart=>exact ⟨p+1,0,hp,by omega,hk0,by go_num,rfl,by rw [tV],(Below.refl _ _).alloc (by simp) _⟩
 case round =>
  obtain ⟨q,j,hq,hpq,hj,rfl,rfl,he,hbw⟩:=hrel;have HR:=hid he;clear he;have hwr:=h1.below (hbw.mono (by simp));have g0:wr.cell? ⟨w1.heap.size,0,none⟩=some (O X (aL l p).op):=(hbw.cell (by simp)).trans (FL _ _ _ _ _ _ _ rfl);have hbt:∀ w2:World,Below wr.heap.size wr w2->Below w.heap.size w w2:=fun _ hx=>hb1.trans (((aB w1 _).trans ((hbw.mono aA).trans (hx.mono (by have:=hbw.size;simp at this;omega)))).mono hb1.size);have hbt2:∀ w2:World,Below wr.heap.size wr w2->Below (w1.heap.size+1) (w1.alloc (.cells #[O X (aL l p).op,O X (aL l p).a,O X (aL l p).b] 53)) w2:=fun _ hx=>hbw.trans (hx.mono (by have:=hbw.size;simp at this;omega));have HT:=hid hbt;have HT2:=hid hbt2;clear hbt hbt2;by_cases hlt:(j:Int)<eI (aL l p).op (aL l p).b;rotate_left
  · have hre:=xX (aL l p) (i:=j) aA;have hno:ends (iB (aL l p) j) l q=some q:=by rw [hre,F6 (by rw [h.len];exact hq)]
    have HNO:=hid hno;clear hno hre;go_wp2_with fail
    go_ret;refine ⟨cH ?_,HT.o _ (Below.refl _ _)⟩;rw [HE.o,<-HR.o,HNO.o];rfl
  by_cases h12:(aL l p).op=12
  · have hb12:((aL l p).op==12)=true:=by simp [h12]
    have hjb:(j:Int)<(aL l p).b:=by simpa [eI,h12] using hlt
    have hre:=xY h12 hjb;have HRE:=hid hre;clear hre h12 hjb;by_cases hqn:q<n;rotate_left
    · have hno:ends (iB (aL l p) j) l q=none:=by rw [HRE.o,nZ _ _ (by rw [h.len];omega)]
      have HNO:=hid hno;clear hno;go_wp2_with fail
      go_ret;refine ⟨cH ?_,HT.o _ (Below.refl _ _)⟩;rw [HE.o,<-HR.o,HNO.o];rfl
    have hef:ends (iB (aL l p) j) l q=if tN (aL l q) then ends (false::false::iB (aL l p) (j+1)) l (q+1) else none:=by
     rw [HRE.o,F5 _ (by rw [h.len];exact hqn)]
    obtain ⟨hbr,d0,d1,d2⟩:=hwr.cells hqn;cases hf:tN (aL l q)
    · have hno:ends (iB (aL l p) j) l q=none:=by rw [hef,hf];rfl
      have HNO:=hid hno;clear hno hef;by_cases h13:(aL l q).op=13
      · have hpf:bQ (aL l q).op (aL l q).a (aL l q).b=false:=by simpa [tN,h13] using hf
        have hq13:((aL l q).op != 13)=false:=by simp [h13]
        clear h13 hf;go_wp2_with (go_at_call 135;refine (fN _ _ _ _).mono ?_;rintro e w2 ⟨rfl,hb2⟩;obtain ⟨hc2,hf2⟩:=lI hb2)
        go_ret;refine ⟨cH ?_,HT.o _ hb2⟩;rw [HE.o,<-HR.o,HNO.o];rfl
      have hq13:((aL l q).op != 13)=true:=by simp [h13]
      clear h13 hf;go_wp2_with fail
      go_ret;refine ⟨cH ?_,HT.o _ (Below.refl _ _)⟩;rw [HE.o,<-HR.o,HNO.o];rfl
    have hpf:bQ (aL l q).op (aL l q).a (aL l q).b=true:=by
     simp only [tN,Bool.and_eq_true] at hf;exact hf.1
    have hq13:((aL l q).op != 13)=false:=by
     simp only [tN,Bool.and_eq_true,decide_eq_true_eq] at hf;simp [hf.2]
    have hgo:ends (iB (aL l p) j) l q=(ends [false] l (q+1)).bind fun q1=>(ends [false] l q1).bind (ends (iB (aL l p) (j+1)) l):=by
     rw [hef,if_pos hf,o6 false _ (by rw [h.len];omega)];refine Option.bind_congr fun q1 hq1 => ?_;rw [o6 false _ (qH hq1 (by rw [h.len];omega)).2.1]
    have HGO:=hid hgo;clear hgo hef hf;go_wp2_with (go_at_call 135;refine (fN _ _ _ _).mono ?_;rintro e w2 ⟨rfl,hb2⟩;obtain ⟨hc2,hf2⟩:=lI hb2)
    have hw2:=hwr.below hb2;refine (HI.o w2 _ (q+1) hw2 aA aA).mono ?_;rintro e w3 ⟨rfl,hb3'⟩;have hw3:=hw2.below hb3';cases hq1:ends [false] l (q+1) with
    | none =>
     have hno:ends (iB (aL l p) j) l q=none:=by rw [HGO.o,hq1];rfl
     have HNO:=hid hno;clear hno hq1;simp only [rN];go_wp2_with fail
     refine (BR (w:=w3) _ aA).mono ?_;rintro e w4 ⟨rfl,hb4⟩;go_wp2_with fail
     go_ret;refine ⟨cH ?_,HT.o _ (hb2.trans ((hb3'.trans (hb4.mono hb3'.size)).mono hb2.size))⟩;rw [HE.o,<-HR.o,HNO.o];rfl
    | some q1 =>
     obtain ⟨hq1a,hq1b,hq1c⟩:=qH hq1 (by rw [h.len];omega);rw [h.len] at hq1b;have hgo2:ends (iB (aL l p) j) l q=(ends [false] l q1).bind (ends (iB (aL l p) (j+1)) l):=by rw [HGO.o,hq1];rfl
     have HGO2:=hid hgo2;clear hgo2 hq1 hq1c;simp only [rN];go_wp2_with fail
     refine (HI.o w3 _ q1 hw3 rfl aA).mono ?_;rintro e w4 ⟨rfl,hb4⟩;have hb24:Below wr.heap.size wr w4:=hb2.trans ((hb3'.trans (hb4.mono hb3'.size)).mono hb2.size);cases hq2:ends [false] l q1 with
     | none =>
      have hno:ends (iB (aL l p) j) l q=none:=by rw [HGO2.o,hq2];rfl
      have HNO:=hid hno;clear hno hq2;simp only [rN];go_wp2_with fail
      go_ret;refine ⟨cH ?_,HT.o _ hb24⟩;rw [HE.o,<-HR.o,HNO.o];rfl
     | some q2 =>
      obtain ⟨hq2a,hq2b,hq2c⟩:=qH hq2 (by rw [h.len];omega);rw [h.len] at hq2b;have hgo3:ends (iB (aL l p) j) l q=ends (iB (aL l p) (j+1)) l q2:=by rw [HGO2.o,hq2];rfl
      have HGO3:=hid hgo3;clear hgo3 hq2 hq2c;simp only [rN];have hq20:(0:Int)<=(q2:Int):=aA;go_wp2_with fail
      go_roundw
      case rel=>exact ⟨q2,j+1,hq2b,by omega,by omega,rfl,by go_num,by rw [<-HGO3.o,HR.o],HT2.o _ hb24⟩
      case measure=>simp [intOf];omega
  have hb12:((aL l p).op==12)=false:=by simp [h12]
  have hre:=xZ h12 hlt;have hgo:ends (iB (aL l p) j) l q=(ends [false] l q).bind (ends (iB (aL l p) (j+1)) l):=by
   rw [hre,o6 false _ (by rw [h.len];omega)]
  have HGO:=hid hgo;clear hre hgo h12;go_wp2_with fail
  refine (HI.o wr _ q hwr rfl aA).mono ?_;rintro e w4 ⟨rfl,hb4⟩;cases hq2:ends [false] l q with
  | none =>
   have hno:ends (iB (aL l p) j) l q=none:=by rw [HGO.o,hq2];rfl
   have HNO:=hid hno;clear hno hq2;simp only [rN];go_wp2_with fail
   go_ret;refine ⟨cH ?_,HT.o _ hb4⟩;rw [HE.o,<-HR.o,HNO.o];rfl
  | some q2 =>
   obtain ⟨hq2a,hq2b,hq2c⟩:=qH hq2 (by rw [h.len];omega);rw [h.len] at hq2b;have hgo3:ends (iB (aL l p) j) l q=ends (iB (aL l p) (j+1)) l q2:=by rw [HGO.o,hq2];rfl
   have HGO3:=hid hgo3;clear hgo3 hq2 hq2c;simp only [rN];have hq20:(0:Int)<=(q2:Int):=aA;go_wp2_with fail
   go_roundw
   case rel=>exact ⟨q2,j+1,hq2b,by omega,by omega,rfl,by go_num,by rw [<-HGO3.o,HR.o],HT2.o _ hb4⟩
   case measure=>simp [intOf];omega
theorem I8 {A:Option Addr} {n c:Nat} {l:List Nd} : ∀ (m:Nat) (w:World) (a:Int) (p:Nat),aQ w A n c l->a=p->n<=p+m →
 Calls Tryz.prog 119 #[.slice A n c,O X a] w (fH (rN (ends [false] l p)) w):=by
 intro m
 induction m with
 | zero =>
  intro w a p h ha hm;rw [nZ _ _ (by rw [h.len];omega)];exact BS a p ha aA h.few
 | succ m ih =>
  intro w a p h ha hm;by_cases hp:p<n
  · cases hok:iC (aL l p)
    · have:ends [false] l p=none:=by rw [wE (by rw [h.len];exact hp),hok];rfl
      rw [this];exact I7 h a p ha hp hok
    subst ha;exact F0 p hp hok (fun w a q h ha hq=>ih w a q h ha aA) h
  · rw [nZ _ _ (by rw [h.len];omega)];exact BS a p ha aA h.few
theorem BQ {A:Option Addr} {n c:Nat} {l:List Nd} {w:World} (h:aQ w A n c l) (a:Int) :
 Calls Tryz.prog 119 #[.slice A n c,O X a] w (fH (qD l a) w):=by
 by_cases h0:0<=a
 · obtain ⟨p,rfl⟩:=Int.eq_ofNat_of_zero_le h0;rw [FZ];exact I8 n w p p h rfl aA
 have:qD l a = -1:=by simp only [qD];rw [if_neg aA]
 rw [this];exact BR a aA
end
section
open Go.RowKit
def aO (l:List Nd):Int:=if 4096<l.length then 9 else if qD l 0=l.length then 0 else 8
theorem iY {A:Option Addr} {nn c:Nat} {l:List Nd} {w:World} (h:aQ w A nn c l) :
 Calls Tryz.prog 84 #[.slice A nn c] w (fH (aO l) w):=by
 have hfew:=h.few;have hlen:=h.len;by_cases h1:4096<nn
 · have hs:aO l=9:=by unfold aO;rw [if_pos aA]
   have HS:=hid hs;have h1b:(4096:Int)<(nn:Int):=aA;clear hs hlen;go_in;go_wp2_with fail
   go_ret;exact ⟨cH HS.o.symm,Below.refl _ _⟩
 have h1b:decide ((4096:Int)<(nn:Int))=false:=by simp;omega
 by_cases h2:qD l 0=nn
 · have hs:aO l=0:=by unfold aO;rw [if_neg aA,if_pos aA]
   have HS:=hid hs;have h2b:(qD l 0 != (nn:Int))=false:=by simp [h2]
   clear hs hlen h2;go_in;go_wp2_with (go_at_call 119;refine (BQ h 0).mono ?_;rintro e w2 ⟨rfl,hb2⟩)
   go_ret;exact ⟨cH HS.o.symm,hb2⟩
 have hs:aO l=8:=by unfold aO;rw [if_neg aA,if_neg aA]
 have HS:=hid hs;have h2b:(qD l 0 != (nn:Int))=true:=by simp [h2]
 clear hs hlen h2;go_in;go_wp2_with (go_at_call 119;refine (BQ h 0).mono ?_;rintro e w2 ⟨rfl,hb2⟩)
 go_ret;exact ⟨cH HS.o.symm,hb2⟩
theorem kX:∀ (F:Fo),bN F<=(row F).length
 | .nil=>Nat.le_refl _
 | .cons p n a k x=>by
  have h1:=kX k;have h2:=kX x;simp only [bN,row,List.length_append,List.length_cons];omega
theorem f6 {l:List Nd} (h:aO l=0):l.length<=4096/\∃ n ats k,pp [false] l=some (.cons [] n ats k .nil,[])/\l=n::(ats++row k)/\bN k<=4096:=by
 unfold aO at h;split at h
 · cases h
 split at h
 · rename_i h1 h2
   refine ⟨by omega,?_⟩;unfold qD at h2;split at h2
   rotate_left
   · omega
   rename_i h3
   split at h2
   rotate_left
   · omega
   rename_i q hq
   simp only [ends,Option.map_eq_some_iff,Int.toNat_zero,List.drop_zero] at hq;obtain ⟨x,hx,hxl⟩:=hq;obtain ⟨n,ats,k,hn⟩:=pH hx;have hr:=nN hx;have hrl:=congrArg List.length hr;rw [List.length_append] at hrl;have h0:x.2=[]:=List.eq_nil_of_length_eq_zero aA;obtain ⟨x1,x2⟩:=x;simp only at hn h0 hr hx;subst hn h0;have hl:l=n::(ats++row k):=by simpa [row] using hr
   refine ⟨n,ats,k,hx,hl,?_⟩;have h5:=kX k;have h6:=congrArg List.length hl;simp only [List.length_cons,List.length_append] at h6;omega
 cases h
def MG (l:List Nd) (up fr:Int):List Nd×Int :=
 match pp [false] l with
 | some (.cons _ n ats k _,_)=>if (MH up (min fr 1048577)).G1 0 () n k=true then ((MH up (min fr 1048577)).E1 0 () n ats k,0) else ([],6)
 | _=>([],0)
end
section
open Go.RowKit
def vP (n:Nd) (ats:List Nd):Prop:=if n.op=2 then aU n.b.toNat (-1) ats=some (ats,[]) else ats=[]
def Wf:List Bool->Fo->Prop
 | [],.nil=>True
 | d::dr,.cons p n ats k x=>(match d with | false=>p=[] | true=>∃ f,p=[f]/\tN f=true)/\iC n=true/\vP n ats/\Wf (ds n) k/\Wf dr x
 | _,_=>False
theorem mG:∀ (k:Nat) (last:Int) (l:List Nd) (p:List Nd×List Nd),aU k last l=some p->aU k last p.1=some (p.1,[])
 | 0,_,l,p,h=>by
  simp only [aU,Option.some.injEq] at h;subst h;rfl
 | k+1,last,[],p,h=>by simp [aU] at h
 | k+1,last,x::l,p,h=>by
  simp only [aU] at h;split at h
  · rename_i hc
    simp only [Option.map_eq_some_iff] at h;obtain ⟨q,hq,rfl⟩:=h;simp only [aU];rw [if_pos hc,mG k x.a l q hq];rfl
  · cases h
theorem FI {n:Nd} {l:List Nd} {q:List Nd×List Nd} (h:jG n l=some q):vP n q.1:=by
 unfold jG at h;unfold vP;split at h
 · rename_i h2
   rw [if_pos h2];exact mG _ _ _ _ h
 rename_i h2
 rw [if_neg h2];simp only [Option.some.injEq] at h;subst h;rfl
theorem nT:∀ (f:Nat) (dl:List Bool) (l:List Nd) (x:Fo×List Nd),kF f dl l=some x->Wf dl x.1
 | 0,_,_,_,h=>by simp [kF] at h
 | _+1,[],l,x,h=>by simp only [kF,Option.some.injEq] at h;subst h;trivial
 | f+1,d::dr,l,x,h=>by
  simp only [kF,Option.bind_eq_some_iff] at h;obtain ⟨p,hp,h⟩:=h;split at h
  · cases h
  · split at h
    · rename_i hok
      simp only [Option.bind_eq_some_iff] at h;obtain ⟨q,hq,k,hk,y,hy,h⟩:=h;simp only [Option.some.injEq] at h;subst h;refine ⟨?_,hok,FI hq,nT f _ _ _ hk,nT f _ _ _ hy⟩;cases d with
      | false=>simp only [fW,Option.some.injEq] at hp;subst hp;rfl
      | true =>
       cases l with
       | nil=>simp [fW] at hp
       | cons z l =>
        simp only [fW] at hp;split at hp
        · rename_i hz
          simp only [Option.some.injEq] at hp;subst hp;exact ⟨z,rfl,hz⟩
        · cases hp
    cases h
theorem kT {dl:List Bool} {l:List Nd} {x:Fo×List Nd} (h:pp dl l=some x):Wf dl x.1:=nT _ _ _ _ h
theorem yE {l:List Nd} {x:Fo} (h:pp [false] l=some (x,[])) (hl:l.length<=4096):aO l=0:=by
 have h0:=tR h (by simp);simp only [List.length_nil] at h0;have he:qD l 0=l.length:=by
  unfold qD;rw [if_pos aA];have:ends [false] l 0=some l.length:=by
   unfold ends;rw [List.drop_zero,h];rfl
  simp only [Int.toNat_zero,this]
 unfold aO;rw [if_neg aA,if_pos he]
end
section
open Go.RowKit
structure Rt (t:List Nd) (n:Nd) (a:List Nd) (k:Fo):Prop where
 pp:pp [false] t=some (.cons [] n a k .nil,[])
 few:t.length<=4096
theorem KH {t:List Nd} (h:aO t=0) : ∃ n a k,Rt t n a k:=by
 obtain ⟨h1,n,a,k,h2,_,_⟩:=f6 h;exact ⟨n,a,k,h2,h1⟩
theorem Rt.eq {t:List Nd} {n:Nd} {a:List Nd} {k:Fo} (h:Rt t n a k):t=n::(a++row k):=by
 have:=nN h.pp;simpa [row] using this
end
section
open Go.RowKit
def I9 (p:Int->Int->Bool):FB Unit := { an:=fun _ v a=>p v a,nx:=fun _ _ _=>() }
def KT (pb:Nat) (x:Int) (w:World) (_:Unit):Prop:=aE w pb 3 #[O X x]
theorem CT {pb H:Nat} {x:Int} (hpb:pb<H):BO Tryz.prog 121 #[.pointer (some ⟨pb,0,none⟩)] (I9 fun v a=>decide (max x 0<=v-a)) (KT pb x) (fun _=>False) H:=by
 intro w t v a hH hj hv0 hv1 ha0 ha1;have cb:=aE.cell hj;have hl:pb<w.heap.size:=aA;have HJ:=hid hj;clear hj;show Calls Tryz.prog 121 #[O X v,O X a,.pointer (some ⟨pb,0,none⟩)] w _;go_in;go_wp2_with fail
 all_goals
  go_ret;refine ⟨fX ?_,aG.refl _ _ _,HJ.o⟩;simp only [I9];rw [decide_eq_decide];omega
def IH (p:Int->Int->Bool) (pop pb:Int):Nat->Int->Fo->Bool
 | _,_,.nil=>false
 | j,a,.cons _ n _ k x=>((decide (n.op=1)&&p n.a (a+aS pop pb j))||IH p n.op n.b 0 (a+aS pop pb j) k)||IH p pop pb (j+1) a x
def KY (p:Int->Int->Bool) (a:Int) (n:Nd) (k:Fo):Bool:=(decide (n.op=1)&&p n.a a)||IH p n.op n.b 0 a k
theorem wH (p:Int->Int->Bool) (pop pb:Int) (j:Nat) (a:Int) (pre:List Nd) (n:Nd) (ats:List Nd) (k x:Fo):IH p pop pb j a (.cons pre n ats k x)=(KY p (a+aS pop pb j) n k||IH p pop pb (j+1) a x):=rfl
theorem F9 (p:Int->Int->Bool) (f:Bool) (n:Nd) (a:Int):(sO (I9 p)).nx (f,()) n a=((f||(decide (n.op=1)&&p n.a a)),()):=by
 simp only [sO,I9];cases f
 · by_cases h:n.op=1<;>simp [h]
 simp
theorem F8 (p:Int->Int->Bool) (pop pb:Int) : ∀ (j:Nat) (a:Int) (f:Bool) (F:Fo),(sO (I9 p)).S pop pb j a (f,()) F=((f||IH p pop pb j a F),())
 | _,_,_,.nil=>by simp [dK.S,IH]
 | j,a,f,.cons pre n ats k x=>by
  rw [dK.S_cons,dK.S1,F9,F8 p n.op n.b 0 _ _ k,F8 p pop pb (j+1) a _ x,wH,KY];simp only [Bool.or_assoc]
theorem FW (p:Int->Int->Bool) (n:Nd) (k:Fo):(BP (I9 p) () n k).1=KY p 0 n k:=by
 rw [BP,dK.S1,F9,F8,KY,Bool.false_or]
theorem uL {τ:Type} (T:FB τ) (pop pb:Int) : ∀ (j:Nat) (a:Int) (s:Bool×τ) (F:Fo),((sO T).E pop pb j a s F).length<=(row F).length
 | _,_,_,.nil=>Nat.le_refl _
 | j,a,s,.cons p n at' k x=>by
  rw [dK.E_cons,dK.E1];have h1:=uL T n.op n.b 0 (a+aS pop pb j) ((sO T).nx s n (a+aS pop pb j)) k;have h2:=uL T pop pb (j+1) a ((sO T).S1 (a+aS pop pb j) s n k) x;have h3:((sO T).em s n (a+aS pop pb j)).length=0:=rfl;simp only [List.length_append,row,List.length_cons];omega
theorem FU {τ:Type} (T:FB τ) (a:Int) (s:Bool×τ) (n:Nd) (ats:List Nd) (k:Fo):((sO T).E1 a s n ats k).length<=(n::(ats++row k)).length:=by
 have h1:=uL T n.op n.b 0 a ((sO T).nx s n a) k;have h3:((sO T).em s n a).length=0:=rfl;rw [dK.E1,List.length_append,List.length_append,h3];simp only [List.length_cons,List.length_append];omega
def LR (p:Int->Int->Bool) (l:List Nd):Bool :=
 match pp [false] l with
 | some (.cons _ n _ k _,_)=>KY p 0 n k
 | _=>false
def gE (l:List Nd) (v:Int):Bool:=decide (aO l=0) && !LR (fun x a=>decide (max v 0<=x-a)) l
def qN (b:Bool) (w:World) (e:Ending) (w':World):Prop:=e=.returned (.bool b)/\Below w.heap.size w w'
theorem FY {p:Int->Int->Bool} {mk:FuncId} {x:Int} {A:Option Addr} {nn c:Nat} {l:List Nd} {w w2:World} (h:aQ w A nn c l) (hs:aO l=0) (hb:Below w.heap.size w w2) (hg:w.heap.size<w2.heap.size) (hbx:aE w2 w.heap.size 3 #[O X x])
 (hen:∀ args w,(callFunc mk args).run Tryz.prog w=.ok (.enter mk args) w) (hmet:∀ H pb,pb<H->BO Tryz.prog mk #[.pointer (some ⟨pb,0,none⟩)] (I9 p) (KT pb x) (fun _=>False) H) :
 Calls Tryz.prog 120 #[.slice A nn c,.func (.func mk) #[] #[.pointer (some ⟨w.heap.size,0,none⟩)]] w2 (qN (LR p l) w2):=by
 obtain ⟨hl,n,ats,k,hpp,hrow,hfs⟩:=f6 hs;refine (FX (T:=I9 p) (J:=KT w.heap.size x) (K:=fun k=>k=w.heap.size) (S:=fun _=>False) (R:=(· < w.heap.size)) (t:=()) (fun b hb'=>⟨by omega,fun h=>h⟩) (h.keep fun b hb'=>⟨hb',fun o=>aF (hb.block b hb') o⟩) (fun k hk=>by omega) (fun k hk=>hk.elim)
  (fun w w' t hj hk=>hj.same (hk _ rfl)) hen (hmet _ _ hg) hbx hpp aA (by have:=FU (I9 p) 0 (false,()) n ats k;rw [<-hrow] at this;omega)).mono ?_
 rintro e w3 ⟨rfl,hm,_⟩;refine ⟨fX ?_,hm.to_below (Nat.le_refl _) (fun _ h=>h.elim) (fun g hg=>by cases hg)⟩;rw [FW];unfold LR;rw [hpp]
theorem CU {A:Option Addr} {nn c:Nat} {l:List Nd} {w:World} (h:aQ w A nn c l) (v:Int) :
 Calls Tryz.prog 85 #[.slice A nn c,O X v] w (qN (gE l v) w):=by
 have hmf:∀ (fn:Fn) (first cap:Array Value) (w:World),(Instr.makeFunc fn first cap).run Tryz.prog w=.ok (.func fn first cap) w:=fun _ _ _ _=>rfl;have hbw:=aB w (.cells #[O X v] 3);by_cases hs:aO l=0
 · have hf:gE l v = !LR (fun x a=>decide (max v 0<=x-a)) l:=by simp [gE,hs]
   have hsb:(aO l==0)=true:=by simp [hs]
   have HF:=hid hf;have HS:=hid hs;have H:=hid h;have HBW:=hid hbw;have HA:=hid (h.below hbw);clear hf hs h hbw;go_in;go_wp2_with (go_at_call 84;refine (iY HA.o).mono ?_;rintro e w2 ⟨rfl,hb2⟩)
   have hb3:Below w.heap.size w w2:=HBW.o.trans (hb2.mono HBW.o.size);have hx:aE w2 w.heap.size 3 #[O X v]:=(aE.new w _ _).below hb2 (by simp);refine (FY H.o HS.o hb3 hx.lt hx (fun _ _=>by kernel_rfl) (fun H pb hp=>CT hp)).mono ?_;rintro e w4 ⟨rfl,hb4⟩;go_wp2_with fail
   go_ret;exact ⟨fX HF.o.symm,hb3.trans (hb4.mono hb3.size)⟩
 have hf:gE l v=false:=by simp [gE,hs]
 have hsb:(aO l==0)=false:=by simp [hs]
 have HF:=hid hf;have HBW:=hid hbw;have HA:=hid (h.below hbw);clear hf hs h hbw;go_in;go_wp2_with (go_at_call 84;refine (iY HA.o).mono ?_;rintro e w2 ⟨rfl,hb2⟩)
 go_ret;exact ⟨fX HF.o.symm,HBW.o.trans (hb2.mono HBW.o.size)⟩
end
end Go.Proofs.YtplecfbdchmogaaGreat
