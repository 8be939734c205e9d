/- Merged: End, Shape, TermW, Rt, Below. -/
import Derived.Test.YtjoddliplahgkaaGreatPWalks
namespace Go.Proofs.YtjoddliplahgkaaGreat
set_option linter.unusedVariables false
set_option linter.unusedSimpArgs false
open Go.RowKit
open Go.Value renaming int → O, slice → Z
open Go.IntKind renaming i64 → X
open Option renaming some → Y
open Go.Lib renaming hid->aB
set_option maxHeartbeats 2000000
set_option maxRecDepth 100000
theorem GK {A:Option Addr} {n c:Nat} {w:World} (a:Int) (ha:a<0) :
 Calls Tryz.prog 111 #[Z A n c,O X a] w (eF (-1) w):=by
 go_in;go_wp2_with fail;go_ret;exact⟨rfl,Below.refl _ _⟩
theorem GL {A:Option Addr} {n c:Nat} {w:World} (a:Int) (p:Nat) (ha:a=p) (hp:n<=p) (_hn:n<=5864062014805) :
 Calls Tryz.prog 111 #[Z A n c,O X a] w (eF (-1) w):=by
 subst ha;have h0:(0:Int)<=(p:Int):=aA;go_in;go_wp2_with fail;go_ret;exact⟨rfl,Below.refl _ _⟩
theorem OX {A:Option Addr} {n c:Nat} {l:List Nd} {w:World} (h:aY w A n c l) (a:Int) (p:Nat) (ha:a=p) (hp:p<n) (hbad:eN (bD l p)=false) :
 Calls Tryz.prog 111 #[Z A n c,O X a] w (eF (-1) w):=by
 subst ha;have h0:(0:Int)<=(p:Int):=aA;obtain⟨b,off,rfl,hb,c0,c1,c2⟩:=h.at_ hp;cases hpl:cD (bD l p).op (bD l p).a (bD l p).b
 · clear hbad;go_in;go_wp2_with (go_at_call 131;refine (fZ _ _ _ _).mono ?_;rintro e w1 ⟨rfl,a0⟩;obtain⟨a2,a1⟩:=lZ a0)
   go_ret;exact⟨rfl,a0⟩
 by_cases h3:(bD l p).op=3
 · have a4:((bD l p).op==3)=true:=by simp[h3]
   clear h3 hbad;go_in;go_wp2_with (go_at_call 131;refine (fZ _ _ _ _).mono ?_;rintro e w1 ⟨rfl,a0⟩;obtain⟨a2,a1⟩:=lZ a0)
   go_ret;exact⟨rfl,a0⟩
 have a3:(bD l p).op=13:=by simpa[eN,hpl,h3] using hbad
 have a4:((bD l p).op==3)=false:=by simp[h3]
 have a5:((bD l p).op==13)=true:=by simp[a3]
 clear h3 a3 hbad;go_in;go_wp2_with (go_at_call 131;refine (fZ _ _ _ _).mono ?_;rintro e w1 ⟨rfl,a0⟩;obtain⟨a2,a1⟩:=lZ a0)
 go_ret;exact⟨rfl,a0⟩
theorem LV {A:Option Addr} {n c:Nat} {l:List Nd} (p:Nat) (hp:p<n) (hok:eN (bD l p)=true)
 (ih:∀(w:World) (a:Int) (q:Nat),aY w A n c l->a=q->p<q->Calls Tryz.prog 111 #[Z A n c,O X a] w (eF (pW (ends [false] l q)) w))
 {w:World} (h:aY w A n c l) :
 Calls Tryz.prog 111 #[Z A n c,O X p] w (eF (pW (ends [false] l p)) w):=by
 have e6:=h.few;have h0:(0:Int)<=(p:Int):=aA;have HI:=aB ih;clear ih;have d4:cD (bD l p).op (bD l p).a (bD l p).b=true:=by
  simp only[eN,Bool.and_eq_true] at hok;exact hok.1.1
 have f4:((bD l p).op==3)=false:=by
  simp only[eN,Bool.and_eq_true,decide_eq_true_eq] at hok;simp[hok.1.2]
 have f1:((bD l p).op==13)=false:=by
  simp only[eN,Bool.and_eq_true,decide_eq_true_eq] at hok;simp[hok.2]
 have d7:ends [false] l p=if (bD l p).op=2 then jA (bD l p).b.toNat (-1) l (p+1) else ends (ds (bD l p)) l (p+1):=by
  rw[BM (by rw[h.len];exact hp),if_pos hok]
 have c9:=aB d7;clear d7 hok;obtain⟨f5,c8⟩:=gT d4;obtain⟨e5,e4⟩:=CA d4;obtain⟨b,off,rfl,hb,c0,c1,c2⟩:=h.at_ hp;by_cases h2:(bD l p).op=2
 · have a1:((bD l p).op==2)=true:=by simp[h2]
   have H2:=aB h2;clear h2;go_in;go_wp2_with (go_at_call 131;refine (fZ _ _ _ _).mono ?_;rintro e w1 ⟨rfl,a6⟩;obtain⟨f0,e8⟩:=lZ a6)
   refine (IM ((h.below a6).alloc _) _ _ (p+1) (bD l p).b.toNat aA aA aA aA).mono ?_;rintro e w2 ⟨rfl,a1⟩;go_wp2
   go_ret;refine⟨cT ?_,a6.trans ((((Below.refl _ _).alloc (Nat.le_refl _) _).trans (a1.mono aD)).mono a6.size)⟩;rw[c9.o,if_pos H2.o]
 have a1:((bD l p).op==2)=false:=by simp[h2]
 have d6:ends [false] l p=ends (ds (bD l p)) l (p+1):=by rw[c9.o,if_neg h2]
 have HE:=aB d6;clear c9 d6 h2;go_in;go_wp2_with (first | (go_at_call 131;refine (fZ _ _ _ _).mono ?_;rintro e w1 ⟨rfl,a6⟩;obtain⟨f0,e8⟩:=lZ a6) | (go_at_call 133;refine (pT _ _ _ _ aA).mono ?_;rintro e w2 ⟨rfl,rfl⟩))
 have h1:=(h.below a6).alloc (.cells #[O X (bD l p).op,O X (bD l p).a,O X (bD l p).b] 46);go_loopw [1,54] (fun a i wr=>∃(q j:Nat),q<=n/\p<q/\(j:Int)<=dY (bD l p).op (bD l p).b/\a=O X q/\i=O X j/\ends (gY (bD l p) j) l q=ends (ds (bD l p)) l (p+1)/\Below (w1.heap.size+1) (w1.alloc (.cells #[O X (bD l p).op,O X (bD l p).a,O X (bD l p).b] 46)) wr) (fun _ i _=>(dY (bD l p).op (bD l p).b).toNat-(intOf i).toNat)
 case atStart=>exact⟨p+1,0,hp,by omega,e5,by go_num,rfl,by rw[rI],(Below.refl _ _).alloc aD _⟩
 case round =>
  obtain⟨q,j,hq,f2,hj,rfl,rfl,he,b0⟩:=hrel;have HR:=aB he;clear he;have c3:=h1.below (b0.mono aD);have g0:wr.cell? ⟨w1.heap.size,0,none⟩=Y (O X (bD l p).op):=(b0.cell aD).trans (LH _ _ _ _ _ _ _ rfl);have d8:∀w2:World,Below wr.heap.size wr w2->Below w.heap.size w w2:=fun _ hx=>a6.trans (((aP w1 _).trans ((b0.mono aA).trans (hx.mono (by have:=b0.size;simp at this;omega)))).mono a6.size);have b5:∀w2:World,Below wr.heap.size wr w2->Below (w1.heap.size+1) (w1.alloc (.cells #[O X (bD l p).op,O X (bD l p).a,O X (bD l p).b] 46)) w2:=fun _ hx=>b0.trans (hx.mono (by have:=b0.size;simp at this;omega));have HT:=aB d8;have d9:=aB b5;clear d8 b5;by_cases hlt:(j:Int)<dY (bD l p).op (bD l p).b;rotate_left
  · have a7:=uF (bD l p) (i:=j) aA;have a0:ends (gY (bD l p) j) l q=Y q:=by rw[a7,LX (by rw[h.len];exact hq)]
    have a2:=aB a0;clear a0 a7;go_wp2_with fail;go_ret;refine⟨cT ?_,HT.o _ (Below.refl _ _)⟩;rw[HE.o,<-HR.o,a2.o];rfl
  by_cases h12:(bD l p).op=12
  · have c7:((bD l p).op==12)=true:=by simp[h12]
    have d5:(j:Int)<(bD l p).b:=by simpa[dY,h12] using hlt
    have a7:=uG h12 d5;have e0:=aB a7;clear a7 h12 d5;by_cases hqn:q<n;rotate_left
    · have a0:ends (gY (bD l p) j) l q=none:=by rw[e0.o,pK _ _ (by rw[h.len];omega)]
      have a2:=aB a0;clear a0;go_wp2_with fail;go_ret;refine⟨cT ?_,HT.o _ (Below.refl _ _)⟩;rw[HE.o,<-HR.o,a2.o];rfl
    have b9:ends (gY (bD l p) j) l q=if vI (bD l q) then ends (false::false::gY (bD l p) (j+1)) l (q+1) else none:=by
     rw[e0.o,LW _ (by rw[h.len];exact hqn)]
    obtain⟨f3,d0,d1,d2⟩:=c3.cells hqn;cases hf:vI (bD l q)
    · have a0:ends (gY (bD l p) j) l q=none:=by rw[b9,hf];rfl
      have a2:=aB a0;clear a0 b9;by_cases h13:(bD l q).op=13
      · have e3:cD (bD l q).op (bD l q).a (bD l q).b=false:=by simpa[vI,h13] using hf
        have b2:((bD l q).op != 13)=false:=by simp[h13]
        clear h13 hf;go_wp2_with (go_at_call 131;refine (fZ _ _ _ _).mono ?_;rintro e w2 ⟨rfl,a1⟩;obtain⟨e9,e7⟩:=lZ a1)
        go_ret;refine⟨cT ?_,HT.o _ a1⟩;rw[HE.o,<-HR.o,a2.o];rfl
      have b2:((bD l q).op != 13)=true:=by simp[h13]
      clear h13 hf;go_wp2_with fail;go_ret;refine⟨cT ?_,HT.o _ (Below.refl _ _)⟩;rw[HE.o,<-HR.o,a2.o];rfl
    have e3:cD (bD l q).op (bD l q).a (bD l q).b=true:=by
     simp only[vI,Bool.and_eq_true] at hf;exact hf.1
    have b2:((bD l q).op != 13)=false:=by
     simp only[vI,Bool.and_eq_true,decide_eq_true_eq] at hf;simp[hf.2]
    have b4:ends (gY (bD l p) j) l q=(ends [false] l (q+1)).bind fun q1=>(ends [false] l q1).bind (ends (gY (bD l p) (j+1)) l):=by
     rw[b9,if_pos hf,qQ false _ (by rw[h.len];omega)];refine Option.bind_congr fun q1 hq1 => ?_;rw[qQ false _ (sM hq1 (by rw[h.len];omega)).2.1]
    have b8:=aB b4;clear b4 b9 hf;go_wp2_with (go_at_call 131;refine (fZ _ _ _ _).mono ?_;rintro e w2 ⟨rfl,a1⟩;obtain⟨e9,e7⟩:=lZ a1)
    have d3:=c3.below a1;refine (HI.o w2 _ (q+1) d3 aA aA).mono ?_;rintro e w3 ⟨rfl,a5⟩;have e1:=d3.below a5;cases hq1:ends [false] l (q+1) with
    | none =>
     have a0:ends (gY (bD l p) j) l q=none:=by rw[b8.o,hq1];rfl
     have a2:=aB a0;clear a0 hq1;simp only[pW];go_wp2_with fail;refine (GK (w:=w3) _ aA).mono ?_;rintro e w4 ⟨rfl,b1⟩;go_wp2_with fail;go_ret;refine⟨cT ?_,HT.o _ (a1.trans ((a5.trans (b1.mono a5.size)).mono a1.size))⟩;rw[HE.o,<-HR.o,a2.o];rfl
    | some q1 =>
     obtain⟨e2,c6,c5⟩:=sM hq1 (by rw[h.len];omega);rw[h.len] at c6;have b3:ends (gY (bD l p) j) l q=(ends [false] l q1).bind (ends (gY (bD l p) (j+1)) l):=by rw[b8.o,hq1];rfl
     have b7:=aB b3;clear b3 hq1 c5;simp only[pW];go_wp2_with fail;refine (HI.o w3 _ q1 e1 rfl aA).mono ?_;rintro e w4 ⟨rfl,b1⟩;have b6:Below wr.heap.size wr w4:=a1.trans ((a5.trans (b1.mono a5.size)).mono a1.size);cases hq2:ends [false] l q1 with
     | none =>
      have a0:ends (gY (bD l p) j) l q=none:=by rw[b7.o,hq2];rfl
      have a2:=aB a0;clear a0 hq2;simp only[pW];go_wp2_with fail;go_ret;refine⟨cT ?_,HT.o _ b6⟩;rw[HE.o,<-HR.o,a2.o];rfl
     | some q2 =>
      obtain⟨c4,a3,a8⟩:=sM hq2 (by rw[h.len];omega);rw[h.len] at a3;have a4:ends (gY (bD l p) j) l q=ends (gY (bD l p) (j+1)) l q2:=by rw[b7.o,hq2];rfl
      have a9:=aB a4;clear a4 hq2 a8;simp only[pW];go_wp2_with fail;go_roundw
      case rel=>exact⟨q2,j+1,a3,by omega,by omega,rfl,by go_num,by rw[<-a9.o,HR.o],d9.o _ b6⟩
      case measure=>simp[intOf];omega
  have c7:((bD l p).op==12)=false:=by simp[h12]
  have a7:=uH h12 hlt;have b4:ends (gY (bD l p) j) l q=(ends [false] l q).bind (ends (gY (bD l p) (j+1)) l):=by
   rw[a7,qQ false _ (by rw[h.len];omega)]
  have b8:=aB b4;clear a7 b4 h12;go_wp2_with fail;refine (HI.o wr _ q c3 rfl aA).mono ?_;rintro e w4 ⟨rfl,b1⟩;cases hq2:ends [false] l q with
  | none =>
   have a0:ends (gY (bD l p) j) l q=none:=by rw[b8.o,hq2];rfl
   have a2:=aB a0;clear a0 hq2;simp only[pW];go_wp2_with fail;go_ret;refine⟨cT ?_,HT.o _ b1⟩;rw[HE.o,<-HR.o,a2.o];rfl
  | some q2 =>
   obtain⟨c4,a3,a8⟩:=sM hq2 (by rw[h.len];omega);rw[h.len] at a3;have a4:ends (gY (bD l p) j) l q=ends (gY (bD l p) (j+1)) l q2:=by rw[b8.o,hq2];rfl
   have a9:=aB a4;clear a4 hq2 a8;simp only[pW];go_wp2_with fail;go_roundw
   case rel=>exact⟨q2,j+1,a3,by omega,by omega,rfl,by go_num,by rw[<-a9.o,HR.o],d9.o _ b1⟩
   case measure=>simp[intOf];omega
theorem OY {A:Option Addr} {n c:Nat} {l:List Nd} : ∀(m:Nat) (w:World) (a:Int) (p:Nat),aY w A n c l->a=p->n<=p+m →
 Calls Tryz.prog 111 #[Z A n c,O X a] w (eF (pW (ends [false] l p)) w):=by
 intro m
 induction m with
 | zero =>
  intro w a p h ha hm;rw[pK _ _ (by rw[h.len];omega)];exact GL a p ha aA h.few
 | succ m ih =>
  intro w a p h ha hm;by_cases hp:p<n
  · cases hok:eN (bD l p)
    · have:ends [false] l p=none:=by rw[BM (by rw[h.len];exact hp),hok];rfl
      rw[this];exact OX h a p ha hp hok
    subst ha;exact LV p hp hok (fun w a q h ha hq=>ih w a q h ha aA) h
  · rw[pK _ _ (by rw[h.len];omega)];exact GL a p ha aA h.few
theorem jM {A:Option Addr} {n c:Nat} {l:List Nd} {w:World} (h:aY w A n c l) (a:Int) :
 Calls Tryz.prog 111 #[Z A n c,O X a] w (eF (mC l a) w):=by
 by_cases h0:0<=a
 · obtain⟨p,rfl⟩:=Int.eq_ofNat_of_zero_le h0;rw[mH];exact OY n w p p h rfl aA
 have:mC l a = -1:=by simp only[mC];rw[if_neg aA]
 rw[this];exact GK a aA
def a8 (l:List Nd):Int:=if 4096<l.length then 9 else if mC l 0=l.length then 0 else 8
theorem dP {A:Option Addr} {nn c:Nat} {l:List Nd} {w:World} (h:aY w A nn c l) :
 Calls Tryz.prog 97 #[Z A nn c] w (eF (a8 l) w):=by
 have a2:=h.few;have a0:=h.len;by_cases h1:4096<nn
 · have hs:a8 l=9:=by unfold a8;rw[if_pos aA]
   have HS:=aB hs;have a4:(4096:Int)<(nn:Int):=aA;clear hs a0;go_in;go_wp2_with fail;go_ret;exact⟨cT HS.o.symm,Below.refl _ _⟩
 have a4:decide ((4096:Int)<(nn:Int))=false:=by simp;omega
 by_cases h2:mC l 0=nn
 · have hs:a8 l=0:=by unfold a8;rw[if_neg aA,if_pos aA]
   have HS:=aB hs;have a3:(mC l 0 != (nn:Int))=false:=by simp[h2]
   clear hs a0 h2;go_in;go_wp2_with (go_at_call 111;refine (jM h 0).mono ?_;rintro e w2 ⟨rfl,a1⟩)
   go_ret;exact⟨cT HS.o.symm,a1⟩
 have hs:a8 l=8:=by unfold a8;rw[if_neg aA,if_neg aA]
 have HS:=aB hs;have a3:(mC l 0 != (nn:Int))=true:=by simp[h2]
 clear hs a0 h2;go_in;go_wp2_with (go_at_call 111;refine (jM h 0).mono ?_;rintro e w2 ⟨rfl,a1⟩)
 go_ret;exact⟨cT HS.o.symm,a1⟩
theorem eT:∀(F:Fo),aX F<=(row F).length
 | .nil=>Nat.le_refl _
 | .cons p n a k x=>by
  have h1:=eT k;have h2:=eT x;simp only[aX,row,List.length_append,List.length_cons];omega
theorem fB {l:List Nd} (h:a8 l=0):l.length<=4096/\∃n ats k,pp [false] l=Y (.cons [] n ats k .nil,[])/\l=n::(ats++row k)/\aX k<=4096:=by
 unfold a8 at h;split at h
 · cases h
 split at h
 · rename_i h1 h2
   refine⟨by omega,?_⟩;unfold mC at h2;split at h2
   rotate_left
   · omega
   rename_i h3
   split at h2
   rotate_left
   · omega
   rename_i q hq
   simp only[ends,Option.map_eq_some_iff,Int.toNat_zero,List.drop_zero] at hq;obtain⟨x,hx,a1⟩:=hq;obtain⟨n,ats,k,hn⟩:=rD hx;have hr:=oX hx;have a0:=congrArg List.length hr;rw[List.length_append] at a0;have h0:x.2=[]:=List.eq_nil_of_length_eq_zero aA;obtain⟨x1,x2⟩:=x;simp only at hn h0 hr hx;subst hn h0;have hl:l=n::(ats++row k):=by simpa[row] using hr
   refine⟨n,ats,k,hx,hl,?_⟩;have h5:=eT k;have h6:=congrArg List.length hl;simp only[List.length_cons,List.length_append] at h6;omega
 cases h
def CD (l:List Nd) (up fr:Int):List Nd×Int :=
 match pp [false] l with
 | some (.cons _ n ats k _,_)=>if (jO up (min fr 1048577)).G1 0 () n k=true then ((jO up (min fr 1048577)).E1 0 () n ats k,0) else ([],6)
 | _=>([],0)
def l8 (l:List Nd) (up fr:Int):List Nd×Int:=if a8 l=0 then (if up<0\/fr<0 then ([],1) else CD l up fr) else ([],a8 l)
theorem sR (up fr:Int) (pop pb:Int) : ∀(j:Nat) (a:Int) (F:Fo),((jO up fr).E pop pb j a () F).length=(row F).length
 | _,_,.nil=>rfl
 | j,a,.cons p n at' k x=>by
  rw[cW.E_cons,cW.E1];have h1:=sR up fr n.op n.b 0 (a+aR pop pb j) k;have h2:=sR up fr pop pb (j+1) a x;have h3:((jO up fr).em () n (a+aR pop pb j)).length=1:=by
   simp only[jO];split<;>rfl
  simp only[List.length_append,row,List.length_cons];have e:∀s:Unit,s=():=fun _=>rfl;rw[e ((jO up fr).nx () n (a+aR pop pb j)),e ((jO up fr).S1 (a+aR pop pb j) () n k),h1,h2,h3];omega
theorem CS (up fr:Int) (a:Int) (n:Nd) (ats:List Nd) (k:Fo):((jO up fr).E1 a () n ats k).length=(n::(ats++row k)).length:=by
 have h3:((jO up fr).em () n a).length=1:=by simp only[jO];split<;>rfl
 have e:∀s:Unit,s=():=fun _=>rfl;rw[cW.E1,List.length_append,List.length_append,h3,e ((jO up fr).nx () n a),sR];simp only[List.length_cons,List.length_append];omega
def oP (r:List Nd×Int) (w:World) (e:Ending) (w':World):Prop:=Below w.heap.size w w'/\∃A n c,e=.returned (.tuple #[Z A n c,O X r.2])/\bN w' w.heap.size (Z A n c) r.1
theorem eU {r:List Nd×Int} {x:Int} {w w':World} (hb:Below w.heap.size w w') (hr:r=([],x)):oP r w (.returned (.tuple #[Z none 0 0,O X x])) w':=by
 subst hr;exact⟨hb,_,_,_,rfl,bN.nil _ _⟩
def iR (n:Nd) (ats:List Nd):Prop:=if n.op=2 then bG n.b.toNat (-1) ats=Y (ats,[]) else ats=[]
def Wf:List Bool->Fo->Prop
 | [],.nil=>True
 | d::dr,.cons p n ats k x=>(match d with | false=>p=[] | true=>∃f,p=[f]/\vI f=true)/\eN n=true/\iR n ats/\Wf (ds n) k/\Wf dr x
 | _,_=>False
theorem mZ:∀(k:Nat) (last:Int) (l m rest:List Nd),bG k last l=Y (m,[])->bG k last (l++rest)=Y (m,rest)
 | 0,_,l,m,rest,h=>by
  simp only[bG,Option.some.injEq,Prod.mk.injEq] at h;obtain⟨rfl,rfl⟩:=h;simp[bG]
 | k+1,last,[],m,rest,h=>by simp[bG] at h
 | k+1,last,x::l,m,rest,h=>by
  simp only[bG,List.cons_append] at h ⊢;split at h
  · rename_i hc
    rw[if_pos hc];simp only[Option.map_eq_some_iff,Prod.mk.injEq] at h ⊢;obtain⟨q,hq,rfl,a0⟩:=h;obtain⟨q1,q2⟩:=q;simp only at a0;subst a0;exact⟨_,mZ k x.a l q1 rest hq,rfl,rfl⟩
  · cases h
theorem mY:∀(k:Nat) (last:Int) (l:List Nd) (p:List Nd×List Nd),bG k last l=Y p->bG k last p.1=Y (p.1,[])
 | 0,_,l,p,h=>by
  simp only[bG,Option.some.injEq] at h;subst h;rfl
 | k+1,last,[],p,h=>by simp[bG] at h
 | k+1,last,x::l,p,h=>by
  simp only[bG] at h;split at h
  · rename_i hc
    simp only[Option.map_eq_some_iff] at h;obtain⟨q,hq,rfl⟩:=h;simp only[bG];rw[if_pos hc,mY k x.a l q hq];rfl
  · cases h
theorem LC {n:Nd} {l:List Nd} {q:List Nd×List Nd} (h:iK n l=Y q):iR n q.1:=by
 unfold iK at h;unfold iR;split at h
 · rename_i h2
   rw[if_pos h2];exact mY _ _ _ _ h
 rename_i h2
 rw[if_neg h2];simp only[Option.some.injEq] at h;subst h;rfl
theorem LB {n:Nd} {ats:List Nd} (h:iR n ats) (rest:List Nd):iK n (ats++rest)=Y (ats,rest):=by
 unfold iR at h;unfold iK;split at h
 · rename_i h2
   rw[if_pos h2];exact mZ _ _ _ _ _ h
 rename_i h2
 rw[if_neg h2,h];rfl
theorem kA:∀(F:Fo) (dl:List Bool) (rest:List Nd),Wf dl F->pp dl (row F++rest)=Y (F,rest)
 | .nil,[],rest,_=>by rw[j9];rfl
 | .nil,_::_,_,h=>h.elim
 | .cons _ _ _ _ _,[],_,h=>h.elim
 | .cons p n ats k x,d::dr,rest,h=>by
  obtain⟨hp,a1,a2,hk,hx⟩:=h;have e:row (.cons p n ats k x)++rest=p++(n::(ats++(row k++(row x++rest)))):=by simp[row]
  have a0:fX d (p++(n::(ats++(row k++(row x++rest)))))=Y (p,n::(ats++(row k++(row x++rest)))):=by
   cases d with
   | false=>simp only at hp;subst hp;rfl
   | true =>
    obtain⟨f,rfl,hf⟩:=hp;simp only[List.cons_append,List.nil_append,fX,hf,if_true]
  rw[e,eX,a0];simp only[Option.bind_some,a1,if_true,LB a2];rw[kA k (ds n) _ hk];simp only[Option.bind_some];rw[kA x dr rest hx];rfl
theorem pB:∀(f:Nat) (dl:List Bool) (l:List Nd) (x:Fo×List Nd),kR f dl l=Y x->Wf dl x.1
 | 0,_,_,_,h=>by simp[kR] at h
 | _+1,[],l,x,h=>by simp only[kR,Option.some.injEq] at h;subst h;trivial
 | f+1,d::dr,l,x,h=>by
  simp only[kR,Option.bind_eq_some_iff] at h;obtain⟨p,hp,h⟩:=h;split at h
  · cases h
  · split at h
    · rename_i hok
      simp only[Option.bind_eq_some_iff] at h;obtain⟨q,hq,k,hk,y,hy,h⟩:=h;simp only[Option.some.injEq] at h;subst h;refine⟨?_,hok,LC hq,pB f _ _ _ hk,pB f _ _ _ hy⟩;cases d with
      | false=>simp only[fX,Option.some.injEq] at hp;subst hp;rfl
      | true =>
       cases l with
       | nil=>simp[fX] at hp
       | cons z l =>
        simp only[fX] at hp;split at hp
        · rename_i hz
          simp only[Option.some.injEq] at hp;subst hp;exact⟨z,rfl,hz⟩
        · cases hp
    cases h
theorem iP {dl:List Bool} {l:List Nd} {x:Fo×List Nd} (h:pp dl l=Y x):Wf dl x.1:=pB _ _ _ _ h
theorem r9 {l:List Nd} {x:Fo} (h:pp [false] l=Y (x,[])) (hl:l.length<=4096):a8 l=0:=by
 have h0:=wZ h aD;simp only[List.length_nil] at h0;have he:mC l 0=l.length:=by
  unfold mC;rw[if_pos aA];have:ends [false] l 0=Y l.length:=by
   unfold ends;rw[List.drop_zero,h];rfl
  simp only[Int.toNat_zero,this]
 unfold a8;rw[if_neg aA,if_pos he]
structure Rt (t:List Nd) (n:Nd) (a:List Nd) (k:Fo):Prop where
 pp:pp [false] t=Y (.cons [] n a k .nil,[])
 few:t.length<=4096
theorem H5 {t:List Nd} (h:a8 t=0) : ∃n a k,Rt t n a k:=by
 obtain⟨h1,n,a,k,h2,_,_⟩:=fB h;exact⟨n,a,k,h2,h1⟩
theorem Rt.shape {t:List Nd} {n:Nd} {a:List Nd} {k:Fo} (h:Rt t n a k):a8 t=0:=r9 h.pp h.few
theorem Rt.eq {t:List Nd} {n:Nd} {a:List Nd} {k:Fo} (h:Rt t n a k):t=n::(a++row k):=by
 have:=oX h.pp;simpa[row] using this
theorem Rt.wf {t:List Nd} {n:Nd} {a:List Nd} {k:Fo} (h:Rt t n a k):eN n=true/\iR n a/\Wf (ds n) k:=by
 obtain⟨_,h1,h2,h3,_⟩:=iP h.pp;exact⟨h1,h2,h3⟩
theorem nV {n:Nd} {a:List Nd} {k:Fo} (h1:eN n=true) (h2:iR n a) (h3:Wf (ds n) k) (hl:(n::(a++row k)).length<=4096):Rt (n::(a++row k)) n a k:=by
 refine⟨?_,hl⟩;have:=kA (.cons [] n a k .nil) [false] [] ⟨rfl,h1,h2,h3,trivial⟩;simpa[row] using this
theorem AS {n:Nd} (h:eN n=true) (h6:n.op=6):n=⟨6,0,0⟩:=by
 obtain⟨op,a,b⟩:=n;simp only at h6;subst h6;simp only[eN,Bool.and_eq_true] at h;have h1:=aV.1 h.1.1;obtain⟨rfl,rfl⟩:a=0/\b=0:=aA;rfl
structure SO (t:List Nd) (n1:Nd) (a1:List Nd) (k1:Fo) (n2:Nd) (a2:List Nd) (k2:Fo):Prop where
 fst:Rt (n1::(a1++row k1)) n1 a1 k1
 snd:Rt (n2::(a2++row k2)) n2 a2 k2
 eq:t=⟨6,0,0⟩::((n1::(a1++row k1))++(n2::(a2++row k2)))
 end_:mC t 1=((1+(n1::(a1++row k1)).length:Nat):Int)
theorem IJ {t:List Nd} {n:Nd} {a:List Nd} {k:Fo} (h:Rt t n a k) (h6:n.op=6) : ∃n1 a1 k1 n2 a2 k2,k=.cons [] n1 a1 k1 (.cons [] n2 a2 k2 .nil)/\SO t n1 a1 k1 n2 a2 k2:=by
 obtain⟨a7,a5,hw⟩:=h.wf;have a0:=h.eq;have hn:=AS a7 h6;have ha:a=[]:=by
  unfold iR at a5
  rwa [if_neg aA] at a5
 have a8:ds n=[false,false]:=by rw[hn];rfl
 rw[a8] at hw
 match k,hw with
 | .cons p1 n1 a1 k1 (.cons p2 n2 a2 k2 .nil),hw =>
  obtain⟨a4,o1,t1,w1,a3,o2,t2,w2,_⟩:=hw;simp only at a4 a3;subst a4 a3;have hr:t=⟨6,0,0⟩::((n1::(a1++row k1))++(n2::(a2++row k2))):=by
   rw[a0,ha,hn];simp[row]
  have hl:=h.few;rw[hr] at hl;simp only[List.length_cons,List.length_append] at hl;have f1:=nV o1 t1 w1 aG;have f2:=nV o2 t2 w2 aG;refine⟨n1,a1,k1,n2,a2,k2,rfl,f1,f2,hr,?_⟩;have he:=mH t 1;rw[show ((1:Nat):Int)=1 from rfl] at he;rw[he];have a6:=kA (.cons [] n1 a1 k1 .nil) [false] (n2::(a2++row k2)) ⟨rfl,o1,t1,w1,trivial⟩;have hd:t.drop 1=row (.cons [] n1 a1 k1 .nil)++(n2::(a2++row k2)):=by rw[hr];simp[row]
  unfold ends;rw[hd,a6];simp only[Option.map_some,pW];rw[hr];simp only[List.length_cons,List.length_append];omega
def GM (p:Int->Int->Bool):IF Unit := { an:=fun _ v a=>p v a,nx:=fun _ _ _=>() }
def QR (pb:Nat) (x:Int) (w:World) (_:Unit):Prop:=aS w pb 3 #[O X x]
theorem IP {pb H:Nat} {x:Int} (hpb:pb<H):v5 Tryz.prog 128 #[.pointer (Y ⟨pb,0,none⟩)] (GM fun v a=>decide (max x 0<=v-a)) (QR pb x) (fun _=>False) H:=by
 intro w t v a hH hj a1 a0 a3 a2;have cb:=aS.cell hj;have HJ:=aB hj;clear hj;show Calls Tryz.prog 128 #[O X v,O X a,.pointer (Y ⟨pb,0,none⟩)] w _;go_in;go_wp2_with fail;all_goals
  go_ret;refine⟨fH ?_,bE.refl _ _ _,HJ.o⟩;simp only[GM];rw[decide_eq_decide];omega
def oD (p:Int->Int->Bool) (pop pb:Int):Nat->Int->Fo->Bool
 | _,_,.nil=>false
 | j,a,.cons _ n _ k x=>((decide (n.op=1)&&p n.a (a+aR pop pb j))||oD p n.op n.b 0 (a+aR pop pb j) k)||oD p pop pb (j+1) a x
def oI (p:Int->Int->Bool) (a:Int) (n:Nd) (k:Fo):Bool:=(decide (n.op=1)&&p n.a a)||oD p n.op n.b 0 a k
theorem eJ (p:Int->Int->Bool) (pop pb:Int) (j:Nat) (a:Int) (pre:List Nd) (n:Nd) (ats:List Nd) (k x:Fo):oD p pop pb j a (.cons pre n ats k x)=(oI p (a+aR pop pb j) n k||oD p pop pb (j+1) a x):=rfl
theorem LZ (p:Int->Int->Bool) (f:Bool) (n:Nd) (a:Int):(sL (GM p)).nx (f,()) n a=((f||(decide (n.op=1)&&p n.a a)),()):=by
 simp only[sL,GM];cases f
 · by_cases h:n.op=1<;>simp[h]
 simp
theorem LY (p:Int->Int->Bool) (pop pb:Int) : ∀(j:Nat) (a:Int) (f:Bool) (F:Fo),(sL (GM p)).S pop pb j a (f,()) F=((f||oD p pop pb j a F),())
 | _,_,_,.nil=>by simp[cW.S,oD]
 | j,a,f,.cons pre n ats k x=>by
  rw[cW.S_cons,cW.S1,LZ,LY p n.op n.b 0 _ _ k,LY p pop pb (j+1) a _ x,eJ,oI];simp only[Bool.or_assoc]
theorem BJ (p:Int->Int->Bool) (n:Nd) (k:Fo):(wM (GM p) () n k).1=oI p 0 n k:=by
 rw[wM,cW.S1,LZ,LY,oI,Bool.false_or]
theorem yY {τ:Type} (T:IF τ) (pop pb:Int) : ∀(j:Nat) (a:Int) (s:Bool×τ) (F:Fo),((sL T).E pop pb j a s F).length<=(row F).length
 | _,_,_,.nil=>Nat.le_refl _
 | j,a,s,.cons p n at' k x=>by
  rw[cW.E_cons,cW.E1];have h1:=yY T n.op n.b 0 (a+aR pop pb j) ((sL T).nx s n (a+aR pop pb j)) k;have h2:=yY T pop pb (j+1) a ((sL T).S1 (a+aR pop pb j) s n k) x;have h3:((sL T).em s n (a+aR pop pb j)).length=0:=rfl;simp only[List.length_append,row,List.length_cons];omega
theorem tF {τ:Type} (T:IF τ) (a:Int) (s:Bool×τ) (n:Nd) (ats:List Nd) (k:Fo):((sL T).E1 a s n ats k).length<=(n::(ats++row k)).length:=by
 have h1:=yY T n.op n.b 0 a ((sL T).nx s n a) k;have h3:((sL T).em s n a).length=0:=rfl;rw[cW.E1,List.length_append,List.length_append,h3];simp only[List.length_cons,List.length_append];omega
def RM (p:Int->Int->Bool) (l:List Nd):Bool :=
 match pp [false] l with
 | some (.cons _ n _ k _,_)=>oI p 0 n k
 | _=>false
def fS (l:List Nd) (v:Int):Bool:=decide (a8 l=0) && !RM (fun x a=>decide (max v 0<=x-a)) l
def pE (b:Bool) (w:World) (e:Ending) (w':World):Prop:=e=.returned (.bool b)/\Below w.heap.size w w'
theorem LU {p:Int->Int->Bool} {mk:FuncId} {x:Int} {A:Option Addr} {nn c:Nat} {l:List Nd} {w w2:World} (h:aY w A nn c l) (hs:a8 l=0) (hb:Below w.heap.size w w2) (hg:w.heap.size<w2.heap.size) (hbx:aS w2 w.heap.size 3 #[O X x])
 (hen:∀args w,(callFunc mk args).run Tryz.prog w=.ok (.enter mk args) w) (hmet:∀H pb,pb<H->v5 Tryz.prog mk #[.pointer (Y ⟨pb,0,none⟩)] (GM p) (QR pb x) (fun _=>False) H) :
 Calls Tryz.prog 127 #[Z A nn c,.func (.func mk) #[] #[.pointer (Y ⟨w.heap.size,0,none⟩)]] w2 (pE (RM p l) w2):=by
 obtain⟨hl,n,ats,k,a1,a0,a2⟩:=fB hs;refine (tG (T:=GM p) (J:=QR w.heap.size x) (K:=fun k=>k=w.heap.size) (S:=fun _=>False) (R:=(· < w.heap.size)) (t:=()) (fun b hb'=>⟨by omega,fun h=>h⟩) (h.keep fun b hb'=>⟨hb',fun o=>aQ (hb.block b hb') o⟩) (fun k hk=>by omega) (fun k hk=>hk.elim)
  (fun w w' t hj hk=>hj.same (hk _ rfl)) hen (hmet _ _ hg) hbx a1 aA (by have:=tF (GM p) 0 (false,()) n ats k;rw[<-a0] at this;omega)).mono ?_
 rintro e w3 ⟨rfl,hm,_⟩;refine⟨fH ?_,hm.to_below (Nat.le_refl _) (fun _ h=>h.elim) (fun g hg=>by cases hg)⟩;rw[BJ];unfold RM;rw[a1]
theorem IQ {A:Option Addr} {nn c:Nat} {l:List Nd} {w:World} (h:aY w A nn c l) (v:Int) :
 Calls Tryz.prog 98 #[Z A nn c,O X v] w (pE (fS l v) w):=by
 have a0:=aP w (.cells #[O X v] 3);by_cases hs:a8 l=0
 · have hf:fS l v = !RM (fun x a=>decide (max v 0<=x-a)) l:=by simp[fS,hs]
   have a4:(a8 l==0)=true:=by simp[hs]
   have HF:=aB hf;have HS:=aB hs;have H:=aB h;have a1:=aB a0;have HA:=aB (h.below a0);clear hf hs h a0;go_in;go_wp2_with (go_at_call 97;refine (dP HA.o).mono ?_;rintro e w2 ⟨rfl,a2⟩)
   have a3:Below w.heap.size w w2:=a1.o.trans (a2.mono a1.o.size);have hx:aS w2 w.heap.size 3 #[O X v]:=(aS.new w _ _).below a2 aD;refine (LU H.o HS.o a3 hx.lt hx (fun _ _=>by kernel_rfl) (fun H pb hp=>IP hp)).mono ?_;rintro e w4 ⟨rfl,a5⟩;go_wp2_with fail;go_ret;exact⟨fH HF.o.symm,a3.trans (a5.mono a3.size)⟩
 have hf:fS l v=false:=by simp[fS,hs]
 have a4:(a8 l==0)=false:=by simp[hs]
 have HF:=aB hf;have a1:=aB a0;have HA:=aB (h.below a0);clear hf hs h a0;go_in;go_wp2_with (go_at_call 97;refine (dP HA.o).mono ?_;rintro e w2 ⟨rfl,a2⟩)
 go_ret;exact⟨fH HF.o.symm,a1.o.trans (a2.mono a1.o.size)⟩
end Go.Proofs.YtjoddliplahgkaaGreat
