/- Merged: End, Shape, TermW, Rt, Below. -/
import Derived.Test.YtjllmblbbgojbaaGreatXWalks
namespace Go.Proofs.YtjllmblbbgojbaaGreat
set_option linter.unusedVariables false
set_option linter.unusedSimpArgs false
open Go.RowKit
open Go.Value renaming int → O, slice → Y
open Go.IntKind renaming i64 → X
open Option renaming some → Z
open Go.Lib renaming hid->aB
set_option maxHeartbeats 2000000
set_option maxRecDepth 100000
theorem EO {A:Option Addr} {n c:Nat} {w:World} (a:Int) (ha:a<0) :
 Calls Tryz.prog 40 #[Y A n c,O X a] w (dZ (-1) w):=by
 go_in;go_wp2_with fail;go_ret;exact⟨rfl,Below.refl _ _⟩
theorem EP {A:Option Addr} {n c:Nat} {w:World} (a:Int) (p:Nat) (ha:a=p) (hp:n<=p) (_hn:n<=5864062014805) :
 Calls Tryz.prog 40 #[Y A n c,O X a] w (dZ (-1) w):=by
 subst ha;have h0:(0:Int)<=(p:Int):=aA;go_in;go_wp2_with fail;go_ret;exact⟨rfl,Below.refl _ _⟩
theorem MW {A:Option Addr} {n c:Nat} {l:List Nd} {w:World} (h:bB w A n c l) (a:Int) (p:Nat) (ha:a=p) (hp:p<n) (hbad:eE (bD l p)=false) :
 Calls Tryz.prog 40 #[Y A n c,O X a] w (dZ (-1) w):=by
 subst ha;have h0:(0:Int)<=(p:Int):=aA;obtain⟨b,off,rfl,hb,c0,c1,c2⟩:=h.at_ hp;cases hpl:bW (bD l p).op (bD l p).a (bD l p).b
 · clear hbad;go_in;go_wp2_with (go_at_call 64;refine (gE _ _ _ _).mono ?_;rintro e w1 ⟨rfl,hb1⟩;obtain⟨hc1,hf1⟩:=lB hb1)
   go_ret;exact⟨rfl,hb1⟩
 by_cases h3:(bD l p).op=3
 · have hb3:((bD l p).op==3)=true:=by simp[h3]
   clear h3 hbad;go_in;go_wp2_with (go_at_call 64;refine (gE _ _ _ _).mono ?_;rintro e w1 ⟨rfl,hb1⟩;obtain⟨hc1,hf1⟩:=lB hb1)
   go_ret;exact⟨rfl,hb1⟩
 have h13:(bD l p).op=13:=by simpa[eE,hpl,h3] using hbad
 have hb3:((bD l p).op==3)=false:=by simp[h3]
 have hb13:((bD l p).op==13)=true:=by simp[h13]
 clear h3 h13 hbad;go_in;go_wp2_with (go_at_call 64;refine (gE _ _ _ _).mono ?_;rintro e w1 ⟨rfl,hb1⟩;obtain⟨hc1,hf1⟩:=lB hb1)
 go_ret;exact⟨rfl,hb1⟩
theorem JY {A:Option Addr} {n c:Nat} {l:List Nd} (p:Nat) (hp:p<n) (hok:eE (bD l p)=true)
 (ih:∀(w:World) (a:Int) (q:Nat),bB w A n c l->a=q->p<q->Calls Tryz.prog 40 #[Y A n c,O X a] w (dZ (oR (ends [false] l q)) w))
 {w:World} (h:bB w A n c l) :
 Calls Tryz.prog 40 #[Y A n c,O X p] w (dZ (oR (ends [false] l p)) w):=by
 have hfew:=h.few;have h0:(0:Int)<=(p:Int):=aA;have HI:=aB ih;clear ih;have hpl:bW (bD l p).op (bD l p).a (bD l p).b=true:=by
  simp only[eE,Bool.and_eq_true] at hok;exact hok.1.1
 have hb3:((bD l p).op==3)=false:=by
  simp only[eE,Bool.and_eq_true,decide_eq_true_eq] at hok;simp[hok.1.2]
 have hb13:((bD l p).op==13)=false:=by
  simp only[eE,Bool.and_eq_true,decide_eq_true_eq] at hok;simp[hok.2]
 have he1:ends [false] l p=if (bD l p).op=2 then iZ (bD l p).b.toNat (-1) l (p+1) else ends (ds (bD l p)) l (p+1):=by
  rw[zJ (by rw[h.len];exact hp),if_pos hok]
 have HE1:=aB he1;clear he1 hok;obtain⟨hb0,hb1000⟩:=iX hpl;obtain⟨hk0,hk18⟩:=zZ hpl;obtain⟨b,off,rfl,hb,c0,c1,c2⟩:=h.at_ hp;by_cases h2:(bD l p).op=2
 · have hb2:((bD l p).op==2)=true:=by simp[h2]
   have H2:=aB h2;clear h2;go_in;go_wp2_with (go_at_call 64;refine (gE _ _ _ _).mono ?_;rintro e w1 ⟨rfl,hb1⟩;obtain⟨hc1,hf1⟩:=lB hb1)
   refine (GB ((h.below hb1).alloc _) _ _ (p+1) (bD l p).b.toNat aA aA aA aA).mono ?_;rintro e w2 ⟨rfl,hb2⟩;go_wp2
   go_ret;refine⟨cN ?_,hb1.trans ((((Below.refl _ _).alloc (Nat.le_refl _) _).trans (hb2.mono aD)).mono hb1.size)⟩;rw[HE1.o,if_pos H2.o]
 have hb2:((bD l p).op==2)=false:=by simp[h2]
 have he2:ends [false] l p=ends (ds (bD l p)) l (p+1):=by rw[HE1.o,if_neg h2]
 have HE:=aB he2;clear HE1 he2 h2;go_in;go_wp2_with (first | (go_at_call 64;refine (gE _ _ _ _).mono ?_;rintro e w1 ⟨rfl,hb1⟩;obtain⟨hc1,hf1⟩:=lB hb1) | (go_at_call 66;refine (oQ _ _ _ _ aA).mono ?_;rintro e w2 ⟨rfl,rfl⟩))
 have h1:=(h.below hb1).alloc (.cells #[O X (bD l p).op,O X (bD l p).a,O X (bD l p).b] 40);go_loopw [1,54] (fun a i wr=>∃(q j:Nat),q<=n/\p<q/\(j:Int)<=dU (bD l p).op (bD l p).b/\a=O X q/\i=O X j/\ends (gW (bD l p) j) l q=ends (ds (bD l p)) l (p+1)/\Below (w1.heap.size+1) (w1.alloc (.cells #[O X (bD l p).op,O X (bD l p).a,O X (bD l p).b] 40)) wr) (fun _ i _=>(dU (bD l p).op (bD l p).b).toNat-(intOf i).toNat)
 case atStart=>exact⟨p+1,0,hp,by omega,hk0,by go_num,rfl,by rw[p8],(Below.refl _ _).alloc aD _⟩
 case round =>
  obtain⟨q,j,hq,hpq,hj,rfl,rfl,he,hbw⟩:=hrel;have HR:=aB he;clear he;have hwr:=h1.below (hbw.mono aD);have g0:wr.cell? ⟨w1.heap.size,0,none⟩=Z (O X (bD l p).op):=(hbw.cell aD).trans (JI _ _ _ _ _ _ _ rfl);have hbt:∀w2:World,Below wr.heap.size wr w2->Below w.heap.size w w2:=fun _ hx=>hb1.trans (((aP w1 _).trans ((hbw.mono aA).trans (hx.mono (by have:=hbw.size;simp at this;omega)))).mono hb1.size);have hbt2:∀w2:World,Below wr.heap.size wr w2->Below (w1.heap.size+1) (w1.alloc (.cells #[O X (bD l p).op,O X (bD l p).a,O X (bD l p).b] 40)) w2:=fun _ hx=>hbw.trans (hx.mono (by have:=hbw.size;simp at this;omega));have HT:=aB hbt;have HT2:=aB hbt2;clear hbt hbt2;by_cases hlt:(j:Int)<dU (bD l p).op (bD l p).b;rotate_left
  · have hre:=sX (bD l p) (i:=j) aA;have hno:ends (gW (bD l p) j) l q=Z q:=by rw[hre,J0 (by rw[h.len];exact hq)]
    have HNO:=aB hno;clear hno hre;go_wp2_with fail;go_ret;refine⟨cN ?_,HT.o _ (Below.refl _ _)⟩;rw[HE.o,<-HR.o,HNO.o];rfl
  by_cases h12:(bD l p).op=12
  · have hb12:((bD l p).op==12)=true:=by simp[h12]
    have hjb:(j:Int)<(bD l p).b:=by simpa[dU,h12] using hlt
    have hre:=sY h12 hjb;have HRE:=aB hre;clear hre h12 hjb;by_cases hqn:q<n;rotate_left
    · have hno:ends (gW (bD l p) j) l q=none:=by rw[HRE.o,oE _ _ (by rw[h.len];omega)]
      have HNO:=aB hno;clear hno;go_wp2_with fail;go_ret;refine⟨cN ?_,HT.o _ (Below.refl _ _)⟩;rw[HE.o,<-HR.o,HNO.o];rfl
    have hef:ends (gW (bD l p) j) l q=if tW (bD l q) then ends (false::false::gW (bD l p) (j+1)) l (q+1) else none:=by
     rw[HRE.o,JZ _ (by rw[h.len];exact hqn)]
    obtain⟨hbr,d0,d1,d2⟩:=hwr.cells hqn;cases hf:tW (bD l q)
    · have hno:ends (gW (bD l p) j) l q=none:=by rw[hef,hf];rfl
      have HNO:=aB hno;clear hno hef;by_cases h13:(bD l q).op=13
      · have hpf:bW (bD l q).op (bD l q).a (bD l q).b=false:=by simpa[tW,h13] using hf
        have hq13:((bD l q).op != 13)=false:=by simp[h13]
        clear h13 hf;go_wp2_with (go_at_call 64;refine (gE _ _ _ _).mono ?_;rintro e w2 ⟨rfl,hb2⟩;obtain⟨hc2,hf2⟩:=lB hb2)
        go_ret;refine⟨cN ?_,HT.o _ hb2⟩;rw[HE.o,<-HR.o,HNO.o];rfl
      have hq13:((bD l q).op != 13)=true:=by simp[h13]
      clear h13 hf;go_wp2_with fail;go_ret;refine⟨cN ?_,HT.o _ (Below.refl _ _)⟩;rw[HE.o,<-HR.o,HNO.o];rfl
    have hpf:bW (bD l q).op (bD l q).a (bD l q).b=true:=by
     simp only[tW,Bool.and_eq_true] at hf;exact hf.1
    have hq13:((bD l q).op != 13)=false:=by
     simp only[tW,Bool.and_eq_true,decide_eq_true_eq] at hf;simp[hf.2]
    have hgo:ends (gW (bD l p) j) l q=(ends [false] l (q+1)).bind fun q1=>(ends [false] l q1).bind (ends (gW (bD l p) (j+1)) l):=by
     rw[hef,if_pos hf,pH false _ (by rw[h.len];omega)];refine Option.bind_congr fun q1 hq1 => ?_;rw[pH false _ (rD hq1 (by rw[h.len];omega)).2.1]
    have HGO:=aB hgo;clear hgo hef hf;go_wp2_with (go_at_call 64;refine (gE _ _ _ _).mono ?_;rintro e w2 ⟨rfl,hb2⟩;obtain⟨hc2,hf2⟩:=lB hb2)
    have hw2:=hwr.below hb2;refine (HI.o w2 _ (q+1) hw2 aA aA).mono ?_;rintro e w3 ⟨rfl,hb3'⟩;have hw3:=hw2.below hb3';cases hq1:ends [false] l (q+1) with
    | none =>
     have hno:ends (gW (bD l p) j) l q=none:=by rw[HGO.o,hq1];rfl
     have HNO:=aB hno;clear hno hq1;simp only[oR];go_wp2_with fail;refine (EO (w:=w3) _ aA).mono ?_;rintro e w4 ⟨rfl,hb4⟩;go_wp2_with fail;go_ret;refine⟨cN ?_,HT.o _ (hb2.trans ((hb3'.trans (hb4.mono hb3'.size)).mono hb2.size))⟩;rw[HE.o,<-HR.o,HNO.o];rfl
    | some q1 =>
     obtain⟨hq1a,hq1b,hq1c⟩:=rD hq1 (by rw[h.len];omega);rw[h.len] at hq1b;have hgo2:ends (gW (bD l p) j) l q=(ends [false] l q1).bind (ends (gW (bD l p) (j+1)) l):=by rw[HGO.o,hq1];rfl
     have HGO2:=aB hgo2;clear hgo2 hq1 hq1c;simp only[oR];go_wp2_with fail;refine (HI.o w3 _ q1 hw3 rfl aA).mono ?_;rintro e w4 ⟨rfl,hb4⟩;have hb24:Below wr.heap.size wr w4:=hb2.trans ((hb3'.trans (hb4.mono hb3'.size)).mono hb2.size);cases hq2:ends [false] l q1 with
     | none =>
      have hno:ends (gW (bD l p) j) l q=none:=by rw[HGO2.o,hq2];rfl
      have HNO:=aB hno;clear hno hq2;simp only[oR];go_wp2_with fail;go_ret;refine⟨cN ?_,HT.o _ hb24⟩;rw[HE.o,<-HR.o,HNO.o];rfl
     | some q2 =>
      obtain⟨hq2a,hq2b,hq2c⟩:=rD hq2 (by rw[h.len];omega);rw[h.len] at hq2b;have hgo3:ends (gW (bD l p) j) l q=ends (gW (bD l p) (j+1)) l q2:=by rw[HGO2.o,hq2];rfl
      have HGO3:=aB hgo3;clear hgo3 hq2 hq2c;simp only[oR];go_wp2_with fail;go_roundw
      case rel=>exact⟨q2,j+1,hq2b,by omega,by omega,rfl,by go_num,by rw[<-HGO3.o,HR.o],HT2.o _ hb24⟩
      case measure=>simp[intOf];omega
  have hb12:((bD l p).op==12)=false:=by simp[h12]
  have hre:=sZ h12 hlt;have hgo:ends (gW (bD l p) j) l q=(ends [false] l q).bind (ends (gW (bD l p) (j+1)) l):=by
   rw[hre,pH false _ (by rw[h.len];omega)]
  have HGO:=aB hgo;clear hre hgo h12;go_wp2_with fail;refine (HI.o wr _ q hwr rfl aA).mono ?_;rintro e w4 ⟨rfl,hb4⟩;cases hq2:ends [false] l q with
  | none =>
   have hno:ends (gW (bD l p) j) l q=none:=by rw[HGO.o,hq2];rfl
   have HNO:=aB hno;clear hno hq2;simp only[oR];go_wp2_with fail;go_ret;refine⟨cN ?_,HT.o _ hb4⟩;rw[HE.o,<-HR.o,HNO.o];rfl
  | some q2 =>
   obtain⟨hq2a,hq2b,hq2c⟩:=rD hq2 (by rw[h.len];omega);rw[h.len] at hq2b;have hgo3:ends (gW (bD l p) j) l q=ends (gW (bD l p) (j+1)) l q2:=by rw[HGO.o,hq2];rfl
   have HGO3:=aB hgo3;clear hgo3 hq2 hq2c;simp only[oR];go_wp2_with fail;go_roundw
   case rel=>exact⟨q2,j+1,hq2b,by omega,by omega,rfl,by go_num,by rw[<-HGO3.o,HR.o],HT2.o _ hb4⟩
   case measure=>simp[intOf];omega
theorem MX {A:Option Addr} {n c:Nat} {l:List Nd} : ∀(m:Nat) (w:World) (a:Int) (p:Nat),bB w A n c l->a=p->n<=p+m →
 Calls Tryz.prog 40 #[Y A n c,O X a] w (dZ (oR (ends [false] l p)) w):=by
 intro m
 induction m with
 | zero =>
  intro w a p h ha hm;rw[oE _ _ (by rw[h.len];omega)];exact EP a p ha aA h.few
 | succ m ih =>
  intro w a p h ha hm;by_cases hp:p<n
  · cases hok:eE (bD l p)
    · have:ends [false] l p=none:=by rw[zJ (by rw[h.len];exact hp),hok];rfl
      rw[this];exact MW h a p ha hp hok
    subst ha;exact JY p hp hok (fun w a q h ha hq=>ih w a q h ha aA) h
  · rw[oE _ _ (by rw[h.len];omega)];exact EP a p ha aA h.few
theorem iA {A:Option Addr} {n c:Nat} {l:List Nd} {w:World} (h:bB w A n c l) (a:Int) :
 Calls Tryz.prog 40 #[Y A n c,O X a] w (dZ (jX l a) w):=by
 by_cases h0:0<=a
 · obtain⟨p,rfl⟩:=Int.eq_ofNat_of_zero_le h0;rw[lL];exact MX n w p p h rfl aA
 have:jX l a = -1:=by simp only[jX];rw[if_neg aA]
 rw[this];exact EO a aA
def bC (l:List Nd):Int:=if 4096<l.length then 9 else if jX l 0=l.length then 0 else 8
theorem dM {A:Option Addr} {nn c:Nat} {l:List Nd} {w:World} (h:bB w A nn c l) :
 Calls Tryz.prog 52 #[Y A nn c] w (dZ (bC l) w):=by
 have hfew:=h.few;have hlen:=h.len;by_cases h1:4096<nn
 · have hs:bC l=9:=by unfold bC;rw[if_pos aA]
   have HS:=aB hs;have h1b:(4096:Int)<(nn:Int):=aA;clear hs hlen;go_in;go_wp2_with fail;go_ret;exact⟨cN HS.o.symm,Below.refl _ _⟩
 have h1b:decide ((4096:Int)<(nn:Int))=false:=by simp;omega
 by_cases h2:jX l 0=nn
 · have hs:bC l=0:=by unfold bC;rw[if_neg aA,if_pos aA]
   have HS:=aB hs;have h2b:(jX l 0 != (nn:Int))=false:=by simp[h2]
   clear hs hlen h2;go_in;go_wp2_with (go_at_call 40;refine (iA h 0).mono ?_;rintro e w2 ⟨rfl,hb2⟩)
   go_ret;exact⟨cN HS.o.symm,hb2⟩
 have hs:bC l=8:=by unfold bC;rw[if_neg aA,if_neg aA]
 have HS:=aB hs;have h2b:(jX l 0 != (nn:Int))=true:=by simp[h2]
 clear hs hlen h2;go_in;go_wp2_with (go_at_call 40;refine (iA h 0).mono ?_;rintro e w2 ⟨rfl,hb2⟩)
 go_ret;exact⟨cN HS.o.symm,hb2⟩
theorem fD:∀(F:Fo),a7 F<=(row F).length
 | .nil=>Nat.le_refl _
 | .cons p n a k x=>by
  have h1:=fD k;have h2:=fD x;simp only[a7,row,List.length_append,List.length_cons];omega
theorem fL {l:List Nd} (h:bC l=0):l.length<=4096/\∃n ats k,pp [false] l=Z (.cons [] n ats k .nil,[])/\l=n::(ats++row k)/\a7 k<=4096:=by
 unfold bC at h;split at h
 · cases h
 split at h
 · rename_i h1 h2
   refine⟨by omega,?_⟩;unfold jX at h2;split at h2
   rotate_left
   · omega
   rename_i h3
   split at h2
   rotate_left
   · omega
   rename_i q hq
   simp only[ends,Option.map_eq_some_iff,Int.toNat_zero,List.drop_zero] at hq;obtain⟨x,hx,hxl⟩:=hq;obtain⟨n,ats,k,hn⟩:=pV hx;have hr:=nP hx;have hrl:=congrArg List.length hr;rw[List.length_append] at hrl;have h0:x.2=[]:=List.eq_nil_of_length_eq_zero aA;obtain⟨x1,x2⟩:=x;simp only at hn h0 hr hx;subst hn h0;have hl:l=n::(ats++row k):=by simpa[row] using hr
   refine⟨n,ats,k,hx,hl,?_⟩;have h5:=fD k;have h6:=congrArg List.length hl;simp only[List.length_cons,List.length_append] at h6;omega
 cases h
def z6 (l:List Nd) (up fr:Int):List Nd×Int :=
 match pp [false] l with
 | some (.cons _ n ats k _,_)=>if (jB up (min fr 1048577)).G1 0 () n k=true then ((jB up (min fr 1048577)).E1 0 () n ats k,0) else ([],6)
 | _=>([],0)
def lT (l:List Nd) (up fr:Int):List Nd×Int:=if bC l=0 then (if up<0\/fr<0 then ([],1) else z6 l up fr) else ([],bC l)
theorem rJ (up fr:Int) (pop pb:Int) : ∀(j:Nat) (a:Int) (F:Fo),((jB up fr).E pop pb j a () F).length=(row F).length
 | _,_,.nil=>rfl
 | j,a,.cons p n at' k x=>by
  rw[cV.E_cons,cV.E1];have h1:=rJ up fr n.op n.b 0 (a+aQ pop pb j) k;have h2:=rJ up fr pop pb (j+1) a x;have h3:((jB up fr).em () n (a+aQ pop pb j)).length=1:=by
   simp only[jB];split<;>rfl
  simp only[List.length_append,row,List.length_cons];have e:∀s:Unit,s=():=fun _=>rfl;rw[e ((jB up fr).nx () n (a+aQ pop pb j)),e ((jB up fr).S1 (a+aQ pop pb j) () n k),h1,h2,h3];omega
theorem AM (up fr:Int) (a:Int) (n:Nd) (ats:List Nd) (k:Fo):((jB up fr).E1 a () n ats k).length=(n::(ats++row k)).length:=by
 have h3:((jB up fr).em () n a).length=1:=by simp only[jB];split<;>rfl
 have e:∀s:Unit,s=():=fun _=>rfl;rw[cV.E1,List.length_append,List.length_append,h3,e ((jB up fr).nx () n a),rJ];simp only[List.length_cons,List.length_append];omega
def nI (r:List Nd×Int) (w:World) (e:Ending) (w':World):Prop:=Below w.heap.size w w'/\∃A n c,e=.returned (.tuple #[Y A n c,O X r.2])/\bR w' w.heap.size (Y A n c) r.1
theorem eQ {r:List Nd×Int} {x:Int} {w w':World} (hb:Below w.heap.size w w') (hr:r=([],x)):nI r w (.returned (.tuple #[Y none 0 0,O X x])) w':=by
 subst hr;exact⟨hb,_,_,_,rfl,bR.nil _ _⟩
theorem vM {r:List Nd×Int} {w w2 w':World} {A:Option Addr} {m c:Nat} {l:List Nd} (hb:Below w.heap.size w w2) (hm:aW (fun _=>False) (Value.slice none ([]:List Nd).length 0).ownBlock w2 w') (hr:r=(l,0)) (hown:bR w' w.heap.size (Y A m c) ([]++l)):nI r w (.returned (.tuple #[Y A m c,O X 0])) w':=by
 subst hr;exact⟨hb.trans (hm.to_below hb.size (fun _ h=>h.elim) (fun g hg=>by simp[Value.ownBlock] at hg)),_,_,_,rfl,hown⟩
theorem KF {A:Option Addr} {nn c:Nat} {l:List Nd} {w:World} (h:bB w A nn c l) (up fr:Int) (hup:up<=9223372036854775807) :
 Calls Tryz.prog 105 #[Y A nn c,O X up,O X fr] w (nI (lT l up fr) w):=by
 by_cases hs:bC l=0;rotate_left
 · have hr:lT l up fr=([],bC l):=by unfold lT;rw[if_neg hs]
   have hsb:(bC l != 0)=true:=by simp[hs]
   have HR:=aB hr;clear hr hs;go_in;go_wp2_with (go_at_call 52;refine (dM h).mono ?_;rintro e w2 ⟨rfl,hb2⟩)
   go_ret2;exact eQ hb2 HR.o
 obtain⟨hl,n,ats,k,hpp,hrow,hfs⟩:=fL hs;have hsb:(bC l != 0)=false:=by simp[hs]
 by_cases h1:up<0
 · have hr:lT l up fr=([],1):=by unfold lT;rw[if_pos hs,if_pos (.inl h1)]
   have HR:=aB hr;clear hr hs hpp hrow;go_in;go_wp2_with (go_at_call 52;refine (dM h).mono ?_;rintro e w2 ⟨rfl,hb2⟩)
   go_ret2;exact eQ hb2 HR.o
 by_cases h2:fr<0
 · have hr:lT l up fr=([],1):=by unfold lT;rw[if_pos hs,if_pos (.inr h2)]
   have h1b:decide (up<0)=false:=by simp;omega
   have HR:=aB hr;clear hr hs hpp hrow h1;go_in;go_wp2_with (go_at_call 52;refine (dM h).mono ?_;rintro e w2 ⟨rfl,hb2⟩)
   go_ret2;exact eQ hb2 HR.o
 have h1b:decide (up<0)=false:=by simp;omega
 have h2b:decide (fr<0)=false:=by simp;omega
 have hup0:0<=up:=aA;have hfr0:0<=fr:=aA;have hr:lT l up fr=z6 l up fr:=by unfold lT;rw[if_pos hs,if_neg aA]
 have hlt:z6 l up fr=if (jB up (min fr 1048577)).G1 0 () n k=true then ((jB up (min fr 1048577)).E1 0 () n ats k,0) else ([],6):=by unfold z6;rw[hpp]
 have hlen:∀f,((jB up f).E1 0 () n ats k).length<=1000000000000:=fun f=>by rw[AM,<-hrow];omega
 have HR:=aB (hr.trans hlt);have HPP:=aB hpp;have HLEN:=aB hlen;have H:=aB h;clear hr hs hpp hrow hlt h1 h2 hlen;by_cases hm:fr<=1048577
 · have hmf:min fr 1048577=fr:=aA;have HR2:=HR.o;rw[hmf] at HR2;have HR3:=aB HR2;clear HR2 hmf;go_in;go_wp2_with (go_at_call 52;refine (dM H.o).mono ?_;rintro e w2 ⟨rfl,hb2⟩)
   refine (nS (base:=w.heap.size) (R:=(· < w.heap.size)) hb2.size (fun b hb=>Nat.lt_of_lt_of_le hb hb2.size) (H.o.keep fun b hb=>⟨hb,fun o=>aU (hb2.block b hb) o⟩) (bR.nil _ _) (fun g hg=>by simp[Value.ownBlock] at hg) HPP.o aA (by simpa using HLEN.o fr) hup0 hup hfr0 aA).mono ?_;rintro e w3 ⟨hm3,(⟨hg,v',rfl,hown,hnr⟩ | ⟨hg,rfl⟩)⟩
   · obtain⟨A',c',rfl⟩:=hown.slice;have HOWN:=aB hown;have HG:=aB hg;clear hown hg;go_wp2_with fail;go_ret2;exact vM hb2 hm3 (by rw[HR3.o,if_pos HG.o]) HOWN.o
   have HG:=aB hg;clear hg;go_wp2_with fail;go_ret2;exact eQ (hb2.trans (hm3.to_below hb2.size (fun _ h=>h.elim) (fun g hg=>by simp[Value.ownBlock] at hg))) (by rw[HR3.o,if_neg (by rw[HG.o];simp)])
 have hmf:min fr 1048577=1048577:=aA;have hm':1048577<fr:=aA;have HR2:=HR.o;rw[hmf] at HR2;have HR3:=aB HR2;clear HR2 hmf hm;go_in;go_wp2_with (go_at_call 52;refine (dM H.o).mono ?_;rintro e w2 ⟨rfl,hb2⟩)
 refine (nS (base:=w.heap.size) (R:=(· < w.heap.size)) hb2.size (fun b hb=>Nat.lt_of_lt_of_le hb hb2.size) (H.o.keep fun b hb=>⟨hb,fun o=>aU (hb2.block b hb) o⟩) (bR.nil _ _) (fun g hg=>by simp[Value.ownBlock] at hg) HPP.o aA (by simpa using HLEN.o 1048577) hup0 hup aA aA).mono ?_;rintro e w3 ⟨hm3,(⟨hg,v',rfl,hown,hnr⟩ | ⟨hg,rfl⟩)⟩
 · obtain⟨A',c',rfl⟩:=hown.slice;have HOWN:=aB hown;have HG:=aB hg;clear hown hg;go_wp2_with fail;go_ret2;exact vM hb2 hm3 (by rw[HR3.o,if_pos HG.o]) HOWN.o
 have HG:=aB hg;clear hg;go_wp2_with fail;go_ret2;exact eQ (hb2.trans (hm3.to_below hb2.size (fun _ h=>h.elim) (fun g hg=>by simp[Value.ownBlock] at hg))) (by rw[HR3.o,if_neg (by rw[HG.o];simp)])
def iY (n:Nd) (ats:List Nd):Prop:=if n.op=2 then bI n.b.toNat (-1) ats=Z (ats,[]) else ats=[]
def Wf:List Bool->Fo->Prop
 | [],.nil=>True
 | d::dr,.cons p n ats k x=>(match d with | false=>p=[] | true=>∃f,p=[f]/\tW f=true)/\eE n=true/\iY n ats/\Wf (ds n) k/\Wf dr x
 | _,_=>False
theorem l8:∀(k:Nat) (last:Int) (l m rest:List Nd),bI k last l=Z (m,[])->bI k last (l++rest)=Z (m,rest)
 | 0,_,l,m,rest,h=>by
  simp only[bI,Option.some.injEq,Prod.mk.injEq] at h;obtain⟨rfl,rfl⟩:=h;simp[bI]
 | k+1,last,[],m,rest,h=>by simp[bI] at h
 | k+1,last,x::l,m,rest,h=>by
  simp only[bI,List.cons_append] at h ⊢;split at h
  · rename_i hc
    rw[if_pos hc];simp only[Option.map_eq_some_iff,Prod.mk.injEq] at h ⊢;obtain⟨q,hq,rfl,hq2⟩:=h;obtain⟨q1,q2⟩:=q;simp only at hq2;subst hq2;exact⟨_,l8 k x.a l q1 rest hq,rfl,rfl⟩
  · cases h
theorem l7:∀(k:Nat) (last:Int) (l:List Nd) (p:List Nd×List Nd),bI k last l=Z p->bI k last p.1=Z (p.1,[])
 | 0,_,l,p,h=>by
  simp only[bI,Option.some.injEq] at h;subst h;rfl
 | k+1,last,[],p,h=>by simp[bI] at h
 | k+1,last,x::l,p,h=>by
  simp only[bI] at h;split at h
  · rename_i hc
    simp only[Option.map_eq_some_iff] at h;obtain⟨q,hq,rfl⟩:=h;simp only[bI];rw[if_pos hc,l7 k x.a l q hq];rfl
  · cases h
theorem JC {n:Nd} {l:List Nd} {q:List Nd×List Nd} (h:hP n l=Z q):iY n q.1:=by
 unfold hP at h;unfold iY;split at h
 · rename_i h2
   rw[if_pos h2];exact l7 _ _ _ _ h
 rename_i h2
 rw[if_neg h2];simp only[Option.some.injEq] at h;subst h;rfl
theorem JB {n:Nd} {ats:List Nd} (h:iY n ats) (rest:List Nd):hP n (ats++rest)=Z (ats,rest):=by
 unfold iY at h;unfold hP;split at h
 · rename_i h2
   rw[if_pos h2];exact l8 _ _ _ _ _ h
 rename_i h2
 rw[if_neg h2,h];rfl
theorem jQ:∀(F:Fo) (dl:List Bool) (rest:List Nd),Wf dl F->pp dl (row F++rest)=Z (F,rest)
 | .nil,[],rest,_=>by rw[jP];rfl
 | .nil,_::_,_,h=>h.elim
 | .cons _ _ _ _ _,[],_,h=>h.elim
 | .cons p n ats k x,d::dr,rest,h=>by
  obtain⟨hp,hok,hat,hk,hx⟩:=h;have e:row (.cons p n ats k x)++rest=p++(n::(ats++(row k++(row x++rest)))):=by simp[row]
  have hpre:gD d (p++(n::(ats++(row k++(row x++rest)))))=Z (p,n::(ats++(row k++(row x++rest)))):=by
   cases d with
   | false=>simp only at hp;subst hp;rfl
   | true =>
    obtain⟨f,rfl,hf⟩:=hp;simp only[List.cons_append,List.nil_append,gD,hf,if_true]
  rw[e,eV,hpre];simp only[Option.bind_some,hok,if_true,JB hat];rw[jQ k (ds n) _ hk];simp only[Option.bind_some];rw[jQ x dr rest hx];rfl
theorem nU:∀(f:Nat) (dl:List Bool) (l:List Nd) (x:Fo×List Nd),j9 f dl l=Z x->Wf dl x.1
 | 0,_,_,_,h=>by simp[j9] at h
 | _+1,[],l,x,h=>by simp only[j9,Option.some.injEq] at h;subst h;trivial
 | f+1,d::dr,l,x,h=>by
  simp only[j9,Option.bind_eq_some_iff] at h;obtain⟨p,hp,h⟩:=h;split at h
  · cases h
  · split at h
    · rename_i hok
      simp only[Option.bind_eq_some_iff] at h;obtain⟨q,hq,k,hk,y,hy,h⟩:=h;simp only[Option.some.injEq] at h;subst h;refine⟨?_,hok,JC hq,nU f _ _ _ hk,nU f _ _ _ hy⟩;cases d with
      | false=>simp only[gD,Option.some.injEq] at hp;subst hp;rfl
      | true =>
       cases l with
       | nil=>simp[gD] at hp
       | cons z l =>
        simp only[gD] at hp;split at hp
        · rename_i hz
          simp only[Option.some.injEq] at hp;subst hp;exact⟨z,rfl,hz⟩
        · cases hp
    cases h
theorem iG {dl:List Bool} {l:List Nd} {x:Fo×List Nd} (h:pp dl l=Z x):Wf dl x.1:=nU _ _ _ _ h
theorem qT {l:List Nd} {x:Fo} (h:pp [false] l=Z (x,[])) (hl:l.length<=4096):bC l=0:=by
 have h0:=vP h aD;simp only[List.length_nil] at h0;have he:jX l 0=l.length:=by
  unfold jX;rw[if_pos aA];have:ends [false] l 0=Z l.length:=by
   unfold ends;rw[List.drop_zero,h];rfl
  simp only[Int.toNat_zero,this]
 unfold bC;rw[if_neg aA,if_pos he]
structure Rt (t:List Nd) (n:Nd) (a:List Nd) (k:Fo):Prop where
 pp:pp [false] t=Z (.cons [] n a k .nil,[])
 few:t.length<=4096
theorem LL {t:List Nd} (h:bC t=0) : ∃n a k,Rt t n a k:=by
 obtain⟨h1,n,a,k,h2,_,_⟩:=fL h;exact⟨n,a,k,h2,h1⟩
theorem Rt.shape {t:List Nd} {n:Nd} {a:List Nd} {k:Fo} (h:Rt t n a k):bC t=0:=qT h.pp h.few
theorem Rt.eq {t:List Nd} {n:Nd} {a:List Nd} {k:Fo} (h:Rt t n a k):t=n::(a++row k):=by
 have:=nP h.pp;simpa[row] using this
theorem Rt.wf {t:List Nd} {n:Nd} {a:List Nd} {k:Fo} (h:Rt t n a k):eE n=true/\iY n a/\Wf (ds n) k:=by
 obtain⟨_,h1,h2,h3,_⟩:=iG h.pp;exact⟨h1,h2,h3⟩
theorem mQ {n:Nd} {a:List Nd} {k:Fo} (h1:eE n=true) (h2:iY n a) (h3:Wf (ds n) k) (hl:(n::(a++row k)).length<=4096):Rt (n::(a++row k)) n a k:=by
 refine⟨?_,hl⟩;have:=jQ (.cons [] n a k .nil) [false] [] ⟨rfl,h1,h2,h3,trivial⟩;simpa[row] using this
theorem JA {n:Nd} (h:eE n=true) (h6:n.op=6):n=⟨6,0,0⟩:=by
 obtain⟨op,a,b⟩:=n;simp only at h6;subst h6;simp only[eE,Bool.and_eq_true] at h;have h1:=aT.1 h.1.1;obtain⟨rfl,rfl⟩:a=0/\b=0:=aA;rfl
structure PU (t:List Nd) (n1:Nd) (a1:List Nd) (k1:Fo) (n2:Nd) (a2:List Nd) (k2:Fo):Prop where
 fst:Rt (n1::(a1++row k1)) n1 a1 k1
 snd:Rt (n2::(a2++row k2)) n2 a2 k2
 eq:t=⟨6,0,0⟩::((n1::(a1++row k1))++(n2::(a2++row k2)))
 end_:jX t 1=((1+(n1::(a1++row k1)).length:Nat):Int)
theorem pF {t:List Nd} {n:Nd} {a:List Nd} {k:Fo} (h:Rt t n a k) (h6:n.op=6) : ∃n1 a1 k1 n2 a2 k2,k=.cons [] n1 a1 k1 (.cons [] n2 a2 k2 .nil)/\PU t n1 a1 k1 n2 a2 k2:=by
 obtain⟨hok,hat,hw⟩:=h.wf;have hrow:=h.eq;have hn:=JA hok h6;have ha:a=[]:=by
  unfold iY at hat
  rwa [if_neg aA] at hat
 have hds:ds n=[false,false]:=by rw[hn];rfl
 rw[hds] at hw
 match k,hw with
 | .cons p1 n1 a1 k1 (.cons p2 n2 a2 k2 .nil),hw =>
  obtain⟨hp1,o1,t1,w1,hp2,o2,t2,w2,_⟩:=hw;simp only at hp1 hp2;subst hp1 hp2;have hr:t=⟨6,0,0⟩::((n1::(a1++row k1))++(n2::(a2++row k2))):=by
   rw[hrow,ha,hn];simp[row]
  have hl:=h.few;rw[hr] at hl;simp only[List.length_cons,List.length_append] at hl;have f1:=mQ o1 t1 w1 aG;have f2:=mQ o2 t2 w2 aG;refine⟨n1,a1,k1,n2,a2,k2,rfl,f1,f2,hr,?_⟩;have he:=lL t 1;rw[show ((1:Nat):Int)=1 from rfl] at he;rw[he];have hpp:=jQ (.cons [] n1 a1 k1 .nil) [false] (n2::(a2++row k2)) ⟨rfl,o1,t1,w1,trivial⟩;have hd:t.drop 1=row (.cons [] n1 a1 k1 .nil)++(n2::(a2++row k2)):=by rw[hr];simp[row]
  unfold ends;rw[hd,hpp];simp only[Option.map_some,oR];rw[hr];simp only[List.length_cons,List.length_append];omega
def EQ (p:Int->Int->Bool):FZ Unit := { an:=fun _ v a=>p v a,nx:=fun _ _ _=>() }
def OA (pb:Nat) (x:Int) (w:World) (_:Unit):Prop:=aS w pb 3 #[O X x]
theorem GD {pb H:Nat} {x:Int} (hpb:pb<H):uT Tryz.prog 92 #[.pointer (Z ⟨pb,0,none⟩)] (EQ fun v a=>decide (max x 0<=v-a)) (OA pb x) (fun _=>False) H:=by
 intro w t v a hH hj hv0 hv1 ha0 ha1;have cb:=aS.cell hj;have HJ:=aB hj;clear hj;show Calls Tryz.prog 92 #[O X v,O X a,.pointer (Z ⟨pb,0,none⟩)] w _;go_in;go_wp2_with fail;all_goals
  go_ret;refine⟨fQ ?_,aW.refl _ _ _,HJ.o⟩;simp only[EQ];rw[decide_eq_decide];omega
def oF (p:Int->Int->Bool) (pop pb:Int):Nat->Int->Fo->Bool
 | _,_,.nil=>false
 | j,a,.cons _ n _ k x=>((decide (n.op=1)&&p n.a (a+aQ pop pb j))||oF p n.op n.b 0 (a+aQ pop pb j) k)||oF p pop pb (j+1) a x
def nW (p:Int->Int->Bool) (a:Int) (n:Nd) (k:Fo):Bool:=(decide (n.op=1)&&p n.a a)||oF p n.op n.b 0 a k
theorem fB (p:Int->Int->Bool) (pop pb:Int) (j:Nat) (a:Int) (pre:List Nd) (n:Nd) (ats:List Nd) (k x:Fo):oF p pop pb j a (.cons pre n ats k x)=(nW p (a+aQ pop pb j) n k||oF p pop pb (j+1) a x):=rfl
theorem J3 (p:Int->Int->Bool) (f:Bool) (n:Nd) (a:Int):(rC (EQ p)).nx (f,()) n a=((f||(decide (n.op=1)&&p n.a a)),()):=by
 simp only[rC,EQ];cases f
 · by_cases h:n.op=1<;>simp[h]
 simp
theorem J2 (p:Int->Int->Bool) (pop pb:Int) : ∀(j:Nat) (a:Int) (f:Bool) (F:Fo),(rC (EQ p)).S pop pb j a (f,()) F=((f||oF p pop pb j a F),())
 | _,_,_,.nil=>by simp[cV.S,oF]
 | j,a,f,.cons pre n ats k x=>by
  rw[cV.S_cons,cV.S1,J3,J2 p n.op n.b 0 _ _ k,J2 p pop pb (j+1) a _ x,fB,nW];simp only[Bool.or_assoc]
theorem zH (p:Int->Int->Bool) (n:Nd) (k:Fo):(vB (EQ p) () n k).1=nW p 0 n k:=by
 rw[vB,cV.S1,J3,J2,nW,Bool.false_or]
theorem xF {τ:Type} (T:FZ τ) (pop pb:Int) : ∀(j:Nat) (a:Int) (s:Bool×τ) (F:Fo),((rC T).E pop pb j a s F).length<=(row F).length
 | _,_,_,.nil=>Nat.le_refl _
 | j,a,s,.cons p n at' k x=>by
  rw[cV.E_cons,cV.E1];have h1:=xF T n.op n.b 0 (a+aQ pop pb j) ((rC T).nx s n (a+aQ pop pb j)) k;have h2:=xF T pop pb (j+1) a ((rC T).S1 (a+aQ pop pb j) s n k) x;have h3:((rC T).em s n (a+aQ pop pb j)).length=0:=rfl;simp only[List.length_append,row,List.length_cons];omega
theorem r8 {τ:Type} (T:FZ τ) (a:Int) (s:Bool×τ) (n:Nd) (ats:List Nd) (k:Fo):((rC T).E1 a s n ats k).length<=(n::(ats++row k)).length:=by
 have h1:=xF T n.op n.b 0 a ((rC T).nx s n a) k;have h3:((rC T).em s n a).length=0:=rfl;rw[cV.E1,List.length_append,List.length_append,h3];simp only[List.length_cons,List.length_append];omega
def O5 (p:Int->Int->Bool) (l:List Nd):Bool :=
 match pp [false] l with
 | some (.cons _ n _ k _,_)=>nW p 0 n k
 | _=>false
def fZ (l:List Nd) (v:Int):Bool:=decide (bC l=0) && !O5 (fun x a=>decide (max v 0<=x-a)) l
def nX (b:Bool) (w:World) (e:Ending) (w':World):Prop:=e=.returned (.bool b)/\Below w.heap.size w w'
theorem JW {p:Int->Int->Bool} {mk:FuncId} {x:Int} {A:Option Addr} {nn c:Nat} {l:List Nd} {w w2:World} (h:bB w A nn c l) (hs:bC l=0) (hb:Below w.heap.size w w2) (hg:w.heap.size<w2.heap.size) (hbx:aS w2 w.heap.size 3 #[O X x])
 (hen:∀args w,(callFunc mk args).run Tryz.prog w=.ok (.enter mk args) w) (hmet:∀H pb,pb<H->uT Tryz.prog mk #[.pointer (Z ⟨pb,0,none⟩)] (EQ p) (OA pb x) (fun _=>False) H) :
 Calls Tryz.prog 67 #[Y A nn c,.func (.func mk) #[] #[.pointer (Z ⟨w.heap.size,0,none⟩)]] w2 (nX (O5 p l) w2):=by
 obtain⟨hl,n,ats,k,hpp,hrow,hfs⟩:=fL hs;refine (r9 (T:=EQ p) (J:=OA w.heap.size x) (K:=fun k=>k=w.heap.size) (S:=fun _=>False) (R:=(· < w.heap.size)) (t:=()) (fun b hb'=>⟨by omega,fun h=>h⟩) (h.keep fun b hb'=>⟨hb',fun o=>aU (hb.block b hb') o⟩) (fun k hk=>by omega) (fun k hk=>hk.elim)
  (fun w w' t hj hk=>hj.same (hk _ rfl)) hen (hmet _ _ hg) hbx hpp aA (by have:=r8 (EQ p) 0 (false,()) n ats k;rw[<-hrow] at this;omega)).mono ?_
 rintro e w3 ⟨rfl,hm,_⟩;refine⟨fQ ?_,hm.to_below (Nat.le_refl _) (fun _ h=>h.elim) (fun g hg=>by cases hg)⟩;rw[zH];unfold O5;rw[hpp]
theorem GE {A:Option Addr} {nn c:Nat} {l:List Nd} {w:World} (h:bB w A nn c l) (v:Int) :
 Calls Tryz.prog 53 #[Y A nn c,O X v] w (nX (fZ l v) w):=by
 have hbw:=aP w (.cells #[O X v] 3);by_cases hs:bC l=0
 · have hf:fZ l v = !O5 (fun x a=>decide (max v 0<=x-a)) l:=by simp[fZ,hs]
   have hsb:(bC l==0)=true:=by simp[hs]
   have HF:=aB hf;have HS:=aB hs;have H:=aB h;have HBW:=aB hbw;have HA:=aB (h.below hbw);clear hf hs h hbw;go_in;go_wp2_with (go_at_call 52;refine (dM HA.o).mono ?_;rintro e w2 ⟨rfl,hb2⟩)
   have hb3:Below w.heap.size w w2:=HBW.o.trans (hb2.mono HBW.o.size);have hx:aS w2 w.heap.size 3 #[O X v]:=(aS.new w _ _).below hb2 aD;refine (JW H.o HS.o hb3 hx.lt hx (fun _ _=>by kernel_rfl) (fun H pb hp=>GD hp)).mono ?_;rintro e w4 ⟨rfl,hb4⟩;go_wp2_with fail;go_ret;exact⟨fQ HF.o.symm,hb3.trans (hb4.mono hb3.size)⟩
 have hf:fZ l v=false:=by simp[fZ,hs]
 have hsb:(bC l==0)=false:=by simp[hs]
 have HF:=aB hf;have HBW:=aB hbw;have HA:=aB (h.below hbw);clear hf hs h hbw;go_in;go_wp2_with (go_at_call 52;refine (dM HA.o).mono ?_;rintro e w2 ⟨rfl,hb2⟩)
 go_ret;exact⟨fQ HF.o.symm,HBW.o.trans (hb2.mono HBW.o.size)⟩
end Go.Proofs.YtjllmblbbgojbaaGreat
