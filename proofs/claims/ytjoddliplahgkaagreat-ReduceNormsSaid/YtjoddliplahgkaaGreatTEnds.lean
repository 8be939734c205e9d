/- Merged: End, Shape, TermW, Rt, Below. -/
import Derived.Test.YtjoddliplahgkaaGreatTWalks
namespace Go.Proofs.YtjoddliplahgkaaGreat
set_option linter.unusedVariables false
set_option linter.unusedSimpArgs false
open Go.RowKit
open Go.Value renaming int → O, slice → Y
open Go.IntKind renaming i64 → X
open Option renaming some → Z
open Go.Lib renaming hid->aB
set_option maxHeartbeats 2000000
set_option maxRecDepth 100000
variable {k:Fo}{a l t:List Nd}{c nn:Nat}{n:Nd}{A:ZZ}{w:aAB}
theorem KG{n:Nat}(a:Int)(ha:a<0):
 Calls Tryz.prog 111 #[Y A n c,O X a] w (eO (-1) w):=by
 go_in;go_wp2_with fail;go_ret;exact⟨rfl,XS _ _⟩
theorem KH{n:Nat}(a:Int)(p:Nat)(ha:a=p)(F:n<=p)(_hn:n<=5864062014805):
 Calls Tryz.prog 111 #[Y A n c,O X a] w (eO (-1) w):=by
 subst ha;have D:(0:Int)<=(p:Int):=aA;go_in;go_wp2_with fail;go_ret;exact⟨rfl,XS _ _⟩
theorem SN{n:Nat}(h:aX w A n c l)(a:Int)(p:Nat)(ha:a=p)(hp:p<n)(F:eW (bC l p)=false):
 Calls Tryz.prog 111 #[Y A n c,O X a] w (eO (-1) w):=by
 subst ha;have h0:(0:Int)<=(p:Int):=aA;obtain⟨b,off,rfl,hb,c0,c1,c2⟩:=h.at_ hp;cases hpl:cD (bC l p).op (bC l p).a (bC l p).b
 . clear F;go_in;go_wp2_with (go_at_call 131;refine (gO _ _ _ _).mono ?_;rintro e w1 ⟨rfl,D⟩;obtain⟨U,o⟩:=nB D)
   go_ret;exact⟨rfl,D⟩
 by_cases I:(bC l p).op=3
 . have s:((bC l p).op==3)=true:=by simp[I]
   clear I F;go_in;go_wp2_with (go_at_call 131;refine (gO _ _ _ _).mono ?_;rintro e w1 ⟨rfl,D⟩;obtain⟨U,o⟩:=nB D)
   go_ret;exact⟨rfl,D⟩
 have G:(bC l p).op=13:=by simpa[eW,hpl,I] using F
 have s:((bC l p).op==3)=false:=by simp[I]
 have z:((bC l p).op==13)=true:=by simp[G]
 clear I G F;go_in;go_wp2_with (go_at_call 131;refine (gO _ _ _ _).mono ?_;rintro e w1 ⟨rfl,D⟩;obtain⟨U,o⟩:=nB D)
 go_ret;exact⟨rfl,D⟩
theorem O7{n:Nat}(p:Nat)(hp:p<n)(z:eW (bC l p)=true)
 (ih:∀(w:aAB)(a:Int)(q:Nat),aX w A n c l->a=q->p<q->Calls Tryz.prog 111 #[Y A n c,O X a] w (eO (rE (ends [false] l q)) w))
 {w:aAB} (h:aX w A n c l) :
 Calls Tryz.prog 111 #[Y A n c,O X p] w (eO (rE (ends [false] l p)) w):=by
 have e8:=h.few;have h0:(0:Int)<=(p:Int):=aA;have HI:=aB ih;clear ih;have d3:cD (bC l p).op (bC l p).a (bC l p).b=true:=by
  simp only[eW,YC]at z;exact z.1.1
 have f2:((bC l p).op==3)=false:=by
  simp only[eW,YC,YJ]at z;simp[z.1.2]
 have e7:((bC l p).op==13)=false:=by
  simp only[eW,YC,YJ]at z;simp[z.2]
 have c6:ends [false] l p=if (bC l p).op=2 then jV (bC l p).b.toNat (-1) l (p+1) else ends (ds (bC l p)) l (p+1):=by
  rw[EK (by rw[h.len];exact hp),XP z]
 have b7:=aB c6;clear c6 z;obtain⟨f1,d9⟩:=iF d3;obtain⟨e4,e9⟩:=EW d3;obtain⟨b,off,rfl,hb,c0,c1,c2⟩:=h.at_ hp;by_cases h2:(bC l p).op=2
 . have F:((bC l p).op==2)=true:=by simp[h2]
   have H2:=aB h2;clear h2;go_in;go_wp2_with (go_at_call 131;refine (gO _ _ _ _).mono ?_;rintro e w1 ⟨rfl,I⟩;obtain⟨e0,e2⟩:=nB I)
   refine (L4 ((h.below I).alloc _) _ _ (p+1) (bC l p).b.toNat aA aA aA aA).mono ?_;rintro e w2 ⟨rfl,F⟩;go_wp2
   go_ret;refine⟨cW ?_,I.trans ((((XS _ _).alloc (XU _) _).trans (F.mono aD)).mono I.size)⟩;rw[b7.o,XP H2.o]
 have F:((bC l p).op==2)=false:=by simp[h2]
 have c7:ends [false] l p=ends (ds (bC l p)) l (p+1):=by rw[b7.o,XN h2]
 have HE:=aB c7;clear b7 c7 h2;go_in;go_wp2_with (first|(go_at_call 131;refine (gO _ _ _ _).mono ?_;rintro e w1 ⟨rfl,I⟩;obtain⟨e0,e2⟩:=nB I)|(go_at_call 133;refine (q7 _ _ _ _ aA).mono ?_;rintro e w2 ⟨rfl,rfl⟩))
 have h1:=(h.below I).alloc (.cells #[O X (bC l p).op,O X (bC l p).a,O X (bC l p).b] 46);go_loopw [1,54] (fun a i wr=>∃(q j:Nat),q<=n/\p<q/\(j:Int)<=dU (bC l p).op (bC l p).b/\a=O X q/\i=O X j/\ends (iO (bC l p) j) l q=ends (ds (bC l p)) l (p+1)/\Below (w1.heap.size+1) (w1.alloc (.cells #[O X (bC l p).op,O X (bC l p).a,O X (bC l p).b] 46)) wr) (fun _ i _=>(dU (bC l p).op (bC l p).b).toNat-(intOf i).toNat)
 case atStart=>exact⟨p+1,0,hp,by omega,e4,by go_num,rfl,by rw[tB],(XS _ _).alloc aD _⟩
 case round =>
  obtain⟨q,j,hq,f4,hj,rfl,rfl,he,a5⟩:=hrel;have HR:=aB he;clear he;have b8:=h1.below (a5.mono aD);have g0:wr.cell? ⟨w1.heap.size,0,none⟩=Z (O X (bC l p).op):=(a5.cell aD).trans (OS _ _ _ _ _ _ _ rfl);have c5:∀w2:World,ZY wr w2->ZY w w2:=fun _ hx=>I.trans (((aQ w1 _).trans ((a5.mono aA).trans (hx.mono (by have:=a5.size;simp at this;omega)))).mono I.size);have b4:∀w2:World,ZY wr w2->Below (w1.heap.size+1) (w1.alloc (.cells #[O X (bC l p).op,O X (bC l p).a,O X (bC l p).b] 46)) w2:=fun _ hx=>a5.trans (hx.mono (by have:=a5.size;simp at this;omega));have HT:=aB c5;have c3:=aB b4;clear c5 b4;by_cases c9:(j:Int)<dU (bC l p).op (bC l p).b;rotate_left
  . have a1:=wX (bC l p) (i:=j) aA;have D:ends (iO (bC l p) j) l q=Z q:=by rw[a1,O9 (by rw[h.len];exact hq)]
    have G:=aB D;clear D a1;go_wp2_with fail;go_ret;refine⟨cW ?_,HT.o _ (XS _ _)⟩;rw[HE.o,<-HR.o,G.o];rfl
  by_cases a2:(bC l p).op=12
  . have c4:((bC l p).op==12)=true:=by simp[a2]
    have c8:(j:Int)<(bC l p).b:=by simpa[dU,a2] using c9
    have a1:=wY a2 c8;have b9:=aB a1;clear a1 a2 c8;by_cases d7:q<n;rotate_left
    . have D:ends (iO (bC l p) j) l q=none:=by rw[b9.o,qS _ _ (by rw[h.len];omega)]
      have G:=aB D;clear D;go_wp2_with fail;go_ret;refine⟨cW ?_,HT.o _ (XS _ _)⟩;rw[HE.o,<-HR.o,G.o];rfl
    have b1:ends (iO (bC l p) j) l q=if yM (bC l q) then ends (false::false::iO (bC l p) (j+1)) l (q+1) else none:=by
     rw[b9.o,O8 _ (by rw[h.len];exact d7)]
    obtain⟨f3,d0,d1,d2⟩:=b8.cells d7;cases hf:yM (bC l q)
    . have D:ends (iO (bC l p) j) l q=none:=by rw[b1,hf];rfl
      have G:=aB D;clear D b1;by_cases a8:(bC l q).op=13
      . have e5:cD (bC l q).op (bC l q).a (bC l q).b=false:=by simpa[yM,a8] using hf
        have b6:((bC l q).op != 13)=false:=by simp[a8]
        clear a8 hf;go_wp2_with (go_at_call 131;refine (gO _ _ _ _).mono ?_;rintro e w2 ⟨rfl,F⟩;obtain⟨e1,e3⟩:=nB F)
        go_ret;refine⟨cW ?_,HT.o _ F⟩;rw[HE.o,<-HR.o,G.o];rfl
      have b6:((bC l q).op != 13)=true:=by simp[a8]
      clear a8 hf;go_wp2_with fail;go_ret;refine⟨cW ?_,HT.o _ (XS _ _)⟩;rw[HE.o,<-HR.o,G.o];rfl
    have e5:cD (bC l q).op (bC l q).a (bC l q).b=true:=by
     simp only[yM,YC]at hf;exact hf.1
    have b6:((bC l q).op != 13)=false:=by
     simp only[yM,YC,YJ]at hf;simp[hf.2]
    have a9:ends (iO (bC l p) j) l q=(ends [false] l (q+1)).bind fun q1=>(ends [false] l q1).bind (ends (iO (bC l p) (j+1)) l):=by
     rw[b1,XP hf,sG false _ (by rw[h.len];omega)];refine Option.bind_congr fun q1 a3=>?_;rw[sG false _ (uR a3 (by rw[h.len];omega)).2.1]
    have a6:=aB a9;clear a9 b1 hf;go_wp2_with (go_at_call 131;refine (gO _ _ _ _).mono ?_;rintro e w2 ⟨rfl,F⟩;obtain⟨e1,e3⟩:=nB F)
    have d8:=b8.below F;refine (HI.o w2 _ (q+1) d8 aA aA).mono ?_;rintro e w3 ⟨rfl,U⟩;have e6:=d8.below U;cases a3:ends [false] l (q+1) with
    | none =>
     have D:ends (iO (bC l p) j) l q=none:=by rw[a6.o,a3];rfl
     have G:=aB D;clear D a3;simp only[rE];go_wp2_with fail;refine (KG (w:=w3) _ aA).mono ?_;rintro e w4 ⟨rfl,a4⟩;go_wp2_with fail;go_ret;refine⟨cW ?_,HT.o _ (F.trans ((U.trans (a4.mono U.size)).mono F.size))⟩;rw[HE.o,<-HR.o,G.o];rfl
    | some q1 =>
     obtain⟨f0,d4,d5⟩:=uR a3 (by rw[h.len];omega);rw[h.len]at d4;have b5:ends (iO (bC l p) j) l q=(ends [false] l q1).bind (ends (iO (bC l p) (j+1)) l):=by rw[a6.o,a3];rfl
     have b2:=aB b5;clear b5 a3 d5;simp only[rE];go_wp2_with fail;refine (HI.o w3 _ q1 e6 rfl aA).mono ?_;rintro e w4 ⟨rfl,a4⟩;have b3:ZY wr w4:=F.trans ((U.trans (a4.mono U.size)).mono F.size);cases hq2:ends [false] l q1 with
     | none =>
      have D:ends (iO (bC l p) j) l q=none:=by rw[b2.o,hq2];rfl
      have G:=aB D;clear D hq2;simp only[rE];go_wp2_with fail;go_ret;refine⟨cW ?_,HT.o _ b3⟩;rw[HE.o,<-HR.o,G.o];rfl
     | some q2 =>
      obtain⟨d6,a0,b0⟩:=uR hq2 (by rw[h.len];omega);rw[h.len]at a0;have s:ends (iO (bC l p) j) l q=ends (iO (bC l p) (j+1)) l q2:=by rw[b2.o,hq2];rfl
      have a7:=aB s;clear s hq2 b0;simp only[rE];go_wp2_with fail;go_roundw
      case rel=>exact⟨q2,j+1,a0,by omega,by omega,rfl,by go_num,by rw[<-a7.o,HR.o],c3.o _ b3⟩
      case measure=>simp[intOf];omega
  have c4:((bC l p).op==12)=false:=by simp[a2]
  have a1:=wZ a2 c9;have a9:ends (iO (bC l p) j) l q=(ends [false] l q).bind (ends (iO (bC l p) (j+1)) l):=by
   rw[a1,sG false _ (by rw[h.len];omega)]
  have a6:=aB a9;clear a1 a9 a2;go_wp2_with fail;refine (HI.o wr _ q b8 rfl aA).mono ?_;rintro e w4 ⟨rfl,a4⟩;cases hq2:ends [false] l q with
  | none =>
   have D:ends (iO (bC l p) j) l q=none:=by rw[a6.o,hq2];rfl
   have G:=aB D;clear D hq2;simp only[rE];go_wp2_with fail;go_ret;refine⟨cW ?_,HT.o _ a4⟩;rw[HE.o,<-HR.o,G.o];rfl
  | some q2 =>
   obtain⟨d6,a0,b0⟩:=uR hq2 (by rw[h.len];omega);rw[h.len]at a0;have s:ends (iO (bC l p) j) l q=ends (iO (bC l p) (j+1)) l q2:=by rw[a6.o,hq2];rfl
   have a7:=aB s;clear s hq2 b0;simp only[rE];go_wp2_with fail;go_roundw
   case rel=>exact⟨q2,j+1,a0,by omega,by omega,rfl,by go_num,by rw[<-a7.o,HR.o],c3.o _ a4⟩
   case measure=>simp[intOf];omega
theorem SO{n:Nat}:∀(m:Nat)(w:aAB)(a:Int)(p:Nat),aX w A n c l->a=p->n<=p+m →
 Calls Tryz.prog 111 #[Y A n c,O X a] w (eO (rE (ends [false] l p)) w):=by
 intro m
 induction m with
 | zero =>
  intro w a p h ha F;rw[qS _ _ (by rw[h.len];omega)];exact KH a p ha aA h.few
 | succ m ih =>
  intro w a p h ha F;by_cases D:p<n
  . cases hok:eW (bC l p)
    . have:ends [false] l p=none:=by rw[EK (by rw[h.len];exact D),hok];rfl
      rw[this];exact SN h a p ha D hok
    subst ha;exact O7 p D hok (fun w a q h ha G=>ih w a q h ha aA) h
  . rw[qS _ _ (by rw[h.len];omega)];exact KH a p ha aA h.few
theorem iZ{n:Nat}(h:aX w A n c l)(a:Int):
 Calls Tryz.prog 111 #[Y A n c,O X a] w (eO (nH l a) w):=by
 by_cases D:0<=a
 . obtain⟨p,rfl⟩:=Int.eq_ofNat_of_zero_le D;rw[nN];exact SO n w p p h rfl aA
 have:nH l a = -1:=by simp only[nH];rw[XN aA]
 rw[this];exact KG a aA
def a6(l:List Nd):Int:=if 4096<l.length then 9 else if nH l 0=l.length then 0 else 8
theorem cR(h:aX w A nn c l):
 Calls Tryz.prog 97 #[Y A nn c] w (eO (a6 l) w):=by
 have a0:=h.few;have D:=h.len;by_cases h1:4096<nn
 . have F:a6 l=9:=by unfold a6;rw[XP aA]
   have I:=aB F;have s:(4096:Int)<(nn:Int):=aA;clear F D;go_in;go_wp2_with fail;go_ret;exact⟨cW I.o.symm,XS _ _⟩
 have s:decide ((4096:Int)<(nn:Int))=false:=by simp;omega
 by_cases U:nH l 0=nn
 . have F:a6 l=0:=by unfold a6;rw[XN aA,XP aA]
   have I:=aB F;have z:(nH l 0 != (nn:Int))=false:=by simp[U]
   clear F D U;go_in;go_wp2_with (go_at_call 111;refine (iZ h 0).mono ?_;rintro e w2 ⟨rfl,G⟩)
   go_ret;exact⟨cW I.o.symm,G⟩
 have F:a6 l=8:=by unfold a6;rw[XN aA,XN aA]
 have I:=aB F;have z:(nH l 0 != (nn:Int))=true:=by simp[U]
 clear F D U;go_in;go_wp2_with (go_at_call 111;refine (iZ h 0).mono ?_;rintro e w2 ⟨rfl,G⟩)
 go_ret;exact⟨cW I.o.symm,G⟩
theorem fB:∀(F:Fo),aY F<=(row F).length
 | .nil=>XU _
 | .cons p n a k x=>by
  have D:=fB k;have G:=fB x;simp only[aY,row,XX,YA];omega
theorem eN(h:a6 l=0):l.length<=4096/\∃n D k,pp [false] l=Z (.cons [] n D k .nil,[])/\l=n::(D++row k)/\aY k<=4096:=by
 unfold a6 at h;split at h
 . cases h
 split at h
 . rename_i h1 G
   refine⟨by omega,?_⟩;unfold nH at G;split at G
   rotate_left
   . omega
   rename_i h3
   split at G
   rotate_left
   . omega
   rename_i q hq
   simp only[ends,ZO,Int.toNat_zero,List.drop_zero]at hq;obtain⟨x,F,a0⟩:=hq;obtain⟨n,D,k,z⟩:=s6 F;have I:=qC F;have U:=congrArg List.length I;rw[XX]at U;have o:x.2=[]:=ZC aA;obtain⟨x1,x2⟩:=x;simp only at z o I F;subst z o;have s:l=n::(D++row k):=by simpa[row] using I
   refine⟨n,D,k,F,s,?_⟩;have h5:=fB k;have h6:=congrArg List.length s;simp only[YA,XX]at h6;omega
 cases h
def tV(l:List Nd)(up fr:Int):List Nd×Int :=
 match pp [false] l with
 | some (.cons _ n ats k _,_)=>if (jT up (min fr 1048577)).G1 0 () n k=true then ((jT up (min fr 1048577)).E1 0 () n ats k,0) else ([],6)
 | _=>([],0)
def iE(l:List Nd)(up fr:Int):List Nd×Int:=if a6 l=0 then (if up<0\/fr<0 then ([],1) else tV l up fr) else ([],a6 l)
theorem uY(up fr:Int)(D G:Int):∀(j:Nat)(a:Int)(F:Fo),((jT up fr).E D G j a () F).length=(row F).length
 | _,_,.nil=>rfl
 | j,a,.cons p n at' k x=>by
  rw[cZ.E_cons,cZ.E1];have I:=uY up fr n.op n.b 0 (a+aR D G j) k;have U:=uY up fr D G (j+1) a x;have h:((jT up fr).em () n (a+aR D G j)).length=1:=by
   simp only[jT];split<;>rfl
  simp only[XX,row,YA];have e:∀s:Unit,s=():=fun _=>rfl;rw[e ((jT up fr).nx () n (a+aR D G j)),e ((jT up fr).S1 (a+aR D G j) () n k),I,U,h];omega
theorem wT(up fr:Int)(a:Int)(n:Nd)(D:List Nd)(k:Fo):((jT up fr).E1 a () n D k).length=(n::(D++row k)).length:=by
 have F:((jT up fr).em () n a).length=1:=by simp only[jT];split<;>rfl
 have e:∀s:Unit,s=():=fun _=>rfl;rw[cZ.E1,XX,XX,F,e ((jT up fr).nx () n a),uY];simp only[YA,XX];omega
def lP(r:List Nd×Int)(w:aAB)(e:Ending)(w':aAB):Prop:=ZY w w'/\∃A n c,e=.returned (.tuple #[Y A n c,O X r.2])/\bK w' w.heap.size (Y A n c) r.1
theorem dJ{r:List Nd×Int}{x:Int}{w':aAB}(D:ZY w w')(F:r=([],x)):lP r w (.returned (.tuple #[Y none 0 0,O X x])) w':=by
 subst F;exact⟨D,_,_,_,rfl,bK.nil _ _⟩
theorem AA{r:List Nd×Int}{G w':aAB}{m:Nat}(F:ZY w G)(U:aZ (fun _=>False) (Value.slice none ([]:List Nd).length 0).ownBlock G w')(o:r=(l,0))(D:bK w' w.heap.size (Y A m c) ([]++l)):lP r w (.returned (.tuple #[Y A m c,O X 0])) w':=by
 subst o;exact⟨F.trans (U.to_below F.size (fun _ h=>h.elim) (fun g I=>by simp[Value.ownBlock]at I)),_,_,_,rfl,D⟩
theorem PS(h:aX w A nn c l)(up fr:Int)(b1:up<=9223372036854775807):
 Calls Tryz.prog 114 #[Y A nn c,O X up,O X fr] w (lP (iE l up fr) w):=by
 by_cases hs:a6 l=0;rotate_left
 . have hr:iE l up fr=([],a6 l):=by unfold iE;rw[XN hs]
   have b4:(a6 l != 0)=true:=by simp[hs]
   have HR:=aB hr;clear hr hs;go_in;go_wp2_with (go_at_call 97;refine (cR h).mono ?_;rintro e w2 ⟨rfl,D⟩)
   go_ret2;exact dJ D HR.o
 obtain⟨hl,n,a8,k,a2,U,b6⟩:=eN hs;have b4:(a6 l != 0)=false:=by simp[hs]
 by_cases h1:up<0
 . have hr:iE l up fr=([],1):=by unfold iE;rw[XP hs,XP (.inl h1)]
   have HR:=aB hr;clear hr hs a2 U;go_in;go_wp2_with (go_at_call 97;refine (cR h).mono ?_;rintro e w2 ⟨rfl,D⟩)
   go_ret2;exact dJ D HR.o
 by_cases h2:fr<0
 . have hr:iE l up fr=([],1):=by unfold iE;rw[XP hs,XP (.inr h2)]
   have b2:decide (up<0)=false:=by simp;omega
   have HR:=aB hr;clear hr hs a2 U h1;go_in;go_wp2_with (go_at_call 97;refine (cR h).mono ?_;rintro e w2 ⟨rfl,D⟩)
   go_ret2;exact dJ D HR.o
 have b2:decide (up<0)=false:=by simp;omega
 have b5:decide (fr<0)=false:=by simp;omega
 have a5:0<=up:=aA;have a9:0<=fr:=aA;have hr:iE l up fr=tV l up fr:=by unfold iE;rw[XP hs,XN aA]
 have b0:tV l up fr=if (jT up (min fr 1048577)).G1 0 () n k=true then ((jT up (min fr 1048577)).E1 0 () n a8 k,0) else ([],6):=by unfold tV;rw[a2]
 have a4:∀f,((jT up f).E1 0 () n a8 k).length<=1000000000000:=fun f=>by rw[wT,<-U];omega
 obtain⟨HR,a7,a3,H⟩:=aAE (hr.trans b0) a2 a4 h;clear hr hs a2 U b0 h1 h2 a4;by_cases hm:fr<=1048577
 . have a1:min fr 1048577=fr:=aA;have I:=HR.o;rw[a1]at I;have z:=aB I;clear I a1;go_in;go_wp2_with (go_at_call 97;refine (cR H.o).mono ?_;rintro e w2 ⟨rfl,D⟩)
   refine (kW (base:=w.heap.size) (R:=(· < w.heap.size)) D.size (fun b hb=>XT hb D.size) (H.o.keep fun b hb=>⟨hb,fun o=>aP (D.block b hb) o⟩) (bK.nil _ _) (fun g G=>by simp[Value.ownBlock]at G) a7.o aA (by simpa using a3.o fr) a5 b1 a9 aA).mono ?_;rintro e w3 ⟨a0,(⟨G,v',rfl,F,b3⟩|⟨G,rfl⟩)⟩
   . obtain⟨A',c',rfl⟩:=F.slice;obtain⟨s,HG⟩:=aAC F G;clear F G;go_wp2_with fail;go_ret2;exact AA D a0 (by rw[z.o,XP HG.o]) s.o
   have HG:=aB G;clear G;go_wp2_with fail;go_ret2;exact dJ (D.trans (a0.to_below D.size (fun _ h=>h.elim) (fun g G=>by simp[Value.ownBlock]at G))) (by rw[z.o,XN (by rw[HG.o];simp)])
 have a1:min fr 1048577=1048577:=aA;have b7:1048577<fr:=aA;have I:=HR.o;rw[a1]at I;have z:=aB I;clear I a1 hm;go_in;go_wp2_with (go_at_call 97;refine (cR H.o).mono ?_;rintro e w2 ⟨rfl,D⟩)
 refine (kW (base:=w.heap.size) (R:=(· < w.heap.size)) D.size (fun b hb=>XT hb D.size) (H.o.keep fun b hb=>⟨hb,fun o=>aP (D.block b hb) o⟩) (bK.nil _ _) (fun g G=>by simp[Value.ownBlock]at G) a7.o aA (by simpa using a3.o 1048577) a5 b1 aA aA).mono ?_;rintro e w3 ⟨a0,(⟨G,v',rfl,F,b3⟩|⟨G,rfl⟩)⟩
 . obtain⟨A',c',rfl⟩:=F.slice;obtain⟨s,HG⟩:=aAC F G;clear F G;go_wp2_with fail;go_ret2;exact AA D a0 (by rw[z.o,XP HG.o]) s.o
 have HG:=aB G;clear G;go_wp2_with fail;go_ret2;exact dJ (D.trans (a0.to_below D.size (fun _ h=>h.elim) (fun g G=>by simp[Value.ownBlock]at G))) (by rw[z.o,XN (by rw[HG.o];simp)])
def iU(n:Nd)(D:List Nd):Prop:=if n.op=2 then bJ n.b.toNat (-1) D=Z (D,[]) else D=[]
def Wf:List Bool->Fo->Prop
 | [],.nil=>True
 | d::dr,.cons p n ats k x=>(match d with|false=>p=[]|true=>∃f,p=[f]/\yM f=true)/\eW n=true/\iU n ats/\Wf (ds n) k/\Wf dr x
 | _,_=>False
theorem oJ:∀(k:Nat)(last:Int)(l m rest:List Nd),bJ k last l=Z (m,[])->bJ k last (l++rest)=Z (m,rest)
 | 0,_,l,m,rest,h=>by
  simp only[bJ,YT,ZB]at h;obtain⟨rfl,rfl⟩:=h;simp[bJ]
 | k+1,last,[],m,rest,h=>by simp[bJ]at h
 | k+1,last,x::l,m,rest,h=>by
  simp only[bJ,ZM]at h ⊢;split at h
  . rename_i F
    rw[XP F];simp only[ZO,ZB]at h ⊢;obtain⟨q,G,rfl,D⟩:=h;obtain⟨I,U⟩:=q;simp only at D;subst D;exact⟨_,oJ k x.a l I rest G,rfl,rfl⟩
  . cases h
theorem oI:∀(k:Nat)(last:Int)(l:List Nd)(p:List Nd×List Nd),bJ k last l=Z p->bJ k last p.1=Z (p.1,[])
 | 0,_,l,p,h=>by
  simp only[bJ,YT]at h;subst h;rfl
 | k+1,last,[],p,h=>by simp[bJ]at h
 | k+1,last,x::l,p,h=>by
  simp only[bJ]at h;split at h
  . rename_i D
    simp only[ZO]at h;obtain⟨q,F,rfl⟩:=h;simp only[bJ];rw[XP D,oI k x.a l q F];rfl
  . cases h
theorem ON{q:List Nd×List Nd}(h:iY n l=Z q):iU n q.1:=by
 unfold iY at h;unfold iU;split at h
 . rename_i D
   rw[XP D];exact oI _ _ _ _ h
 rename_i D
 rw[XN D];simp only[YT]at h;subst h;rfl
theorem OM{D:List Nd}(h:iU n D)(rest:List Nd):iY n (D++rest)=Z (D,rest):=by
 unfold iU at h;unfold iY;split at h
 . rename_i F
   rw[XP F];exact oJ _ _ _ _ _ h
 rename_i F
 rw[XN F,h];rfl
theorem kV:∀(F:Fo)(o:List Bool)(rest:List Nd),Wf o F->pp o (row F++rest)=Z (F,rest)
 | .nil,[],rest,_=>by rw[kU];rfl
 | .nil,_::_,_,h=>h.elim
 | .cons _ _ _ _ _,[],_,h=>h.elim
 | .cons p n ats k x,d::dr,rest,h=>by
  obtain⟨U,I,G,z,hx⟩:=h;have e:row (.cons p n ats k x)++rest=p++(n::(ats++(row k++(row x++rest)))):=by simp[row]
  have D:gL d (p++(n::(ats++(row k++(row x++rest)))))=Z (p,n::(ats++(row k++(row x++rest)))):=by
   cases d with
   | false=>simp only at U;subst U;rfl
   | true =>
    obtain⟨f,rfl,s⟩:=U;simp only[ZM,YO,gL,s,if_true]
  rw[e,fD,D];simp only[ZW,I,if_true,OM G];rw[kV k (ds n) _ z];simp only[ZW];rw[kV x dr rest hx];rfl
theorem qG:∀(f:Nat)(G:List Bool)(l:List Nd)(x:Fo×List Nd),lS f G l=Z x->Wf G x.1
 | 0,_,_,_,h=>by simp[lS]at h
 | _+1,[],l,x,h=>by simp only[lS,YT]at h;subst h;trivial
 | f+1,d::dr,l,x,h=>by
  simp only[lS,ZV]at h;obtain⟨p,D,h⟩:=h;split at h
  . cases h
  . split at h
    . rename_i F
      simp only[ZV]at h;obtain⟨q,U,k,I,y,o,h⟩:=h;simp only[YT]at h;subst h;refine⟨?_,F,ON U,qG f _ _ _ I,qG f _ _ _ o⟩;cases d with
      | false=>simp only[gL,YT]at D;subst D;rfl
      | true =>
       cases l with
       | nil=>simp[gL]at D
       | cons z l =>
        simp only[gL]at D;split at D
        . rename_i hz
          simp only[YT]at D;subst D;exact⟨z,rfl,hz⟩
        . cases D
    cases h
theorem i9{D:List Bool}{x:Fo×List Nd}(h:pp D l=Z x):Wf D x.1:=qG _ _ _ _ h
theorem t7{x:Fo}(h:pp [false] l=Z (x,[]))(F:l.length<=4096):a6 l=0:=by
 have D:=AF h aD;simp only[ZD]at D;have he:nH l 0=l.length:=by
  unfold nH;rw[XP aA];have:ends [false] l 0=Z l.length:=by
   unfold ends;rw[List.drop_zero,h];rfl
  simp only[Int.toNat_zero,this]
 unfold a6;rw[XN aA,XP he]
structure Rt (t:List Nd) (n:Nd) (a:List Nd) (k:Fo):Prop where
 pp:pp [false] t=Z (.cons [] n a k .nil,[])
 few:t.length<=4096
theorem LH(h:a6 t=0):∃n a k,Rt t n a k:=by
 obtain⟨D,n,a,k,F,_,_⟩:=eN h;exact⟨n,a,k,F,D⟩
theorem Rt.shape(h:Rt t n a k):a6 t=0:=t7 h.pp h.few
theorem Rt.eq(h:Rt t n a k):t=n::(a++row k):=by
 have:=qC h.pp;simpa[row] using this
theorem Rt.wf(h:Rt t n a k):eW n=true/\iU n a/\Wf (ds n) k:=by
 obtain⟨_,D,F,G,_⟩:=i9 h.pp;exact⟨D,F,G⟩
theorem pG(D:eW n=true)(F:iU n a)(G:Wf (ds n) k)(I:(n::(a++row k)).length<=4096):Rt (n::(a++row k)) n a k:=by
 refine⟨?_,I⟩;have:=kV (.cons [] n a k .nil) [false] [] ⟨rfl,D,F,G,trivial⟩;simpa[row] using this
theorem DZ(h:eW n=true)(D:n.op=6):n=⟨6,0,0⟩:=by
 obtain⟨op,a,b⟩:=n;simp only at D;subst D;simp only[eW,YC]at h;have F:=aV.1 h.1.1;obtain⟨rfl,rfl⟩:a=0/\b=0:=aA;rfl
structure WK (t:List Nd) (n1:Nd) (a1:List Nd) (k1:Fo) (n2:Nd) (a2:List Nd) (k2:Fo):Prop where
 fst:Rt (n1::(a1++row k1)) n1 a1 k1
 snd:Rt (n2::(a2++row k2)) n2 a2 k2
 eq:t=⟨6,0,0⟩::((n1::(a1++row k1))++(n2::(a2++row k2)))
 end_:nH t 1=((1+(n1::(a1++row k1)).length:Nat):Int)
theorem zE(h:Rt t n a k)(h6:n.op=6):∃n1 a1 k1 n2 a2 k2,k=.cons [] n1 a1 k1 (.cons [] n2 a2 k2 .nil)/\WK t n1 a1 k1 n2 a2 k2:=by
 obtain⟨z,D,o⟩:=h.wf;have I:=h.eq;have hn:=DZ z h6;have ha:a=[]:=by
  unfold iU at D
  rwa [XN aA]at D
 have s:ds n=[false,false]:=by rw[hn];rfl
 rw[s]at o
 match k,o with
 | .cons p1 n1 a1 k1 (.cons p2 n2 a2 k2 .nil),o =>
  obtain⟨F,o1,t1,w1,G,o2,t2,w2,_⟩:=o;simp only at F G;subst F G;have U:t=⟨6,0,0⟩::((n1::(a1++row k1))++(n2::(a2++row k2))):=by
   rw[I,ha,hn];simp[row]
  have hl:=h.few;rw[U]at hl;simp only[YA,XX]at hl;have f1:=pG o1 t1 w1 aG;have f2:=pG o2 t2 w2 aG;refine⟨n1,a1,k1,n2,a2,k2,rfl,f1,f2,U,?_⟩;have he:=nN t 1;rw[show ((1:Nat):Int)=1 from rfl]at he;rw[he];have a0:=kV (.cons [] n1 a1 k1 .nil) [false] (n2::(a2++row k2)) ⟨rfl,o1,t1,w1,trivial⟩;have hd:t.drop 1=row (.cons [] n1 a1 k1 .nil)++(n2::(a2++row k2)):=by rw[U];simp[row]
  unfold ends;rw[hd,a0];simp only[Option.map_some,rE];rw[U];simp only[YA,XX];omega
def KI(p:Int->Int->Bool):LT Unit:={ an:=fun _ v a=>p v a,nx:=fun _ _ _=>() }
def UM(D:Nat)(x:Int)(w:aAB)(_:Unit):Prop:=aT w D 3 #[O X x]
theorem L6{D H:Nat}{x:Int}(h:D<H):zC Tryz.prog 128 #[.pointer (Z ⟨D,0,none⟩)] (KI fun v a=>decide (max x 0<=v-a)) (UM D x) (fun _=>False) H:=by
 intro w t v a hH F s z I U;have cb:=aT.cell F;have G:=aB F;clear F;show Calls Tryz.prog 128 #[O X v,O X a,.pointer (Z ⟨D,0,none⟩)] w _;go_in;go_wp2_with fail;all_goals
  go_ret;refine⟨fS ?_,aZ.refl _ _ _,G.o⟩;simp only[KI];rw[decide_eq_decide];omega
def oP(p:Int->Int->Bool)(D F:Int):Nat->Int->Fo->Bool
 | _,_,.nil=>false
 | j,a,.cons _ n _ k x=>((decide (n.op=1)&&p n.a (a+aR D F j))||oP p n.op n.b 0 (a+aR D F j) k)||oP p D F (j+1) a x
def nI(p:Int->Int->Bool)(a:Int)(n:Nd)(k:Fo):Bool:=(decide (n.op=1)&&p n.a a)||oP p n.op n.b 0 a k
theorem eK(p:Int->Int->Bool)(D G:Int)(j:Nat)(a:Int)(pre:List Nd)(n:Nd)(F:List Nd)(k x:Fo):oP p D G j a (.cons pre n F k x)=(nI p (a+aR D G j) n k||oP p D G (j+1) a x):=rfl
theorem PC(p:Int->Int->Bool)(f:Bool)(n:Nd)(a:Int):(uQ (KI p)).nx (f,()) n a=((f||(decide (n.op=1)&&p n.a a)),()):=by
 simp only[uQ,KI];cases f
 . by_cases h:n.op=1<;>simp[h]
 simp
theorem PA(p:Int->Int->Bool)(D G:Int):∀(j:Nat)(a:Int)(f:Bool)(F:Fo),(uQ (KI p)).S D G j a (f,()) F=((f||oP p D G j a F),())
 | _,_,_,.nil=>by simp[cZ.S,oP]
 | j,a,f,.cons pre n ats k x=>by
  rw[cZ.S_cons,cZ.S1,PC,PA p n.op n.b 0 _ _ k,PA p D G (j+1) a _ x,eK,nI];simp only[Bool.or_assoc]
theorem EI(p:Int->Int->Bool)(n:Nd)(k:Fo):(zS (KI p) () n k).1=nI p 0 n k:=by
 rw[zS,cZ.S1,PC,PA,nI,ZP]
theorem CD{τ:Type}(T:LT τ)(D G:Int):∀(j:Nat)(a:Int)(s:Bool×τ)(F:Fo),((uQ T).E D G j a s F).length<=(row F).length
 | _,_,_,.nil=>XU _
 | j,a,s,.cons p n at' k x=>by
  rw[cZ.E_cons,cZ.E1];have I:=CD T n.op n.b 0 (a+aR D G j) ((uQ T).nx s n (a+aR D G j)) k;have U:=CD T D G (j+1) a ((uQ T).S1 (a+aR D G j) s n k) x;have h:((uQ T).em s n (a+aR D G j)).length=0:=rfl;simp only[XX,row,YA];omega
theorem vS{τ:Type}(T:LT τ)(a:Int)(s:Bool×τ)(n:Nd)(D:List Nd)(k:Fo):((uQ T).E1 a s n D k).length<=(n::(D++row k)).length:=by
 have G:=CD T n.op n.b 0 a ((uQ T).nx s n a) k;have F:((uQ T).em s n a).length=0:=rfl;rw[cZ.E1,XX,XX,F];simp only[YA,XX];omega
def VG(p:Int->Int->Bool)(l:List Nd):Bool :=
 match pp [false] l with
 | some (.cons _ n _ k _,_)=>nI p 0 n k
 | _=>false
def gH(l:List Nd)(v:Int):Bool:=decide (a6 l=0) && !VG (fun x a=>decide (max v 0<=x-a)) l
def qL(b:Bool)(w:aAB)(e:Ending)(w':aAB):Prop:=e=.returned (.bool b)/\ZY w w'
theorem O6{p:Int->Int->Bool}{z:FuncId}{x:Int}{U:aAB}(h:aX w A nn c l)(hs:a6 l=0)(hb:ZY w U)(hg:w.heap.size<U.heap.size)(a1:aT U w.heap.size 3 #[O X x])
 (a2:∀args w,(callFunc z args).run Tryz.prog w=.ok (.enter z args) w) (F:∀H pb,pb<H->zC Tryz.prog z #[.pointer (Z ⟨pb,0,none⟩)] (KI p) (UM pb x) (fun _=>False) H) :
 Calls Tryz.prog 127 #[Y A nn c,.func (.func z) #[] #[.pointer (Z ⟨w.heap.size,0,none⟩)]] U (qL (VG p l) U):=by
 obtain⟨hl,n,a0,k,G,I,a3⟩:=eN hs;refine (vT (T:=KI p) (J:=UM w.heap.size x) (K:=fun k=>k=w.heap.size) (S:=fun _=>False) (R:=(· < w.heap.size)) (t:=()) (fun b D=>⟨by omega,fun h=>h⟩) (h.keep fun b D=>⟨D,fun o=>aP (hb.block b D) o⟩) (fun k s=>by omega) (fun k s=>s.elim)
  (fun w w' t hj s=>hj.same (s _ rfl)) a2 (F _ _ hg) a1 G aA (by have:=vS (KI p) 0 (false,()) n a0 k;rw[<-I]at this;omega)).mono ?_
 rintro e w3 ⟨rfl,hm,_⟩;refine⟨fS ?_,hm.to_below (XU _) (fun _ h=>h.elim) (fun g hg=>by cases hg)⟩;rw[EI];unfold VG;rw[G]
theorem L7(h:aX w A nn c l)(v:Int):
 Calls Tryz.prog 98 #[Y A nn c,O X v] w (qL (gH l v) w):=by
 have D:=aQ w (.cells #[O X v] 3);by_cases U:a6 l=0
 . have s:gH l v = !VG (fun x a=>decide (max v 0<=x-a)) l:=by simp[gH,U]
   have a1:(a6 l==0)=true:=by simp[U]
   have HF:=aB s;have HS:=aB U;have H:=aB h;have F:=aB D;have z:=aB (h.below D);clear s U h D;go_in;go_wp2_with (go_at_call 97;refine (cR z.o).mono ?_;rintro e w2 ⟨rfl,G⟩)
   have I:ZY w w2:=F.o.trans (G.mono F.o.size);have hx:aT w2 w.heap.size 3 #[O X v]:=(aT.new w _ _).below G aD;refine (O6 H.o HS.o I hx.lt hx (fun _ _=>by kernel_rfl) (fun H pb hp=>L6 hp)).mono ?_;rintro e w4 ⟨rfl,a0⟩;go_wp2_with fail;go_ret;exact⟨fS HF.o.symm,I.trans (a0.mono I.size)⟩
 have s:gH l v=false:=by simp[gH,U]
 have a1:(a6 l==0)=false:=by simp[U]
 have HF:=aB s;have F:=aB D;have z:=aB (h.below D);clear s U h D;go_in;go_wp2_with (go_at_call 97;refine (cR z.o).mono ?_;rintro e w2 ⟨rfl,G⟩)
 go_ret;exact⟨fS HF.o.symm,F.o.trans (G.mono F.o.size)⟩
end Go.Proofs.YtjoddliplahgkaaGreat
