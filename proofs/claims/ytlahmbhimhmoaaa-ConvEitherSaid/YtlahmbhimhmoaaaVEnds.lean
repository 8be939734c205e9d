/- Merged: End, Shape, TermW, Rt, Below. -/
import Derived.Test.YtlahmbhimhmoaaaVWalks
namespace Go.Proofs.Ytlahmbhimhmoaaa
set_option linter.unusedVariables false
set_option linter.unusedSimpArgs false
open Go.RowKit
open Go.Value renaming int → O, slice → Y
open Go.IntKind renaming i64 → X
open Option renaming some → Z
open Go.Lib renaming hid->aB
set_option maxHeartbeats 2000000
set_option maxRecDepth 100000
variable {k:Fo}{a l t:List Nd}{c nn:Nat}{n:Nd}{A:OC}{w:OE}
theorem zU{n:Nat}(a:Int)(ha:a<0):
 Calls Try.prog 44 #[Y A n c,O X a] w (fN (-1) w):=by
 go_in;go_wp2_with fail;go_ret;exact⟨rfl,MC _ _⟩
theorem zV{n:Nat}(a:Int)(p:Nat)(ha:a=p)(F:n<=p)(_hn:n<=5864062014805):
 Calls Try.prog 44 #[Y A n c,O X a] w (fN (-1) w):=by
 subst ha;have D:(0:Int)<=(p:Int):=aA;go_in;go_wp2_with fail;go_ret;exact⟨rfl,MC _ _⟩
theorem GP{n:Nat}(h:aX w A n c l)(a:Int)(p:Nat)(ha:a=p)(hp:p<n)(F:eU (bB l p)=false):
 Calls Try.prog 44 #[Y A n c,O X a] w (fN (-1) w):=by
 subst ha;have a0:=h.few;have h0:(0:Int)<=(p:Int):=aA;obtain⟨b,off,rfl,hb,c0,c1,c2⟩:=h.at_ hp;cases hpl:bR (bB l p).op (bB l p).a (bB l p).b
 . clear F;go_in;go_wp2_with (go_at_call 60;refine (dL _ _ _ _).mono ?_;rintro e w1 ⟨rfl,D⟩;obtain⟨U,o⟩:=kF D)
   go_ret;exact⟨rfl,D⟩
 by_cases I:(bB l p).op=3
 . have s:((bB l p).op==3)=true:=by simp[I]
   clear I F;go_in;go_wp2_with (go_at_call 60;refine (dL _ _ _ _).mono ?_;rintro e w1 ⟨rfl,D⟩;obtain⟨U,o⟩:=kF D)
   go_ret;exact⟨rfl,D⟩
 have G:(bB l p).op=13:=by simpa[eU,hpl,I] using F
 have s:((bB l p).op==3)=false:=by simp[I]
 have z:((bB l p).op==13)=true:=by simp[G]
 clear I G F;go_in;go_wp2_with (go_at_call 60;refine (dL _ _ _ _).mono ?_;rintro e w1 ⟨rfl,D⟩;obtain⟨U,o⟩:=kF D)
 go_ret;exact⟨rfl,D⟩
theorem EF{n:Nat}(p:Nat)(hp:p<n)(U:eU (bB l p)=true)
 (ih:∀(w:OE)(a:Int)(q:Nat),aX w A n c l->a=q->p<q->Calls Try.prog 44 #[Y A n c,O X a] w (fN (mO (ends [false] l q)) w))
 {w:OE} (h:aX w A n c l) :
 Calls Try.prog 44 #[Y A n c,O X p] w (fN (mO (ends [false] l p)) w):=by
 have e9:=h.few;have h0:(0:Int)<=(p:Int):=aA;have HI:=aB ih;clear ih;have d3:bR (bB l p).op (bB l p).a (bB l p).b=true:=by
  simp only[eU,ME]at U;exact U.1.1
 have f4:((bB l p).op==3)=false:=by
  simp only[eU,ME,MJ]at U;simp[U.1.2]
 have e8:((bB l p).op==13)=false:=by
  simp only[eU,ME,MJ]at U;simp[U.2]
 have c6:ends [false] l p=if (bB l p).op=2 then fY (bB l p).b.toNat (-1) l (p+1) else ends (ds (bB l p)) l (p+1):=by
  rw[uV (by rw[h.len];exact hp),LZ U]
 obtain⟨b7,f2⟩:=OF c6 U;clear c6 U;obtain⟨f3,e0⟩:=fS d3;obtain⟨e5,f0⟩:=vE d3;obtain⟨b,off,rfl,hb,c0,c1,c2⟩:=h.at_ hp;by_cases h2:(bB l p).op=2
 . have F:((bB l p).op==2)=true:=by simp[h2]
   have H2:=aB h2;clear h2;go_in;go_wp2_with (go_at_call 60;refine (dL _ _ _ _).mono ?_;rintro e w1 ⟨rfl,I⟩;obtain⟨e1,e3⟩:=kF I)
   refine (BA ((h.below I).alloc _) _ _ (p+1) (bB l p).b.toNat aA aA aA aA).mono ?_;rintro e w2 ⟨rfl,F⟩;go_wp2
   go_ret;refine⟨cN ?_,I.trans ((((MC _ _).alloc (MF _) _).trans (F.mono aD)).mono I.size)⟩;rw[b7.o,LZ H2.o]
 have F:((bB l p).op==2)=false:=by simp[h2]
 have c7:ends [false] l p=ends (ds (bB l p)) l (p+1):=by rw[b7.o,aN h2]
 have HE:=aB c7;clear b7 c7 h2;go_in;go_wp2_with (first|(go_at_call 60;refine (dL _ _ _ _).mono ?_;rintro e w1 ⟨rfl,I⟩;obtain⟨e1,e3⟩:=kF I)|(go_at_call 62;refine (lG _ _ _ _ aA).mono ?_;rintro e w2 ⟨rfl,rfl⟩))
 have h1:=(h.below I).alloc (.cells #[O X (bB l p).op,O X (bB l p).a,O X (bB l p).b] 42);go_loopw [1,54] (fun a i wr=>∃(q j:Nat),q<=n/\p<q/\(j:Int)<=cK (bB l p).op (bB l p).b/\a=O X q/\i=O X j/\ends (eQ (bB l p) j) l q=ends (ds (bB l p)) l (p+1)/\Below (w1.heap.size+1) (w1.alloc (.cells #[O X (bB l p).op,O X (bB l p).a,O X (bB l p).b] 42)) wr) (fun _ i _=>(cK (bB l p).op (bB l p).b).toNat-(intOf i).toNat)
 case atStart=>exact⟨p+1,0,hp,by omega,e5,by go_num,rfl,by rw[mT],(MC _ _).alloc aD _⟩
 case round =>
  obtain⟨q,j,hq,f6,hj,rfl,rfl,he,a5⟩:=hrel;have HR:=aB he;clear he;have b8:=h1.below (a5.mono aD);have g0:wr.cell? ⟨w1.heap.size,0,none⟩=Z (O X (bB l p).op):=(a5.cell aD).trans (DU _ _ _ _ _ _ _ rfl);have c5:∀w2:World,OB wr w2->OB w w2:=fun _ hx=>I.trans (((aQ w1 _).trans ((a5.mono aA).trans (hx.mono (by have:=a5.size;simp at this;omega)))).mono I.size);have b4:∀w2:World,OB wr w2->Below (w1.heap.size+1) (w1.alloc (.cells #[O X (bB l p).op,O X (bB l p).a,O X (bB l p).b] 42)) w2:=fun _ hx=>a5.trans (hx.mono (by have:=a5.size;simp at this;omega));have HT:=aB c5;have c3:=aB b4;clear c5 b4;by_cases c9:(j:Int)<cK (bB l p).op (bB l p).b;rotate_left
  . have a1:=pV (bB l p) (i:=j) aA;have D:ends (eQ (bB l p) j) l q=Z q:=by rw[a1,EH (by rw[h.len];exact hq)]
    have G:=aB D;clear D a1;go_wp2_with fail;go_ret;refine⟨cN ?_,HT.o _ (MC _ _)⟩;rw[HE.o,<-HR.o,G.o];rfl
  by_cases a2:(bB l p).op=12
  . have c4:((bB l p).op==12)=true:=by simp[a2]
    have c8:(j:Int)<(bB l p).b:=by simpa[cK,a2] using c9
    have a1:=pW a2 c8;have b9:=aB a1;clear a1 a2 c8;by_cases d8:q<n;rotate_left
    . have D:ends (eQ (bB l p) j) l q=none:=by rw[b9.o,k8 _ _ (by rw[h.len];omega)]
      have G:=aB D;clear D;go_wp2_with fail;go_ret;refine⟨cN ?_,HT.o _ (MC _ _)⟩;rw[HE.o,<-HR.o,G.o];rfl
    have b1:ends (eQ (bB l p) j) l q=if yG (bB l q) then ends (false::false::eQ (bB l p) (j+1)) l (q+1) else none:=by
     rw[b9.o,EG _ (by rw[h.len];exact d8)]
    obtain⟨f5,d0,d1,d2⟩:=b8.cells d8;cases hf:yG (bB l q)
    . have D:ends (eQ (bB l p) j) l q=none:=by rw[b1,hf];rfl
      have G:=aB D;clear D b1;by_cases a8:(bB l q).op=13
      . have e6:bR (bB l q).op (bB l q).a (bB l q).b=false:=by simpa[yG,a8] using hf
        have b6:((bB l q).op != 13)=false:=by simp[a8]
        clear a8 hf;go_wp2_with (go_at_call 60;refine (dL _ _ _ _).mono ?_;rintro e w2 ⟨rfl,F⟩;obtain⟨e2,e4⟩:=kF F)
        go_ret;refine⟨cN ?_,HT.o _ F⟩;rw[HE.o,<-HR.o,G.o];rfl
      have b6:((bB l q).op != 13)=true:=by simp[a8]
      clear a8 hf;go_wp2_with fail;go_ret;refine⟨cN ?_,HT.o _ (MC _ _)⟩;rw[HE.o,<-HR.o,G.o];rfl
    have e6:bR (bB l q).op (bB l q).a (bB l q).b=true:=by
     simp only[yG,ME]at hf;exact hf.1
    have b6:((bB l q).op != 13)=false:=by
     simp only[yG,ME,MJ]at hf;simp[hf.2]
    have a9:ends (eQ (bB l p) j) l q=(ends [false] l (q+1)).bind fun q1=>(ends [false] l q1).bind (ends (eQ (bB l p) (j+1)) l):=by
     rw[b1,LZ hf,mC false _ (by rw[h.len];omega)];refine Option.bind_congr fun q1 a3=>?_;rw[mC false _ (nZ a3 (by rw[h.len];omega)).2.1]
    have a6:=aB a9;clear a9 b1 hf;go_wp2_with (go_at_call 60;refine (dL _ _ _ _).mono ?_;rintro e w2 ⟨rfl,F⟩;obtain⟨e2,e4⟩:=kF F)
    have d9:=b8.below F;refine (HI.o w2 _ (q+1) d9 aA aA).mono ?_;rintro e w3 ⟨rfl,s⟩;have e7:=d9.below s;cases a3:ends [false] l (q+1) with
    | none =>
     have D:ends (eQ (bB l p) j) l q=none:=by rw[a6.o,a3];rfl
     have G:=aB D;clear D a3;simp only[mO];go_wp2_with fail;refine (zU (w:=w3) _ aA).mono ?_;rintro e w4 ⟨rfl,a4⟩;go_wp2_with fail;go_ret;refine⟨cN ?_,HT.o _ (F.trans ((s.trans (a4.mono s.size)).mono F.size))⟩;rw[HE.o,<-HR.o,G.o];rfl
    | some q1 =>
     obtain⟨f1,d4,d5⟩:=nZ a3 (by rw[h.len];omega);rw[h.len]at d4;have b5:ends (eQ (bB l p) j) l q=(ends [false] l q1).bind (ends (eQ (bB l p) (j+1)) l):=by rw[a6.o,a3];rfl
     have b2:=aB b5;clear b5 a3 d5;simp only[mO];go_wp2_with fail;refine (HI.o w3 _ q1 e7 rfl aA).mono ?_;rintro e w4 ⟨rfl,a4⟩;have b3:OB wr w4:=F.trans ((s.trans (a4.mono s.size)).mono F.size);cases hq2:ends [false] l q1 with
     | none =>
      have D:ends (eQ (bB l p) j) l q=none:=by rw[b2.o,hq2];rfl
      have G:=aB D;clear D hq2;simp only[mO];go_wp2_with fail;go_ret;refine⟨cN ?_,HT.o _ b3⟩;rw[HE.o,<-HR.o,G.o];rfl
     | some q2 =>
      obtain⟨d7,a0,b0⟩:=nZ hq2 (by rw[h.len];omega);rw[h.len]at a0;have z:ends (eQ (bB l p) j) l q=ends (eQ (bB l p) (j+1)) l q2:=by rw[b2.o,hq2];rfl
      have a7:=aB z;clear z hq2 b0;simp only[mO];have d6:(0:Int)<=(q2:Int):=aA;go_wp2_with fail;go_roundw
      case rel=>exact⟨q2,j+1,a0,by omega,by omega,rfl,by go_num,by rw[<-a7.o,HR.o],c3.o _ b3⟩
      case measure=>simp[intOf];omega
  have c4:((bB l p).op==12)=false:=by simp[a2]
  have a1:=pX a2 c9;have a9:ends (eQ (bB l p) j) l q=(ends [false] l q).bind (ends (eQ (bB l p) (j+1)) l):=by
   rw[a1,mC false _ (by rw[h.len];omega)]
  have a6:=aB a9;clear a1 a9 a2;go_wp2_with fail;refine (HI.o wr _ q b8 rfl aA).mono ?_;rintro e w4 ⟨rfl,a4⟩;cases hq2:ends [false] l q with
  | none =>
   have D:ends (eQ (bB l p) j) l q=none:=by rw[a6.o,hq2];rfl
   have G:=aB D;clear D hq2;simp only[mO];go_wp2_with fail;go_ret;refine⟨cN ?_,HT.o _ a4⟩;rw[HE.o,<-HR.o,G.o];rfl
  | some q2 =>
   obtain⟨d7,a0,b0⟩:=nZ hq2 (by rw[h.len];omega);rw[h.len]at a0;have z:ends (eQ (bB l p) j) l q=ends (eQ (bB l p) (j+1)) l q2:=by rw[a6.o,hq2];rfl
   have a7:=aB z;clear z hq2 b0;simp only[mO];have d6:(0:Int)<=(q2:Int):=aA;go_wp2_with fail;go_roundw
   case rel=>exact⟨q2,j+1,a0,by omega,by omega,rfl,by go_num,by rw[<-a7.o,HR.o],c3.o _ a4⟩
   case measure=>simp[intOf];omega
theorem GQ{n:Nat}:∀(m:Nat)(w:OE)(a:Int)(p:Nat),aX w A n c l->a=p->n<=p+m →
 Calls Try.prog 44 #[Y A n c,O X a] w (fN (mO (ends [false] l p)) w):=by
 intro m
 induction m with
 | zero =>
  intro w a p h ha F;rw[k8 _ _ (by rw[h.len];omega)];exact zV a p ha aA h.few
 | succ m G =>
  intro w a p h ha F;by_cases D:p<n
  . cases hok:eU (bB l p)
    . have:ends [false] l p=none:=by rw[uV (by rw[h.len];exact D),hok];rfl
      rw[this];exact GP h a p ha D hok
    subst ha;exact EF p D hok (fun w a q h ha I=>G w a q h ha aA) h
  . rw[k8 _ _ (by rw[h.len];omega)];exact zV a p ha aA h.few
theorem fD{n:Nat}(h:aX w A n c l)(a:Int):
 Calls Try.prog 44 #[Y A n c,O X a] w (fN (jH l a) w):=by
 by_cases D:0<=a
 . obtain⟨p,rfl⟩:=Int.eq_ofNat_of_zero_le D;rw[kZ];exact GQ n w p p h rfl aA
 have:jH l a = -1:=by simp only[jH];rw[aN aA]
 rw[this];exact zU a aA
def aZ(l:List Nd):Int:=if 4096<l.length then 9 else if jH l 0=l.length then 0 else 8
theorem bM(h:aX w A nn c l):
 Calls Try.prog 40 #[Y A nn c] w (fN (aZ l) w):=by
 have a0:=h.few;have D:=h.len;by_cases h1:4096<nn
 . have F:aZ l=9:=by unfold aZ;rw[LZ aA]
   have I:=aB F;have s:(4096:Int)<(nn:Int):=aA;clear F D;go_in;go_wp2_with fail;go_ret;exact⟨cN I.o.symm,MC _ _⟩
 have s:decide ((4096:Int)<(nn:Int))=false:=by simp;omega
 by_cases U:jH l 0=nn
 . have F:aZ l=0:=by unfold aZ;rw[aN aA,LZ aA]
   have I:=aB F;have z:(jH l 0 != (nn:Int))=false:=by simp[U]
   clear F D U;go_in;go_wp2_with (go_at_call 44;refine (fD h 0).mono ?_;rintro e w2 ⟨rfl,G⟩)
   go_ret;exact⟨cN I.o.symm,G⟩
 have F:aZ l=8:=by unfold aZ;rw[aN aA,aN aA]
 have I:=aB F;have z:(jH l 0 != (nn:Int))=true:=by simp[U]
 clear F D U;go_in;go_wp2_with (go_at_call 44;refine (fD h 0).mono ?_;rintro e w2 ⟨rfl,G⟩)
 go_ret;exact⟨cN I.o.symm,G⟩
theorem gF:∀(F:Fo),bS F<=(row F).length
 | .nil=>MF _
 | .cons p n a k x=>by
  have D:=gF k;have G:=gF x;simp only[bS,row,MG,MN];omega
theorem fE(h:aZ l=0):l.length<=4096/\∃n D k,pp [false] l=Z (.cons [] n D k .nil,[])/\l=n::(D++row k)/\bS k<=4096:=by
 unfold aZ at h;split at h
 . cases h
 split at h
 . rename_i h1 G
   refine⟨by omega,?_⟩;unfold jH at G;split at G
   rotate_left
   . omega
   rename_i h3
   split at G
   rotate_left
   . omega
   rename_i q hq
   simp only[ends,NQ,Int.toNat_zero,List.drop_zero]at hq;obtain⟨x,F,a0⟩:=hq;obtain⟨n,D,k,z⟩:=yN F;have I:=pR F;have U:=congrArg List.length I;rw[MG]at U;have o:x.2=[]:=ND aA;obtain⟨x1,x2⟩:=x;simp only at z o I F;subst z o;have s:l=n::(D++row k):=by simpa[row] using I
   refine⟨n,D,k,F,s,?_⟩;have h5:=gF k;have h6:=congrArg List.length s;simp only[MN,MG]at h6;omega
 cases h
def nN(l:List Nd)(up fr:Int):List Nd×Int :=
 match pp [false] l with
 | some (.cons _ n ats k _,_)=>if (fX up (min fr 1048577)).G1 0 () n k=true then ((fX up (min fr 1048577)).E1 0 () n ats k,0) else ([],6)
 | _=>([],0)
def eG(l:List Nd)(up fr:Int):List Nd×Int:=if aZ l=0 then (if up<0\/fr<0 then ([],1) else nN l up fr) else ([],aZ l)
theorem oE(up fr:Int)(D G:Int):∀(j:Nat)(a:Int)(F:Fo),((fX up fr).E D G j a () F).length=(row F).length
 | _,_,.nil=>rfl
 | j,a,.cons p n at' k x=>by
  rw[bT.E_cons,bT.E1];have I:=oE up fr n.op n.b 0 (a+aR D G j) k;have U:=oE up fr D G (j+1) a x;have h:((fX up fr).em () n (a+aR D G j)).length=1:=by
   simp only[fX];split<;>rfl
  simp only[MG,row,MN];have e:∀s:Unit,s=():=fun _=>rfl;rw[e ((fX up fr).nx () n (a+aR D G j)),e ((fX up fr).S1 (a+aR D G j) () n k),I,U,h];omega
theorem pS(up fr:Int)(a:Int)(n:Nd)(D:List Nd)(k:Fo):((fX up fr).E1 a () n D k).length=(n::(D++row k)).length:=by
 have F:((fX up fr).em () n a).length=1:=by simp only[fX];split<;>rfl
 have e:∀s:Unit,s=():=fun _=>rfl;rw[bT.E1,MG,MG,F,e ((fX up fr).nx () n a),oE];simp only[MN,MG];omega
def iU(r:List Nd×Int)(w:OE)(e:Ending)(w':OE):Prop:=OB w w'/\∃A n c,e=.returned (.tuple #[Y A n c,O X r.2])/\bG w' w.heap.size (Y A n c) r.1
theorem bV{r:List Nd×Int}{x:Int}{w':OE}(D:OB w w')(F:r=([],x)):iU r w (.returned (.tuple #[Y none 0 0,O X x])) w':=by
 subst F;exact⟨D,_,_,_,rfl,bG.nil _ _⟩
theorem rS{r:List Nd×Int}{G w':OE}{m:Nat}(F:OB w G)(U:aS (fun _=>False) (Value.slice none ([]:List Nd).length 0).ownBlock G w')(o:r=(l,0))(D:bG w' w.heap.size (Y A m c) ([]++l)):iU r w (.returned (.tuple #[Y A m c,O X 0])) w':=by
 subst o;exact⟨F.trans (U.to_below F.size (fun _ h=>h.elim) (fun g I=>by simp[Value.ownBlock]at I)),_,_,_,rfl,D⟩
theorem ET(h:aX w A nn c l)(up fr:Int)(b1:up<=9223372036854775807):
 Calls Try.prog 70 #[Y A nn c,O X up,O X fr] w (iU (eG l up fr) w):=by
 by_cases U:aZ l=0;rotate_left
 . have hr:eG l up fr=([],aZ l):=by unfold eG;rw[aN U]
   have b4:(aZ l != 0)=true:=by simp[U]
   have HR:=aB hr;have HS:=aB U;clear hr U;go_in;go_wp2_with (go_at_call 40;refine (bM h).mono ?_;rintro e w2 ⟨rfl,D⟩)
   go_ret2;exact bV D HR.o
 obtain⟨hl,n,a8,k,a3,s,b6⟩:=fE U;have b4:(aZ l != 0)=false:=by simp[U]
 by_cases h1:up<0
 . have hr:eG l up fr=([],1):=by unfold eG;rw[LZ U,LZ (.inl h1)]
   have HR:=aB hr;have HS:=aB U;clear hr U a3 s;go_in;go_wp2_with (go_at_call 40;refine (bM h).mono ?_;rintro e w2 ⟨rfl,D⟩)
   go_ret2;exact bV D HR.o
 by_cases h2:fr<0
 . have hr:eG l up fr=([],1):=by unfold eG;rw[LZ U,LZ (.inr h2)]
   have b2:decide (up<0)=false:=by simp;omega
   have HR:=aB hr;have HS:=aB U;clear hr U a3 s h1;go_in;go_wp2_with (go_at_call 40;refine (bM h).mono ?_;rintro e w2 ⟨rfl,D⟩)
   go_ret2;exact bV D HR.o
 have b2:decide (up<0)=false:=by simp;omega
 have b5:decide (fr<0)=false:=by simp;omega
 have a6:0<=up:=aA;have a9:0<=fr:=aA;have hr:eG l up fr=nN l up fr:=by unfold eG;rw[LZ U,aN aA]
 have b0:nN l up fr=if (fX up (min fr 1048577)).G1 0 () n k=true then ((fX up (min fr 1048577)).E1 0 () n a8 k,0) else ([],6):=by unfold nN;rw[a3]
 have a5:∀f,((fX up f).E1 0 () n a8 k).length<=1000000000000:=fun f=>by rw[pS,<-s];omega
 obtain⟨HR,HS,a7,a4,H⟩:=OG (hr.trans b0) U a3 a5 h;clear hr U a3 s b0 h1 h2 a5;by_cases hm:fr<=1048577
 . have a2:min fr 1048577=fr:=aA;have I:=HR.o;rw[a2]at I;have a0:=aB I;clear I a2;go_in;go_wp2_with (go_at_call 40;refine (bM H.o).mono ?_;rintro e w2 ⟨rfl,D⟩)
   refine (gS (base:=w.heap.size) (R:=(· < w.heap.size)) D.size (fun b hb=>MD hb D.size) (H.o.keep fun b hb=>⟨hb,fun o=>aP (D.block b hb) o⟩) (bG.nil _ _) (fun g G=>by simp[Value.ownBlock]at G) a7.o aA (by simpa using a4.o fr) a6 b1 a9 aA).mono ?_;rintro e w3 ⟨a1,(⟨G,v',rfl,F,b3⟩|⟨G,rfl⟩)⟩
   . obtain⟨A',c',rfl⟩:=F.slice;obtain⟨z,HG⟩:=OF F G;clear F G;go_wp2_with fail;go_ret2;exact rS D a1 (by rw[a0.o,LZ HG.o]) z.o
   have HG:=aB G;clear G;go_wp2_with fail;go_ret2;exact bV (D.trans (a1.to_below D.size (fun _ h=>h.elim) (fun g G=>by simp[Value.ownBlock]at G))) (by rw[a0.o,aN (by rw[HG.o];simp)])
 have a2:min fr 1048577=1048577:=aA;have b7:1048577<fr:=aA;have I:=HR.o;rw[a2]at I;have a0:=aB I;clear I a2 hm;go_in;go_wp2_with (go_at_call 40;refine (bM H.o).mono ?_;rintro e w2 ⟨rfl,D⟩)
 refine (gS (base:=w.heap.size) (R:=(· < w.heap.size)) D.size (fun b hb=>MD hb D.size) (H.o.keep fun b hb=>⟨hb,fun o=>aP (D.block b hb) o⟩) (bG.nil _ _) (fun g G=>by simp[Value.ownBlock]at G) a7.o aA (by simpa using a4.o 1048577) a6 b1 aA aA).mono ?_;rintro e w3 ⟨a1,(⟨G,v',rfl,F,b3⟩|⟨G,rfl⟩)⟩
 . obtain⟨A',c',rfl⟩:=F.slice;obtain⟨z,HG⟩:=OF F G;clear F G;go_wp2_with fail;go_ret2;exact rS D a1 (by rw[a0.o,LZ HG.o]) z.o
 have HG:=aB G;clear G;go_wp2_with fail;go_ret2;exact bV (D.trans (a1.to_below D.size (fun _ h=>h.elim) (fun g G=>by simp[Value.ownBlock]at G))) (by rw[a0.o,aN (by rw[HG.o];simp)])
def gI(n:Nd)(D:List Nd):Prop:=if n.op=2 then bE n.b.toNat (-1) D=Z (D,[]) else D=[]
def Wf:List Bool->Fo->Prop
 | [],.nil=>True
 | d::dr,.cons p n ats k x=>(match d with|false=>p=[]|true=>∃f,p=[f]/\yG f=true)/\eU n=true/\gI n ats/\Wf (ds n) k/\Wf dr x
 | _,_=>False
theorem jS:∀(k:Nat)(D:Int)(l m rest:List Nd),bE k D l=Z (m,[])->bE k D (l++rest)=Z (m,rest)
 | 0,_,l,m,rest,h=>by
  simp only[bE,MS,MZ]at h;obtain⟨rfl,rfl⟩:=h;simp[bE]
 | k+1,D,[],m,rest,h=>by simp[bE]at h
 | k+1,D,x::l,m,rest,h=>by
  simp only[bE,NN]at h ⊢;split at h
  . rename_i G
    rw[LZ G];simp only[NQ,MZ]at h ⊢;obtain⟨q,I,rfl,F⟩:=h;obtain⟨U,o⟩:=q;simp only at F;subst F;exact⟨_,jS k x.a l U rest I,rfl,rfl⟩
  . cases h
theorem jR:∀(k:Nat)(D:Int)(l:List Nd)(p:List Nd×List Nd),bE k D l=Z p->bE k D p.1=Z (p.1,[])
 | 0,_,l,p,h=>by
  simp only[bE,MS]at h;subst h;rfl
 | k+1,D,[],p,h=>by simp[bE]at h
 | k+1,D,x::l,p,h=>by
  simp only[bE]at h;split at h
  . rename_i F
    simp only[NQ]at h;obtain⟨q,G,rfl⟩:=h;simp only[bE];rw[LZ F,jR k x.a l q G];rfl
  . cases h
theorem DR{q:List Nd×List Nd}(h:fC n l=Z q):gI n q.1:=by
 unfold fC at h;unfold gI;split at h
 . rename_i D
   rw[LZ D];exact jR _ _ _ _ h
 rename_i D
 rw[aN D];simp only[MS]at h;subst h;rfl
theorem DQ{D:List Nd}(h:gI n D)(rest:List Nd):fC n (D++rest)=Z (D,rest):=by
 unfold gI at h;unfold fC;split at h
 . rename_i F
   rw[LZ F];exact jS _ _ _ _ _ h
 rename_i F
 rw[aN F,h];rfl
theorem iM:∀(F:Fo)(o:List Bool)(rest:List Nd),Wf o F->pp o (row F++rest)=Z (F,rest)
 | .nil,[],rest,_=>by rw[iB];rfl
 | .nil,_::_,_,h=>h.elim
 | .cons _ _ _ _ _,[],_,h=>h.elim
 | .cons p n ats k x,d::dr,rest,h=>by
  obtain⟨U,I,G,z,hx⟩:=h;have e:row (.cons p n ats k x)++rest=p++(n::(ats++(row k++(row x++rest)))):=by simp[row]
  have D:dU d (p++(n::(ats++(row k++(row x++rest)))))=Z (p,n::(ats++(row k++(row x++rest)))):=by
   cases d with
   | false=>simp only at U;subst U;rfl
   | true =>
    obtain⟨f,rfl,s⟩:=U;simp only[NN,MY,dU,s,if_true]
  rw[e,cZ,D];simp only[Option.bind_some,I,if_true,DQ G];rw[iM k (ds n) _ z];simp only[Option.bind_some];rw[iM x dr rest hx];rfl
theorem kR:∀(f:Nat)(G:List Bool)(l:List Nd)(x:Fo×List Nd),iA f G l=Z x->Wf G x.1
 | 0,_,_,_,h=>by simp[iA]at h
 | _+1,[],l,x,h=>by simp only[iA,MS]at h;subst h;trivial
 | f+1,d::dr,l,x,h=>by
  simp only[iA,NV]at h;obtain⟨p,D,h⟩:=h;split at h
  . cases h
  . split at h
    . rename_i F
      simp only[NV]at h;obtain⟨q,U,k,I,y,o,h⟩:=h;simp only[MS]at h;subst h;refine⟨?_,F,DR U,kR f _ _ _ I,kR f _ _ _ o⟩;cases d with
      | false=>simp only[dU,MS]at D;subst D;rfl
      | true =>
       cases l with
       | nil=>simp[dU]at D
       | cons z l =>
        simp only[dU]at D;split at D
        . rename_i hz
          simp only[MS]at D;subst D;exact⟨z,rfl,hz⟩
        . cases D
    cases h
theorem jU{D:List Bool}{x:Fo×List Nd}(h:pp D l=Z x):Wf D x.1:=kR _ _ _ _ h
theorem v4{x:Fo}(h:pp [false] l=Z (x,[]))(F:l.length<=4096):aZ l=0:=by
 have D:=E8 h aD;simp only[NJ]at D;have he:jH l 0=l.length:=by
  unfold jH;rw[LZ aA];have:ends [false] l 0=Z l.length:=by
   unfold ends;rw[List.drop_zero,h];rfl
  simp only[Int.toNat_zero,this]
 unfold aZ;rw[aN aA,LZ he]
structure Rt (t:List Nd) (n:Nd) (a:List Nd) (k:Fo):Prop where
 pp:pp [false] t=Z (.cons [] n a k .nil,[])
 few:t.length<=4096
theorem AJ(h:aZ t=0):∃n a k,Rt t n a k:=by
 obtain⟨D,n,a,k,F,_,_⟩:=fE h;exact⟨n,a,k,F,D⟩
theorem Rt.shape(h:Rt t n a k):aZ t=0:=v4 h.pp h.few
theorem Rt.eq(h:Rt t n a k):t=n::(a++row k):=by
 have:=pR h.pp;simpa[row] using this
theorem Rt.wf(h:Rt t n a k):eU n=true/\gI n a/\Wf (ds n) k:=by
 obtain⟨_,D,F,G,_⟩:=jU h.pp;exact⟨D,F,G⟩
theorem oG(D:eU n=true)(F:gI n a)(G:Wf (ds n) k)(I:(n::(a++row k)).length<=4096):Rt (n::(a++row k)) n a k:=by
 refine⟨?_,I⟩;have:=iM (.cons [] n a k .nil) [false] [] ⟨rfl,D,F,G,trivial⟩;simpa[row] using this
theorem tZ(h:eU n=true)(D:n.op=6):n=⟨6,0,0⟩:=by
 obtain⟨op,a,b⟩:=n;simp only at D;subst D;simp only[eU,ME]at h;have F:=bI.1 h.1.1;obtain⟨rfl,rfl⟩:a=0/\b=0:=aA;rfl
structure KY (t:List Nd) (n1:Nd) (a1:List Nd) (k1:Fo) (n2:Nd) (a2:List Nd) (k2:Fo):Prop where
 fst:Rt (n1::(a1++row k1)) n1 a1 k1
 snd:Rt (n2::(a2++row k2)) n2 a2 k2
 eq:t=⟨6,0,0⟩::((n1::(a1++row k1))++(n2::(a2++row k2)))
 end_:jH t 1=((1+(n1::(a1++row k1)).length:Nat):Int)
theorem AV(h:Rt t n a k)(h6:n.op=6):∃n1 a1 k1 n2 a2 k2,k=.cons [] n1 a1 k1 (.cons [] n2 a2 k2 .nil)/\KY t n1 a1 k1 n2 a2 k2:=by
 obtain⟨z,D,o⟩:=h.wf;have I:=h.eq;have hn:=tZ z h6;have ha:a=[]:=by
  unfold gI at D
  rwa [aN aA]at D
 have s:ds n=[false,false]:=by rw[hn];rfl
 rw[s]at o
 match k,o with
 | .cons p1 n1 a1 k1 (.cons p2 n2 a2 k2 .nil),o =>
  obtain⟨F,o1,t1,w1,G,o2,t2,w2,_⟩:=o;simp only at F G;subst F G;have U:t=⟨6,0,0⟩::((n1::(a1++row k1))++(n2::(a2++row k2))):=by
   rw[I,ha,hn];simp[row]
  have hl:=h.few;rw[U]at hl;simp only[MN,MG]at hl;have f1:=oG o1 t1 w1 aG;have f2:=oG o2 t2 w2 aG;refine⟨n1,a1,k1,n2,a2,k2,rfl,f1,f2,U,?_⟩;have he:=kZ t 1;rw[show ((1:Nat):Int)=1 from rfl]at he;rw[he];have a0:=iM (.cons [] n1 a1 k1 .nil) [false] (n2::(a2++row k2)) ⟨rfl,o1,t1,w1,trivial⟩;have hd:t.drop 1=row (.cons [] n1 a1 k1 .nil)++(n2::(a2++row k2)):=by rw[U];simp[row]
  unfold ends;rw[hd,a0];simp only[Option.map_some,mO];rw[U];simp only[MN,MG];omega
def zW(p:Int->Int->Bool):AT Unit:={ an:=fun _ v a=>p v a,nx:=fun _ _ _=>() }
def JH(D:Nat)(x:Int)(w:OE)(_:Unit):Prop:=aW w D 3 #[O X x]
theorem BC{D H:Nat}{x:Int}(h:D<H):q9 Try.prog 53 #[.pointer (Z ⟨D,0,none⟩)] (zW fun v a=>decide (max x 0<=v-a)) (JH D x) (fun _=>False) H:=by
 intro w t v a hH F s z I U;have cb:=aW.cell F;have hl:D<w.heap.size:=aA;have G:=aB F;clear F;show Calls Try.prog 53 #[O X v,O X a,.pointer (Z ⟨D,0,none⟩)] w _;go_in;go_wp2_with fail;all_goals
  go_ret;refine⟨cU ?_,aS.refl _ _ _,G.o⟩;simp only[zW];rw[decide_eq_decide];omega
def lA(p:Int->Int->Bool)(D F:Int):Nat->Int->Fo->Bool
 | _,_,.nil=>false
 | j,a,.cons _ n _ k x=>((decide (n.op=1)&&p n.a (a+aR D F j))||lA p n.op n.b 0 (a+aR D F j) k)||lA p D F (j+1) a x
def kU(p:Int->Int->Bool)(a:Int)(n:Nd)(k:Fo):Bool:=(decide (n.op=1)&&p n.a a)||lA p n.op n.b 0 a k
theorem cR(p:Int->Int->Bool)(D G:Int)(j:Nat)(a:Int)(I:List Nd)(n:Nd)(F:List Nd)(k x:Fo):lA p D G j a (.cons I n F k x)=(kU p (a+aR D G j) n k||lA p D G (j+1) a x):=rfl
theorem EJ(p:Int->Int->Bool)(f:Bool)(n:Nd)(a:Int):(nY (zW p)).nx (f,()) n a=((f||(decide (n.op=1)&&p n.a a)),()):=by
 simp only[nY,zW];cases f
 . by_cases h:n.op=1<;>simp[h]
 simp
theorem EI(p:Int->Int->Bool)(D G:Int):∀(j:Nat)(a:Int)(f:Bool)(F:Fo),(nY (zW p)).S D G j a (f,()) F=((f||lA p D G j a F),())
 | _,_,_,.nil=>by simp[bT.S,lA]
 | j,a,f,.cons pre n ats k x=>by
  rw[bT.S_cons,bT.S1,EJ,EI p n.op n.b 0 _ _ k,EI p D G (j+1) a _ x,cR,kU];simp only[Bool.or_assoc]
theorem uS(p:Int->Int->Bool)(n:Nd)(k:Fo):(rJ (zW p) () n k).1=kU p 0 n k:=by
 rw[rJ,bT.S1,EJ,EI,kU,NK]
theorem s4{τ:Type}(T:AT τ)(D G:Int):∀(j:Nat)(a:Int)(s:Bool×τ)(F:Fo),((nY T).E D G j a s F).length<=(row F).length
 | _,_,_,.nil=>MF _
 | j,a,s,.cons p n at' k x=>by
  rw[bT.E_cons,bT.E1];have I:=s4 T n.op n.b 0 (a+aR D G j) ((nY T).nx s n (a+aR D G j)) k;have U:=s4 T D G (j+1) a ((nY T).S1 (a+aR D G j) s n k) x;have h:((nY T).em s n (a+aR D G j)).length=0:=rfl;simp only[MG,row,MN];omega
theorem oV{τ:Type}(T:AT τ)(a:Int)(s:Bool×τ)(n:Nd)(D:List Nd)(k:Fo):((nY T).E1 a s n D k).length<=(n::(D++row k)).length:=by
 have G:=s4 T n.op n.b 0 a ((nY T).nx s n a) k;have F:((nY T).em s n a).length=0:=rfl;rw[bT.E1,MG,MG,F];simp only[MN,MG];omega
def KD(p:Int->Int->Bool)(l:List Nd):Bool :=
 match pp [false] l with
 | some (.cons _ n _ k _,_)=>kU p 0 n k
 | _=>false
def fZ(l:List Nd)(v:Int):Bool:=decide (aZ l=0) && !KD (fun x a=>decide (max v 0<=x-a)) l
def oH(b:Bool)(w:OE)(e:Ending)(w':OE):Prop:=e=.returned (.bool b)/\OB w w'
theorem EE{p:Int->Int->Bool}{z:FuncId}{x:Int}{U:OE}(h:aX w A nn c l)(hs:aZ l=0)(hb:OB w U)(hg:w.heap.size<U.heap.size)(a1:aW U w.heap.size 3 #[O X x])
 (a2:∀args w,(callFunc z args).run Try.prog w=.ok (.enter z args) w) (F:∀H pb,pb<H->q9 Try.prog z #[.pointer (Z ⟨pb,0,none⟩)] (zW p) (JH pb x) (fun _=>False) H) :
 Calls Try.prog 52 #[Y A nn c,.func (.func z) #[] #[.pointer (Z ⟨w.heap.size,0,none⟩)]] U (oH (KD p l) U):=by
 obtain⟨hl,n,a0,k,G,I,a3⟩:=fE hs;refine (oW (T:=zW p) (J:=JH w.heap.size x) (K:=fun k=>k=w.heap.size) (S:=fun _=>False) (R:=(· < w.heap.size)) (t:=()) (fun b D=>⟨by omega,fun h=>h⟩) (h.keep fun b D=>⟨D,fun o=>aP (hb.block b D) o⟩) (fun k s=>by omega) (fun k s=>s.elim)
  (fun w w' t hj s=>hj.same (s _ rfl)) a2 (F _ _ hg) a1 G aA (by have:=oV (zW p) 0 (false,()) n a0 k;rw[<-I]at this;omega)).mono ?_
 rintro e w3 ⟨rfl,hm,_⟩;refine⟨cU ?_,hm.to_below (MF _) (fun _ h=>h.elim) (fun g hg=>by cases hg)⟩;rw[uS];unfold KD;rw[G]
theorem BD(h:aX w A nn c l)(v:Int):
 Calls Try.prog 41 #[Y A nn c,O X v] w (oH (fZ l v) w):=by
 have a2:∀(fn:Fn)(first cap:Array Value)(w:OE),(Instr.makeFunc fn first cap).run Try.prog w=.ok (.func fn first cap) w:=fun _ _ _ _=>rfl;have D:=aQ w (.cells #[O X v] 3);by_cases U:aZ l=0
 . have s:fZ l v = !KD (fun x a=>decide (max v 0<=x-a)) l:=by simp[fZ,U]
   have a1:(aZ l==0)=true:=by simp[U]
   have HF:=aB s;have HS:=aB U;have H:=aB h;have F:=aB D;have z:=aB (h.below D);clear s U h D;go_in;go_wp2_with (go_at_call 40;refine (bM z.o).mono ?_;rintro e w2 ⟨rfl,G⟩)
   have I:OB w w2:=F.o.trans (G.mono F.o.size);have hx:aW w2 w.heap.size 3 #[O X v]:=(aW.new w _ _).below G aD;refine (EE H.o HS.o I hx.lt hx (fun _ _=>by kernel_rfl) (fun H pb hp=>BC hp)).mono ?_;rintro e w4 ⟨rfl,a0⟩;go_wp2_with fail;go_ret;exact⟨cU HF.o.symm,I.trans (a0.mono I.size)⟩
 have s:fZ l v=false:=by simp[fZ,U]
 have a1:(aZ l==0)=false:=by simp[U]
 have HF:=aB s;have F:=aB D;have z:=aB (h.below D);clear s U h D;go_in;go_wp2_with (go_at_call 40;refine (bM z.o).mono ?_;rintro e w2 ⟨rfl,G⟩)
 go_ret;exact⟨cU HF.o.symm,F.o.trans (G.mono F.o.size)⟩
end Go.Proofs.Ytlahmbhimhmoaaa
