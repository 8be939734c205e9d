/- Merged: Leaf, Leaf2, Atoms, Row, Cut, Rev, AppOne, Marks, AppZ, WalkP. -/
import Derived.Test.YtlahmbhimhmoaaaProg
import Derived.Test.YtlahmbhimhmoaaaVBase
import Derived.WalkLawsBesides
import Derived.WalkSpells
import Derived.Deep.QuietTactic
import Derived.BigQuiet
import Derived.Lib.SliceRun
namespace Go.Proofs.Ytlahmbhimhmoaaa
set_option linter.unusedVariables false
set_option linter.unusedSimpArgs false
open Go.RowKit
open Go.Value renaming int → O, slice → Z
open Go.IntKind renaming i64 → X
open Option renaming some → Y, none → I
open Go.Lib renaming hid->aB
set_option maxHeartbeats 2000000
set_option maxRecDepth 100000
theorem BW(op a b:Int)(w:OE):
 Calls Try.prog 82 #[.agg #[O X op,O X a,O X b]] w fun e w'=>e=.returned (.bool (decide (0<=a)&&decide (a<64)))/\w.alloc (.cells #[O X op,O X a,O X b] 42)=w':=by
 go_in;go_wp2
 all_goals
  go_ret;exact⟨cU aH,rfl⟩
def AU(op a b:Int)(w:OE)(e:Ending)(w':OE):Prop:=e=.returned (.bool (bR op a b))/\OB w w'
theorem dL(op a b:Int)(w:OE):
 Calls Try.prog 60 #[.agg #[O X op,O X a,O X b]] w (AU op a b w):=by
 by_cases h:1<=op/\op<=13
 . obtain⟨h0,D⟩:=h;obtain⟨k,rfl⟩:=Int.eq_ofNat_of_zero_le (by omega:0<=op);have:k=1\/k=2\/k=3\/k=4\/k=5\/k=6\/k=7\/k=8\/k=9\/k=10\/k=11\/k=12\/k=13:=aA;clear h0 D;rcases this with rfl|rfl|rfl|rfl|rfl|rfl|rfl|rfl|rfl|rfl|rfl|rfl|rfl;all_goals
    go_in;go_wp2_with (go_at_call 82;refine (BW _ _ _ _).mono ?_;rintro e w' ⟨rfl,rfl⟩)
    all_goals
     go_ret;refine⟨cU ?_,by first|exact aQ _ _|exact cB _ _ _⟩;rw[Bool.eq_iff_iff];simp[bR];try omega
 have b1:(op==1)=false:=MM.2 aA;have b2:(op==2)=false:=MM.2 aA;have b3:(op==3)=false:=MM.2 aA;have b4:(op==4)=false:=MM.2 aA;have b5:(op==5)=false:=MM.2 aA;have b6:(op==6)=false:=MM.2 aA;have b7:(op==7)=false:=MM.2 aA;have b8:(op==8)=false:=MM.2 aA;have b9:(op==9)=false:=MM.2 aA;have U:(op==10)=false:=MM.2 aA;have z:(op==11)=false:=MM.2 aA;have a0:(op==12)=false:=MM.2 aA;have a1:(op==13)=false:=MM.2 aA;have F:bR op a b=false:=by
  simp only[bR];repeat rw[aN aA]
 have G:=aB F;clear F h;go_in;go_wp2
 go_ret;exact⟨cU G.o.symm,aQ _ _⟩
theorem lG(op a b:Int)(w:OE)(hb : -1000<=b/\b<=1000):
 Calls Try.prog 62 #[.agg #[O X op,O X a,O X b]] w fun e w'=>e=.returned (O X (cK op b))/\w.alloc (.cells #[O X op,O X a,O X b] 42)=w':=by
 obtain⟨a0,a1⟩:=hb;by_cases h:op=4\/op=5\/op=6\/op=7\/op=11\/op=12\/op=13
 . rcases h with rfl|rfl|rfl|rfl|rfl|rfl|rfl;all_goals
    go_in;go_wp2
    all_goals
     go_ret;refine⟨cN ?_,rfl⟩;simp[cK]
 ·
  have b4:(op==4)=false:=MM.2 aA;have b5:(op==5)=false:=MM.2 aA;have b6:(op==6)=false:=MM.2 aA;have b7:(op==7)=false:=MM.2 aA;have G:(op==11)=false:=MM.2 aA;have U:(op==12)=false:=MM.2 aA;have z:(op==13)=false:=MM.2 aA;have D:cK op b=0:=by
   simp only[cK];repeat rw[aN aA]
  have F:=aB D;clear D h;go_in;go_wp2
  go_ret;exact⟨cN F.o.symm,rfl⟩
theorem nH(op a b k:Int)(w:OE):
 Calls Try.prog 84 #[.agg #[O X op,O X a,O X b],O X k] w fun e w'=>e=.returned (O X (cO op k))/\w.alloc (.cells #[O X op,O X a,O X b] 42)=w':=by
 by_cases h:op=4\/op=5\/op=7
 . rcases h with rfl|rfl|rfl;all_goals
    by_cases k1:k=1
    . subst k1;go_in;go_wp2
      all_goals
       go_ret;refine⟨cN ?_,rfl⟩;simp[cO]
    by_cases k2:k=2
    . subst k2;go_in;go_wp2
      all_goals
       go_ret;refine⟨cN ?_,rfl⟩;simp[cO]
    have c1:(k==1)=false:=MM.2 k1;have c2:(k==2)=false:=MM.2 k2;obtain⟨G,U⟩:=OF k1 k2;clear k1 k2;go_in;go_wp2
    all_goals
     go_ret;refine⟨cN ?_,rfl⟩;simp[cO,G.o,U.o]
 ·
  have z:(op==4)=false:=MM.2 aA;have b5:(op==5)=false:=MM.2 aA;have b7:(op==7)=false:=MM.2 aA;have D:cO op k=0:=by
   simp only[cO];rw[aN aA]
  have F:=aB D;clear D h;go_in;go_wp2
  go_ret;exact⟨cN F.o.symm,rfl⟩
def fN(n:Int)(w:OE)(e:Ending)(w':OE):Prop:=e=.returned (O X n)/\OB w w'
theorem BA{A:OC}{n c:Nat}{l:List Nd}{w:OE}(h:aX w A n c l)(a0 b0:Int)(p0 k:Nat)(a6:a0=p0)(a7:b0=k)(b2:p0<=n)(hk:k<=1000):
 Calls Try.prog 61 #[Z A n c,O X a0,O X b0] w (fN (mO (fY k (-1) l p0)) w):=by
 have b3:=h.few;subst a6 a7;go_in;go_wp2
 go_loopw [1,7,9] (fun a t i wr=>∃(p j:Nat)(D:Int),p<=n/\j<=k/\a=O X p/\t=O X D/\i=O X j/\fY (k-j) D l p=fY k (-1) l p0/\OB w wr) (fun _ _ i _=>k-(intOf i).toNat)
 case atStart=>exact⟨p0,0,-1,b2,NH _,rfl,rfl,rfl,by rw[Nat.sub_zero],MC _ _⟩
 case round =>
  obtain⟨p,j,D,hp,hj,rfl,rfl,rfl,he,F⟩:=hrel;have HE:=aB he;clear he;have h':=h.below F;by_cases a9:j<k;rotate_left
  . go_wp2
    go_ret;refine⟨cN ?_,F⟩;rw[<-HE.o,show k-j=0 from by omega];rfl
  have z:fY (k-j) D l p=if p<l.length/\(bB l p).op=3/\bR (bB l p).op (bB l p).a (bB l p).b=true/\D<(bB l p).a then fY (k-(j+1)) (bB l p).a l (p+1) else I:=by
   rw[show k-j=(k-(j+1))+1 from by omega];rfl
  have HS:=aB z;clear z;by_cases a1:p<n;rotate_left
  . go_wp2
    go_ret;refine⟨cN ?_,F⟩;rw[<-HE.o,HS.o,aN (fun hh=>a1 (by rw[<-h.len];exact hh.1))];rfl
  obtain⟨b,off,rfl,hb,c0,c1,c2⟩:=h'.at_ a1;by_cases U:(bB l p).op=3;rotate_left
  . have b1:((bB l p).op != 3)=true:=by simp[U]
    have a2:=aB U;clear U;go_wp2
    go_ret;refine⟨cN ?_,F⟩;rw[<-HE.o,HS.o,aN (fun hh=>a2.o hh.2.1)];rfl
  have b1:((bB l p).op != 3)=false:=by simp[U]
  have a2:=aB U;clear U;cases hpl:bR (bB l p).op (bB l p).a (bB l p).b
  . go_wp2_with (go_at_call 60;refine (dL _ _ _ _).mono ?_;rintro e w1 ⟨rfl,G⟩;obtain⟨a3,a4⟩:=kF G)
    go_ret;refine⟨cN ?_,F.trans (G.mono F.size)⟩;rw[<-HE.o,HS.o,aN (fun hh=>by rw[hpl]at hh;cases hh.2.2.1)];rfl
  by_cases a8:D<(bB l p).a
  . have a5:decide ((bB l p).a<=D)=false:=by simp;omega
    go_wp2_with (go_at_call 60;refine (dL _ _ _ _).mono ?_;rintro e w1 ⟨rfl,G⟩;obtain⟨a3,a4⟩:=kF G)
    go_roundw
    case rel=>exact⟨p+1,j+1,(bB l p).a,a1,a9,by go_num,rfl,by go_num,by rw[<-HE.o,HS.o,LZ ⟨by rw[h.len];exact a1,a2.o,hpl,a8⟩],F.trans (G.mono F.size)⟩
    case measure=>simp[intOf];omega
  have a5:decide ((bB l p).a<=D)=true:=by simp;omega
  go_wp2_with (go_at_call 60;refine (dL _ _ _ _).mono ?_;rintro e w1 ⟨rfl,G⟩;obtain⟨a3,a4⟩:=kF G)
  go_ret;refine⟨cN ?_,F.trans (G.mono F.size)⟩;rw[<-HE.o,HS.o,aN (fun hh=>by have:=hh.2.2.2;omega)];rfl
theorem mK:(Try.prog.info? 42).map (fun i=>(i.zero,i.size,i.bytes))=Y (Y (.agg #[O X 0,O X 0,O X 0]),3,24):=by kernel_rfl
def zH(l:List Nd)(w:OE)(e:Ending)(w':OE):Prop:=OB w w'/\∃A n c,e=.returned (Z A n c)/\a6 (zX w w') w' A n c l
theorem a6.cutAt{R:Nat->Prop}{w:OE}{A:OC}{n c:Nat}{l:List Nd}(h:a6 R w A n c l){k:Nat}(z:k<=n):
 a6 R w (if c=k then A else A.map (·.add (k*3))) (n-k) (c-k) (l.drop k):=by
 refine⟨by rw[NC,h.len],by have:=h.cap;omega,by have:=h.few;omega,fun e=>?_,fun hn=>?_⟩
 . split at e
   . omega
   have:=h.nul (by simpa using e);omega
 obtain⟨b,off,rfl,F,G⟩:=h.mem aA;have:=h.cap;rw[aN aA];refine⟨b,off+k*3,?_,F,?_⟩
 . simp only[Option.map_some,Addr.add];split
   . rename_i D;rw[D,MQ]
   rfl
 intro j U;rw[NC,h.len]at U;rw[jN];have:=G (k+j) (by rw[h.len];omega)
 rwa [Nat.add_mul,<-Nat.add_assoc]at this
theorem a6.frontAt{R:Nat->Prop}{w:OE}{A:OC}{n c:Nat}{l:List Nd}(h:a6 R w A n c l){k:Nat}(U:k<=n):a6 R w A k c (l.take k):=by
 refine⟨by rw[List.length_take,h.len];omega,by have:=h.cap;omega,by have:=h.few;omega,h.nul,fun z=>?_⟩;obtain⟨b,off,e,D,F⟩:=h.mem aA;refine⟨b,off,e,D,?_⟩;intro j G;rw[List.length_take]at G;rw[E2 aA];exact F j aA
theorem sE(w:OE):(sizeOf 42).run Try.prog w=.ok 3 w:=by kernel_rfl
theorem oT(A:OC)(n c k:Nat)(F:k<=n):∃D,(∀w:World,(Instr.slice 29 (Z A n c) (Y (O X (k:Int))) I I).run Try.prog w=.ok (Z D (n-k) (c-k)) w) ∧
 ∀(R:Nat->Prop)(w:OE)(l:List Nd),a6 R w A n c l->a6 R w D (n-k) (c-k) (l.drop k):=by
 refine⟨if c=k then A else A.map (·.add (k*3)),fun w=>?_,fun R w l h=>h.cutAt F⟩;rw[run_slice_l w 29 A n c aC .i64 (k:Int) aA aA];have e:Try.prog.elem 29=42:=by kernel_rfl
 rw[e,sE];rfl
theorem sZ(A:OC)(n c j k:Nat)(F:j<=k)(G:k<=n)(U:n<=c):∃D,(∀w:World,(Instr.slice 29 (Z A n c) (Y (O X (j:Int))) (Y (O X (k:Int))) I).run Try.prog w=.ok (Z D (k-j) (c-j)) w) ∧
 ∀(R:Nat->Prop)(w:OE)(l:List Nd),a6 R w A n c l->a6 R w D (k-j) (c-j) ((l.take k).drop j):=by
 refine⟨if c=j then A else A.map (·.add (j*3)),fun w=>?_,fun R w l h=>(h.frontAt G).cutAt F⟩;rw[run_slice_lh w 29 A n c aC .i64 .i64 (j:Int) (k:Int) aA aA aA];have e:Try.prog.elem 29=42:=by kernel_rfl
 rw[e,sE];rfl
theorem lJ{w:OE}{base g n c:Nat}{e:TypeId}{U:List Value}(h:w.ownsRow base e 1 (Z (Y ⟨g,0,I⟩) n c) n U)(i:Nat)(u:Value):(w.setCell ⟨g,i,I⟩ u).ownsRow base e 1 (Z (Y ⟨g,0,I⟩) n c) n (U.set i u):=by
 obtain⟨hl,hc⟩:=h;refine⟨by simpa using hl,.inr ?_⟩;rcases hc with⟨G,_⟩|⟨g',cap,D,hv,hg,hh,G,h2,h3,h4⟩
 . cases G
 injection hv with F e2 z;injection F with F;injection F with F;subst F z;refine⟨g,c,D.setIfInBounds i u,rfl,hg,?_,G,h2,by simpa using h3,?_⟩
 . have hb:aW w g e D:=hh;exact hb.set_ i u
 rw[Array.toList_setIfInBounds,List.take_set,h4]
structure GH (xs l:List Value) (i:Nat):Prop where
 len:l.length=xs.length
 at_:∀p,p<xs.length->l[p]? = if p<i\/xs.length<=p+i then xs[xs.length-1-p]? else xs[p]?
theorem GH.start(D:List Value):GH D D 0:=⟨rfl,fun p F=>by rw[aN aA]⟩
theorem GH.step{F l:List Value}{i j:Nat}{u v:Value}(h:GH F l i)(a0:i<j)(hj:j+i+1=F.length)(hu:l[i]? = Y u)(hv:l[j]? = Y v):GH F ((l.set i v).set j u) (i+1):=by
 have hl:=h.len;refine⟨by simpa using hl,fun p hp=>?_⟩;have G:=h.at_ i aA;have D:=h.at_ j aA;rw[aN aA]at G D;rw[hu]at G;rw[hv]at D;rw[List.getElem?_set,List.getElem?_set];by_cases U:j=p
 . subst U;rw[LZ rfl,LZ aG,LZ aA,show F.length-1-j=i from by omega,<-G]
 rw[aN U];by_cases z:i=p
 . subst z;rw[LZ rfl,LZ aA,LZ aA,show F.length-1-i=j from by omega,<-D]
 rw[aN z,h.at_ p hp];by_cases e3:p<i\/F.length<=p+i
 . rw[LZ e3,LZ aA]
 rw[aN e3,aN aA]
theorem GH.fin{D l:List Value}{i:Nat}(h:GH D l i)(G:D.length<=2*i+1):l=D.reverse:=by
 apply List.ext_getElem?;intro p;by_cases F:p<D.length
 . rw[h.at_ p F,List.getElem?_reverse F];by_cases e:p<i\/D.length<=p+i
   . rw[LZ e]
   rw[aN e];congr 1;omega
 rw[List.getElem?_eq_none (by rw[h.len];omega),List.getElem?_eq_none aG]
theorem kL(W:OE)(g k:Nat)(v:Value):W.grownBy (W.setCell ⟨g,k,I⟩ v) (Y g) :=
 ⟨rfl,rfl,rfl,by simp,fun i _ D=>MH _ _ _ _ (fun e=>D (by rw[e]))⟩
def GG(base:Nat)(A:OC)(n c:Nat)(D:List Value)(w:OE)(e:Ending)(w':OE):Prop:=e=.returned (.tuple #[])/\w'.ownsRow base 29 1 (Z A n c) n D.reverse/\w.grownBy w' (Value.slice A n c).ownBlock
theorem vV{A:OC}{n c base:Nat}{z:List Value}{w:OE}(h:w.ownsRow base 29 1 (Z A n c) n z)(hf:n<=1000000)(a6:∀x∈z,∃A' n' c',x=Z A' n' c'):
 Calls Try.prog 46 #[Z A n c] w (GG base A n c z w):=by
 have b4:z.length=n:=by have:=h.1;omega
 obtain⟨H,a1⟩:=OF h a6;clear h a6;go_in;go_wp2_with fail;go_loopw [2,3] (fun iv jv wr=>∃(i:Nat)(l:List Value),iv=O X (i:Int)/\jv=O X ((n:Int)-1-(i:Int))/\2*i<=n+1/\Hid (GH z l i)/\Hid (wr.ownsRow base 29 1 (Z A n c) n l)/\Hid (w.grownBy wr (Value.slice A n c).ownBlock)) (fun i _ _=>n-(intOf i).toNat)
 case atStart=>exact⟨0,z,rfl,by go_num,by omega,aB (GH.start z),H,aB (World.grownBy.refl _ _)⟩
 case round =>
  obtain⟨i,l,rfl,rfl,hi,F,D,a3⟩:=hrel;by_cases b5:(i:Int)<(n:Int)-1-(i:Int);rotate_left
  . have HE:=aB (F.o.fin aA);go_wp2_with fail;go_end0
    refine⟨rfl,?_,a3.o⟩;rw[<-HE.o];exact D.o
  obtain⟨j,hj⟩:∃j:Nat,j+i+1=n:=⟨n-1-i,by omega⟩;have a4:(n:Int)-1-(i:Int)=(j:Int):=aA;have a9:i<j:=aA;have b3:j<n:=aA;obtain⟨u,hu⟩:∃u,l[i]? = Y u:=⟨_,MI (by rw[F.o.len];omega)⟩;obtain⟨v,hv⟩:∃v,l[j]? = Y v:=⟨_,MI (by rw[F.o.len];omega)⟩;have G:∀p x,l[p]? = Y x->x∈z:=fun p x hp=>by
   have a5:=(NP.1 hp).1;rw[F.o.len]at a5;rw[F.o.at_ p a5]at hp;split at hp<;>exact List.mem_of_getElem? hp
  obtain⟨Au,nu,cu,rfl⟩:=a1.o _ (G _ _ hu);obtain⟨Av,nv,cv,rfl⟩:=a1.o _ (G _ _ hv);have a2:=F.o.step a9 aA hu hv;obtain⟨_,a0⟩:=D.o;rcases a0 with⟨_,h2⟩|⟨g,cap',a8,he,hg,hh,_⟩
  . omega
  injection he with e1 e2 e3;subst e1;subst e3;clear e2;have U:aW wr g 29 a8:=hh;have b0:wr.cell? ⟨g,i,I⟩=Y (Z Au nu cu):=by rw[D.o.cellAt i aA,hu]
  have b1:wr.cell? ⟨g,j,I⟩=Y (Z Av nv cv):=by rw[D.o.cellAt j aA,hv]
  have b2:=aW.frozen U;have a7:=aB a2;have b6:i≠j:=aA;rw[a4];clear hu hv G a2 hh U a4;go_wp2_with fail;go_region
  go_wp2_with fail;have h3:w.grownBy ((wr.setCell ⟨g,i,I⟩ (Z Av nv cv)).setCell ⟨g,j,I⟩ (Z Au nu cu)) (Y g) :=
   (World.grownBy.trans (show w.grownBy wr (Y g) from a3.o) (kL wr g i _)).trans (kL _ g j _)
  have H3:=aB h3;clear h3;go_roundw
  case rel=>exact⟨i+1,(l.set i (Z Av nv cv)).set j (Z Au nu cu),by go_num,by go_num,by omega,a7,aB (lJ (lJ D.o i (Z Av nv cv)) j (Z Au nu cu)),aB ⟨H3.o.os,H3.o.tape,H3.o.output,H3.o.size,H3.o.block⟩⟩
  case measure=>simp[intOf];omega
theorem eL{P:Program}{o:Oper}{a:Act}{w:OE}{K:Act->World->Prop}{Q:Exit->Act->World->Prop}
 (s x:Operand) (t e:TypeId) (a3:o.op=Op.call { callee:=Callee.builtin Builtin.append,args:=#[s,x],argTypes:=#[t,t] })
 (base:Nat) (i:TypeInfo) (z:Value) (D:Nat) (h1:P.underlying t=Y (.slice e)) (h2:P.info? e=Y i) (h3:i.zero=Y z) (h4:i.size=1) (h5:i.bytes=D) (h6:z.cells.size=1) (a0:D<=24)
 (v:Value) (n:Nat) (xs:List Value) (u:Value) (F:u.oneCell'=true) (W:OE) (hW:w=W.alloc (.cells #[u] e)) (hs:a.eval s=v) (G:W.ownsRow base e 1 v n xs)
 (g:Nat) (hx:a.eval x=Z (Y ⟨g,0,I⟩) 1 1) (a1:g=W.heap.size) (b1:n+1<=1000000000) (b3:base<=W.heap.size)
 (hK:∀U c' w',eE W w' base e 1 v U (n+1) c' (xs++[u])->K (a.put o.dst (Z U (n+1) c')) w'):Oper.wp P o a w K Q:=by
 subst hW;subst a1;refine cQ s x t a3 base _ i _ 1 D h1 h2 h3 h4 h5 h6 aE v n xs hs (World.ownsRow.alloc G _) _ 1 1 [u] hx aD (fun e=>by cases e) (fun ad e j u' hu=>?_) (fun q hq=>by simp at hq;subst hq;exact F) aJ ?_ aG ?_
 . injection e with e;subst e;have ea:(⟨W.heap.size,0,I⟩:Addr).add j=⟨W.heap.size,j,I⟩:=by unfold Addr.add;split<;>simp_all
   rw[ea,World.cell?_alloc_new,<-hu];simp
 . exact MO (Nat.mul_le_mul b1 a0) aE
 intro U c' w' h;refine hK U c' w' ⟨h.own,?_,fun g hg=>(h.new g hg).imp id (fun hh=>by simp at hh;omega)⟩;refine⟨h.grown.os,h.grown.tape,h.grown.output,MO aD h.grown.size,fun k hk a2=>?_⟩;rw[h.grown.block k aG a2];exact Below.heap_alloc _ _ _ hk


section
structure bT (σ:Type) where
 em:σ->Nd->Int->List Nd
 nx:σ->Nd->Int->σ
 ok:σ->Nd->Int->Bool
 dm:σ->Nd->Int->Prop
section
variable {σ : Type} (V : bT σ)
def bT.S(D F:Int):Nat->Int->σ->Fo->σ
 | _,_,s,.nil=>s
 | j,a,s,.cons _ n _ k x=>bT.S D F (j+1) a (bT.S n.op n.b 0 (a+aR D F j) (V.nx s n (a+aR D F j)) k) x
def bT.E(D F:Int):Nat->Int->σ->Fo->List Nd
 | _,_,_,.nil=>[]
 | j,a,s,.cons p n at' k x=>p++(V.em s n (a+aR D F j)++(at'++(bT.E n.op n.b 0 (a+aR D F j) (V.nx s n (a+aR D F j)) k++bT.E D F (j+1) a (V.S n.op n.b 0 (a+aR D F j) (V.nx s n (a+aR D F j)) k) x)))
def bT.G(D F:Int):Nat->Int->σ->Fo->Bool
 | _,_,_,.nil=>true
 | j,a,s,.cons _ n _ k x=>V.ok s n (a+aR D F j)&&(bT.G n.op n.b 0 (a+aR D F j) (V.nx s n (a+aR D F j)) k&&bT.G D F (j+1) a (V.S n.op n.b 0 (a+aR D F j) (V.nx s n (a+aR D F j)) k) x)
def bT.D(F G:Int):Nat->Int->σ->Fo->Prop
 | _,_,_,.nil=>True
 | j,a,s,.cons _ n _ k x=>V.dm s n (a+aR F G j)/\bT.D n.op n.b 0 (a+aR F G j) (V.nx s n (a+aR F G j)) k/\bT.D F G (j+1) a (V.S n.op n.b 0 (a+aR F G j) (V.nx s n (a+aR F G j)) k) x
theorem bT.S_app(D U:Int):∀(j:Nat)(a:Int)(s:σ)(F G:Fo),V.S D U j a s (F.app G)=V.S D U (j+bQ F) a (V.S D U j a s F) G
 | _,_,_,.nil,G=>by simp[Fo.app,bT.S,bQ]
 | j,a,s,.cons p n at' k x,G=>by
  simp only[Fo.app,bT.S,bQ];rw[bT.S_app D U (j+1) a _ x G,show j+1+bQ x=j+(bQ x+1) from by omega]
theorem bT.E_app(D U:Int):∀(j:Nat)(a:Int)(s:σ)(F G:Fo),V.E D U j a s (F.app G)=V.E D U j a s F++V.E D U (j+bQ F) a (V.S D U j a s F) G
 | _,_,_,.nil,G=>by simp[Fo.app,bT.E,bT.S,bQ]
 | j,a,s,.cons p n at' k x,G=>by
  simp only[Fo.app,bT.E,bT.S,bQ];rw[bT.E_app D U (j+1) a _ x G,show j+1+bQ x=j+(bQ x+1) from by omega];simp only[NU]
theorem bT.G_app(D U:Int):∀(j:Nat)(a:Int)(s:σ)(F G:Fo),V.G D U j a s (F.app G)=(V.G D U j a s F&&V.G D U (j+bQ F) a (V.S D U j a s F) G)
 | _,_,_,.nil,G=>by simp[Fo.app,bT.G,bT.S,bQ]
 | j,a,s,.cons p n at' k x,G=>by
  simp only[Fo.app,bT.G,bT.S,bQ];rw[bT.G_app D U (j+1) a _ x G,show j+1+bQ x=j+(bQ x+1) from by omega];simp only[Bool.and_assoc]
theorem bT.D_app(U h:Int):∀(j:Nat)(a:Int)(s:σ)(F G:Fo),V.D U h j a s (F.app G) ↔ V.D U h j a s F/\V.D U h (j+bQ F) a (V.S U h j a s F) G
 | _,_,_,.nil,G=>by simp[Fo.app,bT.D,bT.S,bQ]
 | j,a,s,.cons p n at' k x,G=>by
  simp only[Fo.app,bT.D,bT.S,bQ];rw[bT.D_app U h (j+1) a _ x G,show j+1+bQ x=j+(bQ x+1) from by omega];simp only[and_assoc]
def bT.S1(a:Int)(s:σ)(n:Nd)(k:Fo):σ:=V.S n.op n.b 0 a (V.nx s n a) k
def bT.E1(a:Int)(s:σ)(n:Nd)(D:List Nd)(k:Fo):List Nd:=V.em s n a++(D++V.E n.op n.b 0 a (V.nx s n a) k)
def bT.G1(a:Int)(s:σ)(n:Nd)(k:Fo):Bool:=V.ok s n a&&V.G n.op n.b 0 a (V.nx s n a) k
def bT.D1(a:Int)(s:σ)(n:Nd)(k:Fo):Prop:=V.dm s n a/\V.D n.op n.b 0 a (V.nx s n a) k
theorem bT.S_cons(D G:Int)(j:Nat)(a:Int)(s:σ)(p:List Nd)(n:Nd)(F:List Nd)(k x:Fo):V.S D G j a s (.cons p n F k x)=V.S D G (j+1) a (V.S1 (a+aR D G j) s n k) x:=rfl
theorem bT.E_cons(D G:Int)(j:Nat)(a:Int)(s:σ)(p:List Nd)(n:Nd)(F:List Nd)(k x:Fo):V.E D G j a s (.cons p n F k x)=p++(V.E1 (a+aR D G j) s n F k++V.E D G (j+1) a (V.S1 (a+aR D G j) s n k) x):=by
 simp only[bT.E,bT.E1,bT.S1,NU]
theorem bT.G_cons(D F:Int)(j:Nat)(a:Int)(s:σ)(p:List Nd)(n:Nd)(U:List Nd)(k x:Fo):V.G D F j a s (.cons p n U k x)=(V.G1 (a+aR D F j) s n k&&V.G D F (j+1) a (V.S1 (a+aR D F j) s n k) x):=by
 simp only[bT.G,bT.G1,bT.S1,Bool.and_assoc]
theorem bT.D_cons(F G:Int)(j:Nat)(a:Int)(s:σ)(p:List Nd)(n:Nd)(U:List Nd)(k x:Fo):V.D F G j a s (.cons p n U k x) ↔ V.D1 (a+aR F G j) s n k/\V.D F G (j+1) a (V.S1 (a+aR F G j) s n k) x:=by
 simp only[bT.D,bT.D1,bT.S1,and_assoc]
end
structure aS (S:Nat->Prop) (row:Option Nat) (w w':OE):Prop where
 os:w'.os=w.os
 tape:w'.tape=w.tape
 output:w'.output=w.output
 size:w.heap.size<=w'.heap.size
 block:∀k,k<w.heap.size->¬ S k->Y k≠row->w'.heap[k]? = w.heap[k]?
section
variable {S S' : Nat->Prop}{row row' : Option Nat}{w w' w'' : OE}
theorem aS.refl(S:Nat->Prop)(row:Option Nat)(w:OE):aS S row w w:=⟨rfl,rfl,rfl,MF _,fun _ _ _ _=>rfl⟩
theorem aS.mono(h:aS S row w w')(hS:∀k,S k->S' k):aS S' row w w':=⟨h.os,h.tape,h.output,h.size,fun k D G F=>h.block k D (fun x=>G (hS k x)) F⟩
theorem aS.trans(h:aS S row w w')(D:aS S row' w' w'')(hr:∀g,row'=Y g->row=Y g\/w.heap.size<=g):aS S row w w'' :=
 ⟨D.os.trans h.os,D.tape.trans h.tape,D.output.trans h.output,MO h.size D.size,fun k G z U =>
  (D.block k (MD G h.size) z (fun e=>by
   rcases hr k e.symm with F|F
   . exact U F.symm
   . omega)).trans (h.block k G z U)⟩
theorem aS.of_below(h:OB w w'):aS S row w w':=⟨h.os,h.tape,h.output,h.size,fun k D _ _=>h.block k D⟩
theorem aS.of_grown(h:w.grownBy w' row):aS S row w w':=⟨h.os,h.tape,h.output,h.size,fun k D _ F=>h.block k D F⟩
theorem aS.to_below{B:Nat}(h:aS S row w w')(F:B<=w.heap.size)(hS:∀k,S k->B<=k)(D:∀g,row=Y g->B<=g):Below B w w' :=
 ⟨h.os,h.tape,h.output,h.size,fun k G=>h.block k aA (fun x=>by have:=hS k x;omega) (fun e=>by have:=D k e.symm;omega)⟩
theorem aS.alloc(h:aS S row w w')(o:Obj):aS S row w (w'.alloc o):=h.trans (row':=I) (aS.of_below (aQ _ _)) (fun _ e=>by cases e)
theorem aS.setCell(h:aS S row w w'){p:Addr}(D:S p.block)(u:Value):aS S row w (w'.setCell p u) :=
 h.trans (row':=I) ⟨rfl,rfl,rfl,by simp[World.setCell],fun k _ F _=>MH _ _ _ _ (fun e=>F (e ▸ D))⟩ (fun _ e=>by cases e)
theorem aS.setNew(h:aS S row w w'){p:Addr}(U:w.heap.size<=p.block)(u:Value):aS S row w (w'.setCell p u) :=
 ⟨h.os,h.tape,h.output,by simpa[World.setCell] using h.size,fun k D G F=>(MH _ _ _ _ aA).trans (h.block k D G F)⟩
theorem aS.over(D:OB w w')(h:aS S' row w' w'')(hS:∀k,k<w.heap.size->S' k->S k):aS S row w w'' :=
 ⟨h.os.trans D.os,h.tape.trans D.tape,h.output.trans D.output,MO D.size h.size,fun k F U G=>(h.block k (MD F D.size) (fun x=>U (hS k F x)) G).trans (D.block k F)⟩
theorem aS.drew(h:aS S row w w'):aS S row w w'.drew:=⟨h.os,h.tape,h.output,h.size,h.block⟩
theorem aW.moved{g:Nat}{t:TypeId}{cs:Array Value}(h:aW w g t cs)(D:aS S row w w')(G:¬ S g)(F:row≠Y g):aW w' g t cs:=(D.block g h.lt G (fun e=>F e.symm)).trans h
theorem aW.same{g:Nat}{t:TypeId}{cs:Array Value}(h:aW w g t cs)(e:w'.heap[g]? = w.heap[g]?):aW w' g t cs:=e.trans h
theorem aW.new'{g:Nat}{t:TypeId}{cs:Array Value}(D:g=w.heap.size):aW (w.alloc (.cells cs t)) g t cs:=by subst D;exact aW.new _ _ _
theorem aP{b:Nat}(h:w'.heap[b]? = w.heap[b]?)(o:Nat):w'.cell? ⟨b,o,I⟩=w.cell? ⟨b,o,I⟩:=World.cell?_of_block (a:=⟨b,o,I⟩) h
end
theorem a6.mid{R:Nat->Prop}{w:OE}{b off n c p m:Nat}{l x rest:List Nd}(h:a6 R w (Y ⟨b,off,I⟩) n c l)(e:l.drop p=x++rest)(hm:x.length=m)(hp:p<=n)(a0:0<m):a6 R w (Y ⟨b,off+p*3,I⟩) m (c-p) x:=by
 have hl:l.length=p+m+rest.length:=by
  have z:=congrArg List.length e;rw[NC,MG]at z;have:=h.len;omega
 have hc:=h.cap;have hf:=h.few;have hn:=h.len;refine⟨hm,by omega,by omega,(fun e=>by cases e),fun _=>?_⟩;obtain⟨b',off',F,hR,D⟩:=h.mem aA;injection F with F;injection F with G U;subst G U;refine⟨b,off+p*3,rfl,hR,fun k hk=>?_⟩;have hx:bB x k=bB l (p+k):=by
  rw[<-jN,e];simp[bB,hk,List.getElem?_append_left]
 have:=D (p+k) aA;rw[hx]
 rwa [Nat.add_mul,<-Nat.add_assoc]at this
theorem E7{l:List Nd}{q:Nat}{n:Nd}{D:List Nd}{k x:Fo}{rest:List Nd}(h:pp [false] (l.drop q)=Y (.cons [] n D k x,rest))(h2:n.op=2):k=.nil/\x=.nil/\D.length=n.b.toNat/\l.drop (q+1)=D++rest/\1<=n.b/\n.b<=4:=by
 have G:=pR h;cases hd:l.drop q with
 | nil=>rw[hd]at G;simp[row]at G
 | cons y t =>
  rw[hd]at h G;simp only[row,MY,NN,NW]at G;obtain⟨rfl,G⟩:=G;have F:eU y=true:=by
   rw[cZ]at h;simp only[dU,Option.bind_some]at h;split at h
   . assumption
   cases h
  rw[H6 (l:=y::t) (Nat.succ_pos _) F h2]at h;simp only[bB,List.getD_cons_zero,List.drop_one,List.tail_cons,NQ,MZ,Fo.cons.injEq]at h;obtain⟨z,hz,⟨_,_,rfl,rfl,rfl⟩,rfl⟩:=h;obtain⟨h5,h6⟩:=iC _ _ _ _ hz;have U:l.drop (q+1)=t:=by rw[<-List.drop_drop,hd];rfl
  have a0:bR y.op y.a y.b=true:=by simp only[eU,ME]at F;exact F.1.1
  rw[bI]at a0;exact⟨rfl,rfl,h6,by rw[U];exact h5,by omega,by omega⟩
theorem G9{l:List Nd}{q:Nat}{n:Nd}{F:List Nd}{k x:Fo}{rest:List Nd}(h:pp [false] (l.drop q)=Y (.cons [] n F k x,rest))(h2:n.op≠2):x=.nil/\F=[]/\pp (ds n) (l.drop (q+1))=Y (k,rest):=by
 have D:=pR h;cases hd:l.drop q with
 | nil=>rw[hd]at D;simp[row]at D
 | cons y t =>
  rw[hd]at h D;simp only[row,MY,NN,NW]at D;obtain⟨rfl,D⟩:=D;have U:eU y=true:=by
   rw[cZ]at h;simp only[dU,Option.bind_some]at h;split at h
   . assumption
   cases h
  rw[H0 (l:=y::t) (Nat.succ_pos _) U h2]at h;simp only[bB,List.getD_cons_zero,List.drop_one,List.tail_cons,NQ,MZ,Fo.cons.injEq]at h;obtain⟨z,hz,⟨_,_,rfl,rfl,rfl⟩,rfl⟩:=h;have G:l.drop (q+1)=t:=by rw[<-List.drop_drop,hd];rfl
  exact⟨rfl,rfl,by rw[G];exact hz⟩
theorem pQ{l:List Nd}{q:Nat}{dr:List Bool}{F:Fo}{rest:List Nd}(h:pp (false::dr) (l.drop q)=Y (F,rest))(hq:q<=l.length):
 ∃n D k F' U,F=.cons [] n D k F'/\q<U/\U<=l.length/\pp [false] (l.drop q)=Y (.cons [] n D k .nil,l.drop U)/\pp dr (l.drop U)=Y (F',rest):=by
 rw[vP]at h;simp only[NV,NQ,MZ]at h;obtain⟨x,G,y,hy,e1,e2⟩:=h;obtain⟨n,D,k,hn⟩:=yN G;obtain⟨z,h2,h3⟩:=tC G hq;have h4:=E8 G aD;rw[NC]at h4;obtain⟨x1,x2⟩:=x;obtain⟨y1,y2⟩:=y;simp only at hn z h2 h3 h4 hy e1 e2;subst hn e1 e2;refine⟨n,D,k,y1,l.length-x2.length,rfl,by omega,by omega,?_,?_⟩
 . rw[<-z];exact G
 rw[<-z];exact hy
theorem H5{l:List Nd}{q:Nat}{G:List Bool}{F:Fo}{rest:List Nd}(h:pp (true::G) (l.drop q)=Y (F,rest)):
 q<l.length/\yG (bB l q)=true/\∃D,pp (false::G) (l.drop (q+1))=Y (D,rest)/\F=D.setPre [bB l q]:=by
 by_cases U:q<l.length
 . rw[kY U,H8]at h;split at h
   . rename_i hf
     refine⟨U,hf,?_⟩;simp only[NV,NQ,MZ]at h;obtain⟨x,z,y,hy,e1,e2⟩:=h;obtain⟨n,a0,k,hn⟩:=yN z;refine⟨x.1.app y.1,?_,?_⟩
     . rw[vP];simp only[NV,NQ,MZ];exact⟨x,z,y,hy,rfl,e2⟩
     rw[<-e1,hn];rfl
   cases h
 rw[List.drop_eq_nil_of_le aA,cZ]at h;simp[dU]at h
theorem bG.moved{S:Nat->Prop}{row:Option Nat}{w w':OE}{base:Nat}{v:Value}{l:List Nd}(h:bG w base v l)(U:aS S row w w')(z:∀g,v.ownBlock=Y g->¬ S g/\row≠Y g):bG w' base v l:=by
 unfold bG at h ⊢;obtain⟨G,D⟩:=h;refine⟨G,?_⟩;rcases D with D|⟨g,cap,cur,hv,hg,hh,r⟩
 . exact Or.inl D
 subst hv;have F:=z g rfl;exact Or.inr ⟨g,cap,cur,rfl,hg,(U.block g (Array.getElem?_eq_some_iff.1 hh).1 F.1 (fun e=>F.2 e.symm)).trans hh,r⟩
theorem bG.slice{w:OE}{base:Nat}{v:Value}{l:List Nd}(h:bG w base v l):∃A c,v=Z A l.length c:=by
 rcases h.2 with⟨rfl,F⟩|⟨g,cap,D,rfl,_⟩
 . rw[F];exact⟨I,0,rfl⟩
 exact⟨_,_,rfl⟩
def dD(v v':Value)(w:OE):Prop:=∀g,v'.ownBlock=Y g->v.ownBlock=Y g\/w.heap.size<=g
theorem dD.refl(v:Value)(w:OE):dD v v w:=fun _ h=>.inl h
theorem dD.trans{v v' D:Value}{w w':OE}(h:dD v v' w)(G:dD v' D w')(z:w.heap.size<=w'.heap.size):dD v D w:=fun g U=>by
 rcases G g U with F|F
 . exact h g F
 exact .inr (MO z F)
def kW{σ:Type}(V:bT σ)(J:World->σ->Prop)(S:Nat->Prop)(base:Nat)(pan:List PanicEntry)(w:OE)(s:σ)(v:Value)(o:List Nd)(n:Nd)(a:Int)(e:Ending)(w':OE):Prop :=
 (V.ok s n a=true/\aS S v.ownBlock w w'/\J w' (V.nx s n a)/\∃v',e=.returned v'/\bG w' base v' (o++V.em s n a)/\dD v v' w) ∨
 (V.ok s n a=false/\e=.panicked pan/\aS S v.ownBlock w w')
def tW(P:Program)(K:FuncId)(caps:Array Value){σ:Type}(V:bT σ)(J:World->σ->Prop)(KK S:Nat->Prop)(base H:Nat)(pan:List PanicEntry)(M:Nat):Prop :=
 ∀(w:OE)(s:σ)(v:Value)(o:List Nd)(n:Nd)(a:Int),H<=w.heap.size->J w s->bG w base v o->(∀k,v.ownBlock=Y k->¬ KK k)->eU n=true->V.dm s n a->0<=a->a<=1000000000000->o.length+(V.em s n a).length<=M →
  Calls P K (#[v,.agg #[O X n.op,O X n.a,O X n.b],O X a]++caps) w (kW V J S base pan w s v o n a)
structure kD (σ:Type) where
 H:Nat
 base:Nat
 A:Option Addr
 nn:Nat
 c:Nat
 l:List Nd
 R:Nat->Prop
 KK:Nat->Prop
 S:Nat->Prop
 fn:FuncId
 caps:Array Value
 J:World->σ->Prop
 V:bT σ
 pan:List PanicEntry
 M:Nat
section
variable {σ : Type} (C : kD σ)
structure kD.Good:Prop where
 hbase:C.base<=C.H
 hR:∀b,C.R b->b<C.H/\¬ C.S b
 hK:∀b,C.KK b->b<C.H
 hS:∀b,C.S b->C.KK b
 hJ:∀w w' s,C.J w s->(∀k,C.KK k->w'.heap[k]? = w.heap[k]?)->C.J w' s
 hM:C.M<=1000000000000
 en:∀args w,(callFunc C.fn args).run Try.prog w=.ok (.enter C.fn args) w
 one:tW Try.prog C.fn C.caps C.V C.J C.KK C.S C.base C.H C.pan C.M
def kD.tv:Value:=.func (.func 90) #[] #[.pointer (Y ⟨C.H,0,I⟩),.pointer (Y ⟨C.H+5,0,I⟩),.pointer (Y ⟨C.H+2,0,I⟩),.pointer (Y ⟨C.H+1,0,I⟩),.pointer (Y ⟨C.H+6,0,I⟩)]
structure kD.St (w:OE) (v:Value) (q:Nat) (s:σ) (o:List Nd):Prop where
 bt:aW w C.H 29 #[Z C.A C.nn C.c]
 bo:aW w (C.H+1) 29 #[v]
 bf:aW w (C.H+2) 129 #[.func (.func C.fn) #[] C.caps]
 ba:aW w (C.H+5) 3 #[O X q]
 br:aW w (C.H+6) 142 #[C.tv]
 tm:a6 C.R w C.A C.nn C.c C.l
 own:bG w C.base v o
 j:C.J w s
 hv:∀g,v.ownBlock=Y g->¬ C.KK g/\¬ C.R g/\(g<C.H\/C.H+7<=g)
def kD.S'(k:Nat):Prop:=C.S k\/k=C.H+1\/k=C.H+5
variable {C}{w w' : OE}{v v' : Value}{q : Nat}{s s' : σ}{o o' : List Nd}
theorem kD.St.size(h:C.St w v q s o):C.H+7<=w.heap.size:=h.br.lt
theorem kD.St.row(h:C.St w v q s o)(g:Nat)(D:v.ownBlock=Y g):g<w.heap.size:=(aV h.own D).2.1
theorem kD.St.below(F:C.Good)(h:C.St w v q s o)(D:OB w w'):C.St w' v q s o:=by
 have U:=h.size;exact⟨h.bt.below D h.bt.lt,h.bo.below D h.bo.lt,h.bf.below D h.bf.lt,h.ba.below D h.ba.lt,h.br.below D h.br.lt,
  h.tm.keep fun b hR=>⟨hR,fun o=>aP (D.block _ (by have:=(F.hR b hR).1;omega)) o⟩,h.own.below D,F.hJ _ _ _ h.j (fun k G=>D.block k (by have:=F.hK k G;omega)),h.hv⟩
theorem kD.St.drew(D:C.Good)(h:C.St w v q s o):C.St w.drew v q s o :=
 ⟨h.bt,h.bo,h.bf,h.ba,h.br,h.tm.keep fun _ hR=>⟨hR,fun _=>rfl⟩,h.own,D.hJ _ _ _ h.j (fun _ _=>rfl),h.hv⟩
theorem kD.St.goOn(D:C.Good)(h:C.St w v q s o)(x:Int)(p:Nat)(hx:x=p):C.St (w.setCell ⟨C.H+5,0,I⟩ (O X x)) v p s o:=by
 subst hx;have z:=h.size;have F:∀g,v.ownBlock=Y g->g≠C.H+5:=fun g G=>by have:=(h.hv g G).2.2;omega
 refine⟨h.bt.far aD _,h.bo.far aD _,h.bf.far aD _,?_,h.br.far aD _,?_,?_,?_,h.hv⟩
 . have:=h.ba.set_ 0 (O X p);simpa using this
 . exact h.tm.keep fun b hR=>⟨hR,fun o=>aP (MH _ _ _ _ (by have:=(D.hR b hR).1;simp;omega)) o⟩
 . exact ownsRow_setCell_other h.own (fun e=>F _ e rfl) _
 exact D.hJ _ _ _ h.j fun k U=>MH _ _ _ _ (by have:=D.hK k U;simp;omega)
theorem kD.St.laid(z:C.Good)(h:C.St w v q s o)(F:w.grownBy w' v.ownBlock)(a0:bG w' C.base v' o')(hn:dD v v' w):C.St (w'.setCell ⟨C.H+1,0,I⟩ v') v' q s o':=by
 have a2:=h.size;have D:∀k,(C.KK k\/C.R k\/(C.H<=k/\k<C.H+7))->Y k≠v.ownBlock:=fun k G e=>by
  have:=h.hv k e.symm;rcases G with G|G|G
  . exact this.1 G
  . exact this.2.1 G
  omega
 have U:∀g,v'.ownBlock=Y g->¬ C.KK g/\¬ C.R g/\(g<C.H\/C.H+7<=g):=fun g F=>by
  rcases hn g F with h1|h1
  . exact h.hv g h1
  exact⟨fun x=>by have:=z.hK g x;omega,fun x=>by have:=(z.hR g x).1;omega,.inr aA⟩
 have a1:∀g,v'.ownBlock=Y g->g≠C.H+1:=fun g F=>by have:=(U g F).2.2;omega
 refine⟨(h.bt.grown F (D _ aA)).far aD _,?_,(h.bf.grown F (D _ aA)).far aD _,(h.ba.grown F (D _ aA)).far aD _,(h.br.grown F (D _ aA)).far aD _,?_,?_,?_,U⟩
 . have:=(h.bo.grown F (D _ aA)).set_ 0 v';simpa using this
 . refine h.tm.keep fun b hR=>⟨hR,fun o=>?_⟩;have:=(z.hR b hR).1;exact aP ((MH _ _ _ _ aG).trans (F.block b aA (D b (by simp[hR])))) o
 . exact ownsRow_setCell_other a0 (fun e=>a1 _ e rfl) _
 refine z.hJ _ _ _ h.j fun k G=>?_;have:=z.hK k G;exact (MH _ _ _ _ aG).trans (F.block k aA (D k (by simp[G])))
theorem kD.St.called(U:C.Good)(h:C.St w v q s o)(hm:aS C.S v.ownBlock w w')(z:bG w' C.base v' o')(hn:dD v v' w)(hj:C.J w' s'):C.St (w'.setCell ⟨C.H+1,0,I⟩ v') v' q s' o':=by
 have a1:=h.size;have G:∀k,(C.KK k\/C.R k\/(C.H<=k/\k<C.H+7))->Y k≠v.ownBlock:=fun k D e=>by
  have:=h.hv k e.symm;rcases D with D|D|D
  . exact this.1 D
  . exact this.2.1 D
  omega
 have hS:∀k,C.H<=k->¬ C.S k:=fun k D hs=>by have:=U.hK k (U.hS k hs);omega
 have F:∀g,v'.ownBlock=Y g->¬ C.KK g/\¬ C.R g/\(g<C.H\/C.H+7<=g):=fun g hg=>by
  rcases hn g hg with h1|h1
  . exact h.hv g h1
  exact⟨fun x=>by have:=U.hK g x;omega,fun x=>by have:=(U.hR g x).1;omega,.inr aA⟩
 have a0:∀g,v'.ownBlock=Y g->g≠C.H+1:=fun g hg=>by have:=(F g hg).2.2;omega
 have D:∀k,(C.H<=k/\k<C.H+7)->w'.heap[k]? = w.heap[k]?:=fun k D=>hm.block k aA (hS k D.1) (G k (by simp[D]));refine⟨(h.bt.same (D _ aA)).far aD _,?_,(h.bf.same (D _ aA)).far aD _,(h.ba.same (D _ aA)).far aD _,(h.br.same (D _ aA)).far aD _,?_,?_,?_,F⟩
 . have:=(h.bo.same (D _ aA)).set_ 0 v';simpa using this
 . refine h.tm.keep fun b hR=>⟨hR,fun o=>?_⟩;have h1:=U.hR b hR;exact aP ((MH _ _ _ _ aG).trans (hm.block b aA h1.2 (G b (by simp[hR])))) o
 . exact ownsRow_setCell_other z (fun e=>a0 _ e rfl) _
 refine U.hJ _ _ _ hj fun k D=>?_;have:=U.hK k D;exact MH _ _ _ _ aG
theorem kD.S_lt(D:C.Good){k:Nat}(G:C.H<=k):¬ C.S k:=fun F=>by have:=D.hK k (D.hS k F);omega
theorem kD.St.keep(D:C.Good)(h:C.St w v q s o)(U:aS C.S v.ownBlock w w'){k:Nat}(F:C.H<=k)(G:k<C.H+7):w'.heap[k]? = w.heap[k]?:=by
 have z:=h.size;exact U.block k aA (kD.S_lt D F) (fun e=>by have:=(h.hv k e.symm).2.2;omega)
theorem kD.St.rowKeep(_hG:C.Good)(h:C.St w v q s o)(F:w.grownBy w' v.ownBlock){k:Nat}(D:(C.H<=k/\k<C.H+7)\/(v.ownBlock≠Y k/\k<w.heap.size)):w'.heap[k]? = w.heap[k]?:=by
 have G:=h.size;rcases D with D|D
 . exact F.block k aA (fun e=>by have:=(h.hv k e.symm).2.2;omega)
 exact F.block k D.2 (fun e=>D.1 e.symm)
theorem kD.S'_new(D:C.Good){k:Nat}(G:C.H+7<=k):¬ C.S' k:=fun F=>by
 rcases F with h|h|h
 . have:=D.hK k (D.hS k h);omega
 . omega
 omega
theorem kD.S_S'(k:Nat)(h:C.S k):C.S' k:=.inl h
def kD.Post(C:kD σ)(w:OE)(v:Value)(o:List Nd)(D:Nat)(E:List Nd)(s':σ)(g:Bool)(e:Ending)(w':OE):Prop :=
 (g=true/\e=.returned (.tuple #[])/\aS C.S' v.ownBlock w w'/\∃v',C.St w' v' D s' (o++E)/\dD v v' w)\/(g=false/\e=.panicked C.pan/\aS C.S' v.ownBlock w w')
end
end
end Go.Proofs.Ytlahmbhimhmoaaa
