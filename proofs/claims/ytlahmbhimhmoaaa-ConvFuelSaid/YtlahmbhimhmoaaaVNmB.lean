/- Merged: CvX, WhI, NmA, NmB. -/
import Derived.Test.YtlahmbhimhmoaaaVCvT
namespace Go.Proofs.Ytlahmbhimhmoaaa
set_option maxHeartbeats 4000000
set_option maxRecDepth 100000
set_option linter.unusedVariables false
set_option linter.unusedSimpArgs false
open Go.RowKit
open Option renaming none → O
open Go.Value renaming slice → X
variable {w:OE}
section
open Go.Lib renaming hid->aB
def zF(g:Nat)(v:bA)(b:Bk)(cA:OC)(cn cc:Nat)(r:lV)(w:OE)(e:Ending)(w':OE):Prop:=aS (fun q=>q=g) O w w'/\((∃z f,r=.bad z/\e=.returned (.bool false)/\aW w' g 60 (wO v b cA cn cc f z))\/∃D k,r=.done D k/\e=.returned (.bool D)/\aW w' g 60 (wO v b cA cn cc (k:Int) 0))
def GB(w0:OE)(g:Nat)(v:bA)(b:Bk)(D:Nat):Prop:=∀(W:OE)(cA:OC)(cn cc:Nat)(cv:OD)(f:Nat)(u:Bool)(A:OC)(n c:Nat)(x:TT)(B:OC)(m d:Nat)(y:TT),lW w0 g v b cA cn cc cv f W->a6 (fun q=>q<W.heap.size/\q≠g) W A n c (aT x)->a6 (fun q=>q<W.heap.size/\q≠g) W B m d (aT y)->eZ b cv f x->eZ b cv f y->f<D->f<=100000 →
 Calls Try.prog 19 #[.pointer (some ⟨g,0,O⟩),X A n c,X B m d,.bool u] W (zF g v b cA cn cc (dJ b D cv u f x y) W)
structure tY (g:Nat) (w:OE) (A:OC) (n:Nat) (L:List TT):Prop where
 len:L.length=n
 at_:∀(W:OE),aS (fun q=>q=g) O w W->∀(i:Nat)(x:TT),L[i]? = some x->∃b off A1 n1 c1,A=some ⟨b,off,O⟩/\b<W.heap.size/\b≠g/\W.cell? ⟨b,off+i,O⟩=some (X A1 n1 c1)/\a6 (fun q=>q<W.heap.size/\q≠g) W A1 n1 c1 (aT x)
theorem aY{g:Nat}{D F:OE}(h:aS (fun q=>q=g) O w D)(G:aS (fun q=>q=g) O D F):aS (fun q=>q=g) O w F:=h.trans (row':=O) G (fun _ e=>by cases e)
theorem uG{F:List (List Nd)->Bool->Nat->TT->TT->lV}{D:Nat->List (List Nd)}{G:Nat->Bool}{i n:Nat}{x y:TT}{r s:List TT}:gD F D G i (x::r) (y::s) n=match F (D i) (G i) n x y with
 | .bad e=>.bad e
 | .done false m=>.done false m
 | .done true m=>gD F D G (i+1) r s m:=by
 simp only[gD];rfl
theorem uE{w0:OE}{g:Nat}{v:bA}{b:Bk}{cA:OC}{cn cc:Nat}{cv:OD}(hr:bD b=0){D:Nat}(H:GB w0 g v b D){f:Nat}(hw:lW w0 g v b cA cn cc cv f w)(hf:f<D)(d9:f<=100000){A:OC}{n c:Nat}{L:List TT}(hL:tY g w A n L){B:OC}{m d:Nat}{M:List TT}(hM:tY g w B m M)(d8:n=m)(e0:n<=5000)(b4:∀x∈L,eZ b cv f x)(b5:∀x∈M,eZ b cv f x):
 Calls Try.prog 28 #[.pointer (some ⟨g,0,O⟩),X A n c,X B m d] w (zF g v b cA cn cc (gD (dJ b D) (fun _=>cv) (fun _=>false) 0 L M f) w):=by
 obtain⟨a3,a0⟩:=OM (gD (dJ b D) (fun _=>cv) (fun _=>false) 0 L M f);rw[<-a0];obtain⟨b3,HL,HM,b2,d4,d5,d6,HH⟩:=OH a0 hL.at_ hM.at_ hL.len hM.len b4 b5 H;obtain⟨HW,HR⟩:=OF hw hr;subst d8;clear a0 hL hM b4 b5 H hw hr;go_in;go_wp2_with fail;go_loopw [10] (fun iv wr=>∃(i k:Nat),iv=.int .i64 (i:Int)/\i<=n/\k<=f/\Hid (gD (dJ b D) (fun _=>cv) (fun _=>false) i (L.drop i) (M.drop i) k=a3)/\Hid (lW w0 g v b cA cn cc cv k wr)/\Hid (aS (fun q=>q=g) O w wr)) (fun iv _=>n-(intOf iv).toNat)
 case atStart=>exact⟨0,f,rfl,by omega,MF _,aB b3.o.symm,HW,aB (aS.of_below (MC _ _))⟩
 case round =>
  obtain⟨i,k,rfl,hi,a1,a8,a6,a2⟩:=hrel;by_cases a7:i<n;case neg =>
   have e1:decide ((i:Int)<(n:Int))=false:=MA aA;have Y:Hid (a3=.done true k):=aB (by
    have:=a8.o;rw[NB (by rw[b2.o];omega)]at this;simp only[gD]at this;exact this.symm)
   go_wp2_with fail;go_ret;exact⟨a2.o,.inr ⟨true,k,Y.o,rfl,a6.o.blk⟩⟩
  have e1:decide ((i:Int)<(n:Int))=true:=MB aA;have e2:decide (i<n)=true:=MB a7;have c2:i<L.length:=by rw[b2.o];exact a7
  have c3:i<M.length:=by rw[d4.o];exact a7
  obtain⟨x,hx⟩:=OM (L[i]);obtain⟨y,hy⟩:=OM (M[i]);have a9:=d5.o x (by rw[hx];exact NO _);have b0:=d6.o y (by rw[hy];exact NO _);obtain⟨bx,ox,Ax,nx,cx,rfl,b6,c0,b8,c5⟩:=HL.o wr a2.o i x (by rw[hx];exact MI c2);obtain⟨d7,oy,Ay,ny,cy,rfl,b7,c1,b9,c6⟩:=HM.o wr a2.o i y (by rw[hy];exact MI c3);have s:=a8.o;rw[MT c2,MT c3,<-hx,<-hy,uG]at s;have Z:=fun (W:OE) (hB:OB wr W)=>HH.o W cA cn cc cv k false Ax nx cx x Ay ny cy y (a6.o.below hB) (c5.keep fun q s=>⟨⟨MD s.1 hB.size,s.2⟩,fun o=>hB.cell (p:=⟨q,o,O⟩) s.1⟩) (c6.keep fun q s=>⟨⟨MD s.1 hB.size,s.2⟩,fun o=>hB.cell (p:=⟨q,o,O⟩) s.1⟩) (a9.mono a1) (b0.mono a1) aA aA;have a4:=fun (is:Bool) (j:Nat) (h:dJ b D cv false k x y=.done is j)=>(jE HR.o D cv false k x y (a9.mono a1) (b0.mono a1) is j h).1;generalize dJ b D cv false k x y=rr at *;have HQ:=aB s;have HC:=aB Z;have HD:=aB a4;have d0:=aB b8;have d1:=aB b9;have c7:=aB b6;have c8:=aB b7;have d2:=aB c0;have d3:=aB c1;clear a8 hx hy a9 b0 b6 c0 b8 c5 b7 c1 b9 c6 s Z a4;go_wp2_with fail;refine wp_region_held_drew (S:=(fun w'=>aS (fun q=>q=g) O wr w')) aC ?_ (fun F=>?_)
  . (try dsimp only);exact aS.of_below (aU (MC _ _) 1)
  have b1:Hid (OB wr wr.drew):=aB (aU (MC _ _) 1);generalize wr.drew=W1 at *;refine wpAnyH_take (i:=0) (v:=?_) rfl aC aC aC (fun _ _ _ h=>h) (Or.inl ⟨by rfl,fun wq hSw=>?_⟩) F ?_;rotate_left
  . (go_simp;try with_reducible rfl)
  try simp only[p7]
  refine wpAnyH_take (i:=1) (v:=?_) rfl aC aC aC (fun _ _ _ h=>h) (Or.inl ⟨by rfl,fun wq hSw=>?_⟩) F ?_;rotate_left
  . (go_simp;try with_reducible rfl)
  try simp only[p7]
  refine wpAnyH_take (i:=2) (v:=?_) rfl aC aC aC (fun _ _ _ h=>h) (Or.inl ⟨by rfl,fun wq hSw=>?_⟩) F ?_;rotate_left
  . (go_simp;try with_reducible rfl)
  try simp only[p7]
  refine wpAnyH_take (i:=3) (v:=?_) rfl aC aC aC (fun _ _ _ h=>h) (Or.inl ⟨by rfl,fun wq hSw=>?_⟩) F ?_;rotate_left
  . (go_simp;try with_reducible rfl)
  try simp only[p7]
  refine tk 4 ?_ (fun wq hSw=>?_) F ?_;rotate_left
  . have zx:=(aP (hSw.block bx c7.o d2.o aD) (ox+i)).trans d0.o;go_simp;try with_reducible rfl
  try simp only[p7]
  refine wpAnyH_take (i:=5) (v:=?_) rfl aC aC aC (fun _ _ _ h=>h) (Or.inl ⟨by rfl,fun wq hSw=>?_⟩) F ?_;rotate_left
  . (go_simp;try with_reducible rfl)
  try simp only[p7]
  refine wpAnyH_take (i:=6) (v:=?_) rfl aC aC aC (fun _ _ _ h=>h) (Or.inl ⟨by rfl,fun wq hSw=>?_⟩) F ?_;rotate_left
  . (go_simp;try with_reducible rfl)
  try simp only[p7]
  refine wpAnyH_take (i:=7) (v:=?_) rfl aC aC aC (fun _ _ _ h=>h) (Or.inl ⟨by rfl,fun wq hSw=>?_⟩) F ?_;rotate_left
  . (go_simp;try with_reducible rfl)
  try simp only[p7]
  refine tk 8 ?_ (fun wq hSw=>?_) F ?_;rotate_left
  . have zy:=(aP (hSw.block d7 c8.o d3.o aD) (oy+i)).trans d1.o;go_simp;try with_reducible rfl
  try simp only[p7]
  refine r1 9 fun K hK=>?_;go_simp;go_at_call 19
  refine (HC.o _ b1.o).mono ?_;rintro e w3 ⟨c4,h4⟩;have U:=aB (aY (aS.of_below b1.o) c4);have a5:=aB (aY a2.o U.o);clear c4;rcases h4 with⟨z,f3,rfl,rfl,G⟩|⟨is,j,rfl,rfl,G⟩
  . have I:=aB G;clear G;go_wp2_with fail;refine hK.o _ _ (by exact U.o) fun F=>?_;clear hK K;try simp only[p7]
    refine aL 10 F ?_;refine wpAnyH_done aC ?_ _;have Y:Hid (a3=.bad z):=aB HQ.o.symm;go_wp2_with fail;go_ret;exact⟨a5.o,.inl ⟨z,f3,Y.o,rfl,I.o⟩⟩
  cases is with
  | false =>
   have I:=aB G;clear G;go_wp2_with fail;refine hK.o _ _ (by exact U.o) fun F=>?_;clear hK K;try simp only[p7]
   refine aL 10 F ?_;refine wpAnyH_done aC ?_ _;have Y:Hid (a3=.done false j):=aB HQ.o.symm;go_wp2_with fail;go_ret;exact⟨a5.o,.inr ⟨false,j,Y.o,rfl,I.o⟩⟩
  | true =>
   have I:=aB G;clear G;go_wp2_with fail;refine hK.o _ _ (by exact U.o) fun F=>?_;clear hK K;try simp only[p7]
   refine aL 10 F ?_;refine wpAnyH_done aC ?_ _;have HJ:=HD.o _ _ rfl;have c9:=aB (a6.o.moved U.o I.o);go_wp2_with fail;go_roundw
   case rel=>exact⟨i+1,j,by go_num,by omega,by omega,HQ,c9,a5⟩
   case measure=>simp[intOf];omega
end

section
theorem ER:(Try.prog.info? 54).map (fun i=>(i.zero,i.size,i.bytes))=some (some (.agg #[X O 0 0,X O 0 0]),2,48):=by kernel_rfl
theorem BL{A:OC}{n c:Nat}(I:n<=c)(D:A=O->c=0):
 Calls Try.prog 67 #[X A n c] w (fun e w'=>e=.returned (X A n n)/\w'=w):=by
 have G:(n:Int)<=(c:Int):=aA;have F:(0:Int)<=(n:Int):=aA;cases A with
 | none =>
  obtain rfl:c=0:=D rfl;obtain rfl:n=0:=aA;clear D;go_in;go_wp2_with fail;go_ret;exact⟨rfl,rfl⟩
 | some a =>
  clear D;go_in;go_wp2_with fail;go_ret;exact⟨rfl,rfl⟩
def dE:List Value->List Value
 | []=>[]
 | x::xs=>x::X O 0 0::dE xs
theorem pN:∀D,(dE D).length=D.length*2
 | []=>rfl
 | x::D=>by simp only[dE,MN,pN D];omega
theorem pM:∀(D:List Value)(x:Value),dE (D++[x])=dE D++[x,X O 0 0]
 | [],x=>rfl
 | y::ys,x=>by simp only[NN,dE,pM ys x]
theorem j3:∀(D:List Value)(k:Nat),k<D.length->(dE D)[k*2]? = D[k]?/\(dE D)[k*2+1]? = some (X O 0 0)
 | [],k,h=>by simp at h
 | x::D,0,_=>⟨rfl,rfl⟩
 | x::D,k+1,h=>by
  have:=j3 D k (by simpa using h);rw[show (k+1)*2=k*2+2 from by omega];simpa[dE] using this
theorem EU{g:Nat}{t:TypeId}{x y:Value}(h:aW w g t #[x,y]):∀D,some (⟨g,0,O⟩:Addr)=some D->∀j u,([x,y]:List Value)[j]? = some u->w.cell? (D.add j)=some u:=by
 intro D e j u G;injection e with e;subst e;have F:(⟨g,0,O⟩:Addr).add j=⟨g,j,O⟩:=by unfold Addr.add;split<;>simp_all
 rw[F,h.cell];simpa using G
end

end Go.Proofs.Ytlahmbhimhmoaaa
