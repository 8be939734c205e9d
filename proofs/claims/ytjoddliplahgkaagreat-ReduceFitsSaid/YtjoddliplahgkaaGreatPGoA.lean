/- Merged: Spi, WhP, GoA. -/
import Derived.Test.YtjoddliplahgkaaGreatPSenseM
namespace Go.Proofs.YtjoddliplahgkaaGreat
set_option linter.unusedVariables false
set_option linter.unusedSimpArgs false
open Go.RowKit
open Go.Value renaming int → O, slice → Y
open Go.IntKind renaming i64 → X
open Option renaming none → Z
open Go.Obj renaming cells → I
section
open Go.Lib renaming hid->aB
def DA:Nat->List Nd->Nd->Fo->List Nd×List (List Nd)
 | 0,t,_,_=>(t,[])
 | m+1,t,n,.cons _ n1 a1 k1 (.cons _ n2 a2 k2 _)=>if n.op=6 then ((DA m (n1::(a1++row k1)) n1 k1).1,(DA m (n1::(a1++row k1)) n1 k1).2++[n2::(a2++row k2)]) else (t,[])
 | _+1,t,_,_=>(t,[])
theorem DC {m:Nat} {t:List Nd} {n:Nd} {k:Fo} (h:n.op ≠ 6):DA m t n k=(t,[]):=by
 cases m with
 | zero=>rfl
 | succ m =>
  match k with
  | .nil=>rfl
  | .cons _ _ _ _ .nil=>rfl
  | .cons _ n1 a1 k1 (.cons _ n2 a2 k2 x)=>simp only[DA];rw[if_neg h]
theorem H9 {m:Nat} {t:List Nd} {n n1 n2:Nd} {a1 a2:List Nd} {k1 k2:Fo} (h:n.op=6):DA (m+1) t n (.cons [] n1 a1 k1 (.cons [] n2 a2 k2 .nil))=((DA m (n1::(a1++row k1)) n1 k1).1,(DA m (n1::(a1++row k1)) n1 k1).2++[n2::(a2++row k2)]):=by
 simp only[DA];rw[if_pos h]
def mX (t:List Nd):List Nd×List (List Nd):=if a8 t=0 then DA t.length t (sC t).1 (sC t).2 else ([],[])
theorem FS {t:List Nd} {n:Nd} {a:List Nd} {k:Fo} (h:Rt t n a k):sC t=(n,k):=by
 unfold sC;rw[if_pos h.shape,h.pp]
def QN (q:List Nd×List (List Nd)) (w:World) (e:Ending) (w':World):Prop:=Below w.heap.size w w'/\∃A n c B m d xs,e=.returned (.tuple #[Y A n c,Y B m d])/\bJ (iS w.heap.size w' (Y B m d)) w' A n c q.1/\w'.ownsRow w.heap.size 29 1 (Y B m d) m xs/\bS (iS w.heap.size w' (Y B m d)) w' xs q.2
theorem bS.rev {S:Nat->Prop} {w:World} : ∀{xs:List Value} {ls:List (List Nd)},bS S w xs ls->bS S w xs.reverse ls.reverse
 | [],[],_=>trivial
 | [],_::_,h=>h.elim
 | _::_,[],h=>h.elim
 | x::xs,l::ls,h=>by
  obtain⟨⟨A,n,c,rfl,ht⟩,h2⟩:=h;rw[List.reverse_cons,List.reverse_cons];exact bS.add ht h2.rev
theorem r8 {S:Nat->Prop} {w:World} : ∀{xs:List Value} {ls:List (List Nd)},bS S w xs ls->∀x ∈ xs,∃A' n' c',x=Y A' n' c'
 | [],[],_=>fun x hx=>by cases hx
 | [],_::_,h=>h.elim
 | _::_,[],h=>h.elim
 | x::xs,l::ls,h=>fun y hy=>by
  obtain⟨⟨A,n,c,e,_⟩,h2⟩:=h;rcases List.mem_cons.1 hy with rfl | hy
  · exact⟨A,n,c,e⟩
  · exact r8 h2 y hy
set_option maxRecDepth 100000 in
set_option maxHeartbeats 4000000 in
theorem KA {A:Option Addr} {n c:Nat} {t:List Nd} {w:World} (h:aY w A n c t) :
 Calls Tryz.prog 75 #[Y A n c] w (QN (mX t) w):=by
 have e2:=aB (dP h);by_cases hs:a8 t=0;rotate_left
 · have HQ:Hid (mX t=([],[])):=aB (by unfold mX;rw[if_neg hs]);have hz:(a8 t != 0)=true:=by simpa using hs
   generalize a8 t=z at *;clear hs h;go_in;go_wp2_with fail;refine (e2.o).mono ?_;rintro e w2 ⟨rfl,c2⟩;have e6:=aB c2;clear c2;go_wp2_with fail;go_ret2;rw[HQ.o];exact⟨e6.o,Z,0,0,Z,0,0,[],rfl,⟨rfl,Nat.le_refl _,Nat.zero_le _,fun _=>rfl,fun h=>absurd h aE⟩,World.ownsRow_nil _ _ _ _,trivial⟩
 obtain⟨i1,f2,b8,b7,b6⟩:=info_parts BX;have h2:=aB f2;have g3:=aB b8;have g2:=aB b7;have g1:=aB b6;clear f2 b8 b7 b6;obtain⟨n0,a0,k0,b3⟩:=H5 hs;have b2:mX t=DA t.length t n0 k0:=by unfold mX;rw[if_pos hs,FS b3]
 obtain⟨m,hm⟩ : ∃m,m=t.length:=⟨_,rfl⟩;have i2:m<=4096:=by rw[hm];exact b3.few
 rw[<-hm] at b2;obtain⟨F,L,e0⟩ : ∃F L,DA m t n0 k0=(F,L):=⟨_,_,rfl⟩;rw[e0] at b2;have g6:=aB b2;have g7:=aB b3;have h3:=aB e0;have HM:=aB hm;have HT:=aB h;rw[hs] at e2;clear hs b3 b2 e0 hm h;go_in;go_wp2_with fail;refine (e2.o).mono ?_;rintro e w2 ⟨rfl,c2⟩;have e6:=aB c2;clear c2;have i0:n<=4096:=by have:=HT.o.len;have:=HM.o;omega
 go_wp2_with fail;go_loopw [0,4] (fun tv av wr=>∃(m' n' c' j d:Nat) (A' B:Option Addr) (tc:List Nd) (n1:Nd) (a1:List Nd) (k1:Fo) (xs:List Value) (ls:List (List Nd)),tv=Y A' n' c'/\av=Y B j d/\j+n'<=4096/\Hid (Rt tc n1 a1 k1)/\Hid (tc.length<=m')/\Hid ((DA m' tc n1 k1).1=F/\(DA m' tc n1 k1).2++ls.reverse=L)/\Hid (∀w',Below w.heap.size w w'->aY w' A' n' c' tc)/\Hid (wr.ownsRow w.heap.size 29 1 (Y B j d) j xs)/\Hid (bS (iS w.heap.size wr (Y B j d)) wr xs ls)/\Hid (Below w.heap.size w wr)) (fun tv _ _=>GT tv)
 case atStart=>exact⟨m,n,c,0,0,A,Z,t,n0,a0,k0,[],[],rfl,rfl,by omega,g7,aB (by rw[HM.o];exact Nat.le_refl _),aB (by rw[h3.o];exact⟨rfl,by simp⟩),aB (fun w' hb=>HT.o.below hb),aB (World.ownsRow_nil _ _ _ _),aB trivial,e6⟩
 case round =>
  obtain⟨m',n',c',j,d,A',B,tc,n1,a1,k1,xs,ls,rfl,rfl,i3,b3,f1,b2,c8,b4,a4,d0⟩:=hrel;have d1:=aB (c8.o _ d0.o);have a9:=d1.o.len;have d7:=b3.o.eq;have g0:0<n':=by rw[<-a9,d7];simp
  have d8:=d1.o.cap;obtain⟨b,off,rfl,hb,f7,_,_⟩:=d1.o.at_ g0;rw[Nat.zero_mul,Nat.add_zero,show bD tc 0=n1 from by rw[d7];rfl] at f7;have f8:=d0.o.size;clear d7;by_cases h6:n1.op=6;rotate_left
  · have i4:(n1.op==6)=false:=by simpa using h6
    have HE:Hid (mX t=(tc,ls.reverse)):=aB (by
     have h1:=b2.o;rw[DC h6] at h1;rw[g6.o,<-h1.1,<-h1.2];simp)
    have e7:∀x ∈ xs,∃A' n' c',x=Y A' n' c':=r8 a4.o;have e3:=aB (CY b4.o aA e7);generalize n1.op=op at *;clear h6 e7 a9;go_wp2_with fail;refine (e3.o).mono ?_;rintro e w3 ⟨rfl,f0,c9⟩;have b5:=aB (d0.o.grown c9 f8 (fun g hg=>(aU b4.o hg).1));have e5:Hid (bS (iS w.heap.size w3 (Y B j d)) w3 xs.reverse ls.reverse):=aB (bS.keep (fun q hq=>⟨⟨hq.1,Nat.lt_of_lt_of_le hq.2.1 c9.size,hq.2.2⟩,fun o=>aQ (c9.block q hq.2.1 (fun e=>hq.2.2 e.symm)) o⟩) a4.o.rev);have c6:=aB f0;have h5:=aB (qM (c8.o _ b5.o));clear f0 c9;go_wp2_with fail;refine (h5.o).mono ?_;rintro e w4 ⟨a7,A4,n4,c4,rfl,b9⟩;have d3:=bZ b5 a7;have d2:=aB (cB c6.o a7);have e4:=aB (bS.keep (S':=iS w.heap.size w4 (Y B j d)) (w':=w4) (fun q hq=>⟨⟨hq.1,Nat.lt_of_lt_of_le hq.2.1 a7.size,hq.2.2⟩,fun o=>a7.cell (p:=⟨q,o,Z⟩) hq.2.1⟩) e5.o);have e1:Hid (bJ (iS w.heap.size w4 (Y B j d)) w4 A4 n4 c4 tc):=aB (b9.keep fun q hq=>⟨⟨Nat.le_trans b5.o.size hq.1,hq.2,fun e=>by have:=(aU c6.o e).2.1;have:=hq.1;omega⟩,fun _=>rfl⟩);clear a7 b9;go_wp2_with fail;go_ret2;rw[HE.o];exact⟨d3.o,A4,n4,c4,B,j,d,xs.reverse,rfl,e1.o,d2.o,e4.o⟩
  obtain⟨nx,ax,kx,ny,ay,ky,rfl,b1⟩:=IJ b3.o h6;obtain⟨r1,e9⟩ : ∃r1,r1=nx::(ax++row kx):=⟨_,rfl⟩;obtain⟨r2,d5⟩ : ∃r2,r2=ny::(ay++row ky):=⟨_,rfl⟩;obtain⟨d6,f3,hq,b0⟩:=b1;cases m' with
  | zero=>have:=f1.o;rw[hq] at this;simp at this
  | succ m' =>
  have a3:=b2.o;rw[H9 h6] at a3;rw[<-e9] at d6 hq b0 a3;rw[<-d5] at f3 hq a3;obtain⟨p,hp⟩ : ∃p,p=1+r1.length:=⟨_,rfl⟩;rw[<-hp] at b0;have f9:n'=p+r2.length:=by rw[<-a9,hq,hp];simp;omega
  have d4:0<r2.length:=by rw[d5];simp
  have f4:tc.drop p=r2:=by rw[hq,hp,Nat.add_comm,List.drop_succ_cons,List.drop_left]
  have f5:(tc.take p).drop 1=r1:=by rw[hq,hp,Nat.add_comm,List.take_succ_cons,List.drop_succ_cons,List.drop_zero,List.take_left]
  obtain⟨A2,f6,a6⟩:=kV (some ⟨b,off,Z⟩) n' c' p aA;obtain⟨A3,c0,a5⟩:=yX (some ⟨b,off,Z⟩) n' c' 1 p aA aA d8;rw[show ((1:Nat):Int)=1 from rfl] at c0;have g5:Hid (∀w',Below w.heap.size w w'->aY w' A2 (n'-p) (c'-p) r2):=aB fun w' h=>by
   have:=a6 _ _ _ (c8.o w' h)
   rwa [f4] at this
  have g4:Hid (∀w',Below w.heap.size w w'->aY w' A3 (p-1) (c'-1) r1):=aB fun w' h=>by
   have:=a5 _ _ _ (c8.o w' h)
   rwa [f5] at this
  have c7:=aB (jM d1.o 1);rw[b0] at c7;have h4:=aB d6;have c3:=aB a3;have h0:Hid (r1.length<=m'):=aB (by have:=f1.o;rw[hq] at this;simp at this;omega);have h9:1<=p:=aA;have h8:p<n':=aA;clear d6 f3 hq b0 a3 e9 d5 hp f9 d4 f5 f4 a6 a5 a9;rw[h6] at f7;clear h6;go_wp2_with fail;refine (c7.o).mono ?_;rintro e w3 ⟨rfl,c1⟩;have b5:=aB (d0.o.trans (c1.mono f8));have c6:=aB (cB b4.o c1);have e5:=aB (bS.keep (S':=iS w.heap.size w3 (Y B j d)) (w':=w3) (fun q hq=>⟨⟨hq.1,Nat.lt_of_lt_of_le hq.2.1 c1.size,hq.2.2⟩,fun o=>c1.cell (p:=⟨q,o,Z⟩) hq.2.1⟩) a4.o);clear c1;go_wp2_with fail;refine (qM (g5.o _ b5.o)).mono ?_;rintro e w4 ⟨a7,A4,n4,c4,rfl,b9⟩;have d3:=bZ b5 a7;have d2:=aB (cB c6.o a7);have e4:=aB (bS.keep (S':=iS w.heap.size w4 (Y B j d)) (w':=w4) (fun q hq=>⟨⟨hq.1,Nat.lt_of_lt_of_le hq.2.1 a7.size,hq.2.2⟩,fun o=>a7.cell (p:=⟨q,o,Z⟩) hq.2.1⟩) e5.o);have e1:Hid (bJ (iS w.heap.size w4 (Y B j d)) w4 A4 n4 c4 r2):=aB (b9.keep fun q hq=>⟨⟨Nat.le_trans b5.o.size hq.1,hq.2,fun e=>by have:=(aU c6.o e).2.1;have:=hq.1;omega⟩,fun _=>rfl⟩);have d9:=d3.o.size;clear a7 b9;go_wp2_with (at_builtin;go_loud (refine bL rfl (jC (.tmp 16) (.tmp 21) 47 29 rfl w.heap.size i1 _ 24 Tryz.underlying47 h2.o g3.o g2.o g1.o rfl aE (Y B j d) j xs (Y A4 n4 c4) rfl w4 rfl rfl d2.o _ rfl rfl aA aA ?_));intro A5 c5 w5 a2)
  have e8:=a2.grown.size;have g9:=aB a2.own;have h7:=aB (d3.o.grown a2.grown d9 (fun g hg=>(aU d2.o hg).1));have g8:Hid (bS (iS w.heap.size w5 (Y A5 (j+1) c5)) w5 (xs++[Y A4 n4 c4]) (ls++[r2])):=aB (bS.keep (fun q hq=>⟨⟨hq.1,Nat.lt_of_lt_of_le hq.2.1 e8,fun e=>by
   rcases a2.new q e with h1 | h1
   · exact hq.2.2 h1
   have:=hq.2.1;omega⟩,fun o=>aQ (a2.grown.block q hq.2.1 (fun e=>hq.2.2 e.symm)) o⟩) (bS.add e1.o e4.o))
  clear a2 e8;go_wp2_with fail;go_roundw
  case rel=>exact⟨m',p-1,c'-1,j+1,c5,A3,A5,r1,nx,ax,kx,xs++[Y A4 n4 c4],ls++[r2],rfl,rfl,by omega,h4,h0,aB ⟨c3.o.1,by rw[<-c3.o.2];simp⟩,g4,g9,g8,h7⟩
  case measure=>simp only[GT];omega
end
abbrev Fc:=TT×List TT
def bT:List TT->Nat
 | []=>0
 | a::r=>1+bI a+bT r
def dK (f:Fc):Nat:=bI f.1+bT f.2
def eG (f:TT) (L:List TT):TT:=L.foldl gF f
def fI (f:Fc):TT:=eG f.1 f.2
theorem nF:∀(L M:List TT),bT (L++M)=bT L+bT M
 | [],M=>by simp[bT]
 | a::r,M=>by simp only[List.cons_append,bT,nF r M];omega
theorem AU (f:TT) (L M:List TT):eG f (L++M)=eG (eG f L) M:=List.foldl_append ..
theorem wC (f:TT) (L:List TT) (a:TT):eG f (L++[a])=gF (eG f L) a:=by rw[AU];rfl
theorem pH:∀(L:List TT) (f:TT),bI (eG f L)=bI f+bT L
 | [],f=>rfl
 | a::r,f=>by
  show bI (eG (gF f a) r)=_;rw[pH r,yM];simp only[bT];omega
theorem fY (f:Fc):bI (fI f)=dK f:=pH _ _
theorem qY (x a:TT):bU (gF x a)=((bU x).1,(bU x).2++[a]):=GR (n:=⟨6,0,0⟩) rfl
theorem pR:∀(L:List TT) (x:TT),bU (eG x L)=((bU x).1,(bU x).2++L)
 | [],x=>by simp[eG]
 | a::r,x=>by
  show bU (eG (gF x a) r)=_;rw[pR r,qY];simp
theorem BV {f:Fc} (h:f.1.1.op ≠ 6):bU (fI f)=f:=by
 unfold fI;rw[pR,pS h];rfl
theorem LA {b:Bk} {free:Int} {x:TT} (h:bR b free x) (h6:x.1.op=6) : ∃f a,x=gF f a/\bR b free f/\bR b free a/\bI x=1+bI f+bI a:=by
 obtain⟨n,at_,k⟩:=x;have hn:n=⟨6,0,0⟩:=AS h.okt.ok h6;have a4:at_=[]:=by
  have h1:=h.okt.at_;unfold iR at h1;have a5:n.op=6:=h6;rw[if_neg (by show ¬ n.op=2;omega)] at h1;exact h1
 subst hn a4;have a0:=h.okt.wf;have a3:ds ⟨6,0,0⟩=[false,false]:=rfl;simp only at a0;rw[a3] at a0
 match k,a0 with
 | .cons p n1 a1 k1 (.cons q n2 a2 k2 .nil),⟨hp,_,_,_,hq,_,_,_,_⟩ =>
  simp only at hp hq;subst hp hq;refine⟨(n1,a1,k1),(n2,a2,k2),rfl,h.kid0 (i:=0) rfl (show aR 6 0 ((0:Nat):Int)=0 by decide),h.kid0 (i:=1) rfl (show aR 6 0 ((1:Nat):Int)=0 by decide),?_⟩;exact yM (n1,a1,k1) (n2,a2,k2)
structure eH (b:Bk) (free:Int) (f:Fc):Prop where
 head:bR b free f.1
 ne:f.1.1.op ≠ 6
 args:∀a ∈ f.2,bR b free a
theorem y8 {b:Bk} {free:Int} : ∀(s:Nat) (x:TT),bI x<=s->bR b free x->eH b free (bU x)/\dK (bU x)=bI x/\fI (bU x)=x
 | 0,(n,a,k),h,_=>by rw[dL] at h;omega
 | s+1,x,h,hf=>by
  by_cases h6:x.1.op=6
  · obtain⟨f,a,rfl,h1,h2,h3⟩:=LA hf h6;obtain⟨g1,g2,g3⟩:=y8 s f aA h1;rw[qY];refine⟨⟨g1.head,g1.ne,fun y hy => ?_⟩,?_,?_⟩
    · rcases List.mem_append.1 hy with hy | hy
      · exact g1.args y hy
      rw[List.mem_singleton.1 hy];exact h2
    · unfold dK at g2 ⊢;simp only[nF,bT];omega
    unfold fI at g3 ⊢;simp only;rw[wC,g3]
  · rw[pS h6];exact⟨⟨hf,h6,fun y hy=>by cases hy⟩,by simp[dK,bT],rfl⟩
theorem kI {b:Bk} {free:Int} {x:TT} (hf:bR b free x):eH b free (bU x):=(y8 _ x (Nat.le_refl _) hf).1
theorem dJ {b:Bk} {free:Int} {x:TT} (hf:bR b free x):dK (bU x)=bI x:=(y8 _ x (Nat.le_refl _) hf).2.1
theorem nH {b:Bk} {free:Int} {x:TT} (hf:bR b free x):fI (bU x)=x:=(y8 _ x (Nat.le_refl _) hf).2.2
theorem nE {b:Bk} {free:Int} : ∀(L:List TT) (x:TT),bR b free x->(∀a ∈ L,bR b free a)->bI x+bT L<=4096->bR b free (eG x L)
 | [],x,hx,_,_=>hx
 | a::r,x,hx,hL,hs=>by
  simp only[bT] at hs;exact nE r (gF x a) (OI hx (hL a aD) aA) (fun y hy=>hL y (by simp[hy])) (by rw[yM];omega)
theorem eH.fit {b:Bk} {free:Int} {f:Fc} (h:eH b free f) (hs:dK f<=4096):bR b free (fI f):=nE _ _ h.head h.args hs
theorem AV:∀(L:List TT) (x:TT),aW (eG x L)=List.replicate L.length ⟨6,0,0⟩++(aW x++(L.map aW).flatten)
 | [],x=>by simp[eG]
 | a::r,x=>by
  show aW (eG (gF x a) r)=_;rw[AV r];have er:aW (gF x a)=⟨6,0,0⟩::(aW x++aW a):=by simp[gF,aW,row]
  rw[er,List.length_cons,List.replicate_succ'];simp
def gG (t:TT) (L:List TT):Option Fc:=if 4096<bI t+bT L then Z else some ((bU t).1,(bU t).2++L)
theorem j7 {b:Bk} {free:Int} {t:TT} {L:List TT} {f:Fc} (ht:bR b free t) (hL:∀a ∈ L,bR b free a) (h:gG t L=some f):eH b free f/\dK f=bI t+bT L/\dK f<=4096/\f=bU (eG t L):=by
 unfold gG at h;split at h
 · cases h
 injection h with h;subst h;have g:=kI ht;have g2:=dJ ht;have e:dK ((bU t).1,(bU t).2++L)=bI t+bT L:=by
  unfold dK at g2 ⊢;simp only[nF];omega
 refine⟨⟨g.head,g.ne,fun y hy => ?_⟩,e,by omega,(pR L t).symm⟩;rcases List.mem_append.1 hy with hy | hy
 · exact g.args y hy
 exact hL y hy
def jG (cv:List (List Nd)) (a:Int):List Nd:=cv.getD (cv.length-1-a.toNat) []
def eS (b:Bk) (n:Nd) (s:Fc):Bool:=s.1.1.op==10&&(s.1.1.a==n.a&&(decide (s.1.1.b<n.b)&&s.2.length==(bK b n.a).params.length+((bK b n.a).ctors.getD s.1.1.b.toNat default).args.length))
def eQ (x:TT) (i:Nat):TT:=(cI x.2.2).getD i (default,[],.nil)
def bW (b:Bk) (cv:List (List Nd)) (f:Fc):Bool :=
 if f.1.1.op=5 then decide (0<f.2.length)
 else if f.1.1.op=7\/f.1.1.op=8 then true
 else if f.1.1.op=1 then decide (0<(jG cv f.1.1.a).length)
 else if f.1.1.op=11 then eS b f.1.1 (bU (eQ f.1 1))
 else if f.1.1.op=12 then decide ((dA f.1).toNat<f.2.length)&&((bU (f.2.getD (dA f.1).toNat (default,[],.nil))).1.1.op==10)
 else false
def rO (h:TT):Nat->TT->Option TT
 | 0,x=>some x
 | i+1,x=>if (cH x (i5 (eD h i) (i:Int))).2=0 then rO h i (cH x (i5 (eD h i) (i:Int))).1 else Z
def qH (h:TT):Option TT:=rO h h.1.b.toNat (eQ h (2*h.1.a.toNat+1))
def jD (b:Bk) (cv:List (List Nd)) (f:Fc):Option Fc :=
 if f.1.1.op=5 then (if (cH (eQ f.1 1) (f.2.getD 0 (default,[],.nil))).2=0 then gG (cH (eQ f.1 1) (f.2.getD 0 (default,[],.nil))).1 (f.2.drop 1) else Z)
 else if f.1.1.op=7 then (if (cH (eQ f.1 2) (eQ f.1 1)).2=0 then gG (cH (eQ f.1 2) (eQ f.1 1)).1 f.2 else Z)
 else if f.1.1.op=1 then gG (i5 (cP (jG cv f.1.1.a)) (f.1.1.a+1)) f.2
 else if f.1.1.op=8 then gG (cP (bK b f.1.1.a).body) f.2
 else if f.1.1.op=11 then gG (eQ f.1 (2+(bU (eQ f.1 1)).1.1.b.toNat)) ((bU (eQ f.1 1)).2.drop (bK b f.1.1.a).params.length++f.2)
 else match qH f.1 with
  | none=>Z
  | some y=>gG y f.2
def cS (f:Fc):Option TT :=
 if f.1.1.op=11 then some (eQ f.1 1)
 else if f.1.1.op=12 then (if (dA f.1).toNat<f.2.length then some (f.2.getD (dA f.1).toNat (default,[],.nil)) else Z)
 else Z
def fN:Fo->TT->Fo
 | .cons p n a k (.cons q _ _ _ r),t=>.cons p n a k (.cons q t.1 t.2.1 t.2.2 r)
 | F,_=>F
def dU (f:Fc) (p:TT):Fc:=if f.1.1.op=11 then ((f.1.1,f.1.2.1,fN f.1.2.2 p),f.2) else (f.1,f.2.set (dA f.1).toNat p)
inductive RJ
 | no
 | big
 | yes (f:Fc)
def pD (b:Bk) (cv:List (List Nd)):Nat->Fc->Int->RJ
 | 0,_,_=>.big
 | g+1,f,room =>
  if bW b cv f=true then
   match jD b cv f with
   | none=>.big
   | some y=>if room<(dK y:Int) then .big else .yes y
  else match cS f with
   | none=>.no
   | some p=>match pD b cv g (bU p) (room-dK f+bI p) with
    | .no=>.no
    | .big=>.big
    | .yes y=>.yes (dU f (fI y))
inductive P8
 | bad (e:Int)
 | done (f:Fc) (n:Nat)
def mD (b:Bk) (cv:List (List Nd)):Nat->Nat->Fc->Int->P8
 | 0,_,_,_=>.bad 99
 | g+1,n,f,room =>
  match (match cS f with
   | none=>P8.done f n
   | some p=>match mD b cv g n (bU p) (room-dK f+bI p) with
    | .bad e=>.bad e
    | .done y m=>.done (dU f (fI y)) m) with
  | .bad e=>.bad e
  | .done f n =>
   if bW b cv f=true then
    if n=0 then .bad 10
    else match jD b cv f with
     | none=>.bad 9
     | some y=>if room<(dK y:Int) then .bad 9 else mD b cv g (n-1) y room
   else .done f n
section
open Go.Lib renaming hid->aB
theorem QQ {R:Nat->Prop} {W:World} {tx ta:iE} {x a:TT} {g:Nat} (hx:dX R W tx x) (ha:dX R W ta a) (hb:W.heap[g]? = some (I (#[O X x.1.op,O X x.1.a,O X x.1.b,Y tx.Ak tx.nk tx.ck,Y tx.Aa tx.na tx.ca,Y tx.Af tx.nf tx.cf,O X a.1.op,O X a.1.a,O X a.1.b,Y ta.Ak ta.nk ta.ck,Y ta.Aa ta.na ta.ca,Y ta.Af ta.nf ta.cf]) 85)) (hg:R g):dX R W ⟨some ⟨g,0,Z⟩,2,2,Z,0,0,Z,0,0⟩ (gF x a):=by
 have ho:W.ownsRow g 85 6 (Y (some ⟨g,0,Z⟩) 2 2) (bF (gH [x,a])) [O X x.1.op,O X x.1.a,O X x.1.b,Y tx.Ak tx.nk tx.ck,Y tx.Aa tx.na tx.ca,Y tx.Af tx.nf tx.cf,O X a.1.op,O X a.1.a,O X a.1.b,Y ta.Ak ta.nk ta.ck,Y ta.Aa ta.na ta.ca,Y ta.Af ta.nf ta.cf]:=⟨by simp[gR],.inr ⟨g,2,_,rfl,Nat.le_refl _,hb,by rw[gR];simp,by unfold maxLen;omega,rfl,rfl⟩⟩;have hf:kP R W (gH [x,a]) [O X x.1.op,O X x.1.a,O X x.1.b,Y tx.Ak tx.nk tx.ck,Y tx.Aa tx.na tx.ca,Y tx.Af tx.nf tx.cf,O X a.1.op,O X a.1.a,O X a.1.b,Y ta.Ak ta.nk ta.ck,Y ta.Aa ta.na ta.ca,Y ta.Af ta.nf ta.cf]:=⟨[_,_,_,_,_,_],[_,_,_,_,_,_],rfl,hx,⟨[_,_,_,_,_,_],[],rfl,ha,rfl⟩⟩;obtain⟨A',n',c',e,hk⟩:=hP ho hf (fun q hq=>by injection hq with hq;rw[<-hq];exact hg);injection e with e1 e2 e3;subst e1 e2 e3;exact⟨_,_,_,rfl,⟨_,_,_,rfl,hk⟩,gE.nil _ _,gE.nil _ _⟩
theorem ME {L:List TT} {j:Nat} (h:j<L.length):L.take (j+1)=L.take j++[cU (gH L) j]:=by
 have e:cU (gH L) j=L[j]:=by
  unfold cU;rw[tP,List.getD_eq_getElem?_getD,List.getElem?_eq_getElem h];rfl
 rw[e,List.take_add_one,List.getElem?_eq_getElem h];rfl
theorem vT {w:World} {g:Nat} {c0 c1 c2 c3 c4 c5:Value} {tmps:Array Value} (h:aS w g 85 #[c0,c1,c2,c3,c4,c5]) (ht:tmps.getD 4 undef=.pointer (some ⟨g,0,Z⟩)) :
 (results Tryz.f81 tmps).run Tryz.prog w=.ok (.agg #[c0,c1,c2,c3,c4,c5]) w:=by
 have hc:=h.cell;have a0:tmps[4]?.getD undef=.pointer (some ⟨g,0,Z⟩):=by rw[<-ht];simp
 simp[results,Tryz.results81,go_sem,a0,hc]
set_option maxRecDepth 100000 in
set_option maxHeartbeats 4000000 in
theorem gM {w:World} {R:Nat->Prop} {t:iE} {x:TT} {B:Option Addr} {m d:Nat} {L:List TT} (hR:∀b,R b->b<w.heap.size) (ht:dX R w t x) (hk:dM R w B m d (gH L)) (hm:m<=1000000) :
 Calls Tryz.prog 81 #[.agg (bH t x.1),Y B m d] w (OH R w (eG x L)):=by
 have b0:m=L.length:=by rw[<-hk.len,gR]
 obtain⟨V0,c2⟩ : ∃V0:World,V0.heap.size=w.heap.size+2:=⟨(w.alloc (I #[O X 0,O X 0,O X 0,Y Z 0 0,Y Z 0 0,Y Z 0 0] 85)).alloc (I #[O X 0,O X 0,O X 0,Y Z 0 0,Y Z 0 0,Y Z 0 0] 85),by simp⟩;have HR:=aB hR;have HK:=aB hk;have d3:=aB b0;have HV:=aB c2;have c3:Hid (dX (bB R V0 ((w.alloc (I (bH t x.1) 85)).alloc (I #[O X 0,O X 0,O X 0,Y Z 0 0,Y Z 0 0,Y Z 0 0] 85))) ((w.alloc (I (bH t x.1) 85)).alloc (I #[O X 0,O X 0,O X 0,Y Z 0 0,Y Z 0 0,Y Z 0 0] 85)) t x):=aB (ht.keep fun q hq=>⟨Or.inl hq,fun o=>(a7 w (I (bH t x.1) 85) (I #[O X 0,O X 0,O X 0,Y Z 0 0,Y Z 0 0,Y Z 0 0] 85)).cell (p:=⟨q,o,Z⟩) (hR q hq)⟩);have HE:Hid (x=eG x (L.take 0)):=aB rfl;obtain⟨y0,b2⟩ : ∃y,y=eG x L:=⟨_,rfl⟩;rw[<-b2];have a3:Hid (y0=eG x (L.take L.length)):=aB (by rw[List.take_length];exact b2);have c4:=aB (a7 w (I (bH t x.1) 85) (I #[O X 0,O X 0,O X 0,Y Z 0 0,Y Z 0 0,Y Z 0 0] 85));have b6:Hid (∀j,j<L.length->eG x (L.take (j+1))=gF (eG x (L.take j)) (cU (gH L) j)):=aB (fun j hj=>by rw[ME hj,wC]);obtain⟨Q,hQ⟩ : ∃Q:Nat->TT,Q=fun j=>eG x (L.take j):=⟨_,rfl⟩
 replace HE:Hid (x=Q 0):=aB (by rw[hQ];exact HE.o)
 replace a3:Hid (y0=Q m):=aB (by rw[hQ,b0];exact a3.o)
 replace b6:Hid (∀j,j<m->Q (j+1)=gF (Q j) (cU (gH L) j)):=aB (by rw[hQ,b0];exact b6.o)
 clear b2 hQ b0 ht hk c2 hR;obtain⟨⟨xo,xa,xb⟩,xat,xk⟩:=x;obtain⟨Ak,nk,ck,Aa,na,ca,Af,nf,cf⟩:=t;show Calls Tryz.prog 81 #[.agg #[O X xo,O X xa,O X xb,Y Ak nk ck,Y Aa na ca,Y Af nf cf],Y B m d] w _;go_in;go_wp2_with fail;go_loopw [5] (fun iv wr=>∃(j:Nat) (y:TT) (t':iE),iv=O X (j:Int)/\j<=m/\Hid (y=Q j)/\Hid (dX (bB R V0 wr) wr t' y)/\Hid (aS wr w.heap.size 85 (bH t' y.1))/\Hid (aS wr (w.heap.size+1) 85 #[O X 0,O X 0,O X 0,Y Z 0 0,Y Z 0 0,Y Z 0 0])/\Hid (Below w.heap.size w wr)) (fun iv _=>(((m:Int)-intOf iv)).toNat)
 case atStart=>exact⟨0,((⟨xo,xa,xb⟩:Nd),xat,xk),⟨Ak,nk,ck,Aa,na,ca,Af,nf,cf⟩,rfl,Nat.zero_le _,HE,c3,aB ((aS.new _ _ _).alloc _),aB (aS.new' aD),c4⟩
 case round =>
  clear HE c3 c4;obtain⟨j,⟨⟨yo,ya,yb⟩,yat,yk⟩,⟨Ck,pk,ek,Ca,pa,ea,Cf,pf,ef⟩,rfl,hj,b8,b9,a8,a6,a0⟩:=hrel;simp only at a8;have a5:=a8.o.lt;by_cases hjm:j<m;rotate_left
  · have dl:decide ((j:Int)<(m:Int))=false:=decide_eq_false aA;obtain rfl:j=m:=aA;have zy:=aS.cell a8.o;have zz:=aS.cell a6.o;have zf:=aS.frozen a6.o;clear hjm hj;go_wp2_with fail;refine bodyPost_ret (v:=.agg #[O X yo,O X ya,O X yb,Y Ck pk ek,Y Ca pa ea,Y Cf pf ef]) ?_ rfl ?_
    · exact vT (g:=w.heap.size+1) (cJ a6.o _ _ _ _ _ _) aD
    have e:y0=((⟨yo,ya,yb⟩:Nd),yat,yk):=a3.o.trans b8.o.symm;rw[e];exact eZ.tt (x:=((⟨yo,ya,yb⟩:Nd),yat,yk)) (qG HR.o aA (by have:=HV.o;omega) a0.o b9.o)
  have dl:decide ((j:Int)<(m:Int))=true:=decide_eq_true aA;have c6:IntKind.i64.wrap ((j:Int)+1)=((j+1:Nat):Int):=by rw[IntKind.wrap_i64];omega
  obtain⟨bk,ok,⟨Dk,rk,gk,Da,ra,ga,Df,rf,gf⟩,rfl,b5,a2,b3⟩:=HK.o.nthR hjm;have b4:=b6.o j hjm;obtain⟨a,c1⟩ : ∃a,a=cU (gH L) j:=⟨_,rfl⟩;rw[<-c1] at a2 b3 b4;obtain⟨⟨ao,aa,ab⟩,aat,ak⟩:=a;have d2:=aB (Nat.lt_of_lt_of_le (HR.o _ b5) a0.o.size);have a9:bk<wr.heap.size:=d2.o;have c7:=aB b3;have d0:=aB b4;obtain⟨q0,q1,q2,q3,q4,q5⟩:=a2.below a0.o (HR.o _ b5);have zy:=aS.cell a8.o;clear c1 b4 b3 a2 b5;simp only at q0 q1 q2 q3 q4 q5;go_upto_region 4 with fail
  refine fQ 8 (fun w'=>Below wr.heap.size wr w') aC ?_ (fun hZ => ?_)
  · (try dsimp only);exact aT (Below.refl _ _) 1
  have a1:Hid (Below wr.heap.size wr wr.drew):=aB (aT (Below.refl _ _) 1);generalize wr.drew=W1 at *;refine bA (i:=0) (v := ?_) rfl aC aC aC aC aC (fun _ _ _ h=>h) (Or.inl ⟨by rfl,fun wq hSw => ?_⟩) hZ ?_;rotate_left
  · ((try dsimp only at hSw);go_simp;try with_reducible rfl)
  try simp only[p7]
  refine bA (i:=1) (v := ?_) rfl aC aC aC aC aC (fun _ _ _ h=>h) (Or.inl ⟨by rfl,fun wq hSw => ?_⟩) hZ ?_;rotate_left
  · (have s0:=(hSw.cell (p:=⟨w.heap.size,0,Z⟩) a5).trans (zy 0);have s1:=(hSw.cell (p:=⟨w.heap.size,1,Z⟩) a5).trans (zy 1);have s2:=(hSw.cell (p:=⟨w.heap.size,2,Z⟩) a5).trans (zy 2);have s3:=(hSw.cell (p:=⟨w.heap.size,3,Z⟩) a5).trans (zy 3);have s4:=(hSw.cell (p:=⟨w.heap.size,4,Z⟩) a5).trans (zy 4);have s5:=(hSw.cell (p:=⟨w.heap.size,5,Z⟩) a5).trans (zy 5);go_simp;try with_reducible rfl)
  try simp only[p7]
  refine bA (i:=2) (v := ?_) rfl aC aC aC aC aC (fun _ _ _ h=>h) (Or.inl ⟨by rfl,fun wq hSw => ?_⟩) hZ ?_;rotate_left
  · ((try dsimp only at hSw);go_simp;try with_reducible rfl)
  try simp only[p7]
  refine bA (i:=3) (v := ?_) rfl aC aC aC aC aC (fun _ _ _ h=>h) (Or.inl ⟨by rfl,fun wq hSw => ?_⟩) hZ ?_;rotate_left
  · ((try dsimp only at hSw);go_simp;try with_reducible rfl)
  try simp only[p7]
  refine bA (i:=4) (v := ?_) rfl aC aC aC aC aC (fun _ _ _ h=>h) (Or.inl ⟨by rfl,fun wq hSw => ?_⟩) hZ ?_;rotate_left
  · ((try dsimp only at hSw);go_simp;try with_reducible rfl)
  try simp only[p7]
  refine bA (i:=5) (v := ?_) rfl aC aC aC aC aC (fun _ _ _ h=>h) (Or.inl ⟨by rfl,fun wq hSw => ?_⟩) hZ ?_;rotate_left
  · (have s0:=(hSw.cell (p:=⟨bk,ok+j*6,Z⟩) a9).trans q0;have s1:=(hSw.cell (p:=⟨bk,ok+j*6+1,Z⟩) a9).trans q1;have s2:=(hSw.cell (p:=⟨bk,ok+j*6+2,Z⟩) a9).trans q2;have s3:=(hSw.cell (p:=⟨bk,ok+j*6+3,Z⟩) a9).trans q3;have s4:=(hSw.cell (p:=⟨bk,ok+j*6+4,Z⟩) a9).trans q4;have s5:=(hSw.cell (p:=⟨bk,ok+j*6+5,Z⟩) a9).trans q5;go_simp;try with_reducible rfl)
  try simp only[p7]
  refine bQ (i:=6) aC rfl rfl (fun K hK => ?_);go_simp;refine hK.o _ _ (fun _ => ?_) ?_
  · (try dsimp only);exact a1.o.alloc a1.o.size (I #[O X yo,O X ya,O X yb,Y Ck pk ek,Y Ca pa ea,Y Cf pf ef,O X ao,O X aa,O X ab,Y Dk rk gk,Y Da ra ga,Y Df rf gf] 85)
  clear hK K;try simp only[p7]
  replace hZ:=a1.o.alloc a1.o.size (I #[O X yo,O X ya,O X yb,Y Ck pk ek,Y Ca pa ea,Y Cf pf ef,O X ao,O X aa,O X ab,Y Dk rk gk,Y Da ra ga,Y Df rf gf] 85)
  have a4:=aB (a1.o.alloc a1.o.size (I #[O X yo,O X ya,O X yb,Y Ck pk ek,Y Ca pa ea,Y Cf pf ef,O X ao,O X aa,O X ab,Y Dk rk gk,Y Da ra ga,Y Df rf gf] 85));have b7:=aB ((a8.o.below a1.o a8.o.lt).alloc (I #[O X yo,O X ya,O X yb,Y Ck pk ek,Y Ca pa ea,Y Cf pf ef,O X ao,O X aa,O X ab,Y Dk rk gk,Y Da ra ga,Y Df rf gf] 85));have d1:=aB (aS.new W1 85 #[O X yo,O X ya,O X yb,Y Ck pk ek,Y Ca pa ea,Y Cf pf ef,O X ao,O X aa,O X ab,Y Dk rk gk,Y Da ra ga,Y Df rf gf]);have c8:Hid ((W1.alloc (I #[O X yo,O X ya,O X yb,Y Ck pk ek,Y Ca pa ea,Y Cf pf ef,O X ao,O X aa,O X ab,Y Dk rk gk,Y Da ra ga,Y Df rf gf] 85)).heap.size=W1.heap.size+1):=aB aD;generalize W1.alloc (I #[O X yo,O X ya,O X yb,Y Ck pk ek,Y Ca pa ea,Y Cf pf ef,O X ao,O X aa,O X ab,Y Dk rk gk,Y Da ra ga,Y Df rf gf] 85)=Wa at *;have zs:=aS.cell b7.o;have c5:=aS.frozen b7.o;refine bA (i:=7) (v := ?_) rfl aC aC aC aC aC (fun _ _ _ h=>h) (Or.inl ⟨by rfl,fun wq hSw => ?_⟩) hZ ?_;rotate_left
  · ((try dsimp only at hSw);go_simp;try with_reducible rfl)
  try simp only[p7]
  refine bQ (i:=8) aC rfl rfl (fun K hK => ?_);go_simp;refine hK.o _ _ (fun h=>absurd rfl h) ?_;clear hK K;try simp only[p7]
  refine gK aC ?_ _;clear q0 q1 q2 q3 q4 q5 zy;go_wp2_with fail;have c0:=eR Wa w.heap.size (O X 6) (O X 0) (O X 0) (Y (some ⟨W1.heap.size,0,Z⟩) 2 2) (Y Z 0 0) (Y Z 0 0);have b1:=aB c0;have c9:=aB a1.o.size;clear c0 zs c5;go_roundw
  case rel =>
   refine⟨j+1,gF ((⟨yo,ya,yb⟩:Nd),yat,yk) ((⟨ao,aa,ab⟩:Nd),aat,ak),⟨some ⟨W1.heap.size,0,Z⟩,2,2,Z,0,0,Z,0,0⟩,by first | rfl | exact congrArg _ c6,by omega,aB (by rw[d0.o,<-b8.o]),aB ?_,aB (cJ b7.o _ _ _ _ _ _),aB (((a6.o.below a4.o a6.o.lt)).grown b1.o aK),aB ((a0.o.trans (a4.o.mono a0.o.size)).grown b1.o (by have:=a0.o.size;have:=a4.o.size;omega) (fun q hq=>by injection hq with hq;omega))⟩;have hv:V0.heap.size<=wr.heap.size:=by have:=a6.o.lt;have:=HV.o;omega
   have h1:dX (bB R V0 Wa) Wa ⟨Ck,pk,ek,Ca,pa,ea,Cf,pf,ef⟩ ((⟨yo,ya,yb⟩:Nd),yat,yk):=b9.o.keep fun q hq=>⟨hq.to (Nat.le_refl _) a4.o.size,fun o=>a4.o.cell (p:=⟨q,o,Z⟩) (show q<wr.heap.size by
    rcases hq with hq | hq
    · have:=HR.o _ hq;omega
    exact hq.2)⟩
   have h2:dX (bB R V0 Wa) Wa ⟨Dk,rk,gk,Da,ra,ga,Df,rf,gf⟩ ((⟨ao,aa,ab⟩:Nd),aat,ak):=c7.o.keep fun q hq=>⟨Or.inl hq,fun o=>(a0.o.trans (a4.o.mono a0.o.size)).cell (p:=⟨q,o,Z⟩) (HR.o _ hq)⟩;have h3:=QQ h1 h2 d1.o (Or.inr ⟨by have:=c9.o;omega,by have:=c8.o;omega⟩);exact h3.keep fun q hq=>⟨hq.to (Nat.le_refl _) b1.o.size,fun o=>aQ (b1.o.block q (by
    rcases hq with hq | hq
    · have:=HR.o _ hq;have:=a4.o.size;omega
    · exact hq.2) (by
    intro e;injection e with e;rcases hq with hq | hq
    · have:=HR.o _ hq;omega
    have:=hq.1;have:=HV.o;omega)) o⟩
  case measure=>simp[intOf]<;>omega
end
end Go.Proofs.YtjoddliplahgkaaGreat
