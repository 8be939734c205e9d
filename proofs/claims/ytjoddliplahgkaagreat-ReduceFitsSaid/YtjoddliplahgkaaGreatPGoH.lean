/- The reference's Go, more cases: words for where a call is; regions that make a box. -/
import Derived.Test.YtjoddliplahgkaaGreatPGoG
namespace Go.Proofs.YtjoddliplahgkaaGreat
set_option linter.unusedVariables false
set_option linter.unusedSimpArgs false
open Go.RowKit
open Go.Value renaming int → O, slice → Z
open Go.IntKind renaming i64 → Y
open Option renaming none → I
open Go.Obj renaming cells → J
open Go.Lib renaming hid->aB
structure AM (w V0:World) (R:Nat->Prop) (BK X:Array Value) (g9 g11:Nat) (t:iE) (x:TT) (th:iE) (f:TT) (B:Option Addr) (m d:Nat) (L:List TT) (W:World):Prop where
 s:DP w V0 BK X W
 h:aS W g9 85 (bH th f.1)
 n:aS W g11 46 #[O Y f.1.op,O Y f.1.a,O Y f.1.b]
 tx:dX (bB R V0 W) W t x
 th:dX (bB R V0 W) W th f
 kd:dM (bB R V0 W) W B m d (gH L)
section
variable {w V0 W W' : World} {R : Nat->Prop} {BK X : Array Value} {g9 g11 : Nat} {t th : iE} {x f : TT} {B : Option Addr} {m d : Nat} {L : List TT}
theorem MI (hR:∀q,R q->q<w.heap.size) (hw:w.heap.size<=W.heap.size) : ∀q,bB R V0 W q->q<W.heap.size:=fun q hq=>by
 rcases hq with hq | hq
 · have:=hR _ hq;omega
 exact hq.2
theorem AM.lt (h:AM w V0 R BK X g9 g11 t x th f B m d L W) (hR:∀q,R q->q<w.heap.size) : ∀q,bB R V0 W q->q<W.heap.size:=MI hR h.s.bel.size
theorem j6 (hR:∀q,R q->q<w.heap.size) (hw:w.heap.size<=W.heap.size) (hb:Below W.heap.size W W') : ∀q,bB R V0 W q->bB R V0 W' q/\∀o,W'.cell? ⟨q,o,I⟩=W.cell? ⟨q,o,I⟩:=fun q hq=>⟨hq.to (Nat.le_refl _) hb.size,fun o=>hb.cell (p:=⟨q,o,I⟩) (MI hR hw q hq)⟩
theorem AM.below (h:AM w V0 R BK X g9 g11 t x th f B m d L W) (hR:∀q,R q->q<w.heap.size) (hb:Below W.heap.size W W'):AM w V0 R BK X g9 g11 t x th f B m d L W' :=
 ⟨h.s.below hb,h.h.below hb h.h.lt,h.n.below hb h.n.lt,h.tx.keep (j6 hR h.s.bel.size hb),h.th.keep (j6 hR h.s.bel.size hb),h.kd.keep (j6 hR h.s.bel.size hb)⟩
theorem fW {Q:Nat->Prop} {W1 W2:World} (hQ:∀q,Q q->bB R V0 W q) (h1:V0.heap.size<=W1.heap.size) (h2:W.heap.size<=W2.heap.size) {q:Nat} (h:bB Q W1 W2 q):bB R V0 W2 q:=by
 rcases h with h | h
 · exact (hQ q h).to (Nat.le_refl _) h2
 exact Or.inr ⟨Nat.le_trans h1 h.1,h.2⟩
structure DO (w V0:World) (R:Nat->Prop) (BK X:Array Value) (g9 g11:Nat) (t:iE) (x:TT) (th:iE) (f:TT) (B:Option Addr) (m d:Nat) (L:List TT) (W U:World) (g:Nat) (ty:iE) (y:TT):Prop where
 nn:AM w V0 R BK X g9 g11 t x th f B m d L U
 be:Below W.heap.size W U
 ge:W.heap.size<=g
 bk:aS U g 85 (bH ty y.1)
 tr:dX (bB R V0 U) U ty y
theorem GG {v:World} {g:Nat} {ty:iE} {y:TT} {Q:Nat->Prop} (hR:∀q,R q->q<w.heap.size) (h:AM w V0 R BK X g9 g11 t x th f B m d L W) (hb:Below W.heap.size W v) (hg:W.heap.size<=g) (hk:aS v g 85 #[O Y 0,O Y 0,O Y 0,Z I 0 0,Z I 0 0,Z I 0 0]) (hQ:∀q,Q q->bB R V0 v q/\q<v.heap.size/\q ≠ g) (ht:dX Q v ty y) :
 DO w V0 R BK X g9 g11 t x th f B m d L W ((((((v.setCell ⟨g,0,I⟩ (O Y y.1.op)).setCell ⟨g,1,I⟩ (O Y y.1.a)).setCell ⟨g,2,I⟩ (O Y y.1.b)).setCell ⟨g,3,I⟩ (Z ty.Ak ty.nk ty.ck)).setCell ⟨g,4,I⟩ (Z ty.Aa ty.na ty.ca)).setCell ⟨g,5,I⟩ (Z ty.Af ty.nf ty.cf)) g ty y:=by
 have a0:=eR v g (O Y y.1.op) (O Y y.1.a) (O Y y.1.b) (Z ty.Ak ty.nk ty.ck) (Z ty.Aa ty.na ty.ca) (Z ty.Af ty.nf ty.cf);have a1:=hb.grown a0 hb.size (fun q hq=>by injection hq with hq;omega);refine⟨h.below hR a1,a1,hg,cJ hk _ _ _ _ _ _,ht.keep fun q hq => ?_⟩;obtain⟨q1,q2,q3⟩:=hQ q hq;exact⟨q1.to (Nat.le_refl _) a0.size,fun o=>aQ (a0.block q q2 (by intro e;injection e with e;exact q3 e)) o⟩
theorem GD {W1 va v:World} {ty:iE} {y:TT} (hR:∀q,R q->q<w.heap.size) (h:AM w V0 R BK X g9 g11 t x th f B m d L W) (h1:Below W.heap.size W W1) (hs:W1.heap.size=W.heap.size) (ha:Below W1.heap.size W1 va) (hsa:va.heap.size=W1.heap.size+1) (hk:aS va W1.heap.size 85 #[O Y 0,O Y 0,O Y 0,Z I 0 0,Z I 0 0,Z I 0 0]) (hb:Below va.heap.size va v) (ht:dX (bB (bB R V0 W) va v) v ty y) :
 DO w V0 R BK X g9 g11 t x th f B m d L W ((((((v.setCell ⟨W1.heap.size,0,I⟩ (O Y y.1.op)).setCell ⟨W1.heap.size,1,I⟩ (O Y y.1.a)).setCell ⟨W1.heap.size,2,I⟩ (O Y y.1.b)).setCell ⟨W1.heap.size,3,I⟩ (Z ty.Ak ty.nk ty.ck)).setCell ⟨W1.heap.size,4,I⟩ (Z ty.Aa ty.na ty.ca)).setCell ⟨W1.heap.size,5,I⟩ (Z ty.Af ty.nf ty.cf)) W1.heap.size ty y:=by
 have hv:=hb.size;have hw:=h.s.sz;refine GG hR h (h1.trans ((ha.trans (hb.mono ha.size)).mono h1.size)) aA (hk.below hb hk.lt) (fun q hq => ?_) ht;refine⟨fW (fun q h=>h) aA aA hq,?_⟩;rcases hq with hq | hq
 · have:=h.lt hR q hq;omega
 have:=hq.1;have:=hq.2;omega
theorem GE {W1 va v:World} {ty:iE} {y:TT} (hR:∀q,R q->q<w.heap.size) (h:AM w V0 R BK X g9 g11 t x th f B m d L W) (h1:Below W.heap.size W W1) (hs:W1.heap.size=W.heap.size) (hb:Below W1.heap.size W1 v) (ha:Below v.heap.size v va) (hsa:va.heap.size=v.heap.size+1) (hk:aS va v.heap.size 85 #[O Y 0,O Y 0,O Y 0,Z I 0 0,Z I 0 0,Z I 0 0]) (ht:dX (bB (bB R V0 W) W1 v) v ty y) :
 DO w V0 R BK X g9 g11 t x th f B m d L W ((((((va.setCell ⟨v.heap.size,0,I⟩ (O Y y.1.op)).setCell ⟨v.heap.size,1,I⟩ (O Y y.1.a)).setCell ⟨v.heap.size,2,I⟩ (O Y y.1.b)).setCell ⟨v.heap.size,3,I⟩ (Z ty.Ak ty.nk ty.ck)).setCell ⟨v.heap.size,4,I⟩ (Z ty.Aa ty.na ty.ca)).setCell ⟨v.heap.size,5,I⟩ (Z ty.Af ty.nf ty.cf)) v.heap.size ty y:=by
 have hv:=hb.size;have hw:=h.s.sz;have a0:∀q,bB (bB R V0 W) W1 v q->q<v.heap.size:=fun q hq=>by
  rcases hq with hq | hq
  · have:=h.lt hR q hq;omega
  exact hq.2
 have a1:dX (bB (bB R V0 W) W1 v) va ty y:=ht.keep fun q hq=>⟨hq,fun o=>ha.cell (p:=⟨q,o,I⟩) (a0 q hq)⟩;refine GG hR h (h1.trans ((hb.trans (ha.mono hb.size)).mono h1.size)) aA hk (fun q hq => ?_) a1;have:=a0 q hq;exact⟨(fW (fun q h=>h) aA aA hq:bB R V0 v q).to (Nat.le_refl _) aA,by omega,by omega⟩
theorem jZ {v:World} {Q:Nat->Prop} {ty:iE} {y:TT} {is:Bool} {err:Int} {r:s9} (hR:∀q,R q->q<w.heap.size) (hV:V0.heap.size=w.heap.size+3) (h:AM w V0 R BK X g9 g11 t x th f B m d L W) (hb:Below W.heap.size W v) (hQ:∀q,Q q->bB R V0 v q) (ht:dX Q v ty y) (hq:RI r y is err) :
 DN R w r (.returned (.tuple #[.agg (bH ty y.1),.bool is,O Y err])) ((((((v.setCell ⟨w.heap.size+1+1,0,I⟩ (O Y y.1.op)).setCell ⟨w.heap.size+1+1,1,I⟩ (O Y y.1.a)).setCell ⟨w.heap.size+1+1,2,I⟩ (O Y y.1.b)).setCell ⟨w.heap.size+1+1,3,I⟩ (Z ty.Ak ty.nk ty.ck)).setCell ⟨w.heap.size+1+1,4,I⟩ (Z ty.Aa ty.na ty.ca)).setCell ⟨w.heap.size+1+1,5,I⟩ (Z ty.Af ty.nf ty.cf)) :=
 qW (V:=V0) hR aA aA (h.s.below hb).bel (ht.keep fun q hq=>⟨hQ q hq,fun _=>rfl⟩) hq
end
theorem GI {B:Option Addr} {n c k:Nat} {L:List TT} (hl:L.length=n) (hk:k<=n) (hc:n<=c) (hnul:B=I->c=0) : ∃B',(∀w:World,(Instr.slice 83 (Z B n c) (some (O Y (k:Int))) I I).run Tryz.prog w=.ok (Z B' (n-k) (c-k)) w)/\∀(R:Nat->Prop) (W:World),dM R W B n c (gH L)->dM R W B' (n-k) (c-k) (gH (L.drop k)):=by
 have a0:∀(R:Nat->Prop) (W:World) (b:Nat) (k:Nat) (L:List TT) (off:Nat),sD R W (gH L) b off->sD R W (gH (L.drop k)) b (off+k*6):=by
  intro R W b k
  induction k with
  | zero=>intro L off h;simpa using h
  | succ k ih =>
   intro L off h;cases L with
   | nil=>trivial
   | cons y r =>
    have h2:=ih r (off+6) h.2.2.2.2;rw[show off+6+k*6=off+(k+1)*6 from by omega] at h2;simpa using h2
 refine⟨if c=k then B else B.map (·.add (k*6)),fun w => ?_,fun R W h => ?_⟩
 · rw[run_slice_l w 83 B n c aC .i64 (k:Int) aA aA];have e:Tryz.prog.elem 83=85:=by kernel_rfl
   have e2:(sizeOf 85).run Tryz.prog w=.ok 6 w:=by kernel_rfl
   rw[e,e2];rfl
 refine⟨by rw[gR,List.length_drop];omega,by omega,fun hn => ?_⟩;obtain⟨b,off,rfl,hb,hm⟩:=h.mem aA;rw[if_neg aA];refine⟨b,off+k*6,?_,hb,a0 R W b k L off hm⟩;simp only[Option.map_some,Addr.add];split
 · rename_i h0;rw[h0,Nat.add_zero]
 rfl
theorem uW (x u:TT):(cH x u).2=0\/(cH x u).2=9:=by unfold cH;split<;>simp
theorem L9 {res:s9} {y:TT} {e:Int} (h:res=if e=0 then s9.yes y else s9.bad) (he:e=0\/e=9):RI res y true e:=by
 rcases he with h9 | h9
 · rw[if_pos h9] at h;exact .inr (.inr ⟨h,rfl,h9⟩)
 rw[if_neg aA] at h;exact .inr (.inl ⟨h,rfl,h9⟩)
theorem lR {w w':World} {A:Option Addr} {n c:Nat} {cv:List (List Nd)} (h:jI (· < w.heap.size) w A n c cv) (hb:Below w.heap.size w w'):jI (· < w'.heap.size) w' A n c cv:=h.keep fun q hq=>⟨Nat.lt_of_lt_of_le hq hb.size,fun o=>hb.cell (p:=⟨q,o,I⟩) hq⟩
set_option maxRecDepth 100000 in
set_option maxHeartbeats 4000000 in
theorem PM {v:bO} {b:Bk} {w0:World} {cA:Option Addr} {cn cc:Nat} {cv:List (List Nd)} (hr:bP b=0) (hcx:fR b cv) {gas:Nat} (IH:KU v b w0 cA cn cc cv gas) {w:World} {R:Nat->Prop} {t:iE} {x:TT} (hbk:bX w v b) (hctx:jI (· < w.heap.size) w cA cn cc cv) (hR:∀q,R q->q<w.heap.size) (ht:dX R w t x) (hx:bR b (cv.length:Int) x) (hsz:bI x<gas+1) (hop:(bU x).1.1.op=5/\0<(bU x).2.length) :
 Calls Tryz.prog 45 #[.agg #[O Y b.vars,Z v.Ao v.no v.co,Z v.Ae v.ne v.ce,O Y b.nat,Z v.Ap v.np v.cp],Z cA cn cc,.agg (bH t x.1)] w (DN R w (iF b cv (gas+1) (bU x))):=by
 obtain⟨res,b2⟩ : ∃r,r=iF b cv (gas+1) (bU x):=⟨_,rfl⟩;rw[<-b2];have c6:=kI hx;have c5:=dJ hx;have b4:bI x<=4096:=hx.few;have a6:=(a7 w (J #[O Y b.vars,Z v.Ao v.no v.co,Z v.Ae v.ne v.ce,O Y b.nat,Z v.Ap v.np v.cp] 26) (J (bH t x.1) 85)).alloc aH (J #[O Y 0,O Y 0,O Y 0,Z I 0 0,Z I 0 0,Z I 0 0] 85);have d0:=aB (eC (fun q hq=>Nat.lt_of_lt_of_le (hR q hq) a6.size) (ht.below hR a6) hx.rt);obtain⟨⟨⟨ho,ha,hb⟩,d7,hk⟩,L,l4⟩ : ∃F L,bU x=(F,L):=⟨_,_,rfl⟩;rw[l4] at d0 b2 c6 c5 hop;unfold DM at d0;simp only at d0 hop;have f8:DP w (((w.alloc (J #[O Y b.vars,Z v.Ao v.no v.co,Z v.Ae v.ne v.ce,O Y b.nat,Z v.Ap v.np v.cp] 26)).alloc (J (bH t x.1) 85)).alloc (J #[O Y 0,O Y 0,O Y 0,Z I 0 0,Z I 0 0,Z I 0 0] 85)) #[O Y b.vars,Z v.Ao v.no v.co,Z v.Ae v.ne v.ce,O Y b.nat,Z v.Ap v.np v.cp] (bH t x.1) (((w.alloc (J #[O Y b.vars,Z v.Ao v.no v.co,Z v.Ae v.ne v.ce,O Y b.nat,Z v.Ap v.np v.cp] 26)).alloc (J (bH t x.1) 85)).alloc (J #[O Y 0,O Y 0,O Y 0,Z I 0 0,Z I 0 0,Z I 0 0] 85)):=⟨a6,Nat.le_refl _,((aS.new _ _ _).alloc _).alloc _,(aS.new' aD).alloc _,aS.new' aD⟩;have g4:dX (bB R (((w.alloc (J #[O Y b.vars,Z v.Ao v.no v.co,Z v.Ae v.ne v.ce,O Y b.nat,Z v.Ap v.np v.cp] 26)).alloc (J (bH t x.1) 85)).alloc (J #[O Y 0,O Y 0,O Y 0,Z I 0 0,Z I 0 0,Z I 0 0] 85)) (((w.alloc (J #[O Y b.vars,Z v.Ao v.no v.co,Z v.Ae v.ne v.ce,O Y b.nat,Z v.Ap v.np v.cp] 26)).alloc (J (bH t x.1) 85)).alloc (J #[O Y 0,O Y 0,O Y 0,Z I 0 0,Z I 0 0,Z I 0 0] 85))) (((w.alloc (J #[O Y b.vars,Z v.Ao v.no v.co,Z v.Ae v.ne v.ce,O Y b.nat,Z v.Ap v.np v.cp] 26)).alloc (J (bH t x.1) 85)).alloc (J #[O Y 0,O Y 0,O Y 0,Z I 0 0,Z I 0 0,Z I 0 0] 85)) t x:=ht.keep fun q hq=>⟨Or.inl hq,fun o=>a6.cell (p:=⟨q,o,I⟩) (hR q hq)⟩;have g3:(((w.alloc (J #[O Y b.vars,Z v.Ao v.no v.co,Z v.Ae v.ne v.ce,O Y b.nat,Z v.Ap v.np v.cp] 26)).alloc (J (bH t x.1) 85)).alloc (J #[O Y 0,O Y 0,O Y 0,Z I 0 0,Z I 0 0,Z I 0 0] 85)).heap.size=w.heap.size+3:=by simp
 obtain⟨V0,f2⟩ : ∃V0,V0=((w.alloc (J #[O Y b.vars,Z v.Ao v.no v.co,Z v.Ae v.ne v.ce,O Y b.nat,Z v.Ap v.np v.cp] 26)).alloc (J (bH t x.1) 85)).alloc (J #[O Y 0,O Y 0,O Y 0,Z I 0 0,Z I 0 0,Z I 0 0] 85):=⟨_,rfl⟩;rw[<-f2] at a6 d0 f8 g4 g3;obtain⟨kl,d4⟩ : ∃k,k=L.length:=⟨_,rfl⟩;have l8:L.length<=4096:=by
  have h4:bT L<=4096:=by
   have:dK (((⟨ho,ha,hb⟩:Nd),d7,hk),L)=bI ((⟨ho,ha,hb⟩:Nd),d7,hk)+bT L:=rfl;omega
  exact Nat.le_trans (eW L) h4
 rw[<-d4] at d0 l8;have f6:=aB d4;have h5:=aB b2;have h8:=aB c6;have m3:=aB c5;have m8:=aB b4;have f4:=aB f8;have c9:=aB g4;have d8:=aB g3;have HR:=aB hR;have HX:=aB hx;have m4:=aB hcx;have HT:=aB ht;have m9:=aB hsz;clear d4 b2 c6 c5 b4 f8 g4 g3 hR hbk hctx hx IH hcx hr ht hsz a6;obtain⟨⟨xo,xa,xb⟩,xat,xk⟩:=x;obtain⟨Ak,nk,ck,Aa,na,ca,Af,nf,cf⟩:=t;simp only at f4 c9 f2;show Calls Tryz.prog 45 #[.agg #[O Y b.vars,Z v.Ao v.no v.co,Z v.Ae v.ne v.ce,O Y b.nat,Z v.Ap v.np v.cp],Z cA cn cc,.agg #[O Y xo,O Y xa,O Y xb,Z Ak nk ck,Z Aa na ca,Z Af nf cf]] w _;go_in;go_upto_region 1 with fail
 rw[<-f2];clear f2;have l1:=aS.cell f4.o.x;go_wp2_with fail;refine (d0.o).mono ?_;rintro e w4 ⟨c8,⟨Ck,pk,ek,Ca,pa,ea,Cf,pf,ef⟩,KB,kd,rfl,i0,i2,a9⟩;have c7:=a7 w4 (J #[O Y ho,O Y ha,O Y hb,Z Ck pk ek,Z Ca pa ea,Z Cf pf ef] 85) (J #[O Y ho,O Y ha,O Y hb] 46);have j6:=aB ((f4.o.below c8).below c7);have g8:Hid (aS ((w4.alloc (J #[O Y ho,O Y ha,O Y hb,Z Ck pk ek,Z Ca pa ea,Z Cf pf ef] 85)).alloc (J #[O Y ho,O Y ha,O Y hb] 46)) w4.heap.size 85 #[O Y ho,O Y ha,O Y hb,Z Ck pk ek,Z Ca pa ea,Z Cf pf ef]):=aB ((aS.new _ _ _).alloc _);have g6:Hid (aS ((w4.alloc (J #[O Y ho,O Y ha,O Y hb,Z Ck pk ek,Z Ca pa ea,Z Cf pf ef] 85)).alloc (J #[O Y ho,O Y ha,O Y hb] 46)) (w4.heap.size+1) 46 #[O Y ho,O Y ha,O Y hb]):=aB (aS.new' aD);have d9:Hid (dX (bB R V0 ((w4.alloc (J #[O Y ho,O Y ha,O Y hb,Z Ck pk ek,Z Ca pa ea,Z Cf pf ef] 85)).alloc (J #[O Y ho,O Y ha,O Y hb] 46))) ((w4.alloc (J #[O Y ho,O Y ha,O Y hb,Z Ck pk ek,Z Ca pa ea,Z Cf pf ef] 85)).alloc (J #[O Y ho,O Y ha,O Y hb] 46)) ⟨Ak,nk,ck,Aa,na,ca,Af,nf,cf⟩ ((⟨xo,xa,xb⟩:Nd),xat,xk)):=aB (c9.o.keep fun q hq=>⟨hq.to (Nat.le_refl _) (Nat.le_trans c8.size c7.size),fun o=>(c8.trans (c7.mono c8.size)).cell (p:=⟨q,o,I⟩) (by
  rcases hq with hq | hq
  · have:=HR.o _ hq;have:=d8.o;show q<V0.heap.size;omega
  exact hq.2)⟩)
 have e0:Hid (dX R ((w4.alloc (J #[O Y ho,O Y ha,O Y hb,Z Ck pk ek,Z Ca pa ea,Z Cf pf ef] 85)).alloc (J #[O Y ho,O Y ha,O Y hb] 46)) ⟨Ck,pk,ek,Ca,pa,ea,Cf,pf,ef⟩ ((⟨ho,ha,hb⟩:Nd),d7,hk)):=aB (i0.keep fun q hq=>⟨hq,fun o=>c7.cell (p:=⟨q,o,I⟩) (by have:=HR.o _ hq;have:=d8.o;have:=c8.size;show q<w4.heap.size;omega)⟩);have e4:Hid (dM (bB R V0 ((w4.alloc (J #[O Y ho,O Y ha,O Y hb,Z Ck pk ek,Z Ca pa ea,Z Cf pf ef] 85)).alloc (J #[O Y ho,O Y ha,O Y hb] 46))) ((w4.alloc (J #[O Y ho,O Y ha,O Y hb,Z Ck pk ek,Z Ca pa ea,Z Cf pf ef] 85)).alloc (J #[O Y ho,O Y ha,O Y hb] 46)) KB kl kd (gH L)):=aB (i2.keep fun q hq=>⟨hq.to (Nat.le_refl _) c7.size,fun o=>c7.cell (p:=⟨q,o,I⟩) (by
  rcases hq with hq | hq
  · have:=HR.o _ hq;have:=d8.o;have:=c8.size;show q<w4.heap.size;omega
  exact hq.2)⟩)
 have h7:=aB a9;clear c8 c7 i0 i2 a9 d0 f4 c9 l1;have e2:Hid (AM w V0 R #[O Y b.vars,Z v.Ao v.no v.co,Z v.Ae v.ne v.ce,O Y b.nat,Z v.Ap v.np v.cp] #[O Y xo,O Y xa,O Y xb,Z Ak nk ck,Z Aa na ca,Z Af nf cf] w4.heap.size (w4.heap.size+1) ⟨Ak,nk,ck,Aa,na,ca,Af,nf,cf⟩ ((⟨xo,xa,xb⟩:Nd),xat,xk) ⟨Ck,pk,ek,Ca,pa,ea,Cf,pf,ef⟩ ((⟨ho,ha,hb⟩:Nd),d7,hk) KB kl kd L ((w4.alloc (J #[O Y ho,O Y ha,O Y hb,Z Ck pk ek,Z Ca pa ea,Z Cf pf ef] 85)).alloc (J #[O Y ho,O Y ha,O Y hb] 46))):=aB ⟨j6.o,g8.o,g6.o,d9.o,e0.o.keep fun q hq=>⟨Or.inl hq,fun _=>rfl⟩,e4.o⟩;have zh:=aS.cell g8.o;have zn:=aS.cell g6.o;clear j6 g8 g6 d9 e0 e4;obtain⟨hop,e9⟩:=hop;have hF:=h8.o;obtain⟨p,q,d6⟩:=pV hF.head.okt (.inr (.inl hop));have hq:=hF.head.kid (i:=1) (by rw[d6];rfl);have i5:aR ho hb ((1:Nat):Int)=1:=iU (n:=⟨ho,ha,hb⟩) (.inl ⟨hop,rfl⟩);rw[i5] at hq;have hA:=hF.args _ (gS e9 (default,[],.nil));obtain⟨a,f1⟩ : ∃a,a=L.getD 0 (default,[],.nil):=⟨_,rfl⟩;rw[<-f1] at hA;have g1:cU (gH L) 0=a:=by
  rw[f1,q7]
 obtain⟨⟨y,ye⟩,hy⟩ : ∃y,y=cH q a:=⟨_,rfl⟩;have h9:ye=0\/ye=9:=by have:=uW q a;rw[<-hy] at this;exact this
 have h6:Hid (res=if ye=0 then s9.yes (eG y (L.drop 1)) else s9.bad):=aB (by
  rw[h5.o,iL (by unfold bW;simp only;rw[if_pos hop];exact decide_eq_true e9)];unfold kD;simp only;rw[if_pos hop,dI (i:=1) (y:=q) (by simp only;rw[d6];rfl),<-f1,<-hy];by_cases h:ye=0
  · simp only;rw[if_pos h,if_pos h]
  simp only;rw[if_neg h,if_neg h])
 have l9:=aB h9;have d4:=f6.o;have b3:=e2.o;have d3:=b3.th.nk;simp only at d3;rw[d6] at d3;simp only[List.length_cons,List.length_nil] at d3;obtain⟨bq,oq,⟨k1A,k1n,k1c,k1B,k1m,k1d,k1C,k1p,k1e⟩,g5,i6,f0,e8⟩:=b3.th.kid (j:=1) (by simp only;omega);obtain⟨ba,oa,⟨j1A,j1n,j1c,j1B,j1m,j1d,j1C,j1p,j1e⟩,i8,i7,g2,f9⟩:=b3.kd.nthR (j:=0) aA;have g0:cU hk 1=q:=by unfold cU;rw[d6];rfl
 simp only at g5 f0 e8;rw[g0,Nat.one_mul] at f0;rw[g0] at e8;rw[g1,Nat.zero_mul,Nat.add_zero] at g2;rw[g1] at f9;have e1:=aB (fun (V:World) (hV:Below (((w4.alloc (J #[O Y ho,O Y ha,O Y hb,Z Ck pk ek,Z Ca pa ea,Z Cf pf ef] 85)).alloc (J #[O Y ho,O Y ha,O Y hb] 46))).heap.size (((w4.alloc (J #[O Y ho,O Y ha,O Y hb,Z Ck pk ek,Z Ca pa ea,Z Cf pf ef] 85)).alloc (J #[O Y ho,O Y ha,O Y hb] 46))) V)=>oW (b:=b) (free:=(cv.length:Int)) (fun q hq=>Nat.lt_of_lt_of_le (b3.lt HR.o q hq) hV.size) (e8.below (b3.lt HR.o) hV) (f9.below (b3.lt HR.o) hV) hq hA aA (by have:=m4.o.few;omega));rw[<-hy] at e1;have k9:=aB g5;have l0:=aB i8;have k7:=aB f0;have k8:=aB g2;have m5:=aB (b3.lt HR.o _ i6);have m6:=aB (b3.lt HR.o _ i7);have j7:=aB d3;have j9:=aB e9;clear hF d6 hq i5 hA f1 g1 hy h9 d4 b3 d3 g5 i6 f0 e8 i8 i7 g2 f9 g0;have d5:(ho==5)=true:=by simp[hop]
 have dk:((kl:Int)==0)=false:=by rw[beq_eq_false_iff_ne];have:=f6.o;have:=j9.o;omega
 have dk2:0<kl:=by have:=f6.o;have:=j9.o;omega
 obtain rfl:Ck=some ⟨bq,oq,I⟩:=k9.o;obtain rfl:KB=some ⟨ba,oa,I⟩:=l0.o;obtain rfl:pk=2:=j7.o;clear k9 l0 j7 hop e9;obtain⟨⟨qo,qa,qb⟩,qat,qk⟩:=q;obtain⟨⟨ao,aa,ab⟩,aat,ak⟩:=a;obtain⟨⟨yo,ya,yb⟩,yat,yk⟩:=y;obtain⟨q0,q1,q2,q3,q4,q5⟩:=k7.o;obtain⟨a0,a1,a2,a3,a4,a5⟩:=k8.o;simp only at q0 q1 q2 q3 q4 q5 a0 a1 a2 a3 a4 a5 e1 h6;go_upto_region 7 with fail
 generalize ((w4.alloc (J #[O Y ho,O Y ha,O Y hb,Z (some ⟨bq,oq,I⟩) 2 ek,Z Ca pa ea,Z Cf pf ef] 85)).alloc (J #[O Y ho,O Y ha,O Y hb] 46))=W5 at *;have e3:=e2;have d2:=m5.o;have a6:=m6.o;have l5:=e3.o.h.lt;go_cut [12,13] (fun pv ev wx=>∃(g7:Nat) (c4 c3 c2:Option Addr) (b7 c1 b8 c0 b6 b9:Nat),pv=.pointer (some ⟨g7,0,I⟩)/\ev=O Y ye/\Hid (DO w V0 R #[O Y b.vars,Z v.Ao v.no v.co,Z v.Ae v.ne v.ce,O Y b.nat,Z v.Ap v.np v.cp] #[O Y xo,O Y xa,O Y xb,Z Ak nk ck,Z Aa na ca,Z Af nf cf] w4.heap.size (w4.heap.size+1) ⟨Ak,nk,ck,Aa,na,ca,Af,nf,cf⟩ ((⟨xo,xa,xb⟩:Nd),xat,xk) ⟨(some ⟨bq,oq,I⟩),2,ek,Ca,pa,ea,Cf,pf,ef⟩ ((⟨ho,ha,hb⟩:Nd),d7,hk) (some ⟨ba,oa,I⟩) kl kd L W5 wx g7 ⟨c4,b7,c1,c3,b8,c0,c2,b6,b9⟩ ((⟨yo,ya,yb⟩:Nd),yat,yk)))
 case first =>
  go_wp2_with fail;have i1:W5.drew.heap.size=W5.heap.size:=rfl;refine wp_region_held_drew (S:=(fun w'=>Below W5.heap.size W5 w')) aC ?_ (fun hZ => ?_)
  · (try dsimp only);exact aT (Below.refl _ _) 1
  have b1:Hid (Below W5.heap.size W5 W5.drew):=aB (aT (Below.refl _ _) 1);generalize W5.drew=W1 at *;have i9:=aB i1;clear i1;refine aL 0 hZ ?_;refine tk 1 ?_ (fun wq hSw => ?_) hZ ?_;rotate_left
  · have f3:=(hSw.cell (p:=⟨w4.heap.size,3,I⟩) l5).trans (zh 3);go_simp;try with_reducible rfl
  try simp only[p7]
  refine aL 2 hZ ?_;refine tk 3 ?_ (fun wq hSw => ?_) hZ ?_;rotate_left
  · have k0:=(hSw.cell (p:=⟨bq,oq+6,I⟩) d2).trans q0;have k1:=(hSw.cell (p:=⟨bq,oq+6+1,I⟩) d2).trans q1;have k2:=(hSw.cell (p:=⟨bq,oq+6+2,I⟩) d2).trans q2;have k3:=(hSw.cell (p:=⟨bq,oq+6+3,I⟩) d2).trans q3;have k4:=(hSw.cell (p:=⟨bq,oq+6+4,I⟩) d2).trans q4;have k5:=(hSw.cell (p:=⟨bq,oq+6+5,I⟩) d2).trans q5;go_simp;try with_reducible rfl
  try simp only[p7]
  refine aL 4 hZ ?_;refine aL 5 hZ ?_;refine tk 6 ?_ (fun wq hSw => ?_) hZ ?_;rotate_left
  · have j0:=(hSw.cell (p:=⟨ba,oa,I⟩) a6).trans a0;have j1:=(hSw.cell (p:=⟨ba,oa+1,I⟩) a6).trans a1;have j2:=(hSw.cell (p:=⟨ba,oa+2,I⟩) a6).trans a2;have j3:=(hSw.cell (p:=⟨ba,oa+3,I⟩) a6).trans a3;have j4:=(hSw.cell (p:=⟨ba,oa+4,I⟩) a6).trans a4;have j5:=(hSw.cell (p:=⟨ba,oa+5,I⟩) a6).trans a5;go_simp;try with_reducible rfl
  try simp only[p7]
  refine wpAnyH_ready (rs:=[7,11]) aC aD ?_;refine AllReadyH.cons rfl (fun K hK => ?_) (AllReadyH.cons rfl (fun K hK => ?_) (AllReadyH.nil))
  · go_simp;go_at_call 80
    refine (e1.o _ b1.o).mono ?_;rintro e v1 ⟨b0,⟨c4,b7,c1,c3,b8,c0,c2,b6,b9⟩,rfl,b5⟩;have f7:=aB b0;have g9:=aB b5;have e5:=bZ b1 b0;clear b0 b5;go_wp2_with fail;refine hK.o _ _ (by exact e5.o) fun hZ => ?_;clear hK K;try simp only[p7]
    refine aL 8 hZ ?_;refine aL 9 hZ ?_;refine aL 10 hZ ?_;have e7:=aB (aP v1 (J #[O Y 0,O Y 0,O Y 0,Z I 0 0,Z I 0 0,Z I 0 0] 85));have e6:=aB (e5.o.trans (e7.o.mono e5.o.size));have HK:=aB (aS.new v1 85 #[O Y 0,O Y 0,O Y 0,Z I 0 0,Z I 0 0,Z I 0 0]);have h0:Hid ((v1.alloc (J #[O Y 0,O Y 0,O Y 0,Z I 0 0,Z I 0 0,Z I 0 0] 85)).heap.size=v1.heap.size+1):=aB aD;refine r1 11 fun K hK => ?_;go_simp;refine hK.o _ _ (by exact e6.o) fun hZ => ?_;clear hK K;try simp only[p7]
    generalize (v1.alloc (J #[O Y 0,O Y 0,O Y 0,Z I 0 0,Z I 0 0,Z I 0 0] 85))=va at *;have zg:=aS.cell HK.o;have l2:=aS.frozen HK.o;have HX:=aB (GE (ty:=⟨c4,b7,c1,c3,b8,c0,c2,b6,b9⟩) (y:=((⟨yo,ya,yb⟩:Nd),yat,yk)) HR.o e3.o b1.o i9.o f7.o e7.o h0.o HK.o g9.o);refine r1 12 fun K hK => ?_;go_simp;refine hK.o _ _ (by exact HX.o.be) fun hZ => ?_;clear hK K;try simp only[p7]
    refine aL 13 hZ ?_;refine wpAnyH_done aC ?_ _;go_wp2_with fail;go_meet;exact⟨v1.heap.size,c4,c3,c2,b7,c1,b8,c0,b6,b9,rfl,rfl,HX⟩
  have e7:=aB (aP W1 (J #[O Y 0,O Y 0,O Y 0,Z I 0 0,Z I 0 0,Z I 0 0] 85));have e6:=aB (b1.o.trans (e7.o.mono b1.o.size));have HK:=aB (aS.new W1 85 #[O Y 0,O Y 0,O Y 0,Z I 0 0,Z I 0 0,Z I 0 0]);have h0:Hid ((W1.alloc (J #[O Y 0,O Y 0,O Y 0,Z I 0 0,Z I 0 0,Z I 0 0] 85)).heap.size=W1.heap.size+1):=aB aD;go_simp;refine hK.o _ _ (by exact e6.o) fun hZ => ?_;clear hK K;try simp only[p7]
  generalize (W1.alloc (J #[O Y 0,O Y 0,O Y 0,Z I 0 0,Z I 0 0,Z I 0 0] 85))=va at *;refine r1 7 fun K hK => ?_;go_simp;go_at_call 80
  refine (e1.o _ e6.o).mono ?_;rintro e v1 ⟨b0,⟨c4,b7,c1,c3,b8,c0,c2,b6,b9⟩,rfl,b5⟩;have f7:=aB b0;have g9:=aB b5;have e5:=bZ e6 b0;clear b0 b5;go_wp2_with fail;refine hK.o _ _ (by exact e5.o) fun hZ => ?_;clear hK K;try simp only[p7]
  refine aL 8 hZ ?_;refine aL 9 hZ ?_;refine aL 10 hZ ?_;have k6:=aB (HK.o.below f7.o HK.o.lt);have zg:=aS.cell k6.o;have l2:=aS.frozen k6.o;have HX:=aB (GD (ty:=⟨c4,b7,c1,c3,b8,c0,c2,b6,b9⟩) (y:=((⟨yo,ya,yb⟩:Nd),yat,yk)) HR.o e3.o b1.o i9.o e7.o h0.o HK.o f7.o g9.o);refine r1 12 fun K hK => ?_;go_simp;refine hK.o _ _ (by exact HX.o.be) fun hZ => ?_;clear hK K;try simp only[p7]
  refine aL 13 hZ ?_;refine wpAnyH_done aC ?_ _;go_wp2_with fail;go_meet;exact⟨W1.heap.size,c4,c3,c2,b7,c1,b8,c0,b6,b9,rfl,rfl,HX⟩
 case rest =>
 obtain⟨g7,c4,c3,c2,b7,c1,b8,c0,b6,b9,rfl,rfl,HX⟩:=hcut;clear q0 q1 q2 q3 q4 q5 a0 a1 a2 a3 a4 a5 e1 k7 k8 zh zn;have a9:=h7.o;obtain⟨B1,i4,i3⟩:=GI (B:=some ⟨ba,oa,I⟩) (L:=L) (n:=kl) (c:=kd) (k:=1) f6.o.symm aA e3.o.kd.cap a9;have l7:∀w:World,(Instr.slice 83 (Z (some ⟨ba,oa,I⟩) kl kd) (some (O Y 1)) I I).run Tryz.prog w=.ok (Z B1 (kl-1) (kd-1)) w:=i4;have j8:=aB (fun (V:World) (hV:Below wc.heap.size wc V)=>gM (fun q hq=>Nat.lt_of_lt_of_le (HX.o.nn.lt HR.o q hq) hV.size) (HX.o.tr.below (HX.o.nn.lt HR.o) hV) ((i3 _ _ HX.o.nn.kd).below (HX.o.nn.lt HR.o) hV) aA);obtain⟨⟨⟨zo,za,zb⟩,l3,zk⟩,hZ⟩ : ∃z,z=eG ((⟨yo,ya,yb⟩:Nd),yat,yk) (L.drop 1):=⟨_,rfl⟩;rw[<-hZ] at j8 h6;have f5:=aB HX.o.nn;have d1:=HX.o.bk.lt;have m2:Hid (W5.heap.size<=g7):=aB HX.o.ge;have l6:g7 ≠ w.heap.size+1+1:=by have:=m2.o;have:=e3.o.s.sz;have:=d8.o;omega
 have z7:=aS.cell HX.o.bk;clear i4 i3 hZ a9;go_upto_region 8 with fail
 refine wp_region_held_drew (S:=(fun w'=>∀q,q<wc.heap.size->q ≠ w.heap.size+1+1->w'.heap[q]? = wc.heap[q]?)) aC ?_ (fun hZ => ?_)
 · (try dsimp only);exact fun q _ _=>rfl
 have b1:Hid (Below wc.heap.size wc wc.drew):=aB (aT (Below.refl _ _) 1);generalize wc.drew=W1 at *;refine tk 0 ?_ (fun wq hSw => ?_) hZ ?_;rotate_left
 · have k0:=(aQ (hSw (g7) (d1) aA) (0)).trans (z7 0);have k1:=(aQ (hSw (g7) (d1) aA) (1)).trans (z7 1);have k2:=(aQ (hSw (g7) (d1) aA) (2)).trans (z7 2);have k3:=(aQ (hSw (g7) (d1) aA) (3)).trans (z7 3);have k4:=(aQ (hSw (g7) (d1) aA) (4)).trans (z7 4);have k5:=(aQ (hSw (g7) (d1) aA) (5)).trans (z7 5);go_simp;try with_reducible rfl
 try simp only[p7]
 refine aL 1 hZ ?_;refine aL 2 hZ ?_;refine aL 4 hZ ?_;refine r1 3 fun K hK => ?_;go_simp;go_at_call 81
 refine (j8.o _ b1.o).mono ?_;rintro e v9 ⟨b0,⟨u1A,u1n,u1c,u1B,u1m,u1d,u1C,u1p,u1e⟩,rfl,b5⟩;have a8:=bZ b1 b0;have m0:=aB b5;have m1:=aB b1.o.size;clear b5;clear b0;go_wp2_with fail;refine hK.o _ _ (by exact fun q h1 _=>a8.o.block q h1) fun hZ => ?_;clear hK K;try simp only[p7]
 have h3:=aB (f5.o.s.r.below a8.o f5.o.s.r.lt);have zr:=aS.cell h3.o;have m7:=aS.frozen h3.o;refine r1 5 fun K hK => ?_;go_simp;refine hK.o _ _ (by exact fun q h1 h2=>((eR _ (w.heap.size+1+1) _ _ _ _ _ _).block q (Nat.lt_of_lt_of_le h1 a8.o.size) (by intro e;injection e with e;exact h2 e)).trans (a8.o.block q h1)) fun hZ => ?_;clear hK K;try simp only[p7]
 refine aL 6 hZ ?_;refine aL 7 hZ ?_;refine wpAnyH_done aC ?_ _;go_wp2_with fail;refine bodyPost_ret (v:=.tuple #[.agg #[O Y zo,O Y za,O Y zb,Z u1A u1n u1c,Z u1B u1m u1d,Z u1C u1p u1e],.bool true,O Y ye]) ?_ rfl ?_
 · exact dR (g:=w.heap.size+1+1) (cJ h3.o _ _ _ _ _ _) aD
 exact jZ (V0:=V0) (ty:=⟨u1A,u1n,u1c,u1B,u1m,u1d,u1C,u1p,u1e⟩) (y:=((⟨zo,za,zb⟩:Nd),l3,zk)) HR.o d8.o f5.o a8.o (fun q hq=>fW (fun q h=>h) (by have:=f5.o.s.sz;have:=m1.o;omega) a8.o.size hq) m0.o (L9 h6.o l9.o)
end Go.Proofs.YtjoddliplahgkaaGreat
