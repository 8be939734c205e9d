/- An entry of the reference (books). -/
import Derived.Test.YtjoddliplahgkaaGreatTRefRow
namespace Go.Proofs.YtjoddliplahgkaaGreat
set_option linter.unusedVariables false
set_option linter.unusedSimpArgs false
open Go.RowKit
open Go.Value renaming int → O, slice → Y
open Go.IntKind renaming i64 → X
open Option renaming none → Z, some → J
open Go.Obj renaming cells → I
open Go.Lib renaming hid->aB
set_option maxHeartbeats 4000000
set_option maxRecDepth 100000
variable {b:Bk}{w:aAB}{v:bR}
theorem yU(hb:cE w v b)(i:Nat)(hi:i<b.entries.length)(hk:(b.entries.getD i default).kind≠1/\(b.entries.getD i default).kind≠2):
 Calls Tryz.prog 53 #[.agg #[O X b.vars,Y v.Ao v.no v.co,Y v.Ae v.ne v.ce,O X b.nat,Y v.Ap v.np v.cp],O X (i:Int)] w (iV (dK b i (b.entries.getD i default)) w):=by
 have a6:=hb.entries.len;obtain⟨be,oe,hA,b6,ev,a3,b0,b1,b2,b3,b4,b5,D⟩:=hb.entries.at_ (k:=i) aA;have s:=aB (fun (w':aAB) (h:ZY w w') (self below:Int) (A':ZZ) (n' c':Nat) (l:List Nd) (h2:aX w' A' n' c' l)=>kY (hb.below h) (i:Int) self below aA h2);have U:=aB (fun (w':aAB) (h:ZY w w') (self below:Int) (h0:0<=below) (h1:below<=1000) (A':ZZ) (n' c':Nat) (ls:aAA) (h2:fP w' A' n' c' ls)=>oC (hb.below h) (i:Int) self below aA h0 h1 h2);have HX:=aB (fun (w':aAB) (h:ZY w w')=>D.below h);have f0:=D.sort.few;have f1:=D.params.few;have f2:=D.indices.few;have f3:=D.ctors.few;have f4:=D.type.few;have f5:=D.body.few;have l0:=D.sort.len;have l1:=D.params.len;have l2:=D.indices.len;have l3:=D.ctors.len;have l4:=D.type.len;have l5:=D.body.len;obtain⟨x,hx⟩:=aAJ (b.entries.getD i default);rw[<-hx]at a3 HX hk l0 l1 l2 l3 l4 l5 ⊢;obtain⟨b7,F⟩:=aAJ (dK b i x);rw[<-F];unfold dK at F;rw[l0,l1,l2,l3,l4,l5]at F;have a4:i<v.ne:=aA;clear D hx hb a6 hi;obtain⟨Ao,no,co,Ae,ne,ce,Ap,np,cp⟩:=v;obtain⟨As,ns,cs,G,a0,z,Ai,ni,ci,Ac,nc,cc,At,nt,ct,Ab,nb,cb⟩:=ev;simp only at b0 b1 b2 b3 b4 b5 hA a4 s U HX f0 f1 f2 f3 f4 f5 l0 l1 l2 l3 l4 l5 F ⊢;subst hA;obtain⟨bv,a2⟩:=aAJ b.vars;obtain⟨bn,a1⟩:=aAJ b.nat;obtain⟨kd,a5⟩:=aAJ x.kind;rw[<-a2]at s U ⊢;rw[<-a1]at s U ⊢;rw[<-a5]at a3 hk F;clear a2 a1 a5;have a7:=aB ((aQ w (I #[O X bv,Y Ao no co,Y (J ⟨be,oe,Z⟩) ne ce,O X bn,Y Ap np cp] 26)).alloc aD (I #[O X kd,Y As ns cs,Y G a0 z,Y Ai ni ci,Y Ac nc cc,Y At nt ct,Y Ab nb cb] 61));have a8:Hid (aT ((w.alloc (I #[O X bv,Y Ao no co,Y (J ⟨be,oe,Z⟩) ne ce,O X bn,Y Ap np cp] 26)).alloc (I #[O X kd,Y As ns cs,Y G a0 z,Y Ai ni ci,Y Ac nc cc,Y At nt ct,Y Ab nb cb] 61)) (w.heap.size+1) 61 #[O X kd,Y As ns cs,Y G a0 z,Y Ai ni ci,Y Ac nc cc,Y At nt ct,Y Ab nb cb]):=aB (by
  have h:=aT.new (w.alloc (I #[O X bv,Y Ao no co,Y (J ⟨be,oe,Z⟩) ne ce,O X bn,Y Ap np cp] 26)) 61 #[O X kd,Y As ns cs,Y G a0 z,Y Ai ni ci,Y Ac nc cc,Y At nt ct,Y Ab nb cb];rw[show (w.alloc (I #[O X bv,Y Ao no co,Y (J ⟨be,oe,Z⟩) ne ce,O X bn,Y Ap np cp] 26)).heap.size=w.heap.size+1 from by simp]at h;exact h)
 rw[XN hk.1,XN hk.2]at F;have d1:(kd==2)=false:=by simpa using hk.2
 have d2:(kd != 1)=true:=by simpa using hk.1
 have a9:=aB F;clear F hk s U HX a8;go_in;go_wp2_with fail;go_ret;rw[a9.o];exact⟨rfl,a7.o⟩
theorem C5(hb:cE w v b)(i:Nat)(hi:i<b.entries.length)(hk:(b.entries.getD i default).kind=2):
 Calls Tryz.prog 53 #[.agg #[O X b.vars,Y v.Ao v.no v.co,Y v.Ae v.ne v.ce,O X b.nat,Y v.Ap v.np v.cp],O X (i:Int)] w (iV (dK b i (b.entries.getD i default)) w):=by
 have b8:=hb.entries.len;obtain⟨be,oe,hA,c8,ev,b3,c0,c1,c2,c3,c4,c5,F⟩:=hb.entries.at_ (k:=i) aA;have s:=aB (fun (w':aAB) (h:ZY w w') (self below:Int) (A':ZZ) (n' c':Nat) (l:List Nd) (h2:aX w' A' n' c' l)=>kY (hb.below h) (i:Int) self below aA h2);have a5:=aB (fun (w':aAB) (h:ZY w w') (self below:Int) (h0:0<=below) (h1:below<=1000) (A':ZZ) (n' c':Nat) (ls:aAA) (h2:fP w' A' n' c' ls)=>oC (hb.below h) (i:Int) self below aA h0 h1 h2);have HX:=aB (fun (w':aAB) (h:ZY w w')=>F.below h);have f0:=F.sort.few;have f1:=F.params.few;have f2:=F.indices.few;have f3:=F.ctors.few;have f4:=F.type.few;have f5:=F.body.few;have l0:=F.sort.len;have l1:=F.params.len;have l2:=F.indices.len;have l3:=F.ctors.len;have l4:=F.type.len;have l5:=F.body.len;obtain⟨x,hx⟩:=aAJ (b.entries.getD i default);rw[<-hx]at b3 HX hk l0 l1 l2 l3 l4 l5 ⊢;obtain⟨c7,D⟩:=aAJ (dK b i x);rw[<-D];unfold dK at D;rw[l0,l1,l2,l3,l4,l5]at D;have b6:i<v.ne:=aA;clear F hx hb b8 hi;obtain⟨Ao,no,co,Ae,ne,ce,Ap,np,cp⟩:=v;obtain⟨As,ns,cs,a0,G,a6,Ai,ni,ci,Ac,nc,cc,At,nt,ct,Ab,nb,cb⟩:=ev;simp only at c0 c1 c2 c3 c4 c5 hA b6 s a5 HX f0 f1 f2 f3 f4 f5 l0 l1 l2 l3 l4 l5 D ⊢;subst hA;obtain⟨bv,b2⟩:=aAJ b.vars;obtain⟨bn,b1⟩:=aAJ b.nat;obtain⟨kd,b7⟩:=aAJ x.kind;rw[<-b2]at s a5 ⊢;rw[<-b1]at s a5 ⊢;rw[<-b7]at b3 hk D;clear b2 b1 b7;have a1:=aB ((aQ w (I #[O X bv,Y Ao no co,Y (J ⟨be,oe,Z⟩) ne ce,O X bn,Y Ap np cp] 26)).alloc aD (I #[O X kd,Y As ns cs,Y a0 G a6,Y Ai ni ci,Y Ac nc cc,Y At nt ct,Y Ab nb cb] 61));have a2:Hid (aT ((w.alloc (I #[O X bv,Y Ao no co,Y (J ⟨be,oe,Z⟩) ne ce,O X bn,Y Ap np cp] 26)).alloc (I #[O X kd,Y As ns cs,Y a0 G a6,Y Ai ni ci,Y Ac nc cc,Y At nt ct,Y Ab nb cb] 61)) w.heap.size 26 #[O X bv,Y Ao no co,Y (J ⟨be,oe,Z⟩) ne ce,O X bn,Y Ap np cp]):=aB ((aT.new w 26 #[O X bv,Y Ao no co,Y (J ⟨be,oe,Z⟩) ne ce,O X bn,Y Ap np cp]).alloc _);have a3:Hid (aT ((w.alloc (I #[O X bv,Y Ao no co,Y (J ⟨be,oe,Z⟩) ne ce,O X bn,Y Ap np cp] 26)).alloc (I #[O X kd,Y As ns cs,Y a0 G a6,Y Ai ni ci,Y Ac nc cc,Y At nt ct,Y Ab nb cb] 61)) (w.heap.size+1) 61 #[O X kd,Y As ns cs,Y a0 G a6,Y Ai ni ci,Y Ac nc cc,Y At nt ct,Y Ab nb cb]):=aB (by
  have h:=aT.new (w.alloc (I #[O X bv,Y Ao no co,Y (J ⟨be,oe,Z⟩) ne ce,O X bn,Y Ap np cp] 26)) 61 #[O X kd,Y As ns cs,Y a0 G a6,Y Ai ni ci,Y Ac nc cc,Y At nt ct,Y Ab nb cb];rw[show (w.alloc (I #[O X bv,Y Ao no co,Y (J ⟨be,oe,Z⟩) ne ce,O X bn,Y Ap np cp] 26)).heap.size=w.heap.size+1 from by simp]at h;exact h)
 subst hk;rw[XN aE,XP rfl]at D;by_cases hz:0<ns+G+ni+nc
 . rw[XP hz]at D;have a4:=aB D;have c6:(ns≠0)\/(ns=0/\G≠0)\/(ns=0/\G=0/\ni≠0)\/(ns=0/\G=0/\ni=0/\nc≠0):=aA;clear D hz s a5 HX a2 a3 l0 l1 l2 l3 l4 l5;rcases c6 with h|⟨rfl,h⟩|⟨rfl,rfl,h⟩|⟨rfl,rfl,rfl,h⟩
   case' inl=>have d1:((ns:Int) != 0)=true:=by rw[bne_iff_ne];omega
   case' inr.inl=>have d1:((G:Int) != 0)=true:=by rw[bne_iff_ne];omega
   case' inr.inr.inl=>have d1:((ni:Int) != 0)=true:=by rw[bne_iff_ne];omega
   case' inr.inr.inr=>have d1:((nc:Int) != 0)=true:=by rw[bne_iff_ne];omega
   all_goals
    go_in;go_wp2_with fail;go_ret;rw[a4.o];exact⟨rfl,a1.o⟩
 rw[XN hz]at D;have z0:ns=0:=aA;have z1:G=0:=aA;have z2:ni=0:=aA;have z3:nc=0:=aA;subst z0 z1 z2 z3;have z:∀(l:List Nd)(r:aAA)(bl:Int),dE b i (-1) 0 (l::r) bl=if fM b i (-1) l bl≠0 then fM b i (-1) l bl else dE b i (-1) 0 r (bl+0):=fun _ _ _=>rfl;rw[z,z,YQ,show dE b i (-1) 0 [] (0+0)=0 from rfl]at D;clear z hz l0 l1 l2 l3 l4 l5;obtain⟨a8,a9⟩:=aAC (s.o _ a1.o (-1) 0 At nt ct _ (HX.o _ a1.o).type) (fun w' h=>s.o w' h (-1) 0 Ab nb cb _ (HX.o w' h).body);obtain⟨e1,b4⟩:=aAJ (fM b i (-1) x.type 0);obtain⟨e2,b5⟩:=aAJ (fM b i (-1) x.body 0);rw[<-b4]at a8 D;rw[<-b5]at a9 D;clear b4 b5 s a5 HX;by_cases h1:e1=0
 . subst h1;rw[XN aD]at D;have a4:Hid (c7=e2):=aB (by rw[D];split<;>simp_all);clear D;go_in;go_wp2_with fail;refine a8.o.mono ?_;rintro e w3 ⟨rfl,U⟩;have a7:=bY a1 U;have zb:=aT.cell (aT.below a2.o U a2.o.lt);have ze:=aT.cell (aT.below a3.o U a3.o.lt);clear U;go_wp2_with fail;refine (a9.o _ a7.o).mono ?_;rintro e w4 ⟨rfl,b0⟩;have b9:=bY a7 b0;clear b0 zb ze;go_wp2_with fail;go_ret;rw[a4.o];exact⟨rfl,b9.o⟩
 rw[XP h1]at D;have a4:=aB D;have d1:(e1==0)=false:=by simpa using h1
 clear D h1;go_in;go_wp2_with fail;refine a8.o.mono ?_;rintro e w3 ⟨rfl,U⟩;have a7:=bY a1 U;have zb:=aT.cell (aT.below a2.o U a2.o.lt);have ze:=aT.cell (aT.below a3.o U a3.o.lt);clear U;go_wp2_with fail;go_ret;rw[a4.o];exact⟨rfl,a7.o⟩
theorem C6(hb:cE w v b)(i:Nat)(hi:i<b.entries.length)(hk:(b.entries.getD i default).kind=1):
 Calls Tryz.prog 53 #[.agg #[O X b.vars,Y v.Ao v.no v.co,Y v.Ae v.ne v.ce,O X b.nat,Y v.Ap v.np v.cp],O X (i:Int)] w (iV (dK b i (b.entries.getD i default)) w):=by
 have k5:=hb.entries.len;obtain⟨be,oe,hA,o8,ev,j5,m8,m9,n0,n3,n4,n5,a5⟩:=hb.entries.at_ (k:=i) aA;have b3:=aB (fun (w':aAB) (h:ZY w w') (self below:Int) (A':ZZ) (n' c':Nat) (l:List Nd) (h2:aX w' A' n' c' l)=>kY (hb.below h) (i:Int) self below aA h2);have a9:=aB (fun (w':aAB) (h:ZY w w') (self below:Int) (h0:0<=below) (h1:below<=1000) (A':ZZ) (n' c':Nat) (ls:aAA) (h2:fP w' A' n' c' ls)=>oC (hb.below h) (i:Int) self below aA h0 h1 h2);have HX:=aB (fun (w':aAB) (h:ZY w w')=>a5.below h);have f0:=a5.sort.few;have f1:=a5.params.few;have f2:=a5.indices.few;have f3:=a5.ctors.few;have f4:=a5.type.few;have f5:=a5.body.few;have l0:=a5.sort.len;have l1:=a5.params.len;have l2:=a5.indices.len;have l3:=a5.ctors.len;have l4:=a5.type.len;have l5:=a5.body.len;obtain⟨x,hx⟩:=aAJ (b.entries.getD i default);rw[<-hx]at j5 HX hk l0 l1 l2 l3 l4 l5 ⊢;obtain⟨b6,D⟩:=aAJ (dK b i x);rw[<-D];unfold dK at D;rw[l0,l1,l2,l3,l4,l5]at D;have k2:i<v.ne:=aA;clear a5 hx hb k5 hi;obtain⟨Ao,no,co,Ae,ne,ce,Ap,np,cp⟩:=v;obtain⟨As,ns,cs,a8,F,b0,Ai,ni,ci,Ac,nc,cc,At,nt,ct,Ab,nb,cb⟩:=ev;simp only at m8 m9 n0 n3 n4 n5 hA k2 b3 a9 HX f0 f1 f2 f3 f4 f5 l0 l1 l2 l3 l4 l5 D ⊢;subst hA;obtain⟨bv,j4⟩:=aAJ b.vars;obtain⟨bn,j1⟩:=aAJ b.nat;obtain⟨kd,k4⟩:=aAJ x.kind;rw[<-j4]at b3 a9 ⊢;rw[<-j1]at b3 a9 ⊢;rw[<-k4]at j5 hk D;clear j4 j1 k4;have b5:=aB ((aQ w (I #[O X bv,Y Ao no co,Y (J ⟨be,oe,Z⟩) ne ce,O X bn,Y Ap np cp] 26)).alloc aD (I #[O X kd,Y As ns cs,Y a8 F b0,Y Ai ni ci,Y Ac nc cc,Y At nt ct,Y Ab nb cb] 61));have c4:Hid (aT ((w.alloc (I #[O X bv,Y Ao no co,Y (J ⟨be,oe,Z⟩) ne ce,O X bn,Y Ap np cp] 26)).alloc (I #[O X kd,Y As ns cs,Y a8 F b0,Y Ai ni ci,Y Ac nc cc,Y At nt ct,Y Ab nb cb] 61)) w.heap.size 26 #[O X bv,Y Ao no co,Y (J ⟨be,oe,Z⟩) ne ce,O X bn,Y Ap np cp]):=aB ((aT.new w 26 #[O X bv,Y Ao no co,Y (J ⟨be,oe,Z⟩) ne ce,O X bn,Y Ap np cp]).alloc _);have c5:Hid (aT ((w.alloc (I #[O X bv,Y Ao no co,Y (J ⟨be,oe,Z⟩) ne ce,O X bn,Y Ap np cp] 26)).alloc (I #[O X kd,Y As ns cs,Y a8 F b0,Y Ai ni ci,Y Ac nc cc,Y At nt ct,Y Ab nb cb] 61)) (w.heap.size+1) 61 #[O X kd,Y As ns cs,Y a8 F b0,Y Ai ni ci,Y Ac nc cc,Y At nt ct,Y Ab nb cb]):=aB (by
  have h:=aT.new (w.alloc (I #[O X bv,Y Ao no co,Y (J ⟨be,oe,Z⟩) ne ce,O X bn,Y Ap np cp] 26)) 61 #[O X kd,Y As ns cs,Y a8 F b0,Y Ai ni ci,Y Ac nc cc,Y At nt ct,Y Ab nb cb];rw[show (w.alloc (I #[O X bv,Y Ao no co,Y (J ⟨be,oe,Z⟩) ne ce,O X bn,Y Ap np cp] 26)).heap.size=w.heap.size+1 from by simp]at h;exact h)
 subst hk;rw[XP rfl]at D;by_cases hz:0<nt+nb
 . rw[XP hz]at D;have a0:=aB D;have i6:(nt≠0)\/(nt=0/\nb≠0):=aA;clear D hz b3 a9 HX c4 c5 l0 l1 l2 l3 l4 l5;rcases i6 with h|⟨rfl,h⟩
   case' inl=>have d1:((nt:Int) != 0)=true:=by rw[bne_iff_ne];omega
   case' inr=>have d1:((nb:Int) != 0)=true:=by rw[bne_iff_ne];omega
   all_goals
    go_in;go_wp2_with fail;go_ret;rw[a0.o];exact⟨rfl,b5.o⟩
 rw[XN hz]at D;have z0:nt=0:=aA;have z1:nb=0:=aA;subst z0 z1;by_cases hf:16<F\/16<ni\/16<nc
 . rw[XP hf]at D;have a0:=aB D;have i6:(16<F)\/(¬ 16<F/\16<ni)\/(¬ 16<F/\¬ 16<ni/\16<nc):=aA;clear hf D hz b3 a9 HX c4 c5 l0 l1 l2 l3 l4 l5;rcases i6 with h|⟨g1,h⟩|⟨g1,g2,h⟩
   case' inl=>have d1:decide ((F:Int)>16)=true:=XR aA
   case' inr.inl =>
    have d1:decide ((F:Int)>16)=false:=XQ aA;have d2:decide ((ni:Int)>16)=true:=XR aA
   case' inr.inr =>
    have d1:decide ((F:Int)>16)=false:=XQ aA;have d2:decide ((ni:Int)>16)=false:=XQ aA;have d3:decide ((nc:Int)>16)=true:=XR aA
   all_goals
    go_in;go_wp2_with fail;go_ret;rw[a0.o];exact⟨rfl,b5.o⟩
 rw[XN hf]at D;have d1:decide ((F:Int)>16)=false:=XQ aA;have d2:decide ((ni:Int)>16)=false:=XQ aA;have d3:decide ((nc:Int)>16)=false:=XQ aA;have o6:F<=16:=aA;have o4:nc<=16:=aA;clear hz hf l4 l5;obtain⟨b1,c7,c8⟩:=aAF (b3.o _ b5.o (-1) 0 As ns cs _ (HX.o _ b5.o).sort) (fun w' h=>a9.o w' h (-1) 0 aA aA a8 F b0 _ (HX.o w' h).params) (fun w' h=>a9.o w' h (-1) (F:Int) aA aA Ai ni ci _ (HX.o w' h).indices);obtain⟨e1,d8⟩:=aAJ (fM b i (-1) x.sort 0);obtain⟨e3,j9⟩:=aAJ (dE b i (-1) 1 x.params 0);obtain⟨e4,k0⟩:=aAJ (dE b i (-1) 1 x.indices (F:Int));rw[<-d8]at b1 D;rw[<-j9]at c7 D;rw[<-k0]at c8 D;have i5:e1=0->0<ns:=fun h=>by
  rw[d8]at h;unfold fM at h;by_cases hs:a6 x.sort=0
  . obtain⟨_,n',a',k',_,hl,_⟩:=eN hs;rw[hl,YA]at l0;omega
  rw[XP hs]at h;exact absurd h hs
 have c9:=aB (fun (w':aAB) (h:ZY w w') (h0:e1=0)=>And.intro (i5 h0) ((HX.o w' h).sort.at_ (i5 h0)));have k7:nE x.sort=if (bC x.sort 0).op≠2 then 8 else 0:=rfl;rw[k7]at D;simp only[jW]at D;generalize (bC x.sort 0).op=sop at *;clear d8 j9 k0 i5 k7 l0;by_cases h1:e1=0;case neg =>
  rw[XP h1]at D;have a0:=aB D;have y0:(e1==0)=false:=by simpa using h1
  clear D h1 b3 a9 HX c7 c8 c9;go_in;go_wp2_with fail;refine b1.o.mono ?_;rintro e w3 ⟨rfl,U⟩;have a1:=bY b5 U;have z:=j8 c4 U;have s:=j8 c5 U;have b9:=aT.cell z.o;have c0:=aT.cell s.o;clear U;go_wp2_with fail;clear b9 c0;go_loopw [8,9] (fun tv iv wr=>tv=O X e1/\iv=O X 0/\Hid (aT wr (w.heap.size+1) 61 #[O X 1,Y As ns cs,Y a8 F b0,Y Ai ni ci,Y Ac nc cc,Y At 0 ct,Y Ab 0 cb])/\Hid (ZY w wr)) (fun _ _ _=>0)
  case atStart=>exact⟨rfl,rfl,s,a1⟩
  case round =>
   obtain⟨rfl,rfl,b4,a2⟩:=hrel;have ze:=aT.cell b4.o;by_cases i4:0<nc
   . have y1:decide ((0:Int)<(nc:Int))=true:=XR aA;go_wp2_with fail;go_ret;rw[a0.o];exact⟨rfl,a2.o⟩
   have y1:decide ((0:Int)<(nc:Int))=false:=XQ aA;go_wp2_with fail;go_ret;rw[a0.o];exact⟨rfl,a2.o⟩
 subst h1;rw[XN aD]at D;by_cases h2:sop=2;case neg =>
  rw[XP h2,XP aE]at D;have a0:=aB D;have y0:(sop != 2)=true:=by simpa using h2
  obtain⟨n8,bs,os,i1,e5,c6,_,_⟩:=(c9.o w (XS _ _) rfl);rw[YU,YF]at c6;subst i1;clear D h2 b3 a9 HX c7 c8 c9;go_in;go_wp2_with fail;refine b1.o.mono ?_;rintro e w3 ⟨rfl,U⟩;have a1:=bY b5 U;have z:=j8 c4 U;have s:=j8 c5 U;have b9:=aT.cell z.o;have c0:=aT.cell s.o;clear U;have g4:=(a1.o.cell (p:=⟨bs,os,Z⟩) e5).trans c6;go_wp2_with fail;clear b9 c0;go_loopw [8,9] (fun tv iv wr=>tv=O X 8/\iv=O X 0/\Hid (aT wr (w.heap.size+1) 61 #[O X 1,Y (J ⟨bs,os,Z⟩) ns cs,Y a8 F b0,Y Ai ni ci,Y Ac nc cc,Y At 0 ct,Y Ab 0 cb])/\Hid (ZY w wr)) (fun _ _ _=>0)
  case atStart=>exact⟨rfl,rfl,s,a1⟩
  case round =>
   obtain⟨rfl,rfl,b4,a2⟩:=hrel;have ze:=aT.cell b4.o;by_cases i4:0<nc
   . have y1:decide ((0:Int)<(nc:Int))=true:=XR aA;go_wp2_with fail;go_ret;rw[a0.o];exact⟨rfl,a2.o⟩
   have y1:decide ((0:Int)<(nc:Int))=false:=XQ aA;go_wp2_with fail;go_ret;rw[a0.o];exact⟨rfl,a2.o⟩
 subst h2;rw[XN aD]at D;have y0:((2:Int) != 2)=false:=by decide
 obtain⟨n8,bs,os,i1,e5,c6,_,_⟩:=(c9.o w (XS _ _) rfl);rw[YU,YF]at c6;subst i1;by_cases h3:e3=0;case neg =>
  rw[XP h3]at D;have a0:=aB D;have y3:(e3==0)=false:=by simpa using h3
  clear D h3 b3 a9 HX c8 c9;go_in;go_wp2_with fail;refine b1.o.mono ?_;rintro e w3 ⟨rfl,U⟩;have a1:=bY b5 U;have z:=j8 c4 U;have s:=j8 c5 U;have b9:=aT.cell z.o;have c0:=aT.cell s.o;clear U;have g4:=(a1.o.cell (p:=⟨bs,os,Z⟩) e5).trans c6;go_wp2_with fail;refine (c7.o _ a1.o).mono ?_;rintro e w4 ⟨rfl,a4⟩;have c3:=bY a1 a4;have a7:=j8 z a4;have a3:=j8 s a4;have f6:=aT.cell a7.o;have f9:=aT.cell a3.o;clear a4;clear b9 c0;go_wp2_with fail;clear f6 f9;go_loopw [8,9] (fun tv iv wr=>tv=O X e3/\iv=O X 0/\Hid (aT wr (w.heap.size+1) 61 #[O X 1,Y (J ⟨bs,os,Z⟩) ns cs,Y a8 F b0,Y Ai ni ci,Y Ac nc cc,Y At 0 ct,Y Ab 0 cb])/\Hid (ZY w wr)) (fun _ _ _=>0)
  case atStart=>exact⟨rfl,rfl,a3,c3⟩
  case round =>
   obtain⟨rfl,rfl,b4,a2⟩:=hrel;have ze:=aT.cell b4.o;by_cases i4:0<nc
   . have y1:decide ((0:Int)<(nc:Int))=true:=XR aA;go_wp2_with fail;go_ret;rw[a0.o];exact⟨rfl,a2.o⟩
   have y1:decide ((0:Int)<(nc:Int))=false:=XQ aA;go_wp2_with fail;go_ret;rw[a0.o];exact⟨rfl,a2.o⟩
 subst h3;rw[XN aD]at D;by_cases h4:e4=0;case neg =>
  rw[XP h4]at D;have a0:=aB D;have y4:(e4==0)=false:=by simpa using h4
  clear D h4 b3 a9 HX c9;go_in;go_wp2_with fail;refine b1.o.mono ?_;rintro e w3 ⟨rfl,U⟩;have a1:=bY b5 U;have z:=j8 c4 U;have s:=j8 c5 U;have b9:=aT.cell z.o;have c0:=aT.cell s.o;clear U;have g4:=(a1.o.cell (p:=⟨bs,os,Z⟩) e5).trans c6;go_wp2_with fail;refine (c7.o _ a1.o).mono ?_;rintro e w4 ⟨rfl,a4⟩;have c3:=bY a1 a4;have a7:=j8 z a4;have a3:=j8 s a4;have f6:=aT.cell a7.o;have f9:=aT.cell a3.o;clear a4;clear b9 c0;go_wp2_with fail;refine (c8.o _ c3.o).mono ?_;rintro e w5 ⟨rfl,b7⟩;have g0:=bY c3 b7;have e0:=j8 a7 b7;have d4:=j8 a3 b7;clear b7;clear f6 f9;go_wp2_with fail;go_loopw [8,9] (fun tv iv wr=>tv=O X e4/\iv=O X 0/\Hid (aT wr (w.heap.size+1) 61 #[O X 1,Y (J ⟨bs,os,Z⟩) ns cs,Y a8 F b0,Y Ai ni ci,Y Ac nc cc,Y At 0 ct,Y Ab 0 cb])/\Hid (ZY w wr)) (fun _ _ _=>0)
  case atStart=>exact⟨rfl,rfl,d4,g0⟩
  case round =>
   obtain⟨rfl,rfl,b4,a2⟩:=hrel;have ze:=aT.cell b4.o;by_cases i4:0<nc
   . have y1:decide ((0:Int)<(nc:Int))=true:=XR aA;go_wp2_with fail;go_ret;rw[a0.o];exact⟨rfl,a2.o⟩
   have y1:decide ((0:Int)<(nc:Int))=false:=XQ aA;go_wp2_with fail;go_ret;rw[a0.o];exact⟨rfl,a2.o⟩
 subst h4;rw[XN aD]at D;have HR:Hid (b6=gI b i x x.ctors):=aB (by rw[D];split<;>simp_all);clear D;go_in;go_wp2_with fail;refine b1.o.mono ?_;rintro e w3 ⟨rfl,U⟩;have a1:=bY b5 U;have z:=j8 c4 U;have s:=j8 c5 U;have b9:=aT.cell z.o;have c0:=aT.cell s.o;clear U;have g4:=(a1.o.cell (p:=⟨bs,os,Z⟩) e5).trans c6;clear b1 b5 c4 c5;go_wp2_with fail;refine (c7.o _ a1.o).mono ?_;rintro e w4 ⟨rfl,a4⟩;have c3:=bY a1 a4;have a7:=j8 z a4;have a3:=j8 s a4;have f6:=aT.cell a7.o;have f9:=aT.cell a3.o;clear a4;clear b9 c0 z s a1 c7;go_wp2_with fail;refine (c8.o _ c3.o).mono ?_;rintro e w5 ⟨rfl,b7⟩;have g0:=bY c3 b7;have e0:=j8 a7 b7;have d4:=j8 a3 b7;clear b7;clear f6 f9 a7 a3 c3 c8;go_wp2_with fail;clear g4 c6 c9;have b8:∀(c:Ct)(r:List Ct),gI b i x (c::r)=(if 16<c.args.length then 5
  else if c.outs.length≠x.indices.length then 8
  else if dE b i i 1 c.args x.params.length≠0 then dE b i i 1 c.args x.params.length
  else if dE b i i 0 c.outs ((x.params.length:Int)+c.args.length)≠0 then dE b i i 0 c.outs ((x.params.length:Int)+c.args.length)
  else gI b i x r):=fun _ _=>rfl
 rw[l1,l2]at b8;have m4:=aB b8;have d7:∀(l:List Nd)(r:aAA)(bl:Int),dE b i i 0 (l::r) bl=if fM b i i l bl≠0 then fM b i i l bl else dE b i i 0 r (bl+0):=fun _ _ _=>rfl;have m5:=aB d7;clear b8 d7;go_loopw [8,9] (fun tv iv wr=>∃(k:Nat)(e:Int),tv=O X e/\iv=O X (k:Int)/\k<=nc/\Hid ((if e≠0 then e else gI b i x (x.ctors.drop k))=b6)/\Hid (aT wr w.heap.size 26 #[O X bv,Y Ao no co,Y (J ⟨be,oe,Z⟩) ne ce,O X bn,Y Ap np cp])/\Hid (aT wr (w.heap.size+1) 61 #[O X 1,Y (J ⟨bs,os,Z⟩) ns cs,Y a8 F b0,Y Ai ni ci,Y Ac nc cc,Y At 0 ct,Y Ab 0 cb])/\Hid (ZY w wr)) (fun _ iv _=>nc-(intOf iv).toNat)
 case atStart=>exact⟨0,0,rfl,rfl,by omega,aB (by rw[XN aD,List.drop_zero];exact HR.o.symm),e0,d4,g0⟩
 case round =>
  clear e0 d4 g0;obtain⟨k,e,rfl,rfl,p0,hq,i3,b4,a2⟩:=hrel;have ze:=aT.cell b4.o;by_cases k6:k<nc;case neg =>
   have y1:decide ((k:Int)<(nc:Int))=false:=XQ aA;have G:=hq.o;rw[YY (by rw[l3];omega)]at G;have a0:Hid (b6=e):=aB (by
    rw[<-G];by_cases h:e=0
    . rw[XN (by simpa using h),h];rfl
    rw[XP h])
   clear G;go_wp2_with fail;go_ret;rw[a0.o];exact⟨rfl,a2.o⟩
  have y1:decide ((k:Int)<(nc:Int))=true:=XR aA;by_cases h0:e=0;case neg =>
   have y3:(e==0)=false:=by simpa using h0
   have G:=hq.o;rw[XP h0]at G;have a0:Hid (b6=e):=aB G.symm;clear G h0;go_wp2_with fail;go_ret;rw[a0.o];exact⟨rfl,a2.o⟩
  subst h0;have k1:k<x.ctors.length:=by rw[l3];exact k6
  have G:=hq.o;rw[XN aD,YX k1,show x.ctors[k]=x.ctors.getD k default from by rw[YD,YB k1];rfl,m4.o]at G;obtain⟨bc,oc,rfl,o7,hm⟩:=(HX.o wr a2.o).ctors.mem (by show 0<nc;omega);obtain⟨A1,n1,c1,A2,n2,c2,n6,n7,e8,e9⟩:=hm k k6;obtain⟨cx,j7⟩:=aAJ (x.ctors.getD k default);rw[<-j7]at e8 e9 G;have m1:=e8.len;have m2:=e9.len;have g1:=e8.few;have g2:=e9.few;rw[m1,m2]at G;have d9:=aB (a2.o.trans ((aQ wr (I #[Y A1 n1 c1,Y A2 n2 c2] 64)).mono a2.o.size));have g7:=aB (i3.o.alloc (I #[Y A1 n1 c1,Y A2 n2 c2] 64));have g9:=aB (b4.o.alloc (I #[Y A1 n1 c1,Y A2 n2 c2] 64));have h7:=aB (aT.new wr 64 #[Y A1 n1 c1,Y A2 n2 c2]);have i0:=e8.below (aQ wr (I #[Y A1 n1 c1,Y A2 n2 c2] 64));have m3:=aB (fun (w':aAB) (h:ZY wr w')=>e9.below h);have g5:=aB (aQ wr (I #[Y A1 n1 c1,Y A2 n2 c2] 64));have zb:=aT.cell i3.o;have o1:=i3.o.lt;have o3:=b4.o.lt;clear hm j7 e8 e9 hq;by_cases e2:16<n1
  . rw[XP e2]at G;have a0:Hid (b6=5):=aB G.symm;have x1:decide ((n1:Int)>16)=true:=XR aA;clear G m1 m2 e2;go_wp2_with fail;go_ret;rw[a0.o];exact⟨rfl,d9.o⟩
  rw[XN e2]at G;have x1:decide ((n1:Int)>16)=false:=XQ aA;by_cases d6:n2=ni;case neg =>
   rw[XP d6]at G;have a0:Hid (b6=8):=aB G.symm;have x2:((n2:Int) != (ni:Int))=true:=by rw[bne_iff_ne];omega
   clear G m1 m2 e2 d6;go_wp2_with fail;go_ret;rw[a0.o];exact⟨rfl,d9.o⟩
  rw[XN (by simpa using d6)]at G;have x2:((n2:Int) != (ni:Int))=false:=by rw[bne_eq_false_iff_eq];omega
  have o5:n1<=16:=aA;have b1:=aB (a9.o _ d9.o (i:Int) (F:Int) aA aA A1 n1 c1 cx.args i0);obtain⟨e1,d8⟩:=aAJ (dE b i i 1 cx.args F);rw[<-d8]at b1 G;have HQ:Hid ((if e1≠0 then e1 else if dE b i i 0 (cx.outs.drop 0) ((F:Int)+n1)≠0 then dE b i i 0 (cx.outs.drop 0) ((F:Int)+n1) else gI b i x (x.ctors.drop (k+1)))=b6):=aB G;clear d8 m1 e2 d6 i0 G;go_wp2_with fail;refine b1.o.mono ?_;rintro e w3 ⟨rfl,U⟩;have a1:=bY d9 U;have j0:=bY g5 U;have z:=j8 g7 U;have s:=j8 g9 U;have h5:=j8 h7 U;clear U zb ze n6 n7;obtain⟨wo,rfl⟩:=aAJ wr;go_wp2_with fail;go_loopw [8,11] (fun tv iv wi=>∃(j:Nat)(e:Int),tv=O X e/\iv=O X (j:Int)/\j<=n2/\Hid ((if e≠0 then e else if dE b i i 0 (cx.outs.drop j) ((F:Int)+n1)≠0 then dE b i i 0 (cx.outs.drop j) ((F:Int)+n1) else gI b i x (x.ctors.drop (k+1)))=b6)/\Hid (aT wi w.heap.size 26 #[O X bv,Y Ao no co,Y (J ⟨be,oe,Z⟩) ne ce,O X bn,Y Ap np cp])/\Hid (aT wi (w.heap.size+1) 61 #[O X 1,Y (J ⟨bs,os,Z⟩) ns cs,Y a8 F b0,Y Ai ni ci,Y (J ⟨bc,oc,Z⟩) nc cc,Y At 0 ct,Y Ab 0 cb])/\Hid (aT wi wo.heap.size 64 #[Y A1 n1 c1,Y A2 n2 c2])/\Hid (ZY w wi)/\Hid (ZY wo wi)) (fun _ iv _=>n2-(intOf iv).toNat)
  case atStart=>exact⟨0,e1,rfl,rfl,by omega,HQ,z,s,h5,a1,j0⟩
  case round =>
   clear z s h5 a1 j0 HQ b1 g7 g9 h7 d9 g5;obtain⟨j,e,rfl,rfl,o9,hq,e6,e7,h9,i2,k9⟩:=hrel;have zc:=aT.cell h9.o;by_cases d5:j<n2;case neg =>
    have y3:decide ((j:Int)<(n2:Int))=false:=XQ aA;have y4:decide (j<n2)=false:=XQ d5;have G:=hq.o;rw[YY (by rw[m2];omega),show dE b i i 0 [] ((F:Int)+n1)=0 from rfl,XN (c:=(0:Int)≠0) aD]at G;have HQ:=aB G;clear G hq;go_wp2_with fail;go_roundw
    case rel=>exact⟨k+1,e,rfl,by go_num,by omega,HQ,e6,e7,i2⟩
    case measure=>simp[intOf];omega
   have y3:decide ((j:Int)<(n2:Int))=true:=XR aA;have y4:decide (j<n2)=true:=XR d5;by_cases h0:e=0;case neg =>
    have y5:(e==0)=false:=by simpa using h0
    have G:=hq.o;rw[XP h0]at G;have HQ:Hid ((if e≠0 then e else gI b i x (x.ctors.drop (k+1)))=b6):=aB (by rw[XP h0];exact G);clear G hq h0;go_wp2_with fail;go_roundw
    case rel=>exact⟨k+1,e,rfl,by go_num,by omega,HQ,e6,e7,i2⟩
    case measure=>simp[intOf];omega
   subst h0;have k3:j<cx.outs.length:=by rw[m2];exact d5
   have G:=hq.o;rw[XN (c:=(0:Int)≠0) aD,YX k3,show cx.outs[j]=cx.outs.getD j [] from by rw[YD,YB k3];rfl,m5.o,YQ]at G;obtain⟨b2,o2,A',n',c',rfl,j2,j6,k8⟩:=(m3.o wr k9.o).at_ d5;have i7:=aB (aU i2.o 1);have m7:=aB (aU k9.o 1);have g3:=aU (XS wr.heap.size wr) 1;have g8:=aB (e6.o.drewN 1);have i9:=aB (e7.o.drewN 1);have h8:=aB (h9.o.drewN 1);have f8:=aT.cell g8.o;have l7:=aT.cell h8.o;have l8:=(g3.cell (p:=⟨b2,o2+j,Z⟩) j2).trans j6;have j3:=XT j2 g3.size;have n9:IntKind.i64.wrap ((F:Int)+(n1:Int))=(F:Int)+(n1:Int):=by rw[XV];omega
   have m0:=aB (b3.o _ i7.o (i:Int) ((F:Int)+(n1:Int)) A' n' c' _ (k8.below g3));have HQ:Hid ((if fM b i i (cx.outs.getD j []) ((F:Int)+n1)≠0 then fM b i i (cx.outs.getD j []) ((F:Int)+n1) else if dE b i i 0 (cx.outs.drop (j+1)) ((F:Int)+n1)≠0 then dE b i i 0 (cx.outs.drop (j+1)) ((F:Int)+n1) else gI b i x (x.ctors.drop (k+1)))=b6):=aB (by
    rw[<-G];generalize fM b i i (cx.outs.getD j []) ((F:Int)+n1)=r1;by_cases h:r1=0<;>simp[h])
   generalize fM b i i (cx.outs.getD j []) ((F:Int)+n1)=re at *;clear G hq j6 k8 g3;go_wp2_with fail;refine wp_region_held_drew (S:=(fun w'=>w'.cell? ⟨w.heap.size,0,Z⟩=J (O X bv)/\w'.cell? ⟨w.heap.size,1,Z⟩=J (Y Ao no co)/\w'.cell? ⟨w.heap.size,2,Z⟩=J (Y (J ⟨be,oe,Z⟩) ne ce)/\w'.cell? ⟨w.heap.size,3,Z⟩=J (O X bn)/\w'.cell? ⟨w.heap.size,4,Z⟩=J (Y Ap np cp)/\w'.cell? ⟨wo.heap.size,0,Z⟩=J (Y A1 n1 c1)/\w'.cell? ⟨wo.heap.size,1,Z⟩=J (Y (J ⟨b2,o2,Z⟩) n2 c2)/\w'.cell? ⟨b2,o2+j,Z⟩=J (Y A' n' c'))) aC ?_ (fun hZ=>?_)
   . (try dsimp only);exact⟨f8 0,f8 1,f8 2,f8 3,f8 4,l7 0,l7 1,l8⟩
   refine aL 0 hZ ?_;refine aL 1 hZ ?_;refine aL 2 hZ ?_;refine aL 3 hZ ?_;refine aL 4 hZ ?_;refine aL 5 hZ ?_;refine aL 6 hZ ?_;refine aL 7 hZ ?_;refine aL 8 hZ ?_;refine aL 9 hZ ?_;refine aL 10 hZ ?_;refine aL 11 hZ ?_;refine aL 12 hZ ?_;refine r1 13 fun K hK=>?_;go_simp;go_at_call 30
   refine m0.o.mono ?_;rintro e' w7 ⟨rfl,d0⟩;have l9:=bY i7 d0;have m6:=bY m7 d0;have g6:=j8 g8 d0;have i8:=j8 i9 d0;have h6:=j8 h8 d0;have f7:=aT.cell g6.o;have l6:=aT.cell h6.o;have o0:=(d0.cell (p:=⟨b2,o2+j,Z⟩) j3).trans l8;clear d0;go_wp2_with fail;refine hK.o _ _ (by exact⟨f7 0,f7 1,f7 2,f7 3,f7 4,l6 0,l6 1,o0⟩) fun hZ=>?_;clear hK K;try simp only[p7]
   refine aL 14 hZ ?_;refine wpAnyH_done aC ?_ _;go_wp2_with fail;go_roundw
   case rel=>exact⟨j+1,re,rfl,by go_num,by omega,HQ,g6,i8,h6,l9,m6⟩
   case measure=>simp[intOf];omega
theorem C4(D:cE w v b)(i:Nat)(F:i<b.entries.length):
 Calls Tryz.prog 53 #[.agg #[O X b.vars,Y v.Ao v.no v.co,Y v.Ae v.ne v.ce,O X b.nat,Y v.Ap v.np v.cp],O X (i:Int)] w (iV (dK b i (b.entries.getD i default)) w):=by
 by_cases G:(b.entries.getD i default).kind=1
 . exact C6 D i F G
 by_cases U:(b.entries.getD i default).kind=2
 . exact C5 D i F U
 exact yU D i F ⟨G,U⟩
end Go.Proofs.YtjoddliplahgkaaGreat
