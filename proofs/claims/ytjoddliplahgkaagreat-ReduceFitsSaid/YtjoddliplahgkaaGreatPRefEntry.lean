/- An entry of the reference (books). -/
import Derived.Test.YtjoddliplahgkaaGreatPRefRow
namespace Go.Proofs.YtjoddliplahgkaaGreat
set_option linter.unusedVariables false
set_option linter.unusedSimpArgs false
open Go.RowKit
open Go.Value renaming int → O, slice → Y
open Go.IntKind renaming i64 → X
open Option renaming none → Z, some → J
open Go.Obj renaming cells → I
open Go.Lib renaming hid->aB
set_option maxHeartbeats 4000000
set_option maxRecDepth 100000
theorem vS {w:World} {v:bO} {b:Bk} (hb:bX w v b) (i:Nat) (hi:i<b.entries.length) (hk:(b.entries.getD i default).kind ≠ 1/\(b.entries.getD i default).kind ≠ 2) :
 Calls Tryz.prog 53 #[.agg #[O X b.vars,Y v.Ao v.no v.co,Y v.Ae v.ne v.ce,O X b.nat,Y v.Ap v.np v.cp],O X (i:Int)] w (iG (dD b i (b.entries.getD i default)) w):=by
 have a4:=hb.entries.len;obtain⟨be,oe,hA,b9,ev,a7,b5,b4,b3,b2,b1,b0,a1⟩:=hb.entries.at_ (k:=i) aA;have a2:=aB (fun (w':World) (h:Below w.heap.size w w') (self below:Int) (A':Option Addr) (n' c':Nat) (l:List Nd) (h2:aY w' A' n' c' l)=>kB (hb.below h) (i:Int) self below aA h2);have a3:=aB (fun (w':World) (h:Below w.heap.size w w') (self below:Int) (h0:0<=below) (h1:below<=1000) (A':Option Addr) (n' c':Nat) (ls:List (List Nd)) (h2:fF w' A' n' c' ls)=>mS (hb.below h) (i:Int) self below aA h0 h1 h2);have HX:=aB (fun (w':World) (h:Below w.heap.size w w')=>a1.below h);have f0:=a1.sort.few;have f1:=a1.params.few;have f2:=a1.indices.few;have f3:=a1.ctors.few;have f4:=a1.type.few;have f5:=a1.body.few;have l0:=a1.sort.len;have l1:=a1.params.len;have l2:=a1.indices.len;have l3:=a1.ctors.len;have l4:=a1.type.len;have l5:=a1.body.len;obtain⟨x,hx⟩ : ∃x,x=b.entries.getD i default:=⟨_,rfl⟩;rw[<-hx] at a7 HX hk l0 l1 l2 l3 l4 l5 ⊢;obtain⟨res,a0⟩ : ∃res,res=dD b i x:=⟨_,rfl⟩;rw[<-a0];unfold dD at a0;rw[l0,l1,l2,l3,l4,l5] at a0;have a5:i<v.ne:=aA;clear a1 hx hb a4 hi;obtain⟨Ao,no,co,Ae,ne,ce,Ap,np,cp⟩:=v;obtain⟨As,ns,cs,Ap2,np2,cp2,Ai,ni,ci,Ac,nc,cc,At,nt,ct,Ab,nb,cb⟩:=ev;simp only at b5 b4 b3 b2 b1 b0 hA a5 a2 a3 HX f0 f1 f2 f3 f4 f5 l0 l1 l2 l3 l4 l5 a0 ⊢;subst hA;obtain⟨bv,a8⟩ : ∃y,y=b.vars:=⟨_,rfl⟩;obtain⟨bn,a9⟩ : ∃y,y=b.nat:=⟨_,rfl⟩;obtain⟨kd,a6⟩ : ∃y,y=x.kind:=⟨_,rfl⟩;rw[<-a8] at a2 a3 ⊢;rw[<-a9] at a2 a3 ⊢;rw[<-a6] at a7 hk a0;clear a8 a9 a6;have b8:=aB ((aP w (I #[O X bv,Y Ao no co,Y (J ⟨be,oe,Z⟩) ne ce,O X bn,Y Ap np cp] 26)).alloc aD (I #[O X kd,Y As ns cs,Y Ap2 np2 cp2,Y Ai ni ci,Y Ac nc cc,Y At nt ct,Y Ab nb cb] 61));have b7:Hid (aS ((w.alloc (I #[O X bv,Y Ao no co,Y (J ⟨be,oe,Z⟩) ne ce,O X bn,Y Ap np cp] 26)).alloc (I #[O X kd,Y As ns cs,Y Ap2 np2 cp2,Y Ai ni ci,Y Ac nc cc,Y At nt ct,Y Ab nb cb] 61)) (w.heap.size+1) 61 #[O X kd,Y As ns cs,Y Ap2 np2 cp2,Y Ai ni ci,Y Ac nc cc,Y At nt ct,Y Ab nb cb]):=aB (by
  have h:=aS.new (w.alloc (I #[O X bv,Y Ao no co,Y (J ⟨be,oe,Z⟩) ne ce,O X bn,Y Ap np cp] 26)) 61 #[O X kd,Y As ns cs,Y Ap2 np2 cp2,Y Ai ni ci,Y Ac nc cc,Y At nt ct,Y Ab nb cb];rw[show (w.alloc (I #[O X bv,Y Ao no co,Y (J ⟨be,oe,Z⟩) ne ce,O X bn,Y Ap np cp] 26)).heap.size=w.heap.size+1 from by simp] at h;exact h)
 rw[if_neg hk.1,if_neg hk.2] at a0;have d1:(kd==2)=false:=by simpa using hk.2
 have d2:(kd != 1)=true:=by simpa using hk.1
 have b6:=aB a0;clear a0 hk a2 a3 HX b7;go_in;go_wp2_with fail;go_ret;rw[b6.o];exact⟨rfl,b8.o⟩
theorem zS {w:World} {v:bO} {b:Bk} (hb:bX w v b) (i:Nat) (hi:i<b.entries.length) (hk:(b.entries.getD i default).kind=2) :
 Calls Tryz.prog 53 #[.agg #[O X b.vars,Y v.Ao v.no v.co,Y v.Ae v.ne v.ce,O X b.nat,Y v.Ap v.np v.cp],O X (i:Int)] w (iG (dD b i (b.entries.getD i default)) w):=by
 have b1:=hb.entries.len;obtain⟨be,oe,hA,d0,ev,b7,c8,c7,c6,c5,c4,c3,a1⟩:=hb.entries.at_ (k:=i) aA;have a4:=aB (fun (w':World) (h:Below w.heap.size w w') (self below:Int) (A':Option Addr) (n' c':Nat) (l:List Nd) (h2:aY w' A' n' c' l)=>kB (hb.below h) (i:Int) self below aA h2);have a5:=aB (fun (w':World) (h:Below w.heap.size w w') (self below:Int) (h0:0<=below) (h1:below<=1000) (A':Option Addr) (n' c':Nat) (ls:List (List Nd)) (h2:fF w' A' n' c' ls)=>mS (hb.below h) (i:Int) self below aA h0 h1 h2);have HX:=aB (fun (w':World) (h:Below w.heap.size w w')=>a1.below h);have f0:=a1.sort.few;have f1:=a1.params.few;have f2:=a1.indices.few;have f3:=a1.ctors.few;have f4:=a1.type.few;have f5:=a1.body.few;have l0:=a1.sort.len;have l1:=a1.params.len;have l2:=a1.indices.len;have l3:=a1.ctors.len;have l4:=a1.type.len;have l5:=a1.body.len;obtain⟨x,hx⟩ : ∃x,x=b.entries.getD i default:=⟨_,rfl⟩;rw[<-hx] at b7 HX hk l0 l1 l2 l3 l4 l5 ⊢;obtain⟨res,a0⟩ : ∃res,res=dD b i x:=⟨_,rfl⟩;rw[<-a0];unfold dD at a0;rw[l0,l1,l2,l3,l4,l5] at a0;have b2:i<v.ne:=aA;clear a1 hx hb b1 hi;obtain⟨Ao,no,co,Ae,ne,ce,Ap,np,cp⟩:=v;obtain⟨As,ns,cs,Ap2,np2,cp2,Ai,ni,ci,Ac,nc,cc,At,nt,ct,Ab,nb,cb⟩:=ev;simp only at c8 c7 c6 c5 c4 c3 hA b2 a4 a5 HX f0 f1 f2 f3 f4 f5 l0 l1 l2 l3 l4 l5 a0 ⊢;subst hA;obtain⟨bv,b8⟩ : ∃y,y=b.vars:=⟨_,rfl⟩;obtain⟨bn,b9⟩ : ∃y,y=b.nat:=⟨_,rfl⟩;obtain⟨kd,b4⟩ : ∃y,y=x.kind:=⟨_,rfl⟩;rw[<-b8] at a4 a5 ⊢;rw[<-b9] at a4 a5 ⊢;rw[<-b4] at b7 hk a0;clear b8 b9 b4;have a9:=aB ((aP w (I #[O X bv,Y Ao no co,Y (J ⟨be,oe,Z⟩) ne ce,O X bn,Y Ap np cp] 26)).alloc aD (I #[O X kd,Y As ns cs,Y Ap2 np2 cp2,Y Ai ni ci,Y Ac nc cc,Y At nt ct,Y Ab nb cb] 61));have a8:Hid (aS ((w.alloc (I #[O X bv,Y Ao no co,Y (J ⟨be,oe,Z⟩) ne ce,O X bn,Y Ap np cp] 26)).alloc (I #[O X kd,Y As ns cs,Y Ap2 np2 cp2,Y Ai ni ci,Y Ac nc cc,Y At nt ct,Y Ab nb cb] 61)) w.heap.size 26 #[O X bv,Y Ao no co,Y (J ⟨be,oe,Z⟩) ne ce,O X bn,Y Ap np cp]):=aB ((aS.new w 26 #[O X bv,Y Ao no co,Y (J ⟨be,oe,Z⟩) ne ce,O X bn,Y Ap np cp]).alloc _);have a7:Hid (aS ((w.alloc (I #[O X bv,Y Ao no co,Y (J ⟨be,oe,Z⟩) ne ce,O X bn,Y Ap np cp] 26)).alloc (I #[O X kd,Y As ns cs,Y Ap2 np2 cp2,Y Ai ni ci,Y Ac nc cc,Y At nt ct,Y Ab nb cb] 61)) (w.heap.size+1) 61 #[O X kd,Y As ns cs,Y Ap2 np2 cp2,Y Ai ni ci,Y Ac nc cc,Y At nt ct,Y Ab nb cb]):=aB (by
  have h:=aS.new (w.alloc (I #[O X bv,Y Ao no co,Y (J ⟨be,oe,Z⟩) ne ce,O X bn,Y Ap np cp] 26)) 61 #[O X kd,Y As ns cs,Y Ap2 np2 cp2,Y Ai ni ci,Y Ac nc cc,Y At nt ct,Y Ab nb cb];rw[show (w.alloc (I #[O X bv,Y Ao no co,Y (J ⟨be,oe,Z⟩) ne ce,O X bn,Y Ap np cp] 26)).heap.size=w.heap.size+1 from by simp] at h;exact h)
 subst hk;rw[if_neg aE,if_pos rfl] at a0;by_cases hz:0<ns+np2+ni+nc
 · rw[if_pos hz] at a0;have a6:=aB a0;have c2:(ns ≠ 0)\/(ns=0/\np2 ≠ 0)\/(ns=0/\np2=0/\ni ≠ 0)\/(ns=0/\np2=0/\ni=0/\nc ≠ 0):=aA;clear a0 hz a4 a5 HX a8 a7 l0 l1 l2 l3 l4 l5;rcases c2 with h | ⟨rfl,h⟩ | ⟨rfl,rfl,h⟩ | ⟨rfl,rfl,rfl,h⟩
   case' inl=>have d1:((ns:Int) != 0)=true:=by rw[bne_iff_ne];omega
   case' inr.inl=>have d1:((np2:Int) != 0)=true:=by rw[bne_iff_ne];omega
   case' inr.inr.inl=>have d1:((ni:Int) != 0)=true:=by rw[bne_iff_ne];omega
   case' inr.inr.inr=>have d1:((nc:Int) != 0)=true:=by rw[bne_iff_ne];omega
   all_goals
    go_in;go_wp2_with fail;go_ret;rw[a6.o];exact⟨rfl,a9.o⟩
 rw[if_neg hz] at a0;have z0:ns=0:=aA;have z1:np2=0:=aA;have z2:ni=0:=aA;have z3:nc=0:=aA;subst z0 z1 z2 z3;have a2:∀(l:List Nd) (r:List (List Nd)) (bl:Int),cZ b i (-1) 0 (l::r) bl=if fC b i (-1) l bl ≠ 0 then fC b i (-1) l bl else cZ b i (-1) 0 r (bl+0):=fun _ _ _=>rfl;rw[a2,a2,Int.add_zero,show cZ b i (-1) 0 [] (0+0)=0 from rfl] at a0;clear a2 hz l0 l1 l2 l3 l4 l5;have b3:=aB (a4.o _ a9.o (-1) 0 At nt ct _ (HX.o _ a9.o).type);have c1:=aB (fun w' h=>a4.o w' h (-1) 0 Ab nb cb _ (HX.o w' h).body);obtain⟨e1,b6⟩ : ∃y,y=fC b i (-1) x.type 0:=⟨_,rfl⟩;obtain⟨e2,b5⟩ : ∃y,y=fC b i (-1) x.body 0:=⟨_,rfl⟩;rw[<-b6] at b3 a0;rw[<-b5] at c1 a0;clear b6 b5 a4 a5 HX;by_cases h1:e1=0
 · subst h1;rw[if_neg aD] at a0;have a6:Hid (res=e2):=aB (by rw[a0];split<;>simp_all);clear a0;go_in;go_wp2_with fail;refine b3.o.mono ?_;rintro e w3 ⟨rfl,a3⟩;have b0:=bZ a9 a3;have zb:=aS.cell (aS.below a8.o a3 a8.o.lt);have ze:=aS.cell (aS.below a7.o a3 a7.o.lt);clear a3;go_wp2_with fail;refine (c1.o _ b0.o).mono ?_;rintro e w4 ⟨rfl,c0⟩;have c9:=bZ b0 c0;clear c0 zb ze;go_wp2_with fail;go_ret;rw[a6.o];exact⟨rfl,c9.o⟩
 rw[if_pos h1] at a0;have a6:=aB a0;have d1:(e1==0)=false:=by simpa using h1
 clear a0 h1;go_in;go_wp2_with fail;refine b3.o.mono ?_;rintro e w3 ⟨rfl,a3⟩;have b0:=bZ a9 a3;have zb:=aS.cell (aS.below a8.o a3 a8.o.lt);have ze:=aS.cell (aS.below a7.o a3 a7.o.lt);clear a3;go_wp2_with fail;go_ret;rw[a6.o];exact⟨rfl,b0.o⟩
theorem zT {w:World} {v:bO} {b:Bk} (hb:bX w v b) (i:Nat) (hi:i<b.entries.length) (hk:(b.entries.getD i default).kind=1) :
 Calls Tryz.prog 53 #[.agg #[O X b.vars,Y v.Ao v.no v.co,Y v.Ae v.ne v.ce,O X b.nat,Y v.Ap v.np v.cp],O X (i:Int)] w (iG (dD b i (b.entries.getD i default)) w):=by
 have i2:=hb.entries.len;obtain⟨be,oe,hA,o5,ev,k4,n0,m8,m7,m6,m5,m4,b3⟩:=hb.entries.at_ (k:=i) aA;have b8:=aB (fun (w':World) (h:Below w.heap.size w w') (self below:Int) (A':Option Addr) (n' c':Nat) (l:List Nd) (h2:aY w' A' n' c' l)=>kB (hb.below h) (i:Int) self below aA h2);have b5:=aB (fun (w':World) (h:Below w.heap.size w w') (self below:Int) (h0:0<=below) (h1:below<=1000) (A':Option Addr) (n' c':Nat) (ls:List (List Nd)) (h2:fF w' A' n' c' ls)=>mS (hb.below h) (i:Int) self below aA h0 h1 h2);have HX:=aB (fun (w':World) (h:Below w.heap.size w w')=>b3.below h);have f0:=b3.sort.few;have f1:=b3.params.few;have f2:=b3.indices.few;have f3:=b3.ctors.few;have f4:=b3.type.few;have f5:=b3.body.few;have l0:=b3.sort.len;have l1:=b3.params.len;have l2:=b3.indices.len;have l3:=b3.ctors.len;have l4:=b3.type.len;have l5:=b3.body.len;obtain⟨x,hx⟩ : ∃x,x=b.entries.getD i default:=⟨_,rfl⟩;rw[<-hx] at k4 HX hk l0 l1 l2 l3 l4 l5 ⊢;obtain⟨res,a0⟩ : ∃res,res=dD b i x:=⟨_,rfl⟩;rw[<-a0];unfold dD at a0;rw[l0,l1,l2,l3,l4,l5] at a0;have i4:i<v.ne:=aA;clear b3 hx hb i2 hi;obtain⟨Ao,no,co,Ae,ne,ce,Ap,np,cp⟩:=v;obtain⟨As,ns,cs,Ap2,np2,cp2,Ai,ni,ci,Ac,nc,cc,At,nt,ct,Ab,nb,cb⟩:=ev;simp only at n0 m8 m7 m6 m5 m4 hA i4 b8 b5 HX f0 f1 f2 f3 f4 f5 l0 l1 l2 l3 l4 l5 a0 ⊢;subst hA;obtain⟨bv,k5⟩ : ∃y,y=b.vars:=⟨_,rfl⟩;obtain⟨bn,k7⟩ : ∃y,y=b.nat:=⟨_,rfl⟩;obtain⟨kd,j7⟩ : ∃y,y=x.kind:=⟨_,rfl⟩;rw[<-k5] at b8 b5 ⊢;rw[<-k7] at b8 b5 ⊢;rw[<-j7] at k4 hk a0;clear k5 k7 j7;have c0:=aB ((aP w (I #[O X bv,Y Ao no co,Y (J ⟨be,oe,Z⟩) ne ce,O X bn,Y Ap np cp] 26)).alloc aD (I #[O X kd,Y As ns cs,Y Ap2 np2 cp2,Y Ai ni ci,Y Ac nc cc,Y At nt ct,Y Ab nb cb] 61));have c9:Hid (aS ((w.alloc (I #[O X bv,Y Ao no co,Y (J ⟨be,oe,Z⟩) ne ce,O X bn,Y Ap np cp] 26)).alloc (I #[O X kd,Y As ns cs,Y Ap2 np2 cp2,Y Ai ni ci,Y Ac nc cc,Y At nt ct,Y Ab nb cb] 61)) w.heap.size 26 #[O X bv,Y Ao no co,Y (J ⟨be,oe,Z⟩) ne ce,O X bn,Y Ap np cp]):=aB ((aS.new w 26 #[O X bv,Y Ao no co,Y (J ⟨be,oe,Z⟩) ne ce,O X bn,Y Ap np cp]).alloc _);have c8:Hid (aS ((w.alloc (I #[O X bv,Y Ao no co,Y (J ⟨be,oe,Z⟩) ne ce,O X bn,Y Ap np cp] 26)).alloc (I #[O X kd,Y As ns cs,Y Ap2 np2 cp2,Y Ai ni ci,Y Ac nc cc,Y At nt ct,Y Ab nb cb] 61)) (w.heap.size+1) 61 #[O X kd,Y As ns cs,Y Ap2 np2 cp2,Y Ai ni ci,Y Ac nc cc,Y At nt ct,Y Ab nb cb]):=aB (by
  have h:=aS.new (w.alloc (I #[O X bv,Y Ao no co,Y (J ⟨be,oe,Z⟩) ne ce,O X bn,Y Ap np cp] 26)) 61 #[O X kd,Y As ns cs,Y Ap2 np2 cp2,Y Ai ni ci,Y Ac nc cc,Y At nt ct,Y Ab nb cb];rw[show (w.alloc (I #[O X bv,Y Ao no co,Y (J ⟨be,oe,Z⟩) ne ce,O X bn,Y Ap np cp] 26)).heap.size=w.heap.size+1 from by simp] at h;exact h)
 subst hk;rw[if_pos rfl] at a0;by_cases hz:0<nt+nb
 · rw[if_pos hz] at a0;have a5:=aB a0;have i0:(nt ≠ 0)\/(nt=0/\nb ≠ 0):=aA;clear a0 hz b8 b5 HX c9 c8 l0 l1 l2 l3 l4 l5;rcases i0 with h | ⟨rfl,h⟩
   case' inl=>have d1:((nt:Int) != 0)=true:=by rw[bne_iff_ne];omega
   case' inr=>have d1:((nb:Int) != 0)=true:=by rw[bne_iff_ne];omega
   all_goals
    go_in;go_wp2_with fail;go_ret;rw[a5.o];exact⟨rfl,c0.o⟩
 rw[if_neg hz] at a0;have z0:nt=0:=aA;have z1:nb=0:=aA;subst z0 z1;by_cases hf:16<np2\/16<ni\/16<nc
 · rw[if_pos hf] at a0;have a5:=aB a0;have i0:(16<np2)\/(¬ 16<np2/\16<ni)\/(¬ 16<np2/\¬ 16<ni/\16<nc):=aA;clear hf a0 hz b8 b5 HX c9 c8 l0 l1 l2 l3 l4 l5;rcases i0 with h | ⟨g1,h⟩ | ⟨g1,g2,h⟩
   case' inl=>have d1:decide ((np2:Int)>16)=true:=decide_eq_true aA
   case' inr.inl =>
    have d1:decide ((np2:Int)>16)=false:=decide_eq_false aA;have d2:decide ((ni:Int)>16)=true:=decide_eq_true aA
   case' inr.inr =>
    have d1:decide ((np2:Int)>16)=false:=decide_eq_false aA;have d2:decide ((ni:Int)>16)=false:=decide_eq_false aA;have d3:decide ((nc:Int)>16)=true:=decide_eq_true aA
   all_goals
    go_in;go_wp2_with fail;go_ret;rw[a5.o];exact⟨rfl,c0.o⟩
 rw[if_neg hf] at a0;have d1:decide ((np2:Int)>16)=false:=decide_eq_false aA;have d2:decide ((ni:Int)>16)=false:=decide_eq_false aA;have d3:decide ((nc:Int)>16)=false:=decide_eq_false aA;have l7:np2<=16:=aA;have m9:nc<=16:=aA;clear hz hf l4 l5;have b9:=aB (b8.o _ c0.o (-1) 0 As ns cs _ (HX.o _ c0.o).sort);have e0:=aB (fun w' h=>b5.o w' h (-1) 0 aA aA Ap2 np2 cp2 _ (HX.o w' h).params);have d9:=aB (fun w' h=>b5.o w' h (-1) (np2:Int) aA aA Ai ni ci _ (HX.o w' h).indices);obtain⟨e1,e2⟩ : ∃y,y=fC b i (-1) x.sort 0:=⟨_,rfl⟩;obtain⟨e3,k1⟩ : ∃y,y=cZ b i (-1) 1 x.params 0:=⟨_,rfl⟩;obtain⟨e4,k0⟩ : ∃y,y=cZ b i (-1) 1 x.indices (np2:Int):=⟨_,rfl⟩;rw[<-e2] at b9 a0;rw[<-k1] at e0 a0;rw[<-k0] at d9 a0;have i1:e1=0->0<ns:=fun h=>by
  rw[e2] at h;unfold fC at h;by_cases hs:a8 x.sort=0
  · obtain⟨_,n',a',k',_,hl,_⟩:=fB hs;rw[hl,List.length_cons] at l0;omega
  rw[if_pos hs] at h;exact absurd h hs
 have d7:=aB (fun (w':World) (h:Below w.heap.size w w') (h0:e1=0)=>And.intro (i1 h0) ((HX.o w' h).sort.at_ (i1 h0)));have j6:mA x.sort=if (bD x.sort 0).op ≠ 2 then 8 else 0:=rfl;rw[j6] at a0;simp only[jB] at a0;generalize (bD x.sort 0).op=sop at *;clear e2 k1 k0 i1 j6 l0;by_cases h1:e1=0;case neg =>
  rw[if_pos h1] at a0;have a5:=aB a0;have y0:(e1==0)=false:=by simpa using h1
  clear a0 h1 b8 b5 HX e0 d9 d7;go_in;go_wp2_with fail;refine b9.o.mono ?_;rintro e w3 ⟨rfl,a4⟩;have a6:=bZ c0 a4;have a3:=jL c9 a4;have a1:=jL c8 a4;have c4:=aS.cell a3.o;have c3:=aS.cell a1.o;clear a4;go_wp2_with fail;clear c4 c3;go_loopw [8,9] (fun tv iv wr=>tv=O X e1/\iv=O X 0/\Hid (aS wr (w.heap.size+1) 61 #[O X 1,Y As ns cs,Y Ap2 np2 cp2,Y Ai ni ci,Y Ac nc cc,Y At 0 ct,Y Ab 0 cb])/\Hid (Below w.heap.size w wr)) (fun _ _ _=>0)
  case atStart=>exact⟨rfl,rfl,a1,a6⟩
  case round =>
   obtain⟨rfl,rfl,b7,a9⟩:=hrel;have ze:=aS.cell b7.o;by_cases hnc:0<nc
   · have y1:decide ((0:Int)<(nc:Int))=true:=decide_eq_true aA;go_wp2_with fail;go_ret;rw[a5.o];exact⟨rfl,a9.o⟩
   have y1:decide ((0:Int)<(nc:Int))=false:=decide_eq_false aA;go_wp2_with fail;go_ret;rw[a5.o];exact⟨rfl,a9.o⟩
 subst h1;rw[if_neg aD] at a0;by_cases h2:sop=2;case neg =>
  rw[if_pos h2,if_pos aE] at a0;have a5:=aB a0;have y0:(sop != 2)=true:=by simpa using h2
  obtain⟨l8,bs,os,i7,f9,c7,_,_⟩:=(d7.o w (Below.refl _ _) rfl);rw[Nat.zero_mul,Nat.add_zero] at c7;subst i7;clear a0 h2 b8 b5 HX e0 d9 d7;go_in;go_wp2_with fail;refine b9.o.mono ?_;rintro e w3 ⟨rfl,a4⟩;have a6:=bZ c0 a4;have a3:=jL c9 a4;have a1:=jL c8 a4;have c4:=aS.cell a3.o;have c3:=aS.cell a1.o;clear a4;have h7:=(a6.o.cell (p:=⟨bs,os,Z⟩) f9).trans c7;go_wp2_with fail;clear c4 c3;go_loopw [8,9] (fun tv iv wr=>tv=O X 8/\iv=O X 0/\Hid (aS wr (w.heap.size+1) 61 #[O X 1,Y (J ⟨bs,os,Z⟩) ns cs,Y Ap2 np2 cp2,Y Ai ni ci,Y Ac nc cc,Y At 0 ct,Y Ab 0 cb])/\Hid (Below w.heap.size w wr)) (fun _ _ _=>0)
  case atStart=>exact⟨rfl,rfl,a1,a6⟩
  case round =>
   obtain⟨rfl,rfl,b7,a9⟩:=hrel;have ze:=aS.cell b7.o;by_cases hnc:0<nc
   · have y1:decide ((0:Int)<(nc:Int))=true:=decide_eq_true aA;go_wp2_with fail;go_ret;rw[a5.o];exact⟨rfl,a9.o⟩
   have y1:decide ((0:Int)<(nc:Int))=false:=decide_eq_false aA;go_wp2_with fail;go_ret;rw[a5.o];exact⟨rfl,a9.o⟩
 subst h2;rw[if_neg aD] at a0;have y0:((2:Int) != 2)=false:=by decide
 obtain⟨l8,bs,os,i7,f9,c7,_,_⟩:=(d7.o w (Below.refl _ _) rfl);rw[Nat.zero_mul,Nat.add_zero] at c7;subst i7;by_cases h3:e3=0;case neg =>
  rw[if_pos h3] at a0;have a5:=aB a0;have y3:(e3==0)=false:=by simpa using h3
  clear a0 h3 b8 b5 HX d9 d7;go_in;go_wp2_with fail;refine b9.o.mono ?_;rintro e w3 ⟨rfl,a4⟩;have a6:=bZ c0 a4;have a3:=jL c9 a4;have a1:=jL c8 a4;have c4:=aS.cell a3.o;have c3:=aS.cell a1.o;clear a4;have h7:=(a6.o.cell (p:=⟨bs,os,Z⟩) f9).trans c7;go_wp2_with fail;refine (e0.o _ a6.o).mono ?_;rintro e w4 ⟨rfl,b4⟩;have d0:=bZ a6 b4;have b0:=jL a3 b4;have a7:=jL a1 b4;have e8:=aS.cell b0.o;have e5:=aS.cell a7.o;clear b4;clear c4 c3;go_wp2_with fail;clear e8 e5;go_loopw [8,9] (fun tv iv wr=>tv=O X e3/\iv=O X 0/\Hid (aS wr (w.heap.size+1) 61 #[O X 1,Y (J ⟨bs,os,Z⟩) ns cs,Y Ap2 np2 cp2,Y Ai ni ci,Y Ac nc cc,Y At 0 ct,Y Ab 0 cb])/\Hid (Below w.heap.size w wr)) (fun _ _ _=>0)
  case atStart=>exact⟨rfl,rfl,a7,d0⟩
  case round =>
   obtain⟨rfl,rfl,b7,a9⟩:=hrel;have ze:=aS.cell b7.o;by_cases hnc:0<nc
   · have y1:decide ((0:Int)<(nc:Int))=true:=decide_eq_true aA;go_wp2_with fail;go_ret;rw[a5.o];exact⟨rfl,a9.o⟩
   have y1:decide ((0:Int)<(nc:Int))=false:=decide_eq_false aA;go_wp2_with fail;go_ret;rw[a5.o];exact⟨rfl,a9.o⟩
 subst h3;rw[if_neg aD] at a0;by_cases h4:e4=0;case neg =>
  rw[if_pos h4] at a0;have a5:=aB a0;have y4:(e4==0)=false:=by simpa using h4
  clear a0 h4 b8 b5 HX d7;go_in;go_wp2_with fail;refine b9.o.mono ?_;rintro e w3 ⟨rfl,a4⟩;have a6:=bZ c0 a4;have a3:=jL c9 a4;have a1:=jL c8 a4;have c4:=aS.cell a3.o;have c3:=aS.cell a1.o;clear a4;have h7:=(a6.o.cell (p:=⟨bs,os,Z⟩) f9).trans c7;go_wp2_with fail;refine (e0.o _ a6.o).mono ?_;rintro e w4 ⟨rfl,b4⟩;have d0:=bZ a6 b4;have b0:=jL a3 b4;have a7:=jL a1 b4;have e8:=aS.cell b0.o;have e5:=aS.cell a7.o;clear b4;clear c4 c3;go_wp2_with fail;refine (d9.o _ d0.o).mono ?_;rintro e w5 ⟨rfl,c5⟩;have h9:=bZ d0 c5;have d8:=jL b0 c5;have c6:=jL a7 c5;clear c5;clear e8 e5;go_wp2_with fail;go_loopw [8,9] (fun tv iv wr=>tv=O X e4/\iv=O X 0/\Hid (aS wr (w.heap.size+1) 61 #[O X 1,Y (J ⟨bs,os,Z⟩) ns cs,Y Ap2 np2 cp2,Y Ai ni ci,Y Ac nc cc,Y At 0 ct,Y Ab 0 cb])/\Hid (Below w.heap.size w wr)) (fun _ _ _=>0)
  case atStart=>exact⟨rfl,rfl,c6,h9⟩
  case round =>
   obtain⟨rfl,rfl,b7,a9⟩:=hrel;have ze:=aS.cell b7.o;by_cases hnc:0<nc
   · have y1:decide ((0:Int)<(nc:Int))=true:=decide_eq_true aA;go_wp2_with fail;go_ret;rw[a5.o];exact⟨rfl,a9.o⟩
   have y1:decide ((0:Int)<(nc:Int))=false:=decide_eq_false aA;go_wp2_with fail;go_ret;rw[a5.o];exact⟨rfl,a9.o⟩
 subst h4;rw[if_neg aD] at a0;have HR:Hid (res=fT b i x x.ctors):=aB (by rw[a0];split<;>simp_all);clear a0;go_in;go_wp2_with fail;refine b9.o.mono ?_;rintro e w3 ⟨rfl,a4⟩;have a6:=bZ c0 a4;have a3:=jL c9 a4;have a1:=jL c8 a4;have c4:=aS.cell a3.o;have c3:=aS.cell a1.o;clear a4;have h7:=(a6.o.cell (p:=⟨bs,os,Z⟩) f9).trans c7;clear b9 c0 c9 c8;go_wp2_with fail;refine (e0.o _ a6.o).mono ?_;rintro e w4 ⟨rfl,b4⟩;have d0:=bZ a6 b4;have b0:=jL a3 b4;have a7:=jL a1 b4;have e8:=aS.cell b0.o;have e5:=aS.cell a7.o;clear b4;clear c4 c3 a3 a1 a6 e0;go_wp2_with fail;refine (d9.o _ d0.o).mono ?_;rintro e w5 ⟨rfl,c5⟩;have h9:=bZ d0 c5;have d8:=jL b0 c5;have c6:=jL a7 c5;clear c5;clear e8 e5 b0 a7 d0 d9;go_wp2_with fail;clear h7 c7 d7;have b1:∀(c:Ct) (r:List Ct),fT b i x (c::r)=(if 16<c.args.length then 5
  else if c.outs.length ≠ x.indices.length then 8
  else if cZ b i i 1 c.args x.params.length ≠ 0 then cZ b i i 1 c.args x.params.length
  else if cZ b i i 0 c.outs ((x.params.length:Int)+c.args.length) ≠ 0 then cZ b i i 0 c.outs ((x.params.length:Int)+c.args.length)
  else fT b i x r):=fun _ _=>rfl
 rw[l1,l2] at b1;have n8:=aB b1;have b6:∀(l:List Nd) (r:List (List Nd)) (bl:Int),cZ b i i 0 (l::r) bl=if fC b i i l bl ≠ 0 then fC b i i l bl else cZ b i i 0 r (bl+0):=fun _ _ _=>rfl;have n7:=aB b6;clear b1 b6;go_loopw [8,9] (fun tv iv wr=>∃(k:Nat) (e:Int),tv=O X e/\iv=O X (k:Int)/\k<=nc/\Hid ((if e ≠ 0 then e else fT b i x (x.ctors.drop k))=res)/\Hid (aS wr w.heap.size 26 #[O X bv,Y Ao no co,Y (J ⟨be,oe,Z⟩) ne ce,O X bn,Y Ap np cp])/\Hid (aS wr (w.heap.size+1) 61 #[O X 1,Y (J ⟨bs,os,Z⟩) ns cs,Y Ap2 np2 cp2,Y Ai ni ci,Y Ac nc cc,Y At 0 ct,Y Ab 0 cb])/\Hid (Below w.heap.size w wr)) (fun _ iv _=>nc-(intOf iv).toNat)
 case atStart=>exact⟨0,0,rfl,rfl,by omega,aB (by rw[if_neg aD,List.drop_zero];exact HR.o.symm),d8,c6,h9⟩
 case round =>
  clear d8 c6 h9;obtain⟨k,e,rfl,rfl,o3,hq,i3,b7,a9⟩:=hrel;have ze:=aS.cell b7.o;by_cases hlt:k<nc;case neg =>
   have y1:decide ((k:Int)<(nc:Int))=false:=decide_eq_false aA;have a2:=hq.o;rw[List.drop_of_length_le (by rw[l3];omega)] at a2;have a5:Hid (res=e):=aB (by
    rw[<-a2];by_cases h:e=0
    · rw[if_neg (by simpa using h),h];rfl
    rw[if_pos h])
   clear a2;go_wp2_with fail;go_ret;rw[a5.o];exact⟨rfl,a9.o⟩
  have y1:decide ((k:Int)<(nc:Int))=true:=decide_eq_true aA;by_cases h0:e=0;case neg =>
   have y3:(e==0)=false:=by simpa using h0
   have a2:=hq.o;rw[if_pos h0] at a2;have a5:Hid (res=e):=aB a2.symm;clear a2 h0;go_wp2_with fail;go_ret;rw[a5.o];exact⟨rfl,a9.o⟩
  subst h0;have j9:k<x.ctors.length:=by rw[l3];exact hlt
  have a2:=hq.o;rw[if_neg aD,List.drop_eq_getElem_cons j9,show x.ctors[k]=x.ctors.getD k default from by rw[List.getD_eq_getElem?_getD,List.getElem?_eq_getElem j9];rfl,n8.o] at a2;obtain⟨bc,oc,rfl,o6,hm⟩:=(HX.o wr a9.o).ctors.mem (by show 0<nc;omega);obtain⟨A1,n1,c1,A2,n2,c2,m3,m0,f7,e9⟩:=hm k hlt;obtain⟨cx,k2⟩ : ∃cx,cx=x.ctors.getD k default:=⟨_,rfl⟩;rw[<-k2] at f7 e9 a2;have m1:=f7.len;have m2:=e9.len;have g1:=f7.few;have g2:=e9.few;rw[m1,m2] at a2;have h5:=aB (a9.o.trans ((aP wr (I #[Y A1 n1 c1,Y A2 n2 c2] 64)).mono a9.o.size));have g8:=aB (i3.o.alloc (I #[Y A1 n1 c1,Y A2 n2 c2] 64));have g6:=aB (b7.o.alloc (I #[Y A1 n1 c1,Y A2 n2 c2] 64));have g3:=aB (aS.new wr 64 #[Y A1 n1 c1,Y A2 n2 c2]);have f6:=f7.below (aP wr (I #[Y A1 n1 c1,Y A2 n2 c2] 64));have n9:=aB (fun (w':World) (h:Below wr.heap.size wr w')=>e9.below h);have h6:=aB (aP wr (I #[Y A1 n1 c1,Y A2 n2 c2] 64));have zb:=aS.cell i3.o;have n4:=i3.o.lt;have n3:=b7.o.lt;clear hm k2 f7 e9 hq;by_cases h16:16<n1
  · rw[if_pos h16] at a2;have a5:Hid (res=5):=aB a2.symm;have x1:decide ((n1:Int)>16)=true:=decide_eq_true aA;clear a2 m1 m2 h16;go_wp2_with fail;go_ret;rw[a5.o];exact⟨rfl,h5.o⟩
  rw[if_neg h16] at a2;have x1:decide ((n1:Int)>16)=false:=decide_eq_false aA;by_cases hne2:n2=ni;case neg =>
   rw[if_pos hne2] at a2;have a5:Hid (res=8):=aB a2.symm;have x2:((n2:Int) != (ni:Int))=true:=by rw[bne_iff_ne];omega
   clear a2 m1 m2 h16 hne2;go_wp2_with fail;go_ret;rw[a5.o];exact⟨rfl,h5.o⟩
  rw[if_neg (by simpa using hne2)] at a2;have x2:((n2:Int) != (ni:Int))=false:=by rw[bne_eq_false_iff_eq];omega
  have l9:n1<=16:=aA;have b9:=aB (b5.o _ h5.o (i:Int) (np2:Int) aA aA A1 n1 c1 cx.args f6);obtain⟨e1,e2⟩ : ∃e1,e1=cZ b i i 1 cx.args np2:=⟨_,rfl⟩;rw[<-e2] at b9 a2;have HQ:Hid ((if e1 ≠ 0 then e1 else if cZ b i i 0 (cx.outs.drop 0) ((np2:Int)+n1) ≠ 0 then cZ b i i 0 (cx.outs.drop 0) ((np2:Int)+n1) else fT b i x (x.ctors.drop (k+1)))=res):=aB a2;clear e2 m1 h16 hne2 f6 a2;go_wp2_with fail;refine b9.o.mono ?_;rintro e w3 ⟨rfl,a4⟩;have a6:=bZ h5 a4;have k8:=bZ h6 a4;have a3:=jL g8 a4;have a1:=jL g6 a4;have g5:=jL g3 a4;clear a4 zb ze m3 m0;obtain⟨wo,rfl⟩ : ∃wo:World,wo=wr:=⟨_,rfl⟩;go_wp2_with fail;go_loopw [8,11] (fun tv iv wi=>∃(j:Nat) (e:Int),tv=O X e/\iv=O X (j:Int)/\j<=n2/\Hid ((if e ≠ 0 then e else if cZ b i i 0 (cx.outs.drop j) ((np2:Int)+n1) ≠ 0 then cZ b i i 0 (cx.outs.drop j) ((np2:Int)+n1) else fT b i x (x.ctors.drop (k+1)))=res)/\Hid (aS wi w.heap.size 26 #[O X bv,Y Ao no co,Y (J ⟨be,oe,Z⟩) ne ce,O X bn,Y Ap np cp])/\Hid (aS wi (w.heap.size+1) 61 #[O X 1,Y (J ⟨bs,os,Z⟩) ns cs,Y Ap2 np2 cp2,Y Ai ni ci,Y (J ⟨bc,oc,Z⟩) nc cc,Y At 0 ct,Y Ab 0 cb])/\Hid (aS wi wo.heap.size 64 #[Y A1 n1 c1,Y A2 n2 c2])/\Hid (Below w.heap.size w wi)/\Hid (Below wo.heap.size wo wi)) (fun _ iv _=>n2-(intOf iv).toNat)
  case atStart=>exact⟨0,e1,rfl,rfl,by omega,HQ,a3,a1,g5,a6,k8⟩
  case round =>
   clear a3 a1 g5 a6 k8 HQ b9 g8 g6 g3 h5 h6;obtain⟨j,e,rfl,rfl,o4,hq,d6,d5,f8,i6,j4⟩:=hrel;have zc:=aS.cell f8.o;by_cases hjlt:j<n2;case neg =>
    have y3:decide ((j:Int)<(n2:Int))=false:=decide_eq_false aA;have y4:decide (j<n2)=false:=decide_eq_false hjlt;have a2:=hq.o;rw[List.drop_of_length_le (by rw[m2];omega),show cZ b i i 0 [] ((np2:Int)+n1)=0 from rfl,if_neg (c:=(0:Int) ≠ 0) aD] at a2;have HQ:=aB a2;clear a2 hq;go_wp2_with fail;go_roundw
    case rel=>exact⟨k+1,e,rfl,by go_num,by omega,HQ,d6,d5,i6⟩
    case measure=>simp[intOf];omega
   have y3:decide ((j:Int)<(n2:Int))=true:=decide_eq_true aA;have y4:decide (j<n2)=true:=decide_eq_true hjlt;by_cases h0:e=0;case neg =>
    have y5:(e==0)=false:=by simpa using h0
    have a2:=hq.o;rw[if_pos h0] at a2;have HQ:Hid ((if e ≠ 0 then e else fT b i x (x.ctors.drop (k+1)))=res):=aB (by rw[if_pos h0];exact a2);clear a2 hq h0;go_wp2_with fail;go_roundw
    case rel=>exact⟨k+1,e,rfl,by go_num,by omega,HQ,d6,d5,i6⟩
    case measure=>simp[intOf];omega
   subst h0;have j8:j<cx.outs.length:=by rw[m2];exact hjlt
   have a2:=hq.o;rw[if_neg (c:=(0:Int) ≠ 0) aD,List.drop_eq_getElem_cons j8,show cx.outs[j]=cx.outs.getD j [] from by rw[List.getD_eq_getElem?_getD,List.getElem?_eq_getElem j8];rfl,n7.o,Int.add_zero] at a2;obtain⟨b2,o2,A',n',c',rfl,k6,k3,j5⟩:=(n9.o wr j4.o).at_ hjlt;have k9:=aB (aT i6.o 1);have n5:=aB (aT j4.o 1);have h8:=aT (Below.refl wr.heap.size wr) 1;have g7:=aB (d6.o.drewN 1);have i8:=aB (d5.o.drewN 1);have g0:=aB (f8.o.drewN 1);have e6:=aS.cell g7.o;have j1:=aS.cell g0.o;have j0:=(h8.cell (p:=⟨b2,o2+j,Z⟩) k6).trans k3;have i5:=Nat.lt_of_lt_of_le k6 h8.size;have j3:IntKind.i64.wrap ((np2:Int)+(n1:Int))=(np2:Int)+(n1:Int):=by rw[IntKind.wrap_i64];omega
   have o0:=aB (b8.o _ k9.o (i:Int) ((np2:Int)+(n1:Int)) A' n' c' _ (j5.below h8));have HQ:Hid ((if fC b i i (cx.outs.getD j []) ((np2:Int)+n1) ≠ 0 then fC b i i (cx.outs.getD j []) ((np2:Int)+n1) else if cZ b i i 0 (cx.outs.drop (j+1)) ((np2:Int)+n1) ≠ 0 then cZ b i i 0 (cx.outs.drop (j+1)) ((np2:Int)+n1) else fT b i x (x.ctors.drop (k+1)))=res):=aB (by
    rw[<-a2];generalize fC b i i (cx.outs.getD j []) ((np2:Int)+n1)=r1;by_cases h:r1=0<;>simp[h])
   generalize fC b i i (cx.outs.getD j []) ((np2:Int)+n1)=re at *;clear a2 hq k3 j5 h8;go_wp2_with fail;refine wp_region_held_drew (S:=(fun w'=>w'.cell? ⟨w.heap.size,0,Z⟩=J (O X bv)/\w'.cell? ⟨w.heap.size,1,Z⟩=J (Y Ao no co)/\w'.cell? ⟨w.heap.size,2,Z⟩=J (Y (J ⟨be,oe,Z⟩) ne ce)/\w'.cell? ⟨w.heap.size,3,Z⟩=J (O X bn)/\w'.cell? ⟨w.heap.size,4,Z⟩=J (Y Ap np cp)/\w'.cell? ⟨wo.heap.size,0,Z⟩=J (Y A1 n1 c1)/\w'.cell? ⟨wo.heap.size,1,Z⟩=J (Y (J ⟨b2,o2,Z⟩) n2 c2)/\w'.cell? ⟨b2,o2+j,Z⟩=J (Y A' n' c'))) aC ?_ (fun hZ => ?_)
   · (try dsimp only);exact⟨e6 0,e6 1,e6 2,e6 3,e6 4,j1 0,j1 1,j0⟩
   refine aL 0 hZ ?_;refine aL 1 hZ ?_;refine aL 2 hZ ?_;refine aL 3 hZ ?_;refine aL 4 hZ ?_;refine aL 5 hZ ?_;refine aL 6 hZ ?_;refine aL 7 hZ ?_;refine aL 8 hZ ?_;refine aL 9 hZ ?_;refine aL 10 hZ ?_;refine aL 11 hZ ?_;refine aL 12 hZ ?_;refine r1 13 fun K hK => ?_;go_simp;go_at_call 30
   refine o0.o.mono ?_;rintro e' w7 ⟨rfl,d4⟩;have o1:=bZ k9 d4;have n6:=bZ n5 d4;have g9:=jL g7 d4;have i9:=jL i8 d4;have g4:=jL g0 d4;have e7:=aS.cell g9.o;have j2:=aS.cell g4.o;have l6:=(d4.cell (p:=⟨b2,o2+j,Z⟩) i5).trans j0;clear d4;go_wp2_with fail;refine hK.o _ _ (by exact⟨e7 0,e7 1,e7 2,e7 3,e7 4,j2 0,j2 1,l6⟩) fun hZ => ?_;clear hK K;try simp only[p7]
   refine aL 14 hZ ?_;refine wpAnyH_done aC ?_ _;go_wp2_with fail;go_roundw
   case rel=>exact⟨j+1,re,rfl,by go_num,by omega,HQ,g9,i9,g4,o1,n6⟩
   case measure=>simp[intOf];omega
theorem zR {w:World} {v:bO} {b:Bk} (hb:bX w v b) (i:Nat) (hi:i<b.entries.length) :
 Calls Tryz.prog 53 #[.agg #[O X b.vars,Y v.Ao v.no v.co,Y v.Ae v.ne v.ce,O X b.nat,Y v.Ap v.np v.cp],O X (i:Int)] w (iG (dD b i (b.entries.getD i default)) w):=by
 by_cases h1:(b.entries.getD i default).kind=1
 · exact zT hb i hi h1
 by_cases h2:(b.entries.getD i default).kind=2
 · exact zS hb i hi h2
 exact vS hb i hi ⟨h1,h2⟩
end Go.Proofs.YtjoddliplahgkaaGreat
