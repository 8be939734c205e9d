/- An entry of the reference (books). -/
import Derived.Test.YtplecfbdchmogaaGreatDShort2
import Derived.Test.YtplecfbdchmogaaGreatDRefRow
namespace Go.Proofs.YtplecfbdchmogaaGreat
open Go.Value renaming int → O, slice → Y
open Go.IntKind renaming i64 → X
open Option renaming none → Z, some → J
open Go.Obj renaming cells → I
open Go.Lib (hid)
set_option maxHeartbeats 4000000
set_option maxRecDepth 100000
set_option linter.unusedVariables false
set_option linter.unusedSimpArgs false
open Go.RowKit
theorem sS {w:World} {v:cP} {b:Bk} (hb:bY w v b) (i:Nat) (hi:i<b.entries.length) (hk:(b.entries.getD i default).kind ≠ 1/\(b.entries.getD i default).kind ≠ 2) :
 Calls Tryz.prog 31 #[.agg #[O X b.vars,Y v.Ao v.no v.co,Y v.Ae v.ne v.ce,O X b.nat,Y v.Ap v.np v.cp],O X (i:Int)] w (gD (bS b i (b.entries.getD i default)) w):=by
 have hlen:=hb.entries.len;obtain ⟨be,oe,hA,hbe,ev,hc0,hc1,hc2,hc3,hc4,hc5,hc6,hec⟩:=hb.entries.at_ (k:=i) aA;have HRW:=hid (fun (w':World) (h:Below w.heap.size w w') (self below:Int) (A':Option Addr) (n' c':Nat) (l:List Nd) (h2:aQ w' A' n' c' l)=>jW (hb.below h) (i:Int) self below aA h2);have HRS:=hid (fun (w':World) (h:Below w.heap.size w w') (self below:Int) (h0:0<=below) (h1:below<=1000) (A':Option Addr) (n' c':Nat) (ls:List (List Nd)) (h2:cE w' A' n' c' ls)=>mC (hb.below h) (i:Int) self below aA h0 h1 h2);have HX:=hid (fun (w':World) (h:Below w.heap.size w w')=>hec.below h);have f0:=hec.sort.few;have f1:=hec.params.few;have f2:=hec.indices.few;have f3:=hec.ctors.few;have f4:=hec.type.few;have f5:=hec.body.few;have l0:=hec.sort.len;have l1:=hec.params.len;have l2:=hec.indices.len;have l3:=hec.ctors.len;have l4:=hec.type.len;have l5:=hec.body.len;obtain ⟨x,hx⟩ : ∃ x,x=b.entries.getD i default:=⟨_,rfl⟩;rw [<-hx] at hc0 HX hk l0 l1 l2 l3 l4 l5 ⊢;obtain ⟨res,hres⟩ : ∃ res,res=bS b i x:=⟨_,rfl⟩;rw [<-hres];unfold bS at hres;rw [l0,l1,l2,l3,l4,l5] at hres;have hine:i<v.ne:=aA;clear hec hx hb hlen hi;obtain ⟨Ao,no,co,Ae,ne,ce,Ap,np,cp⟩:=v;obtain ⟨As,ns,cs,Ap2,np2,cp2,Ai,ni,ci,Ac,nc,cc,At,nt,ct,Ab,nb,cb⟩:=ev;simp only at hc1 hc2 hc3 hc4 hc5 hc6 hA hine HRW HRS HX f0 f1 f2 f3 f4 f5 l0 l1 l2 l3 l4 l5 hres ⊢;subst hA;obtain ⟨bv,hbv⟩ : ∃ y,y=b.vars:=⟨_,rfl⟩;obtain ⟨bn,hbn⟩ : ∃ y,y=b.nat:=⟨_,rfl⟩;obtain ⟨kd,hkd⟩ : ∃ y,y=x.kind:=⟨_,rfl⟩;rw [<-hbv] at HRW HRS ⊢;rw [<-hbn] at HRW HRS ⊢;rw [<-hkd] at hc0 hk hres;clear hbv hbn hkd;have HBS:=hid ((aB w (I #[O X bv,Y Ao no co,Y (J ⟨be,oe,Z⟩) ne ce,O X bn,Y Ap np cp] 26)).alloc (by simp) (I #[O X kd,Y As ns cs,Y Ap2 np2 cp2,Y Ai ni ci,Y Ac nc cc,Y At nt ct,Y Ab nb cb] 57));have HK1:Hid (aE ((w.alloc (I #[O X bv,Y Ao no co,Y (J ⟨be,oe,Z⟩) ne ce,O X bn,Y Ap np cp] 26)).alloc (I #[O X kd,Y As ns cs,Y Ap2 np2 cp2,Y Ai ni ci,Y Ac nc cc,Y At nt ct,Y Ab nb cb] 57)) w.heap.size 26 #[O X bv,Y Ao no co,Y (J ⟨be,oe,Z⟩) ne ce,O X bn,Y Ap np cp]):=hid ((aE.new w 26 #[O X bv,Y Ao no co,Y (J ⟨be,oe,Z⟩) ne ce,O X bn,Y Ap np cp]).alloc _);have HK2:Hid (aE ((w.alloc (I #[O X bv,Y Ao no co,Y (J ⟨be,oe,Z⟩) ne ce,O X bn,Y Ap np cp] 26)).alloc (I #[O X kd,Y As ns cs,Y Ap2 np2 cp2,Y Ai ni ci,Y Ac nc cc,Y At nt ct,Y Ab nb cb] 57)) (w.heap.size+1) 57 #[O X kd,Y As ns cs,Y Ap2 np2 cp2,Y Ai ni ci,Y Ac nc cc,Y At nt ct,Y Ab nb cb]):=hid (by
  have h:=aE.new (w.alloc (I #[O X bv,Y Ao no co,Y (J ⟨be,oe,Z⟩) ne ce,O X bn,Y Ap np cp] 26)) 57 #[O X kd,Y As ns cs,Y Ap2 np2 cp2,Y Ai ni ci,Y Ac nc cc,Y At nt ct,Y Ab nb cb];rw [show (w.alloc (I #[O X bv,Y Ao no co,Y (J ⟨be,oe,Z⟩) ne ce,O X bn,Y Ap np cp] 26)).heap.size=w.heap.size+1 from by simp] at h;exact h)
 rw [if_neg hk.1,if_neg hk.2] at hres;have d1:(kd==2)=false:=by simpa using hk.2
 have d2:(kd != 1)=true:=by simpa using hk.1
 have HRF:=hid hres;clear hres hk HRW HRS HX HK1 HK2;go_in;go_wp2_with fail
 go_ret;rw [HRF.o];exact ⟨rfl,HBS.o⟩
theorem vC {w:World} {v:cP} {b:Bk} (hb:bY w v b) (i:Nat) (hi:i<b.entries.length) (hk:(b.entries.getD i default).kind=2) :
 Calls Tryz.prog 31 #[.agg #[O X b.vars,Y v.Ao v.no v.co,Y v.Ae v.ne v.ce,O X b.nat,Y v.Ap v.np v.cp],O X (i:Int)] w (gD (bS b i (b.entries.getD i default)) w):=by
 have hlen:=hb.entries.len;obtain ⟨be,oe,hA,hbe,ev,hc0,hc1,hc2,hc3,hc4,hc5,hc6,hec⟩:=hb.entries.at_ (k:=i) aA;have HRW:=hid (fun (w':World) (h:Below w.heap.size w w') (self below:Int) (A':Option Addr) (n' c':Nat) (l:List Nd) (h2:aQ w' A' n' c' l)=>jW (hb.below h) (i:Int) self below aA h2);have HRS:=hid (fun (w':World) (h:Below w.heap.size w w') (self below:Int) (h0:0<=below) (h1:below<=1000) (A':Option Addr) (n' c':Nat) (ls:List (List Nd)) (h2:cE w' A' n' c' ls)=>mC (hb.below h) (i:Int) self below aA h0 h1 h2);have HX:=hid (fun (w':World) (h:Below w.heap.size w w')=>hec.below h);have f0:=hec.sort.few;have f1:=hec.params.few;have f2:=hec.indices.few;have f3:=hec.ctors.few;have f4:=hec.type.few;have f5:=hec.body.few;have l0:=hec.sort.len;have l1:=hec.params.len;have l2:=hec.indices.len;have l3:=hec.ctors.len;have l4:=hec.type.len;have l5:=hec.body.len;obtain ⟨x,hx⟩ : ∃ x,x=b.entries.getD i default:=⟨_,rfl⟩;rw [<-hx] at hc0 HX hk l0 l1 l2 l3 l4 l5 ⊢;obtain ⟨res,hres⟩ : ∃ res,res=bS b i x:=⟨_,rfl⟩;rw [<-hres];unfold bS at hres;rw [l0,l1,l2,l3,l4,l5] at hres;have hine:i<v.ne:=aA;clear hec hx hb hlen hi;obtain ⟨Ao,no,co,Ae,ne,ce,Ap,np,cp⟩:=v;obtain ⟨As,ns,cs,Ap2,np2,cp2,Ai,ni,ci,Ac,nc,cc,At,nt,ct,Ab,nb,cb⟩:=ev;simp only at hc1 hc2 hc3 hc4 hc5 hc6 hA hine HRW HRS HX f0 f1 f2 f3 f4 f5 l0 l1 l2 l3 l4 l5 hres ⊢;subst hA;obtain ⟨bv,hbv⟩ : ∃ y,y=b.vars:=⟨_,rfl⟩;obtain ⟨bn,hbn⟩ : ∃ y,y=b.nat:=⟨_,rfl⟩;obtain ⟨kd,hkd⟩ : ∃ y,y=x.kind:=⟨_,rfl⟩;rw [<-hbv] at HRW HRS ⊢;rw [<-hbn] at HRW HRS ⊢;rw [<-hkd] at hc0 hk hres;clear hbv hbn hkd;have HBS:=hid ((aB w (I #[O X bv,Y Ao no co,Y (J ⟨be,oe,Z⟩) ne ce,O X bn,Y Ap np cp] 26)).alloc (by simp) (I #[O X kd,Y As ns cs,Y Ap2 np2 cp2,Y Ai ni ci,Y Ac nc cc,Y At nt ct,Y Ab nb cb] 57));have HK1:Hid (aE ((w.alloc (I #[O X bv,Y Ao no co,Y (J ⟨be,oe,Z⟩) ne ce,O X bn,Y Ap np cp] 26)).alloc (I #[O X kd,Y As ns cs,Y Ap2 np2 cp2,Y Ai ni ci,Y Ac nc cc,Y At nt ct,Y Ab nb cb] 57)) w.heap.size 26 #[O X bv,Y Ao no co,Y (J ⟨be,oe,Z⟩) ne ce,O X bn,Y Ap np cp]):=hid ((aE.new w 26 #[O X bv,Y Ao no co,Y (J ⟨be,oe,Z⟩) ne ce,O X bn,Y Ap np cp]).alloc _);have HK2:Hid (aE ((w.alloc (I #[O X bv,Y Ao no co,Y (J ⟨be,oe,Z⟩) ne ce,O X bn,Y Ap np cp] 26)).alloc (I #[O X kd,Y As ns cs,Y Ap2 np2 cp2,Y Ai ni ci,Y Ac nc cc,Y At nt ct,Y Ab nb cb] 57)) (w.heap.size+1) 57 #[O X kd,Y As ns cs,Y Ap2 np2 cp2,Y Ai ni ci,Y Ac nc cc,Y At nt ct,Y Ab nb cb]):=hid (by
  have h:=aE.new (w.alloc (I #[O X bv,Y Ao no co,Y (J ⟨be,oe,Z⟩) ne ce,O X bn,Y Ap np cp] 26)) 57 #[O X kd,Y As ns cs,Y Ap2 np2 cp2,Y Ai ni ci,Y Ac nc cc,Y At nt ct,Y Ab nb cb];rw [show (w.alloc (I #[O X bv,Y Ao no co,Y (J ⟨be,oe,Z⟩) ne ce,O X bn,Y Ap np cp] 26)).heap.size=w.heap.size+1 from by simp] at h;exact h)
 subst hk;rw [if_neg (by decide),if_pos rfl] at hres;by_cases hz:0<ns+np2+ni+nc
 · rw [if_pos hz] at hres;have HRF:=hid hres;have hsp:(ns ≠ 0)\/(ns=0/\np2 ≠ 0)\/(ns=0/\np2=0/\ni ≠ 0)\/(ns=0/\np2=0/\ni=0/\nc ≠ 0):=aA;clear hres hz HRW HRS HX HK1 HK2 l0 l1 l2 l3 l4 l5;rcases hsp with h | ⟨rfl,h⟩ | ⟨rfl,rfl,h⟩ | ⟨rfl,rfl,rfl,h⟩
   case' inl=>have d1:((ns:Int) != 0)=true:=by rw [bne_iff_ne];omega
   case' inr.inl=>have d1:((np2:Int) != 0)=true:=by rw [bne_iff_ne];omega
   case' inr.inr.inl=>have d1:((ni:Int) != 0)=true:=by rw [bne_iff_ne];omega
   case' inr.inr.inr=>have d1:((nc:Int) != 0)=true:=by rw [bne_iff_ne];omega
   all_goals
    go_in;go_wp2_with fail
    go_ret;rw [HRF.o];exact ⟨rfl,HBS.o⟩
 rw [if_neg hz] at hres;have z0:ns=0:=aA;have z1:np2=0:=aA;have z2:ni=0:=aA;have z3:nc=0:=aA;subst z0 z1 z2 z3;have hstep:∀ (l:List Nd) (r:List (List Nd)) (bl:Int),bP b i (-1) 0 (l::r) bl=if eW b i (-1) l bl ≠ 0 then eW b i (-1) l bl else bP b i (-1) 0 r (bl+0):=fun _ _ _=>rfl;rw [hstep,hstep,Int.add_zero,show bP b i (-1) 0 [] (0+0)=0 from rfl] at hres;clear hstep hz l0 l1 l2 l3 l4 l5;have HC1:=hid (HRW.o _ HBS.o (-1) 0 At nt ct _ (HX.o _ HBS.o).type);have HC2:=hid (fun w' h=>HRW.o w' h (-1) 0 Ab nb cb _ (HX.o w' h).body);obtain ⟨e1,he1⟩ : ∃ y,y=eW b i (-1) x.type 0:=⟨_,rfl⟩;obtain ⟨e2,he2⟩ : ∃ y,y=eW b i (-1) x.body 0:=⟨_,rfl⟩;rw [<-he1] at HC1 hres;rw [<-he2] at HC2 hres;clear he1 he2 HRW HRS HX;by_cases h1:e1=0
 · subst h1;rw [if_neg (by simp)] at hres;have HRF:Hid (res=e2):=hid (by rw [hres];split<;>simp_all);clear hres;go_in;go_wp2_with fail
   refine HC1.o.mono ?_;rintro e w3 ⟨rfl,hb3⟩;have HB3:=cN HBS hb3;have zb:=aE.cell (aE.below HK1.o hb3 HK1.o.lt);have ze:=aE.cell (aE.below HK2.o hb3 HK2.o.lt);clear hb3;go_wp2_with fail
   refine (HC2.o _ HB3.o).mono ?_;rintro e w4 ⟨rfl,hb4⟩;have HB4:=cN HB3 hb4;clear hb4 zb ze;go_wp2_with fail
   go_ret;rw [HRF.o];exact ⟨rfl,HB4.o⟩
 rw [if_pos h1] at hres;have HRF:=hid hres;have d1:(e1==0)=false:=by simpa using h1
 clear hres h1;go_in;go_wp2_with fail
 refine HC1.o.mono ?_;rintro e w3 ⟨rfl,hb3⟩;have HB3:=cN HBS hb3;have zb:=aE.cell (aE.below HK1.o hb3 HK1.o.lt);have ze:=aE.cell (aE.below HK2.o hb3 HK2.o.lt);clear hb3;go_wp2_with fail
 go_ret;rw [HRF.o];exact ⟨rfl,HB3.o⟩
theorem vD {w:World} {v:cP} {b:Bk} (hb:bY w v b) (i:Nat) (hi:i<b.entries.length) (hk:(b.entries.getD i default).kind=1) :
 Calls Tryz.prog 31 #[.agg #[O X b.vars,Y v.Ao v.no v.co,Y v.Ae v.ne v.ce,O X b.nat,Y v.Ap v.np v.cp],O X (i:Int)] w (gD (bS b i (b.entries.getD i default)) w):=by
 have hlen:=hb.entries.len;obtain ⟨be,oe,hA,hbe,ev,hc0,hc1,hc2,hc3,hc4,hc5,hc6,hec⟩:=hb.entries.at_ (k:=i) aA;have HRW:=hid (fun (w':World) (h:Below w.heap.size w w') (self below:Int) (A':Option Addr) (n' c':Nat) (l:List Nd) (h2:aQ w' A' n' c' l)=>jW (hb.below h) (i:Int) self below aA h2);have HRS:=hid (fun (w':World) (h:Below w.heap.size w w') (self below:Int) (h0:0<=below) (h1:below<=1000) (A':Option Addr) (n' c':Nat) (ls:List (List Nd)) (h2:cE w' A' n' c' ls)=>mC (hb.below h) (i:Int) self below aA h0 h1 h2);have HX:=hid (fun (w':World) (h:Below w.heap.size w w')=>hec.below h);have f0:=hec.sort.few;have f1:=hec.params.few;have f2:=hec.indices.few;have f3:=hec.ctors.few;have f4:=hec.type.few;have f5:=hec.body.few;have l0:=hec.sort.len;have l1:=hec.params.len;have l2:=hec.indices.len;have l3:=hec.ctors.len;have l4:=hec.type.len;have l5:=hec.body.len;obtain ⟨x,hx⟩ : ∃ x,x=b.entries.getD i default:=⟨_,rfl⟩;rw [<-hx] at hc0 HX hk l0 l1 l2 l3 l4 l5 ⊢;obtain ⟨res,hres⟩ : ∃ res,res=bS b i x:=⟨_,rfl⟩;rw [<-hres];unfold bS at hres;rw [l0,l1,l2,l3,l4,l5] at hres;have hine:i<v.ne:=aA;clear hec hx hb hlen hi;obtain ⟨Ao,no,co,Ae,ne,ce,Ap,np,cp⟩:=v;obtain ⟨As,ns,cs,Ap2,np2,cp2,Ai,ni,ci,Ac,nc,cc,At,nt,ct,Ab,nb,cb⟩:=ev;simp only at hc1 hc2 hc3 hc4 hc5 hc6 hA hine HRW HRS HX f0 f1 f2 f3 f4 f5 l0 l1 l2 l3 l4 l5 hres ⊢;subst hA;obtain ⟨bv,hbv⟩ : ∃ y,y=b.vars:=⟨_,rfl⟩;obtain ⟨bn,hbn⟩ : ∃ y,y=b.nat:=⟨_,rfl⟩;obtain ⟨kd,hkd⟩ : ∃ y,y=x.kind:=⟨_,rfl⟩;rw [<-hbv] at HRW HRS ⊢;rw [<-hbn] at HRW HRS ⊢;rw [<-hkd] at hc0 hk hres;clear hbv hbn hkd;have HBS:=hid ((aB w (I #[O X bv,Y Ao no co,Y (J ⟨be,oe,Z⟩) ne ce,O X bn,Y Ap np cp] 26)).alloc (by simp) (I #[O X kd,Y As ns cs,Y Ap2 np2 cp2,Y Ai ni ci,Y Ac nc cc,Y At nt ct,Y Ab nb cb] 57));have HK1:Hid (aE ((w.alloc (I #[O X bv,Y Ao no co,Y (J ⟨be,oe,Z⟩) ne ce,O X bn,Y Ap np cp] 26)).alloc (I #[O X kd,Y As ns cs,Y Ap2 np2 cp2,Y Ai ni ci,Y Ac nc cc,Y At nt ct,Y Ab nb cb] 57)) w.heap.size 26 #[O X bv,Y Ao no co,Y (J ⟨be,oe,Z⟩) ne ce,O X bn,Y Ap np cp]):=hid ((aE.new w 26 #[O X bv,Y Ao no co,Y (J ⟨be,oe,Z⟩) ne ce,O X bn,Y Ap np cp]).alloc _);have HK2:Hid (aE ((w.alloc (I #[O X bv,Y Ao no co,Y (J ⟨be,oe,Z⟩) ne ce,O X bn,Y Ap np cp] 26)).alloc (I #[O X kd,Y As ns cs,Y Ap2 np2 cp2,Y Ai ni ci,Y Ac nc cc,Y At nt ct,Y Ab nb cb] 57)) (w.heap.size+1) 57 #[O X kd,Y As ns cs,Y Ap2 np2 cp2,Y Ai ni ci,Y Ac nc cc,Y At nt ct,Y Ab nb cb]):=hid (by
  have h:=aE.new (w.alloc (I #[O X bv,Y Ao no co,Y (J ⟨be,oe,Z⟩) ne ce,O X bn,Y Ap np cp] 26)) 57 #[O X kd,Y As ns cs,Y Ap2 np2 cp2,Y Ai ni ci,Y Ac nc cc,Y At nt ct,Y Ab nb cb];rw [show (w.alloc (I #[O X bv,Y Ao no co,Y (J ⟨be,oe,Z⟩) ne ce,O X bn,Y Ap np cp] 26)).heap.size=w.heap.size+1 from by simp] at h;exact h)
 subst hk;rw [if_pos rfl] at hres;by_cases hz:0<nt+nb
 · rw [if_pos hz] at hres;have HRF:=hid hres;have hsp:(nt ≠ 0)\/(nt=0/\nb ≠ 0):=aA;clear hres hz HRW HRS HX HK1 HK2 l0 l1 l2 l3 l4 l5;rcases hsp with h | ⟨rfl,h⟩
   case' inl=>have d1:((nt:Int) != 0)=true:=by rw [bne_iff_ne];omega
   case' inr=>have d1:((nb:Int) != 0)=true:=by rw [bne_iff_ne];omega
   all_goals
    go_in;go_wp2_with fail
    go_ret;rw [HRF.o];exact ⟨rfl,HBS.o⟩
 rw [if_neg hz] at hres;have z0:nt=0:=aA;have z1:nb=0:=aA;subst z0 z1;by_cases hf:16<np2\/16<ni\/16<nc
 · rw [if_pos hf] at hres;have HRF:=hid hres;have hsp:(16<np2)\/(¬ 16<np2/\16<ni)\/(¬ 16<np2/\¬ 16<ni/\16<nc):=aA;clear hf hres hz HRW HRS HX HK1 HK2 l0 l1 l2 l3 l4 l5;rcases hsp with h | ⟨g1,h⟩ | ⟨g1,g2,h⟩
   case' inl=>have d1:decide ((np2:Int)>16)=true:=decide_eq_true aA
   case' inr.inl =>
    have d1:decide ((np2:Int)>16)=false:=decide_eq_false aA;have d2:decide ((ni:Int)>16)=true:=decide_eq_true aA
   case' inr.inr =>
    have d1:decide ((np2:Int)>16)=false:=decide_eq_false aA;have d2:decide ((ni:Int)>16)=false:=decide_eq_false aA;have d3:decide ((nc:Int)>16)=true:=decide_eq_true aA
   all_goals
    go_in;go_wp2_with fail
    go_ret;rw [HRF.o];exact ⟨rfl,HBS.o⟩
 rw [if_neg hf] at hres;have d1:decide ((np2:Int)>16)=false:=decide_eq_false aA;have d2:decide ((ni:Int)>16)=false:=decide_eq_false aA;have d3:decide ((nc:Int)>16)=false:=decide_eq_false aA;have hp16:np2<=16:=aA;have hi16:ni<=16:=aA;have hc16:nc<=16:=aA;clear hz hf l4 l5;have HC1:=hid (HRW.o _ HBS.o (-1) 0 As ns cs _ (HX.o _ HBS.o).sort);have HC3:=hid (fun w' h=>HRS.o w' h (-1) 0 aA aA Ap2 np2 cp2 _ (HX.o w' h).params);have HC4:=hid (fun w' h=>HRS.o w' h (-1) (np2:Int) aA aA Ai ni ci _ (HX.o w' h).indices);obtain ⟨e1,he1⟩ : ∃ y,y=eW b i (-1) x.sort 0:=⟨_,rfl⟩;obtain ⟨e3,he3⟩ : ∃ y,y=bP b i (-1) 1 x.params 0:=⟨_,rfl⟩;obtain ⟨e4,he4⟩ : ∃ y,y=bP b i (-1) 1 x.indices (np2:Int):=⟨_,rfl⟩;rw [<-he1] at HC1 hres;rw [<-he3] at HC3 hres;rw [<-he4] at HC4 hres;have hso:e1=0->0<ns:=fun h=>by
  rw [he1] at h;unfold eW at h;by_cases hs:aO x.sort=0
  · obtain ⟨_,n',a',k',_,hl,_⟩:=f6 hs;rw [hl,List.length_cons] at l0;omega
  rw [if_pos hs] at h;exact absurd h hs
 have hopn:(aL x.sort 0).op=(aL x.sort 0).op:=rfl;have HSO:=hid (fun (w':World) (h:Below w.heap.size w w') (h0:e1=0)=>And.intro (hso h0) ((HX.o w' h).sort.at_ (hso h0)));have hse:lM x.sort=if (aL x.sort 0).op ≠ 2 then 8 else 0:=rfl;rw [hse] at hres;simp only [fR] at hres;generalize (aL x.sort 0).op=sop at *;clear he1 he3 he4 hso hse hopn l0;by_cases h1:e1=0;case neg =>
  rw [if_pos h1] at hres;have HRF:=hid hres;have y0:(e1==0)=false:=by simpa using h1
  clear hres h1 HRW HRS HX HC3 HC4 HSO;go_in;go_wp2_with fail
  refine HC1.o.mono ?_;rintro e w3 ⟨rfl,hb3⟩;have HB3:=cN HBS hb3;have HK13:=gJ HK1 hb3;have HK23:=gJ HK2 hb3;have zb3:=aE.cell HK13.o;have ze3:=aE.cell HK23.o;clear hb3;go_wp2_with fail
  clear zb3 ze3;go_loopw [8,9] (fun tv iv wr=>tv=O X e1/\iv=O X 0/\Hid (aE wr (w.heap.size+1) 57 #[O X 1,Y As ns cs,Y Ap2 np2 cp2,Y Ai ni ci,Y Ac nc cc,Y At 0 ct,Y Ab 0 cb])/\Hid (Below w.heap.size w wr)) (fun _ _ _=>0)
  case atStart=>exact ⟨rfl,rfl,HK23,HB3⟩
  case round =>
   obtain ⟨rfl,rfl,hk2,hbw⟩:=hrel;have ze:=aE.cell hk2.o;by_cases hnc:0<nc
   · have y1:decide ((0:Int)<(nc:Int))=true:=decide_eq_true aA;have y2:decide (0<nc)=true:=decide_eq_true hnc;go_wp2_with fail
     go_ret;rw [HRF.o];exact ⟨rfl,hbw.o⟩
   have y1:decide ((0:Int)<(nc:Int))=false:=decide_eq_false aA;have y2:decide (0<nc)=false:=decide_eq_false hnc;go_wp2_with fail
   go_ret;rw [HRF.o];exact ⟨rfl,hbw.o⟩
 subst h1;rw [if_neg (by simp)] at hres;by_cases h2:sop=2;case neg =>
  rw [if_pos h2,if_pos (by decide)] at hres;have HRF:=hid hres;have y0:(sop != 2)=true:=by simpa using h2
  obtain ⟨hns,bs,os,hAs,hbs,hs0,_,_⟩:=(HSO.o w (Below.refl _ _) rfl);rw [Nat.zero_mul,Nat.add_zero] at hs0;subst hAs;clear hres h2 HRW HRS HX HC3 HC4 HSO;go_in;go_wp2_with fail
  refine HC1.o.mono ?_;rintro e w3 ⟨rfl,hb3⟩;have HB3:=cN HBS hb3;have HK13:=gJ HK1 hb3;have HK23:=gJ HK2 hb3;have zb3:=aE.cell HK13.o;have ze3:=aE.cell HK23.o;clear hb3;have zs3:=(HB3.o.cell (p:=⟨bs,os,Z⟩) hbs).trans hs0;go_wp2_with fail
  clear zb3 ze3;go_loopw [8,9] (fun tv iv wr=>tv=O X 8/\iv=O X 0/\Hid (aE wr (w.heap.size+1) 57 #[O X 1,Y (J ⟨bs,os,Z⟩) ns cs,Y Ap2 np2 cp2,Y Ai ni ci,Y Ac nc cc,Y At 0 ct,Y Ab 0 cb])/\Hid (Below w.heap.size w wr)) (fun _ _ _=>0)
  case atStart=>exact ⟨rfl,rfl,HK23,HB3⟩
  case round =>
   obtain ⟨rfl,rfl,hk2,hbw⟩:=hrel;have ze:=aE.cell hk2.o;by_cases hnc:0<nc
   · have y1:decide ((0:Int)<(nc:Int))=true:=decide_eq_true aA;have y2:decide (0<nc)=true:=decide_eq_true hnc;go_wp2_with fail
     go_ret;rw [HRF.o];exact ⟨rfl,hbw.o⟩
   have y1:decide ((0:Int)<(nc:Int))=false:=decide_eq_false aA;have y2:decide (0<nc)=false:=decide_eq_false hnc;go_wp2_with fail
   go_ret;rw [HRF.o];exact ⟨rfl,hbw.o⟩
 subst h2;rw [if_neg (by simp)] at hres;have y0:((2:Int) != 2)=false:=by decide
 obtain ⟨hns,bs,os,hAs,hbs,hs0,_,_⟩:=(HSO.o w (Below.refl _ _) rfl);rw [Nat.zero_mul,Nat.add_zero] at hs0;subst hAs;by_cases h3:e3=0;case neg =>
  rw [if_pos h3] at hres;have HRF:=hid hres;have y3:(e3==0)=false:=by simpa using h3
  clear hres h3 HRW HRS HX HC4 HSO;go_in;go_wp2_with fail
  refine HC1.o.mono ?_;rintro e w3 ⟨rfl,hb3⟩;have HB3:=cN HBS hb3;have HK13:=gJ HK1 hb3;have HK23:=gJ HK2 hb3;have zb3:=aE.cell HK13.o;have ze3:=aE.cell HK23.o;clear hb3;have zs3:=(HB3.o.cell (p:=⟨bs,os,Z⟩) hbs).trans hs0;go_wp2_with fail
  refine (HC3.o _ HB3.o).mono ?_;rintro e w4 ⟨rfl,hb4⟩;have HB4:=cN HB3 hb4;have HK14:=gJ HK13 hb4;have HK24:=gJ HK23 hb4;have zb4:=aE.cell HK14.o;have ze4:=aE.cell HK24.o;clear hb4;clear zb3 ze3;go_wp2_with fail
  clear zb4 ze4;go_loopw [8,9] (fun tv iv wr=>tv=O X e3/\iv=O X 0/\Hid (aE wr (w.heap.size+1) 57 #[O X 1,Y (J ⟨bs,os,Z⟩) ns cs,Y Ap2 np2 cp2,Y Ai ni ci,Y Ac nc cc,Y At 0 ct,Y Ab 0 cb])/\Hid (Below w.heap.size w wr)) (fun _ _ _=>0)
  case atStart=>exact ⟨rfl,rfl,HK24,HB4⟩
  case round =>
   obtain ⟨rfl,rfl,hk2,hbw⟩:=hrel;have ze:=aE.cell hk2.o;by_cases hnc:0<nc
   · have y1:decide ((0:Int)<(nc:Int))=true:=decide_eq_true aA;have y2:decide (0<nc)=true:=decide_eq_true hnc;go_wp2_with fail
     go_ret;rw [HRF.o];exact ⟨rfl,hbw.o⟩
   have y1:decide ((0:Int)<(nc:Int))=false:=decide_eq_false aA;have y2:decide (0<nc)=false:=decide_eq_false hnc;go_wp2_with fail
   go_ret;rw [HRF.o];exact ⟨rfl,hbw.o⟩
 subst h3;rw [if_neg (by simp)] at hres;by_cases h4:e4=0;case neg =>
  rw [if_pos h4] at hres;have HRF:=hid hres;have y4:(e4==0)=false:=by simpa using h4
  clear hres h4 HRW HRS HX HSO;go_in;go_wp2_with fail
  refine HC1.o.mono ?_;rintro e w3 ⟨rfl,hb3⟩;have HB3:=cN HBS hb3;have HK13:=gJ HK1 hb3;have HK23:=gJ HK2 hb3;have zb3:=aE.cell HK13.o;have ze3:=aE.cell HK23.o;clear hb3;have zs3:=(HB3.o.cell (p:=⟨bs,os,Z⟩) hbs).trans hs0;go_wp2_with fail
  refine (HC3.o _ HB3.o).mono ?_;rintro e w4 ⟨rfl,hb4⟩;have HB4:=cN HB3 hb4;have HK14:=gJ HK13 hb4;have HK24:=gJ HK23 hb4;have zb4:=aE.cell HK14.o;have ze4:=aE.cell HK24.o;clear hb4;clear zb3 ze3;go_wp2_with fail
  refine (HC4.o _ HB4.o).mono ?_;rintro e w5 ⟨rfl,hb5⟩;have HB5:=cN HB4 hb5;have HK15:=gJ HK14 hb5;have HK25:=gJ HK24 hb5;have zb5:=aE.cell HK15.o;have ze5:=aE.cell HK25.o;clear hb5;clear zb4 ze4;go_wp2_with fail
  clear zb5 ze5;go_loopw [8,9] (fun tv iv wr=>tv=O X e4/\iv=O X 0/\Hid (aE wr (w.heap.size+1) 57 #[O X 1,Y (J ⟨bs,os,Z⟩) ns cs,Y Ap2 np2 cp2,Y Ai ni ci,Y Ac nc cc,Y At 0 ct,Y Ab 0 cb])/\Hid (Below w.heap.size w wr)) (fun _ _ _=>0)
  case atStart=>exact ⟨rfl,rfl,HK25,HB5⟩
  case round =>
   obtain ⟨rfl,rfl,hk2,hbw⟩:=hrel;have ze:=aE.cell hk2.o;by_cases hnc:0<nc
   · have y1:decide ((0:Int)<(nc:Int))=true:=decide_eq_true aA;have y2:decide (0<nc)=true:=decide_eq_true hnc;go_wp2_with fail
     go_ret;rw [HRF.o];exact ⟨rfl,hbw.o⟩
   have y1:decide ((0:Int)<(nc:Int))=false:=decide_eq_false aA;have y2:decide (0<nc)=false:=decide_eq_false hnc;go_wp2_with fail
   go_ret;rw [HRF.o];exact ⟨rfl,hbw.o⟩
 subst h4;rw [if_neg (by simp)] at hres;have HR:Hid (res=eD b i x x.ctors):=hid (by rw [hres];split<;>simp_all);clear hres;go_in;go_wp2_with fail
 refine HC1.o.mono ?_;rintro e w3 ⟨rfl,hb3⟩;have HB3:=cN HBS hb3;have HK13:=gJ HK1 hb3;have HK23:=gJ HK2 hb3;have zb3:=aE.cell HK13.o;have ze3:=aE.cell HK23.o;clear hb3;have zs3:=(HB3.o.cell (p:=⟨bs,os,Z⟩) hbs).trans hs0;clear HC1 HBS HK1 HK2;go_wp2_with fail
 refine (HC3.o _ HB3.o).mono ?_;rintro e w4 ⟨rfl,hb4⟩;have HB4:=cN HB3 hb4;have HK14:=gJ HK13 hb4;have HK24:=gJ HK23 hb4;have zb4:=aE.cell HK14.o;have ze4:=aE.cell HK24.o;clear hb4;clear zb3 ze3 HK13 HK23 HB3 HC3;go_wp2_with fail
 refine (HC4.o _ HB4.o).mono ?_;rintro e w5 ⟨rfl,hb5⟩;have HB5:=cN HB4 hb5;have HK15:=gJ HK14 hb5;have HK25:=gJ HK24 hb5;have zb5:=aE.cell HK15.o;have ze5:=aE.cell HK25.o;clear hb5;clear zb4 ze4 HK14 HK24 HB4 HC4;go_wp2_with fail
 clear zb5 ze5 zs3 hs0 HSO;have hstepC:∀ (c:Ct) (r:List Ct),eD b i x (c::r)=(if 16<c.args.length then 5
  else if c.outs.length ≠ x.indices.length then 8
  else if bP b i i 1 c.args x.params.length ≠ 0 then bP b i i 1 c.args x.params.length
  else if bP b i i 0 c.outs ((x.params.length:Int)+c.args.length) ≠ 0 then bP b i i 0 c.outs ((x.params.length:Int)+c.args.length)
  else eD b i x r):=fun _ _=>rfl
 rw [l1,l2] at hstepC;have HSC:=hid hstepC;have hstepR:∀ (l:List Nd) (r:List (List Nd)) (bl:Int),bP b i i 0 (l::r) bl=if eW b i i l bl ≠ 0 then eW b i i l bl else bP b i i 0 r (bl+0):=fun _ _ _=>rfl;have HSR:=hid hstepR;clear hstepC hstepR;go_loopw [8,9] (fun tv iv wr=>∃ (k:Nat) (e:Int),tv=O X e/\iv=O X (k:Int)/\k<=nc/\Hid ((if e ≠ 0 then e else eD b i x (x.ctors.drop k))=res)/\Hid (aE wr w.heap.size 26 #[O X bv,Y Ao no co,Y (J ⟨be,oe,Z⟩) ne ce,O X bn,Y Ap np cp])/\Hid (aE wr (w.heap.size+1) 57 #[O X 1,Y (J ⟨bs,os,Z⟩) ns cs,Y Ap2 np2 cp2,Y Ai ni ci,Y Ac nc cc,Y At 0 ct,Y Ab 0 cb])/\Hid (Below w.heap.size w wr)) (fun _ iv _=>nc-(intOf iv).toNat)
 case atStart=>exact ⟨0,0,rfl,rfl,by omega,hid (by rw [if_neg (by simp),List.drop_zero];exact HR.o.symm),HK15,HK25,HB5⟩
 case round =>
  clear HK15 HK25 HB5;obtain ⟨k,e,rfl,rfl,hkn,hq,hk1,hk2,hbw⟩:=hrel;have ze:=aE.cell hk2.o;by_cases hlt:k<nc;case neg =>
   have y1:decide ((k:Int)<(nc:Int))=false:=decide_eq_false aA;have y2:decide (k<nc)=false:=decide_eq_false hlt;have hq2:=hq.o;rw [List.drop_of_length_le (by rw [l3];omega)] at hq2;have HRF:Hid (res=e):=hid (by
    rw [<-hq2];by_cases h:e=0
    · rw [if_neg (by simpa using h),h];rfl
    rw [if_pos h])
   clear hq2;go_wp2_with fail
   go_ret;rw [HRF.o];exact ⟨rfl,hbw.o⟩
  have y1:decide ((k:Int)<(nc:Int))=true:=decide_eq_true aA;have y2:decide (k<nc)=true:=decide_eq_true hlt;by_cases h0:e=0;case neg =>
   have y3:(e==0)=false:=by simpa using h0
   have hq2:=hq.o;rw [if_pos h0] at hq2;have HRF:Hid (res=e):=hid hq2.symm;clear hq2 h0;go_wp2_with fail
   go_ret;rw [HRF.o];exact ⟨rfl,hbw.o⟩
  subst h0;have hil:k<x.ctors.length:=by rw [l3];exact hlt
  have hq2:=hq.o;rw [if_neg (by simp),List.drop_eq_getElem_cons hil,show x.ctors[k]=x.ctors.getD k default from by rw [List.getD_eq_getElem?_getD,List.getElem?_eq_getElem hil];rfl,HSC.o] at hq2;obtain ⟨bc,oc,rfl,hbc,hm⟩:=(HX.o wr hbw.o).ctors.mem (by show 0<nc;omega);obtain ⟨A1,n1,c1,A2,n2,c2,hd0,hd1,hr1,hr2⟩:=hm k hlt;obtain ⟨cx,hcx⟩ : ∃ cx,cx=x.ctors.getD k default:=⟨_,rfl⟩;rw [<-hcx] at hr1 hr2 hq2;have m1:=hr1.len;have m2:=hr2.len;have g1:=hr1.few;have g2:=hr2.few;rw [m1,m2] at hq2;have HBa:=hid (hbw.o.trans ((aB wr (I #[Y A1 n1 c1,Y A2 n2 c2] 66)).mono hbw.o.size));have HK1a:=hid (hk1.o.alloc (I #[Y A1 n1 c1,Y A2 n2 c2] 66));have HK2a:=hid (hk2.o.alloc (I #[Y A1 n1 c1,Y A2 n2 c2] 66));have HK3a:=hid (aE.new wr 66 #[Y A1 n1 c1,Y A2 n2 c2]);have hr1a:=hr1.below (aB wr (I #[Y A1 n1 c1,Y A2 n2 c2] 66));have HR2:=hid (fun (w':World) (h:Below wr.heap.size wr w')=>hr2.below h);have HBWA:=hid (aB wr (I #[Y A1 n1 c1,Y A2 n2 c2] 66));have zb:=aE.cell hk1.o;have hbl1:=hk1.o.lt;have hbl2:=hk2.o.lt;clear hm hcx hr1 hr2 hq;by_cases h16:16<n1
  · rw [if_pos h16] at hq2;have HRF:Hid (res=5):=hid hq2.symm;have x1:decide ((n1:Int)>16)=true:=decide_eq_true aA;clear hq2 m1 m2 h16;go_wp2_with fail
    go_ret;rw [HRF.o];exact ⟨rfl,HBa.o⟩
  rw [if_neg h16] at hq2;have x1:decide ((n1:Int)>16)=false:=decide_eq_false aA;by_cases hne2:n2=ni;case neg =>
   rw [if_pos hne2] at hq2;have HRF:Hid (res=8):=hid hq2.symm;have x2:((n2:Int) != (ni:Int))=true:=by rw [bne_iff_ne];omega
   clear hq2 m1 m2 h16 hne2;go_wp2_with fail
   go_ret;rw [HRF.o];exact ⟨rfl,HBa.o⟩
  rw [if_neg (by simpa using hne2)] at hq2;have x2:((n2:Int) != (ni:Int))=false:=by rw [bne_eq_false_iff_eq];omega
  have hn16:n1<=16:=aA;have HC1:=hid (HRS.o _ HBa.o (i:Int) (np2:Int) aA aA A1 n1 c1 cx.args hr1a);obtain ⟨e1,he1⟩ : ∃ e1,e1=bP b i i 1 cx.args np2:=⟨_,rfl⟩;rw [<-he1] at HC1 hq2;have HQ:Hid ((if e1 ≠ 0 then e1 else if bP b i i 0 (cx.outs.drop 0) ((np2:Int)+n1) ≠ 0 then bP b i i 0 (cx.outs.drop 0) ((np2:Int)+n1) else eD b i x (x.ctors.drop (k+1)))=res):=hid hq2;clear he1 m1 h16 hne2 hr1a hq2;go_wp2_with fail
  refine HC1.o.mono ?_;rintro e w3 ⟨rfl,hb3⟩;have HB3:=cN HBa hb3;have HW3:=cN HBWA hb3;have HK13:=gJ HK1a hb3;have HK23:=gJ HK2a hb3;have HK33:=gJ HK3a hb3;clear hb3 zb ze hd0 hd1;obtain ⟨wo,rfl⟩ : ∃ wo:World,wo=wr:=⟨_,rfl⟩;go_wp2_with fail
  go_loopw [8,11] (fun tv iv wi=>∃ (j:Nat) (e:Int),tv=O X e/\iv=O X (j:Int)/\j<=n2/\Hid ((if e ≠ 0 then e else if bP b i i 0 (cx.outs.drop j) ((np2:Int)+n1) ≠ 0 then bP b i i 0 (cx.outs.drop j) ((np2:Int)+n1) else eD b i x (x.ctors.drop (k+1)))=res)/\Hid (aE wi w.heap.size 26 #[O X bv,Y Ao no co,Y (J ⟨be,oe,Z⟩) ne ce,O X bn,Y Ap np cp])/\Hid (aE wi (w.heap.size+1) 57 #[O X 1,Y (J ⟨bs,os,Z⟩) ns cs,Y Ap2 np2 cp2,Y Ai ni ci,Y (J ⟨bc,oc,Z⟩) nc cc,Y At 0 ct,Y Ab 0 cb])/\Hid (aE wi wo.heap.size 66 #[Y A1 n1 c1,Y A2 n2 c2])/\Hid (Below w.heap.size w wi)/\Hid (Below wo.heap.size wo wi)) (fun _ iv _=>n2-(intOf iv).toNat)
  case atStart=>exact ⟨0,e1,rfl,rfl,by omega,HQ,HK13,HK23,HK33,HB3,HW3⟩
  case round =>
   clear HK13 HK23 HK33 HB3 HW3 HQ HC1 HK1a HK2a HK3a HBa HBWA;obtain ⟨j,e,rfl,rfl,hjn,hq,hk1i,hk2i,hk3i,hbi,hwi⟩:=hrel;have zc:=aE.cell hk3i.o;by_cases hjlt:j<n2;case neg =>
    have y3:decide ((j:Int)<(n2:Int))=false:=decide_eq_false aA;have y4:decide (j<n2)=false:=decide_eq_false hjlt;have hq2:=hq.o;rw [List.drop_of_length_le (by rw [m2];omega),show bP b i i 0 [] ((np2:Int)+n1)=0 from rfl,if_neg (c:=(0:Int) ≠ 0) (by simp)] at hq2;have HQ:=hid hq2;clear hq2 hq;go_wp2_with fail
    go_roundw
    case rel=>exact ⟨k+1,e,rfl,by go_num,by omega,HQ,hk1i,hk2i,hbi⟩
    case measure=>simp [intOf];omega
   have y3:decide ((j:Int)<(n2:Int))=true:=decide_eq_true aA;have y4:decide (j<n2)=true:=decide_eq_true hjlt;by_cases h0:e=0;case neg =>
    have y5:(e==0)=false:=by simpa using h0
    have hq2:=hq.o;rw [if_pos h0] at hq2;have HQ:Hid ((if e ≠ 0 then e else eD b i x (x.ctors.drop (k+1)))=res):=hid (by rw [if_pos h0];exact hq2);clear hq2 hq h0;go_wp2_with fail
    go_roundw
    case rel=>exact ⟨k+1,e,rfl,by go_num,by omega,HQ,hk1i,hk2i,hbi⟩
    case measure=>simp [intOf];omega
   subst h0;have hjl:j<cx.outs.length:=by rw [m2];exact hjlt
   have hq2:=hq.o;rw [if_neg (c:=(0:Int) ≠ 0) (by simp),List.drop_eq_getElem_cons hjl,show cx.outs[j]=cx.outs.getD j [] from by rw [List.getD_eq_getElem?_getD,List.getElem?_eq_getElem hjl];rfl,HSR.o,Int.add_zero] at hq2;obtain ⟨b2,o2,A',n',c',rfl,hbr,hcr,htr⟩:=(HR2.o wr hwi.o).at_ hjlt;have HBd:=hid (aK hbi.o 1);have HWd:=hid (aK hwi.o 1);have hdd:=aK (Below.refl wr.heap.size wr) 1;have HK1d:=hid (hk1i.o.drewN 1);have HK2d:=hid (hk2i.o.drewN 1);have HK3d:=hid (hk3i.o.drewN 1);have zbd:=aE.cell HK1d.o;have zcd:=aE.cell HK3d.o;have zrd:=(hdd.cell (p:=⟨b2,o2+j,Z⟩) hbr).trans hcr;have hbrd:=Nat.lt_of_lt_of_le hbr hdd.size;have hwrap:IntKind.i64.wrap ((np2:Int)+(n1:Int))=(np2:Int)+(n1:Int):=by rw [IntKind.wrap_i64];omega
   have HCR:=hid (HRW.o _ HBd.o (i:Int) ((np2:Int)+(n1:Int)) A' n' c' _ (htr.below hdd));have HQ:Hid ((if eW b i i (cx.outs.getD j []) ((np2:Int)+n1) ≠ 0 then eW b i i (cx.outs.getD j []) ((np2:Int)+n1) else if bP b i i 0 (cx.outs.drop (j+1)) ((np2:Int)+n1) ≠ 0 then bP b i i 0 (cx.outs.drop (j+1)) ((np2:Int)+n1) else eD b i x (x.ctors.drop (k+1)))=res):=hid (by
    rw [<-hq2];generalize eW b i i (cx.outs.getD j []) ((np2:Int)+n1)=r1;by_cases h:r1=0<;>simp [h])
   generalize eW b i i (cx.outs.getD j []) ((np2:Int)+n1)=re at *;clear hq2 hq hcr htr hdd;go_wp2_with fail
   refine wp_region_held_drew (S:=(fun w'=>w'.cell? ⟨w.heap.size,0,Z⟩=J (O X bv)/\w'.cell? ⟨w.heap.size,1,Z⟩=J (Y Ao no co)/\w'.cell? ⟨w.heap.size,2,Z⟩=J (Y (J ⟨be,oe,Z⟩) ne ce)/\w'.cell? ⟨w.heap.size,3,Z⟩=J (O X bn)/\w'.cell? ⟨w.heap.size,4,Z⟩=J (Y Ap np cp)/\w'.cell? ⟨wo.heap.size,0,Z⟩=J (Y A1 n1 c1)/\w'.cell? ⟨wo.heap.size,1,Z⟩=J (Y (J ⟨b2,o2,Z⟩) n2 c2)/\w'.cell? ⟨b2,o2+j,Z⟩=J (Y A' n' c'))) (by kernel_rfl) ?_ (fun hHeld => ?_)
   · (try dsimp only);exact ⟨zbd 0,zbd 1,zbd 2,zbd 3,zbd 4,zcd 0,zcd 1,zrd⟩
   refine tq 0 hHeld ?_;try simp only [p7]
   refine tq 1 hHeld ?_;try simp only [p7]
   refine tq 2 hHeld ?_;try simp only [p7]
   refine tq 3 hHeld ?_;try simp only [p7]
   refine tq 4 hHeld ?_;try simp only [p7]
   refine tq 5 hHeld ?_;try simp only [p7]
   refine tq 6 hHeld ?_;try simp only [p7]
   refine tq 7 hHeld ?_;try simp only [p7]
   refine tq 8 hHeld ?_;try simp only [p7]
   refine tq 9 hHeld ?_;try simp only [p7]
   refine tq 10 hHeld ?_;try simp only [p7]
   refine tq 11 hHeld ?_;try simp only [p7]
   refine tq 12 hHeld ?_;try simp only [p7]
   refine r1 13 fun K hK => ?_;go_simp;go_at_call 34
   refine HCR.o.mono ?_;rintro e' w7 ⟨rfl,hw7⟩;have HB7:=cN HBd hw7;have HW7:=cN HWd hw7;have HK17:=gJ HK1d hw7;have HK27:=gJ HK2d hw7;have HK37:=gJ HK3d hw7;have zb7:=aE.cell HK17.o;have zc7:=aE.cell HK37.o;have zr7:=(hw7.cell (p:=⟨b2,o2+j,Z⟩) hbrd).trans zrd;clear hw7;go_wp2_with fail
   refine hK.o _ _ (by exact ⟨zb7 0,zb7 1,zb7 2,zb7 3,zb7 4,zc7 0,zc7 1,zr7⟩) fun hHeld => ?_;clear hK K;try simp only [p7]
   refine tq 14 hHeld ?_;try simp only [p7]
   refine wpAnyH_done (by kernel_rfl) ?_ _;go_wp2_with fail
   go_roundw
   case rel=>exact ⟨j+1,re,rfl,by go_num,by omega,HQ,HK17,HK27,HK37,HB7,HW7⟩
   case measure=>simp [intOf];omega
theorem vB {w:World} {v:cP} {b:Bk} (hb:bY w v b) (i:Nat) (hi:i<b.entries.length) :
 Calls Tryz.prog 31 #[.agg #[O X b.vars,Y v.Ao v.no v.co,Y v.Ae v.ne v.ce,O X b.nat,Y v.Ap v.np v.cp],O X (i:Int)] w (gD (bS b i (b.entries.getD i default)) w):=by
 by_cases h1:(b.entries.getD i default).kind=1
 · exact vD hb i hi h1
 by_cases h2:(b.entries.getD i default).kind=2
 · exact vC hb i hi h2
 exact sS hb i hi ⟨h1,h2⟩
end Go.Proofs.YtplecfbdchmogaaGreat
