/- The book of numbers. -/
import Derived.Test.YtplecfbdchmogaaGreatDEntries
namespace Go.Proofs.YtplecfbdchmogaaGreat
open Go.Value renaming int → O, slice → X
open Go.IntKind renaming i64 → S
open Option renaming none → Y, some → Z
open Go.Lib (hid)
open Go.RowKit
theorem bB {B:Nat} {w w':World} (h:Below B w w'):Below B w w'.drew:=aK h 1
theorem aY {w w':World} (h:Below w.heap.size w w') (o:Obj):Below w.heap.size w (w'.alloc o):=h.alloc h.size o
theorem wG (x y:Nd) (w:World):(Go.binOp .eql 53 (.agg #[O S x.op,O S x.a,O S x.b]) (.agg #[O S y.op,O S y.a,O S y.b])).run Tryz.prog w=.ok (.bool (decide (x=y))) w:=by
 obtain ⟨p,q,r⟩:=x;obtain ⟨p',q',r'⟩:=y;simp [go_sem];by_cases h1:p=p'<;>by_cases h2:q=q'<;>by_cases h3:r=r'<;>simp [h1,h2,h3]
theorem lW (x y:Nd) (w:World):(Go.binOp .neq 53 (.agg #[O S x.op,O S x.a,O S x.b]) (.agg #[O S y.op,O S y.a,O S y.b])).run Tryz.prog w=.ok (.bool (!decide (x=y))) w:=by
 obtain ⟨p,q,r⟩:=x;obtain ⟨p',q',r'⟩:=y;simp [go_sem];by_cases h1:p=p'<;>by_cases h2:q=q'<;>by_cases h3:r=r'<;>simp [h1,h2,h3]
set_option linter.unusedSimpArgs false in
set_option linter.unusedVariables false in
set_option maxRecDepth 100000 in
set_option maxHeartbeats 4000000 in
theorem xA {w:World} {v:cP} {b:Bk} (hb:bY w v b) (e:Int) :
 Calls Tryz.prog 81 #[.agg #[O S b.vars,X v.Ao v.no v.co,X v.Ae v.ne v.ce,O S b.nat,X v.Ap v.np v.cp],O S e] w (fT (rM b e) w):=by
 have hlen:=hb.entries.len;have hfew:=hb.entries.few;have HEN:=hid (fun (k:Nat) (h:k<v.ne)=>hb.entries.at_ (k:=k) h);have HR0:Hid (rM b e=if e<0 then false
 else if (b.entries.length:Int)<=e then false
 else if (aT b e).kind ≠ 1 then false
 else if (aT b e).sort.length ≠ 2 then false
 else if (aL (aT b e).sort 0).a ≠ 1 then false
 else if aL (aT b e).sort 1 ≠ ⟨3,0,0⟩ then false
 else if 0<(aT b e).params.length+(aT b e).indices.length then false
 else if (aT b e).ctors.length ≠ 2 then false
 else if ((aT b e).ctors.getD 0 default).args.length ≠ 0 then false
 else if ((aT b e).ctors.getD 1 default).args.length ≠ 1 then false
 else if (((aT b e).ctors.getD 1 default).args.getD 0 []).length ≠ 1 then false
 else decide (aL (((aT b e).ctors.getD 1 default).args.getD 0 []) 0=⟨9,e,0⟩)):=hid rfl
 have HB0:=hid (aB w (.cells #[O S b.vars,X v.Ao v.no v.co,X v.Ae v.ne v.ce,O S b.nat,X v.Ap v.np v.cp] 26));generalize rM b e=res at *;rw [hlen] at HR0;obtain ⟨Ao,no,co,Ae,ne,ce,Ap,np,cp⟩:=v;simp only at HEN HB0 HR0 hfew ⊢;clear hb hlen;generalize b.vars=bv at *;generalize b.nat=bn at *;by_cases h1:e<0
 · have HR:Hid (res=false):=hid (by rw [HR0.o,if_pos h1]);have d1:decide (e<0)=true:=decide_eq_true h1;clear h1 HR0 HEN;go_in;go_wp2_with fail
   go_ret;rw [HR.o];exact ⟨rfl,HB0.o⟩
 have d1:decide (e<0)=false:=decide_eq_false h1;rw [if_neg h1] at HR0;obtain ⟨k,rfl⟩ : ∃ k:Nat,e=(k:Int):=⟨e.toNat,by omega⟩;by_cases h2:(ne:Int)<=(k:Int)
 · have HR:Hid (res=false):=hid (by rw [HR0.o,if_pos h2]);have d2:decide ((k:Int) ≥ (ne:Int))=true:=decide_eq_true h2;have d2':decide (ne<=k)=true:=decide_eq_true aA;clear h1 h2 HR0 HEN;go_in;go_wp2_with fail
   go_ret;rw [HR.o];exact ⟨rfl,HB0.o⟩
 have d2:decide ((k:Int) ≥ (ne:Int))=false:=decide_eq_false h2;have d2':decide (ne<=k)=false:=decide_eq_false aA;rw [if_neg h2] at HR0;obtain ⟨be,oe,rfl,hbe,ev,hc0,hc1,hc2,hc3,hc4,hc5,hc6,hec⟩:=HEN.o k aA;rw [show b.entries.getD k default=aT b k from by unfold aT;rw [Int.toNat_natCast]] at hc0 hec;have hkn:k<ne:=aA;generalize aT b k=x at *;clear h1 h2 HEN;by_cases h3:x.kind=1;case neg =>
  have HR:Hid (res=false):=hid (by rw [HR0.o,if_pos h3]);have d3:(x.kind != 1)=true:=by simpa using h3
  clear h3 HR0 hec;generalize x.kind=kd at *;go_in;go_wp2_with fail
  go_ret;rw [HR.o];exact ⟨rfl,HB0.o⟩
 rw [h3] at hc0;rw [if_neg (by simp [h3])] at HR0;clear h3;obtain ⟨As,ns,cs,Ap2,np2,cp2,Ai,ni,ci,Ac,nc,cc,At,nt,ct,Ab,nb,cb⟩:=ev;have hs:=hec.sort;have hsl:=hec.sort.len;have hpl:=hec.params.len;have hil:=hec.indices.len;have hcl:=hec.ctors.len;have hpf:=hec.params.few;have hif:=hec.indices.few;have hct:=hec.ctors;simp only at hc1 hc2 hc3 hc4 hc5 hc6 hs hsl hpl hil hcl hpf hif hct;clear hec;rw [hsl,hpl,hil,hcl] at HR0;have HBE:=hid (HB0.o.alloc HB0.o.size (.cells #[O S 1,X As ns cs,X Ap2 np2 cp2,X Ai ni ci,X Ac nc cc,X At nt ct,X Ab nb cb] 57));by_cases h4:ns=2;case neg =>
  have HR:Hid (res=false):=hid (by rw [HR0.o,if_pos h4]);have d4:((ns:Int) != 2)=true:=by rw [bne_iff_ne];omega
  clear h4 HR0 hs hct hsl hpl hil hcl;go_in;go_wp2_with fail
  go_ret;rw [HR.o];exact ⟨rfl,HBE.o⟩
 subst h4;rw [if_neg (by simp)] at HR0;obtain ⟨bs,os,rfl,hbs,_,hs1,_⟩:=hs.at_ (p:=0) aA;obtain ⟨hbs',hsa,hsb,hsc⟩:=hs.cells (p:=1) aA;rw [Nat.zero_mul,Nat.add_zero] at hs1;rw [Nat.one_mul] at hsa hsb hsc;clear hs hbs';by_cases h5:(aL x.sort 0).a=1;case neg =>
  have HR:Hid (res=false):=hid (by rw [HR0.o,if_pos h5]);have d5:((aL x.sort 0).a != 1)=true:=by simpa using h5
  clear h5 HR0 hct hsl hpl hil hcl;generalize (aL x.sort 0).a=sa at *;generalize aL x.sort 1=sn at *;go_in;go_wp2_with fail
  go_ret;rw [HR.o];exact ⟨rfl,HBE.o⟩
 rw [h5] at hs1;rw [if_neg (by simp [h5])] at HR0;clear h5;generalize aL x.sort 1=sn at *;by_cases h6:sn=⟨3,0,0⟩;case neg =>
  have HR:Hid (res=false):=hid (by rw [HR0.o,if_pos h6]);have hn1:=fun w=>(lW sn ⟨3,0,0⟩ w).trans (by simp only [h6,decide_false,Bool.not_false]:_=Result.ok (Value.bool true) w);simp only at hn1;clear h6 HR0 hct hsl hpl hil hcl;go_in;go_wp2_with fail
  go_ret;rw [HR.o];exact ⟨rfl,HBE.o⟩
 rw [if_neg (by simp [h6])] at HR0;subst h6;simp only at hsa hsb hsc;have hn1:=fun w=>(lW ⟨3,0,0⟩ ⟨3,0,0⟩ w).trans (by simp only [decide_true,Bool.not_true]:_=Result.ok (Value.bool false) w);simp only at hn1;by_cases h7:0<np2+ni
 · have HR:Hid (res=false):=hid (by rw [HR0.o,if_pos h7]);have d7:decide ((np2:Int)+(ni:Int)>0)=true:=decide_eq_true aA;clear h7 HR0 hct hsl hpl hil hcl;go_in;go_wp2_with fail
   go_ret;rw [HR.o];exact ⟨rfl,HBE.o⟩
 rw [if_neg h7] at HR0;have d7:decide ((np2:Int)+(ni:Int)>0)=false:=decide_eq_false aA;clear h7;by_cases h8:nc=2;case neg =>
  have HR:Hid (res=false):=hid (by rw [HR0.o,if_pos h8]);have d8:((nc:Int) != 2)=true:=by rw [bne_iff_ne];omega
  clear h8 HR0 hct hsl hpl hil hcl;go_in;go_wp2_with fail
  go_ret;rw [HR.o];exact ⟨rfl,HBE.o⟩
 subst h8;rw [if_neg (by simp)] at HR0;obtain ⟨bc,oc,rfl,hbc,hm⟩:=hct.mem aA;obtain ⟨A1,n1,c1,A2,n2,c2,hk1,hk2,hr1,_⟩:=hm 0 aA;obtain ⟨A3,n3,c3,A4,n4,c4,hk3,hk4,hr3,_⟩:=hm 1 aA;rw [Nat.zero_mul,Nat.add_zero] at hk1 hk2;rw [Nat.one_mul] at hk3 hk4;have hl1:=hr1.len;have hl3:=hr3.len;rw [hl1,hl3] at HR0;generalize (x.ctors.getD 1 default).args=ar at *;have hW:∃ W2,W2=(w.alloc (.cells #[O S bv,X Ao no co,X (Z ⟨be,oe,Y⟩) ne ce,O S bn,X Ap np cp] 26)).alloc (.cells #[O S 1,X (Z ⟨bs,os,Y⟩) 2 cs,X Ap2 np2 cp2,X Ai ni ci,X (Z ⟨bc,oc,Y⟩) 2 cc,X At nt ct,X Ab nb cb] 57):=⟨_,rfl⟩;obtain ⟨W2,hW2⟩:=hW;have HBW:Hid (Below w.heap.size w W2):=hid (by rw [hW2];exact HBE.o);have hz4:W2.cell? ⟨w.heap.size+1,4,Y⟩=Z (X (Z ⟨bc,oc,Y⟩) 2 cc):=by
  rw [hW2];have h:=aE.cell (aE.new (w.alloc (.cells #[O S bv,X Ao no co,X (Z ⟨be,oe,Y⟩) ne ce,O S bn,X Ap np cp] 26)) 57 #[O S 1,X (Z ⟨bs,os,Y⟩) 2 cs,X Ap2 np2 cp2,X Ai ni ci,X (Z ⟨bc,oc,Y⟩) 2 cc,X At nt ct,X Ab nb cb]) 4;rw [show (w.alloc (.cells #[O S bv,X Ao no co,X (Z ⟨be,oe,Y⟩) ne ce,O S bn,X Ap np cp] 26)).heap.size=w.heap.size+1 from by simp] at h;exact h
 have hgt:w.heap.size+1<W2.heap.size:=by rw [hW2];simp
 have gk1:=(HBW.o.cell (p:=⟨bc,oc,Y⟩) hbc).trans hk1;have gk2:=(HBW.o.cell (p:=⟨bc,oc+1,Y⟩) hbc).trans hk2;have gk3:=(HBW.o.cell (p:=⟨bc,oc+2,Y⟩) hbc).trans hk3;have gk4:=(HBW.o.cell (p:=⟨bc,oc+2+1,Y⟩) hbc).trans hk4;clear hm hct hr1 hl1 hl3 hsl hpl hil hcl hk1 hk2 hk3 hk4;have HSX:Hid (∀ w',Below W2.heap.size W2 w'->w'.cell? ⟨w.heap.size+1,4,Y⟩=Z (X (Z ⟨bc,oc,Y⟩) 2 cc)/\w'.cell? ⟨bc,oc,Y⟩=Z (X A1 n1 c1)/\w'.cell? ⟨bc,oc+1,Y⟩=Z (X A2 n2 c2)/\w'.cell? ⟨bc,oc+2,Y⟩=Z (X A3 n3 c3)/\w'.cell? ⟨bc,oc+2+1,Y⟩=Z (X A4 n4 c4)):=hid (fun w' h=>by
  have hb2:bc<W2.heap.size:=aA;exact ⟨(h.cell (p:=⟨w.heap.size+1,4,Y⟩) hgt).trans hz4,(h.cell (p:=⟨bc,oc,Y⟩) hb2).trans gk1,(h.cell (p:=⟨bc,oc+1,Y⟩) hb2).trans gk2,(h.cell (p:=⟨bc,oc+2,Y⟩) hb2).trans gk3,(h.cell (p:=⟨bc,oc+2+1,Y⟩) hb2).trans gk4⟩)
 have hbw:=HBW.o.size;clear hz4 gk1 gk2 gk3 gk4;by_cases h9:n1=0;case neg =>
  have HR:Hid (res=false):=hid (by rw [HR0.o,if_pos h9]);have d9:((n1:Int)==0)=false:=by rw [beq_eq_false_iff_ne];omega
  clear h9 HR0 hr3;go_in;go_wp2_with fail
  rw [<-hW2];clear hW2;go_region_held3 (fun w'=>w'.cell? ⟨w.heap.size+1,4,Y⟩=Z (X (Z ⟨bc,oc,Y⟩) 2 cc)/\w'.cell? ⟨bc,oc,Y⟩=Z (X A1 n1 c1)/\w'.cell? ⟨bc,oc+1,Y⟩=Z (X A2 n2 c2)/\w'.cell? ⟨bc,oc+2,Y⟩=Z (X A3 n3 c3)/\w'.cell? ⟨bc,oc+2+1,Y⟩=Z (X A4 n4 c4)) (exact HSX.o _ (by (first | exact bB (Below.refl _ _) | exact bB (aY (Below.refl _ _) _) | exact bB (aY (aY (Below.refl _ _) _) _)))) (fail)
  all_goals
   go_wp2_with fail
   go_ret;rw [HR.o];exact ⟨rfl,HBW.o.trans (Below.mono (show Below W2.heap.size W2 _ from by (first | exact bB (Below.refl _ _) | exact bB (aY (Below.refl _ _) _) | exact bB (aY (aY (Below.refl _ _) _) _))) hbw)⟩
 subst h9;rw [if_neg (by simp)] at HR0;by_cases h10:n3=1;case neg =>
  have HR:Hid (res=false):=hid (by rw [HR0.o,if_pos h10]);have d10:((n3:Int)==1)=false:=by rw [beq_eq_false_iff_ne];omega
  clear h10 HR0 hr3;go_in;go_wp2_with fail
  rw [<-hW2];clear hW2;go_region_held3 (fun w'=>w'.cell? ⟨w.heap.size+1,4,Y⟩=Z (X (Z ⟨bc,oc,Y⟩) 2 cc)/\w'.cell? ⟨bc,oc,Y⟩=Z (X A1 0 c1)/\w'.cell? ⟨bc,oc+1,Y⟩=Z (X A2 n2 c2)/\w'.cell? ⟨bc,oc+2,Y⟩=Z (X A3 n3 c3)/\w'.cell? ⟨bc,oc+2+1,Y⟩=Z (X A4 n4 c4)) (exact HSX.o _ (by (first | exact bB (Below.refl _ _) | exact bB (aY (Below.refl _ _) _) | exact bB (aY (aY (Below.refl _ _) _) _)))) (fail)
  all_goals
   go_wp2_with fail
   go_ret;rw [HR.o];exact ⟨rfl,HBW.o.trans (Below.mono (show Below W2.heap.size W2 _ from by (first | exact bB (Below.refl _ _) | exact bB (aY (Below.refl _ _) _) | exact bB (aY (aY (Below.refl _ _) _) _))) hbw)⟩
 subst h10;rw [if_neg (by simp)] at HR0;obtain ⟨b3,o3,A5,n5,c5,rfl,hb3,hk5,ht5⟩:=hr3.at_ (k:=0) aA;rw [Nat.add_zero] at hk5;have hl5:=ht5.len;generalize ar.getD 0 []=l5 at *;rw [hl5] at HR0;have gk5:=(HBW.o.cell (p:=⟨b3,o3,Y⟩) hb3).trans hk5;have hb32:b3<W2.heap.size:=aA;clear hr3 hl5;by_cases h11:n5=1;case neg =>
  have HR:Hid (res=false):=hid (by rw [HR0.o,if_pos h11]);have d11:((n5:Int)==1)=false:=by rw [beq_eq_false_iff_ne];omega
  clear h11 HR0 ht5;go_in;go_wp2_with fail
  rw [<-hW2];clear hW2;go_region_held3 (fun w'=>w'.cell? ⟨w.heap.size+1,4,Y⟩=Z (X (Z ⟨bc,oc,Y⟩) 2 cc)/\w'.cell? ⟨bc,oc,Y⟩=Z (X A1 0 c1)/\w'.cell? ⟨bc,oc+1,Y⟩=Z (X A2 n2 c2)/\w'.cell? ⟨bc,oc+2,Y⟩=Z (X (Z ⟨b3,o3,Y⟩) 1 c3)/\w'.cell? ⟨bc,oc+2+1,Y⟩=Z (X A4 n4 c4)) (exact HSX.o _ (by (first | exact bB (Below.refl _ _) | exact bB (aY (Below.refl _ _) _) | exact bB (aY (aY (Below.refl _ _) _) _)))) (fail)
  all_goals
   go_wp2_with fail
   go_ret;rw [HR.o];exact ⟨rfl,HBW.o.trans (Below.mono (show Below W2.heap.size W2 _ from by (first | exact bB (Below.refl _ _) | exact bB (aY (Below.refl _ _) _) | exact bB (aY (aY (Below.refl _ _) _) _))) hbw)⟩
 subst h11;rw [if_neg (by simp)] at HR0;obtain ⟨b5,o5,rfl,hb5,hm0,hm1,hm2⟩:=ht5.at_ (p:=0) aA;rw [Nat.zero_mul,Nat.add_zero] at hm0 hm1 hm2;generalize aL l5 0=m at *;have gm0:=(HBW.o.cell (p:=⟨b5,o5,Y⟩) hb5).trans hm0;have gm1:=(HBW.o.cell (p:=⟨b5,o5+1,Y⟩) hb5).trans hm1;have gm2:=(HBW.o.cell (p:=⟨b5,o5+2,Y⟩) hb5).trans hm2;have hb52:b5<W2.heap.size:=aA;have hn2:=fun w=>wG m ⟨9,(k:Int),0⟩ w;simp only at hn2;have HR:Hid (res=decide (m=⟨9,(k:Int),0⟩)):=HR0;generalize decide (m=⟨9,(k:Int),0⟩)=dd at *;clear ht5;go_in;go_wp2_with fail
 rw [<-hW2];clear hW2;go_region_held3 (fun w'=>w'.cell? ⟨w.heap.size+1,4,Y⟩=Z (X (Z ⟨bc,oc,Y⟩) 2 cc)/\w'.cell? ⟨bc,oc,Y⟩=Z (X A1 0 c1)/\w'.cell? ⟨bc,oc+1,Y⟩=Z (X A2 n2 c2)/\w'.cell? ⟨bc,oc+2,Y⟩=Z (X (Z ⟨b3,o3,Y⟩) 1 c3)/\w'.cell? ⟨bc,oc+2+1,Y⟩=Z (X A4 n4 c4)) (exact HSX.o _ (by (first | exact bB (Below.refl _ _) | exact bB (aY (Below.refl _ _) _) | exact bB (aY (aY (Below.refl _ _) _) _)))) (fail)
 all_goals
  go_wp2_with fail
  go_ret;rw [HR.o];exact ⟨rfl,HBW.o.trans (Below.mono (show Below W2.heap.size W2 _ from by (first | exact bB (Below.refl _ _) | exact bB (aY (Below.refl _ _) _) | exact bB (aY (aY (Below.refl _ _) _) _))) hbw)⟩
end Go.Proofs.YtplecfbdchmogaaGreat
