/- Merged: Awk, NxP. -/
import Derived.Test.YtplecfbdchmogaaGreatDDec
import Derived.Test.YtplecfbdchmogaaGreatDTyq
import Derived.Test.YtplecfbdchmogaaGreatDSized
import Derived.Test.YtplecfbdchmogaaGreatDOctP
namespace Go.Proofs.YtplecfbdchmogaaGreat
open Go.Value renaming int → O, slice → X
open Go.IntKind renaming i64 → S
open Go.Obj renaming cells → Y
section
open Go.Lib (hid)
set_option maxHeartbeats 8000000
set_option maxRecDepth 100000
set_option linter.unusedVariables false
set_option linter.unusedSimpArgs false
open Go.RowKit
abbrev KG (g:Nat):cP:=⟨none,0,0,some ⟨g,0,none⟩,1,1,none,0,0⟩
def LI (w:World) (e:Ending) (w':World):Prop:=Below w.heap.size w w'/\∃ g:Nat,e=.returned (.agg #[O S 0,X none 0 0,X (some ⟨g,0,none⟩) 1 1,O S 0,X none 0 0])/\bY w' (KG g) tM
theorem tL {w:World}:Calls Tryz.prog 26 #[] w (LI w):=by
 go_in;go_wp2_with fail
 refine bodyPost_ret (v:=.agg #[O S 0,X none 0 0,X (some ⟨w.heap.size+1+1+1+1+1,0,none⟩) 1 1,O S 0,X none 0 0]) (by simp [results,Tryz.results26,go_sem]) rfl ⟨?_,_,rfl,?_⟩
 · exact (((((aB w _).alloc (by simp) _).alloc (by simp;omega) _).alloc (by simp;omega) _).alloc (by simp;omega) _).alloc (by simp;omega) _
 exact D4 (g1:=w.heap.size+1) (g2:=w.heap.size+1+1) (g3:=w.heap.size+1+1+1) (g4:=w.heap.size+1+1+1+1)
  (((((nX (by simp)).alloc _).alloc _).alloc _).alloc _) ((((nX (by simp)).alloc _).alloc _).alloc _) (((nX (by simp)).alloc _).alloc _) ((nX (by simp)).alloc _) (nX (by simp))
theorem zR {w:World} {v:cP} {b:Bk} (hb:bY w v b) :
 Calls Tryz.prog 8 #[.agg #[O S b.vars,X v.Ao v.no v.co,X v.Ae v.ne v.ce,O S b.nat,X v.Ap v.np v.cp]] w (fT (decide (12000<=tY 12000 b)) w):=by
 have hb1:=aB w (Y #[O S b.vars,X v.Ao v.no v.co,X v.Ae v.ne v.ce,O S b.nat,X v.Ap v.np v.cp] 26);have HB1:=hid hb1;have HC:=hid (H7 (hb.below hb1) 12000 (by decide));obtain ⟨z,hz⟩ : ∃ z,z=tY 12000 b:=⟨_,rfl⟩;rw [<-hz] at HC ⊢;clear hb hb1 hz;go_in;go_wp2_with fail
 refine (HC.o).mono ?_;rintro e w1 ⟨rfl,hb2⟩;have HB2:=cN HB1 hb2;clear hb2;go_wp2_with fail
 go_ret;exact ⟨rfl,HB2.o⟩
theorem sV {w:World} {u u':gX} {p:Pg} (h:iM w u p) (h':iM w u' p) :
 Calls Tryz.prog 18 #[.agg (cT u p),.agg (cT u' p)] w (fT true w):=by
 have hb2:=dS w (Y (cT u p) 36) (Y (cT u' p) 36);have HB2:=hid hb2;have HK1:=hid ((aE.new w 36 (cT u p)).alloc (Y (cT u' p) 36));have HK2:Hid (aE ((w.alloc (Y (cT u p) 36)).alloc (Y (cT u' p) 36)) (w.heap.size+1) 36 (cT u' p)):=hid (aE.new' (by simp));have HSB:=hid (sU (h.book.below hb2) (h'.book.below hb2));have HS1:=hid (fun (W:World) (hb:Below w.heap.size w W)=>jY W (h.main.below hb) (h'.main.below hb));have HS2:=hid (fun (W:World) (hb:Below w.heap.size w W)=>jY W (h.type.below hb) (h'.type.below hb));unfold cT at HB2 HK1 HK2 ⊢;have z1:=HK1.o.cell;have z2:=HK2.o.cell;clear h h' hb2;go_in;go_wp2_with fail
 refine (HSB.o).mono ?_;rintro e w3 ⟨rfl,hb3⟩;have HB3:=cN HB2 hb3;clear z1 z2;have z1:=(HK1.o.below hb3 HK1.o.lt).cell;have z2:=(HK2.o.below hb3 HK2.o.lt).cell;have HC1:=hid (HS1.o w3 HB3.o);clear hb3;go_wp2_with fail
 refine (HC1.o).mono ?_;rintro e w4 ⟨rfl,m,rfl⟩;have HB4:=hid (aK HB3.o m);have HC2:=hid (HS2.o _ HB4.o);go_wp2_with fail
 refine (HC2.o).mono ?_;rintro e w5 ⟨rfl,m2,rfl⟩;have HB5:=hid (aK HB3.o (m+m2));go_wp2_with fail
 go_ret;exact ⟨rfl,HB5.o⟩
def ED:Pg:=⟨tM,[⟨10,0,0⟩],[⟨9,0,0⟩]⟩
theorem ML:yV tM 0 1=([⟨4,0,0⟩,⟨9,0,0⟩,⟨9,0,0⟩],0):=by kernel_rfl
theorem MC:dU ED=0:=by kernel_rfl
theorem MD:(jI ED).length=32:=by kernel_rfl
theorem ME:eL ED=(jI ED,0):=by
 unfold eL;rw [if_neg (by rw [MC];decide),if_neg (by rw [MD];decide)]
theorem MM:gP (jI ED)=(ED,0):=(vZ (rT MC) (by rw [ME])).2
theorem MN:cZ ⟨0,[],[],1,[]⟩=22:=by kernel_rfl
theorem KS (w:World):bY w ⟨none,0,0,none,0,0,none,0,0⟩ ⟨0,[],[],1,[]⟩:=⟨aQ.nil w,⟨rfl,by decide,fun h=>absurd h (by decide)⟩,⟨rfl,by decide,fun h=>absurd h (by decide)⟩,by decide,by decide,(fun x h=>by cases h),(fun x h=>by cases h)⟩
theorem yT {w:World}:Calls Tryz.prog 7 #[] w (fT true w):=by
 go_in;go_wp2_with fail
 refine tL.mono ?_;rintro e w1 ⟨hb1,g1,rfl,hbk1⟩;have HB1:=hid hb1;have hc1:=CS hbk1 0 1 (by decide) (by decide);rw [ML] at hc1;have HC1:=hid hc1;clear hb1 hbk1 hc1;go_wp2_with fail
 refine (HC1.o).mono ?_;rintro e w2 ⟨hb2,A2,n2,c2,rfl,ht2⟩;have HB2:=cN HB1 hb2;have HT2:=hid (ht2.keep (R':=(· < w2.heap.size)) fun q hq=>⟨hq.2,fun _=>rfl⟩);clear hb2 ht2;go_wp2_with fail
 refine tL.mono ?_;rintro e w3 ⟨hb3,g3,rfl,hbk3⟩;have HB3:=cN HB2 hb3;have HT3:=hid (aQ.below HT2.o hb3);have hbb:=dS w3 (Y #[O S 10,O S 0,O S 0] 53) (Y #[O S 9,O S 0,O S 0] 53);have hpv:iM ((w3.alloc (Y #[O S 10,O S 0,O S 0] 53)).alloc (Y #[O S 9,O S 0,O S 0] 53)) ⟨KG g3,some ⟨w3.heap.size,0,none⟩,1,1,some ⟨w3.heap.size+1,0,none⟩,1,1⟩ ED :=
  ⟨hbk3.below hbb,i8 (l:=[⟨10,0,0⟩]) ((aE.new _ _ _).alloc _) rfl (Nat.le_refl 1) (by simp),i8 (l:=[⟨9,0,0⟩]) (aE.new' (by simp)) rfl (Nat.le_refl 1) (by simp)⟩
 have hen:=rA hpv;rw [ME] at hen;have HEN:=hid hen;have HB4:=cN HB3 hbb;have HT4:=hid (aQ.below HT3.o hbb);have hp8:∀ x ∈ jI ED,x<256:=fun x hx=>lC.bytes ED x hx;have HP8:=hid hp8;obtain ⟨L,hL⟩ : ∃ L,L=jI ED:=⟨_,rfl⟩;have HL32:Hid (L.length=32):=hid (by rw [hL,MD]);have HD:=hid (show gP L=(ED,0) from by rw [hL];exact MM);rw [<-hL] at HEN HP8;clear hb3 hbk3 hbb hpv hen hp8 hL;go_wp2_with fail
 refine (HEN.o).mono ?_;rintro e w5 ⟨hb5,A5,c5,rfl,ho5⟩;have HB5:=cN HB4 hb5;have HT5:=hid (aQ.below HT4.o hb5);have hy:gC w5 A5 L.length c5 L:=(ho5.byt HP8.o (by rw [HL32.o];decide)).keep fun b hb=>⟨hb.2,fun _=>rfl⟩;have hde:=qZ hy;rw [HD.o] at hde;have HDE:=hid hde;clear hb5 ho5 hy hde;go_wp2_with fail
 refine (HDE.o).mono ?_;rintro e w6 ⟨hb6,u,he6,hq6⟩
 replace he6:e=.returned (.tuple #[.agg #[O S 0,X u.bk.Ao u.bk.no u.bk.co,X u.bk.Ae u.bk.ne u.bk.ce,O S 0,X u.bk.Ap u.bk.np u.bk.cp,X u.Am u.nm u.cm,X u.At u.nt u.ct],O S 0]):=he6
 subst he6;have HB6:=cN HB5 hb6;have hnm:u.nm=1:=by have:=hq6.main.len;exact this.symm
 have HT6:=hid (aQ.below HT5.o hb6);obtain ⟨⟨Ao,no,co,Ae,ne,ce,Ap,np,cp⟩,Am,nm,cm,At,nt,ct⟩:=u;simp only at hnm;subst hnm;have d10:decide ((L.length:Int)>10)=true:=decide_eq_true (by have:=HL32.o;omega);have d11:decide (10<(L.length:Int))=true:=decide_eq_true (by have:=HL32.o;omega);have d12:decide (10<L.length)=true:=decide_eq_true (by have:=HL32.o;omega);clear hb6 hq6;have hb7:=dS w6 (Y #[O S 0,X Ao no co,X Ae ne ce,O S 0,X Ap np cp,X Am 1 cm,X At nt ct] 36) (Y #[O S 4,O S 0,O S 0,O S 9,O S 0,O S 0,O S 9,O S 0,O S 0] 53);have HB7:=cN HB6 hb7;have HSM:=hid (jY _ (aQ.below HT6.o hb7) (i8 (l:=[⟨4,0,0⟩,⟨9,0,0⟩,⟨9,0,0⟩]) (g:=w6.heap.size+1) (aE.new' (by simp)) rfl (Nat.le_refl 3) (by decide)));have HRT:=hid (fun W:World=>mS (KS W));rw [MN] at HRT;clear hb7;go_wp2_with fail
 refine (HSM.o).mono ?_;rintro e w8 ⟨rfl,m,rfl⟩;have HB8:=hid (aK HB7.o m);try simp only [decide_true]
 go_wp2_with fail
 refine (HRT.o _).mono ?_;rintro e w9 ⟨rfl,hb9⟩;have HB9:=cN HB8 hb9;clear hb9;go_wp2_with fail
 go_ret;exact ⟨rfl,HB9.o⟩
end
section
open Go.RowKit
def fF:List Nat->Nat
 | []=>0
 | c::r=>c % 128+128*fF r
theorem CN:∀ l:List Nat,fF l<128 ^ l.length
 | []=>by simp [fF]
 | c::r=>by
  have h:=CN r;have h2:=Nat.mod_lt c (show 0<128 by omega);simp only [fF,List.length_cons,Nat.pow_succ];omega
theorem uC:∀ (l:List Nat) (c:Nat),fF (l++[c])=fF l+c % 128*128 ^ l.length
 | [],c=>by simp [fF]
 | x::r,c=>by
  have h:=uC r c;have e:c % 128*128 ^ (r.length+1)=128*(c % 128*128 ^ r.length):=by rw [Nat.pow_succ,<-Nat.mul_assoc,Nat.mul_comm]
  simp only [List.cons_append,fF,List.length_cons,h,e];omega
theorem LY (k:Nat):2 ^ (7*k)=128 ^ k:=by rw [Nat.pow_mul]
theorem BX:∀ (l:List Nat) (i n most:Nat),i<=9->(bZ most i n l).1=4->(∀ c ∈ l,128<=c)/\l.length+i<=9/\(l ≠ []->n+fF l*2 ^ (7*i)+2 ^ (7*(i+l.length))<=most)
 | [],i,n,most,hi,_=>⟨(fun c hc=>by cases hc),(by simpa using hi),fun h=>absurd rfl h⟩
 | c::r,i,n,most,hi,h=>by
  simp only [bZ] at h;by_cases h1:(i=9/\1<c % 128)\/most<n+c % 128*2 ^ (7*i)\/(0<i/\c=0)
  · rw [if_pos h1] at h;simp at h
  rw [if_neg h1] at h;by_cases h2:c<128
  · rw [if_pos h2] at h;simp at h
  rw [if_neg h2] at h;by_cases h3:56<7*i\/most-(n+c % 128*2 ^ (7*i))<2 ^ (7*i+7)
  · rw [if_pos h3] at h;simp at h
  rw [if_neg h3] at h;obtain ⟨a,b,d⟩:=BX r (i+1) _ most aA h;refine ⟨fun x hx => ?_,by simp only [List.length_cons];omega,fun _ => ?_⟩
  · rcases List.mem_cons.1 hx with rfl | hx
    · omega
    exact a x hx
  · by_cases hr:r=[]
    · subst hr;have e1:fF [c]=c % 128:=by simp [fF]
      have e2:7*(i+[c].length)=7*i+7:=by simp;omega
      rw [e1,e2];omega
    have hd:=d hr;have e1:fF (c::r)=c % 128+128*fF r:=rfl;have e2:7*(i+(c::r).length)=7*(i+1+r.length):=by simp only [List.length_cons];omega
    have e3:(c % 128+128*fF r)*2 ^ (7*i)=c % 128*2 ^ (7*i)+fF r*2 ^ (7*(i+1)):=by
     rw [show 7*(i+1)=7*i+7 from by omega,Nat.pow_add,Nat.add_mul,Nat.mul_comm 128 (fF r),Nat.mul_assoc,Nat.mul_comm 128]
    rw [e1,e2,e3];omega
theorem kZ:∀ (l:List Nat) (i n most:Nat),bZ most i n l=(3,0,0)\/bZ most i n l=(4,0,0)\/∃ v j,bZ most i n l=(0,v,j)
 | [],_,_,_=>.inr (.inl rfl)
 | c::r,i,n,most=>by
  simp only [bZ];split
  · exact .inl rfl
  · split
    · exact .inr (.inr ⟨_,_,rfl⟩)
    split
    · exact .inl rfl
    exact kZ r _ _ _
theorem wM:∀ (k n:Nat),n<128 ^ (k+1)->fF (cL k n)=n
 | 0,n,h=>by
  have h1:n<128:=by simpa using h
  simp only [cL,fF];omega
 | k+1,n,h=>by
  simp only [cL];by_cases h1:n<128
  · rw [if_pos h1];simp only [fF];omega
  · rw [if_neg h1];have ih:=wM k (n / 128) (by rw [Nat.div_lt_iff_lt_mul aA,<-Nat.pow_succ];exact h);simp only [fF,ih];omega
theorem tH:∀ (k n:Nat),n<128 ^ (k+1)->∃ init c,cL k n=init++[c]/\c<128/\∀ x ∈ init,128<=x
 | 0,n,h=>by
  have h1:n<128:=by simpa using h
  exact ⟨[],n % 256,rfl,by omega,fun x hx=>by cases hx⟩
 | k+1,n,h=>by
  simp only [cL];by_cases h1:n<128
  · rw [if_pos h1];exact ⟨[],n,rfl,h1,fun x hx=>by cases hx⟩
  · rw [if_neg h1];obtain ⟨init,c,e,h2,h3⟩:=tH k (n / 128) (by rw [Nat.div_lt_iff_lt_mul aA,<-Nat.pow_succ];exact h);refine ⟨(n % 128+128)::init,c,by rw [e];rfl,h2,fun x hx => ?_⟩;rcases List.mem_cons.1 hx with rfl | hx
    · omega
    exact h3 x hx
theorem mN {n:Nat} (h:n<18446744073709551616):n<128 ^ (9+1):=Nat.lt_of_lt_of_le h (by decide)
theorem oF {l:List Nat} {k:Nat} (h:k<l.length):l.getD k 0 ∈ l:=by
 rw [List.getD_eq_getElem?_getD,List.getElem?_eq_getElem h];exact List.getElem_mem h
theorem GE {a b:List Nat} {k:Nat} (h:k<a.length):(a++b).getD k 0=a.getD k 0:=by
 rw [List.getD_eq_getElem?_getD,List.getD_eq_getElem?_getD,List.getElem?_append_left h]
theorem GG {a b:List Nat} {c:Nat}:(a++c::b).getD a.length 0=c:=by
 rw [List.getD_eq_getElem?_getD,List.getElem?_append_right (Nat.le_refl _)];simp
theorem uP {l r:List Nat} {v:Nat} (hv:v<18446744073709551616) (hl:l=aH v++r) : ∃ k,(aH v).length=k+1/\k<10/\k<l.length/\l.getD k 0<128/\(∀ j,j<k->128<=l.getD j 0)/\l.take (k+1)=aH v:=by
 obtain ⟨init,c,e,h2,h3⟩:=tH 9 v (mN hv);have e':aH v=init++[c]:=e;have h10:=(aW v).2;rw [e'] at h10;simp only [List.length_append,List.length_cons,List.length_nil] at h10;have hl2:l=init++c::r:=by rw [hl,e'];simp
 refine ⟨init.length,by rw [e'];simp,by omega,by rw [hl2];simp,?_,fun j hj => ?_,?_⟩
 · rw [hl2,GG];exact h2
 · rw [hl2,GE hj];exact h3 _ (oF hj)
 rw [hl,show init.length+1=(aH v).length from by rw [e'];simp,List.take_left]
theorem GT {most:Nat} {l:List Nat} {i n:Nat} (hb:∀ c ∈ l,c<256) (hm:most<18446744073709551616) (hi:i<l.length) (hge:∀ j,j<i->128<=l.getD j 0) (hlt:l.getD i 0<128) (hn:n=fF (l.take (i+1)) % 18446744073709551616) :
 (n<=most/\aH n <+: l/\(aH n).length=i+1->bZ most 0 0 l=(0,n,i+1))/\(¬ (n<=most/\aH n <+: l/\(aH n).length=i+1)->bZ most 0 0 l=(3,0,0)):=by
 have h64:(2:Nat) ^ 64=18446744073709551616:=by decide
 constructor
 · rintro ⟨h1,⟨r,hr⟩,h3⟩;have h:=nJ 9 0 0 n most r rfl (by simpa using h1) (by rw [h64];exact hm) (mN aA) (fun h=>absurd h aA) (fun h=>absurd h aA);rw [show cL 9 n=aH n from rfl,hr,h3] at h;simpa using h
 intro hno;rcases kZ l 0 0 most with h | h | ⟨v,j,h⟩
 · exact h
 · have h4:=(BX l 0 0 most aA (by rw [h])).1 _ (oF hi);omega
 exfalso;obtain ⟨m,hv,hj,hl,hmost,_⟩:=lX 9 0 0 most l v j rfl hb h;have hvm:v=m:=by simpa using hv
 subst hvm;obtain ⟨k,k1,k2,k3,k4,k5,k6⟩:=uP aA (show l=aH v++l.drop (j-0) from hl);have hki:k=i:=by
  rcases Nat.lt_trichotomy k i with h5 | h5 | h5
  · have:=hge k h5;omega
  · exact h5
  have:=k5 i h5;omega
 subst hki;have hnv:n=v:=by
  rw [hn,k6,show aH v=cL 9 v from rfl,wM 9 v (mN aA)];exact Nat.mod_eq_of_lt aA
 subst hnv;exact hno ⟨hmost,⟨_,hl.symm⟩,k1⟩
theorem DY {most:Nat} {l:List Nat} (hb:∀ c ∈ l,c<256) (hm:most<18446744073709551616) (hl:9<l.length) (hge:∀ j,j<10->128<=l.getD j 0):bZ most 0 0 l=(3,0,0):=by
 rcases kZ l 0 0 most with h | h | ⟨v,j,h⟩
 · exact h
 · have h4:=(BX l 0 0 most aA (by rw [h])).2.1;omega
 exfalso;obtain ⟨m,hv,hj,hll,hmost,_⟩:=lX 9 0 0 most l v j rfl hb h;have hvm:v=m:=by simpa using hv
 subst hvm;obtain ⟨k,k1,k2,k3,k4,k5,k6⟩:=uP aA (show l=aH v++l.drop (j-0) from hll);have:=hge k k2;omega
theorem rH:∀ (l:List Nat) (k:Nat),l.length<=k->(∀ c ∈ l,128<=c/\c<256)->cL k (fF l+128 ^ l.length)=l++[1]
 | [],k,_,_=>by cases k<;>simp [cL,fF]
 | c::r,0,h,_=>by simp at h
 | c::r,k+1,h,hc=>by
  have hp:0<128 ^ r.length:=Nat.pow_pos aA;have ih:=rH r k (by simp only [List.length_cons] at h;omega) (fun x hx=>hc x (List.mem_cons_of_mem _ hx));have hcc:=hc c List.mem_cons_self;have e:fF (c::r)+128 ^ (c::r).length=c % 128+128*(fF r+128 ^ r.length):=by
   simp only [fF,List.length_cons,Nat.pow_succ];omega
  obtain ⟨m,hmm⟩ : ∃ m,m=fF r+128 ^ r.length:=⟨_,rfl⟩;rw [<-hmm] at ih e;rw [e];simp only [cL];rw [if_neg aA,show (c % 128+128*m) % 128+128=c from by omega,show (c % 128+128*m) / 128=m from by omega,ih];rfl
theorem DX {most:Nat} {l:List Nat} (hb:∀ c ∈ l,c<256) (hm:most<18446744073709551616) (h0:l ≠ []) (hl:l.length<=9) (hge:∀ c ∈ l,128<=c) :
 aH (fF l+128 ^ l.length)=l++[1]/\(fF l+128 ^ l.length<=most->bZ most 0 0 l=(4,0,0))/\(most<fF l+128 ^ l.length->bZ most 0 0 l=(3,0,0)):=by
 have h64:(2:Nat) ^ 64=18446744073709551616:=by decide
 have hf:aH (fF l+128 ^ l.length)=l++[1]:=rH l 9 hl fun c hc=>⟨hge c hc,hb c hc⟩;refine ⟨hf,fun h => ?_,fun h => ?_⟩
 · have hc:=pC 9 0 0 (fF l+128 ^ l.length) most l.length rfl (by simpa using h) (by rw [h64];exact hm) (mN aA) (fun h=>absurd h aA) (by rw [show cL 9 _=aH _ from rfl,hf];simp)
   rwa [show cL 9 (fF l+128 ^ l.length)=aH (fF l+128 ^ l.length) from rfl,hf,List.take_left] at hc
 rcases kZ l 0 0 most with h5 | h5 | ⟨v,j,h5⟩
 · exact h5
 · have h4:=(BX l 0 0 most aA (by rw [h5])).2.2 h0;have e1:2 ^ (7*(0+l.length))=128 ^ l.length:=by rw [Nat.zero_add,LY]
   rw [e1] at h4;simp at h4;omega
 exfalso;obtain ⟨m,hv,hj,hll,hmost,_⟩:=lX 9 0 0 most l v j rfl hb h5;have hvm:v=m:=by simpa using hv
 subst hvm;obtain ⟨k,k1,k2,k3,k4,k5,k6⟩:=uP aA (show l=aH v++l.drop (j-0) from hll);have:=hge _ (oF k3);omega
theorem GO {l:List Nat} (hl:l.length<=9):fF l+128 ^ l.length<18446744073709551616/\128 ^ l.length<=fF l+128 ^ l.length:=by
 have h1:=CN l;have h2:128 ^ l.length<=128 ^ 9:=Nat.pow_le_pow_right aA hl;have h3:(128:Nat) ^ 9=9223372036854775808:=by decide
 omega
end
end Go.Proofs.YtplecfbdchmogaaGreat
