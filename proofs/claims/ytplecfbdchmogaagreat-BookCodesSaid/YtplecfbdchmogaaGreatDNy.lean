/- Numbers and rows that are read: the reference's reader. -/
import Derived.Test.YtplecfbdchmogaaGreatDNx
import Derived.Test.YtplecfbdchmogaaGreatDOctO
import Derived.Test.YtplecfbdchmogaaGreatDRdC
namespace Go.Proofs.YtplecfbdchmogaaGreat
open Go.Value renaming slice → O
open Option renaming none → X
open Go.Lib (hid)
set_option maxHeartbeats 8000000
set_option maxRecDepth 100000
set_option linter.unusedVariables false
set_option linter.unusedSimpArgs false
open Go.RowKit
def qR (R:Nat->Prop) (g:Nat) (q:Int×Rd) (w:World) (e:Ending) (w':World):Prop:=e=.returned (.int .i64 q.1)/\aG (fun q=>q=g) X w w'/\s9 R g q.2 w'
def MK (R:Nat->Prop) (g:Nat) (q:List Nd×Rd) (w:World) (e:Ending) (w':World):Prop:=aG (fun q=>q=g) X w w'/\s9 R g q.2 w'/\∃ A n c,e=.returned (O A n c)/\bJ (fresh w w') w' A n c q.1
def MJ (R:Nat->Prop) (g:Nat) (q:List (List Nd)×Rd) (w:World) (e:Ending) (w':World):Prop:=aG (fun q=>q=g) X w w'/\s9 R g q.2 w'/\∃ A n c ls,e=.returned (O A n c)/\cW (fresh w w') w' A n c ls/\(q.2.err=0->ls=q.1)/\(A=X->c=0)
theorem s9.grown {R:Nat->Prop} {g base:Nat} {s:Rd} {w w':World} {row:Option Nat} (h:s9 R g s w) (hg:w.grownBy w' row) (hne:∀ b,row=some b->base<=b) (hR:∀ q,R q->q<base) (hgb:g<base):s9 R g s w':=by
 obtain ⟨A,n,c,h1,h2⟩:=h.at_;exact ⟨Nat.lt_of_lt_of_le h.lt hg.size,fun q hq=>⟨Nat.lt_of_lt_of_le (h.off q hq).1 hg.size,(h.off q hq).2⟩,A,n,c,h1.grown hg (fun e=>by have:=hne g e.symm;omega),h2.keep fun q hq=>⟨hq,fun o=>aF (hg.block q (h.off q hq).1 (fun e=>by have:=hne q e.symm;have:=hR q hq;omega)) o⟩⟩
theorem rV {α:Type} {f:bL α} (hf:∀ s,(f s).2.odd=s.odd) : ∀ (k:Nat) (s:Rd),s.odd=false->aP bK f k s=aP jH f k s
 | 0,_,_=>rfl
 | k+1,s,h=>by
  have h1:(f s).2.odd=false:=(hf s).trans h;have h2:(aP jH f k (f s).2).2.odd=false:=(i9 hf k _).trans h1;simp only [aP];rw [rV hf k _ h1];simp only [bK,jH,h1,h2,Bool.false_or];rfl
theorem pV {α:Type} {f:bL α} (hf:f.Stays) (k:Nat) {s:Rd} (h:s.err ≠ 0):aP jH f k s=([],s):=(dP hf BU k).1 s h
theorem cQ {R:Nat->Prop} {w:World} {g:Nat} {s:Rd} (h:s9 R g s w) (most:Nat) (hm:most<9223372036854775808) :
 Calls Tryz.prog 57 #[.pointer (some ⟨g,0,X⟩),.int .i64 (most:Int)] w (qR R g (aZ most s) w):=by
 have HN:=hid (uE (most:=most) h aA);have hle:=bD most s;have d1:decide ((most:Int)<0)=false:=decide_eq_false aA;have e1:IntKind.u64.wrap (most:Int)=(most:Int):=by rw [IntKind.wrap_u64];omega
 unfold aZ;unfold FC at HN;obtain ⟨q,hq⟩ : ∃ q,q=aJ most s:=⟨_,rfl⟩;rw [<-hq] at HN hle ⊢;obtain ⟨v,s2⟩:=q;simp only at HN hle ⊢;have e2:IntKind.i64.wrap (v:Int)=(v:Int):=by rw [IntKind.wrap_i64];omega
 clear hq h;go_in;go_wp2_with fail
 refine (HN.o).mono ?_;rintro e w2 ⟨rfl,hm2,hs2⟩;have HM2:=hid hm2;have HS2:=hid hs2;clear hm2 hs2;go_wp2_with fail
 go_ret;exact ⟨rfl,HM2.o,HS2.o⟩
theorem EW {R:Nat->Prop} {w:World} {g:Nat} {s:Rd} (h:s9 R g s w) :
 Calls Tryz.prog 58 #[.pointer (some ⟨g,0,X⟩)] w (qR R g (gM s) w):=by
 have HN:=hid (uE (most:=18446744073709551615) h aA);have hle:=bD 18446744073709551615 s;unfold gM;unfold FC at HN;obtain ⟨q,hq⟩ : ∃ q,q=aJ 18446744073709551615 s:=⟨_,rfl⟩;rw [<-hq] at HN hle ⊢;obtain ⟨v,s2⟩:=q;simp only at HN hle ⊢;obtain ⟨m,hmm⟩ : ∃ m:Nat,m=v / 2:=⟨_,rfl⟩;obtain ⟨r,hr⟩ : ∃ r:Nat,r=v % 2:=⟨_,rfl⟩;have e1:Int.tmod (v:Int) 2=(r:Int):=by rw [Int.tmod_eq_emod_of_nonneg aA,hr];omega
 have e1b:(v:Int) % 2=(r:Int):=by rw [hr];omega
 have e2:Int.tdiv (v:Int) 2=(m:Int):=by rw [Int.tdiv_eq_ediv_of_nonneg aA,hmm];omega
 have e2b:(v:Int) / 2=(m:Int):=by rw [hmm];omega
 have e3:IntKind.i64.wrap (m:Int)=(m:Int):=by rw [IntKind.wrap_i64];omega
 have e3b:IntKind.u64.wrap (m:Int)=(m:Int):=by rw [IntKind.wrap_u64];omega
 have e4:IntKind.i64.wrap (-(m:Int)) = -(m:Int):=by rw [IntKind.wrap_i64];omega
 have e5:IntKind.i64.wrap (-(m:Int)-1) = -(m:Int)-1:=by rw [IntKind.wrap_i64];omega
 have HZ:Hid (E6 v=if r=0 then (m:Int) else -(m:Int)-1):=hid (by unfold E6;rw [<-hr,<-hmm]);clear hq h hmm hr;by_cases hr0:r=0
 · have d1:(((r:Nat):Int)==0)=true:=by simpa using hr0
   have d2:decide ((r:Int)=0)=true:=decide_eq_true aA;have d3:decide (r=0)=true:=decide_eq_true hr0;have HZ2:Hid (E6 v=(m:Int)):=hid (HZ.o.trans (if_pos hr0));subst hr0;go_in;go_wp2_with fail
   refine (HN.o).mono ?_;rintro e w2 ⟨rfl,hm2,hs2⟩;have HM2:=hid hm2;have HS2:=hid hs2;clear hm2 hs2;go_wp2_with fail
   go_ret;exact ⟨by rw [HZ2.o];rfl,HM2.o,HS2.o⟩
 have d1:(((r:Nat):Int)==0)=false:=by simpa using hr0
 have d2:decide ((r:Int)=0)=false:=decide_eq_false aA;have d3:decide (r=0)=false:=decide_eq_false hr0;have HZ2:Hid (E6 v = -(m:Int)-1):=hid (HZ.o.trans (if_neg hr0));clear hr0;go_in;go_wp2_with fail
 refine (HN.o).mono ?_;rintro e w2 ⟨rfl,hm2,hs2⟩;have HM2:=hid hm2;have HS2:=hid hs2;clear hm2 hs2;go_wp2_with fail
 go_ret;exact ⟨by rw [HZ2.o];rfl,HM2.o,HS2.o⟩
theorem EC {base:Nat} {w':World} {c:Nat} {A:Option Addr} {l:List Nd} (h:cI w' base (O A l.length c) l) (hl:l.length<=5864062014805):bJ (fun b=>base<=b/\b<w'.heap.size) w' A l.length c l:=by
 obtain ⟨A9,n9,c9,e9,h9⟩:=cI.termS h hl;injection e9 with e1 e2 e3;subst e1 e2 e3;exact h9.keep fun b hb=>⟨⟨(aC h hb).1,(aC h hb).2.1⟩,fun _=>rfl⟩
theorem hY {R:Nat->Prop} {w:World} {g:Nat} {s0:Rd} (h:s9 R g s0 w) :
 Calls Tryz.prog 59 #[.pointer (some ⟨g,0,X⟩)] w (MK R g (bT s0) w):=by
 obtain ⟨i0,hi,hy0,hy1,hy2⟩:=info_parts nI;have HI0:=hid hi;have HY0:=hid hy0;have HY1:=hid hy1;have HY2:=hid hy2;have HN1:=hid (cQ h 4096 (by decide));have hle:=bD 4096 s0;have HRR:Hid (bT s0=aP jH iW (aJ 4096 s0).1 (aJ 4096 s0).2):=hid rfl;unfold qR aZ at HN1;obtain ⟨q,hq⟩ : ∃ q,q=aJ 4096 s0:=⟨_,rfl⟩;rw [<-hq] at HN1 hle HRR;obtain ⟨v,s1⟩:=q;simp only at HN1 hle HRR;obtain ⟨res,hres⟩ : ∃ r,r=bT s0:=⟨_,rfl⟩;rw [<-hres] at HRR ⊢;have HGL:Hid (g<w.heap.size):=hid h.lt;have HRS:Hid (∀ q,R q->q<w.heap.size):=hid (fun q hq=>(h.off q hq).1);clear h hq hres hi hy0 hy1 hy2;go_in;go_wp2_with fail
 refine (HN1.o).mono ?_;rintro e w1 ⟨rfl,hm1,hs1⟩;have HM1:=hid hm1;have HS1:=hid hs1;clear hm1 hs1;go_wp2_with fail
 go_loopw [4,5] (fun sv iv wr=>∃ (i:Nat) (A2:Option Addr) (c2:Nat) (acc:List Nd) (s:Rd),sv=O A2 acc.length c2/\iv=.int .i64 (i:Int)/\i<=v/\Hid (acc.length=i)/\Hid (s9 R g s wr)/\Hid (aG (fun q=>q=g) X w wr)/\Hid (cI wr w.heap.size (O A2 acc.length c2) acc)/\Hid (s.err=0->res=eE jH iW acc (v-i) s)/\Hid (s.err ≠ 0->res=([],s))) (fun _ iv _=>v-(intOf iv).toNat)
 case atStart=>exact ⟨0,X,0,[],s1,rfl,rfl,Nat.zero_le _,hid rfl,HS1,HM1,hid (World.ownsRow_nil _ _ _ _),hid (fun _=>by rw [HRR.o,Nat.sub_zero,eV]),hid (fun h9=>HRR.o.trans (pV rX.stays v h9))⟩
 case round =>
  obtain ⟨i,A2,c2,acc,s4,rfl,rfl,hiv,HAL,HS4,HM4,HO4,HR1,HR2⟩:=hrel;obtain ⟨w4,hw4⟩ : ∃ W:World,W=wr:=⟨_,rfl⟩;rw [<-hw4] at HS4 HM4 HO4 ⊢;clear hw4;obtain ⟨A,n,c,hk4,hy4⟩:=HS4.o.at_;have z0:=hk4.cell;clear hk4 hy4;obtain ⟨z4,hz4⟩ : ∃ z,z=s4.err:=⟨_,rfl⟩;rw [<-hz4] at z0 HR1 HR2;have HZ4:=hid hz4;clear hz4;by_cases hez:z4=0;rotate_left
  · have dz:(z4 != 0)=true:=by simpa using hez
    have dz2:(z4==0)=false:=by simpa using hez
    have dz3:decide (z4=0)=false:=decide_eq_false hez;have HR3:=hid (HR2.o hez);clear hez;by_cases hlt:i<v
    · have d1:decide ((i:Int)<(v:Int))=true:=decide_eq_true aA;have d2:decide (i<v)=true:=decide_eq_true hlt;clear hlt;go_wp2_with fail
      go_ret;exact ⟨HM4.o,by rw [HR3.o];exact HS4.o,X,0,0,rfl,by rw [HR3.o];exact ⟨rfl,Nat.le_refl _,by omega,fun _=>rfl,fun h=>by omega⟩⟩
    have d1:decide ((i:Int)<(v:Int))=false:=decide_eq_false aA;have d2:decide (i<v)=false:=decide_eq_false hlt;clear hlt;go_wp2_with fail
    go_ret;exact ⟨HM4.o,by rw [HR3.o];exact HS4.o,X,0,0,rfl,by rw [HR3.o];exact ⟨rfl,Nat.le_refl _,by omega,fun _=>rfl,fun h=>by omega⟩⟩
  have dz:(z4 != 0)=false:=by rw [hez];rfl
  have dz2:(z4==0)=true:=by rw [hez];rfl
  have dz3:decide (z4=0)=true:=decide_eq_true hez;have HR3:=hid (HR1.o hez);have HE4:Hid (s4.err=0):=hid (HZ4.o.symm.trans hez);by_cases hlt:i<v;rotate_left
  · have d1:decide ((i:Int)<(v:Int))=false:=decide_eq_false aA;have d2:decide (i<v)=false:=decide_eq_false hlt;have HR4:Hid (res=(acc,s4)):=hid (by rw [HR3.o,show v-i=0 from by omega,gB (fun h9=>by simp [jH,HE4.o] at h9)]);clear hlt hez;go_wp2_with fail
    go_ret;exact ⟨HM4.o,by rw [HR4.o];exact HS4.o,A2,acc.length,c2,rfl,by rw [HR4.o];exact EC HO4.o (by have:=HAL.o;omega)⟩
  have d1:decide ((i:Int)<(v:Int))=true:=decide_eq_true aA;have d2:decide (i<v)=true:=decide_eq_true hlt;clear hez;have HN5:=hid (cQ HS4.o 255 (by decide));obtain ⟨q5,hq5⟩ : ∃ q,q=aZ 255 s4:=⟨_,rfl⟩;rw [<-hq5] at HN5;unfold qR at HN5;obtain ⟨x5,s5⟩:=q5;simp only at HN5;have HQ5:=hid hq5.symm;clear hq5;go_wp2_with fail
  refine (HN5.o).mono ?_;rintro e w5 ⟨rfl,hm5,hs5⟩;have HM5:=hid (HM4.o.trans (row':=X) hm5 (fun _ e=>by cases e));have HS5:=hid hs5;have HO5:=hid (fZ HO4.o hm5 HGL.o);clear hm5 hs5;have HN6:=hid (cQ HS5.o 1048576 (by decide));obtain ⟨q6,hq6⟩ : ∃ q,q=aZ 1048576 s5:=⟨_,rfl⟩;rw [<-hq6] at HN6;unfold qR at HN6;obtain ⟨x6,s6⟩:=q6;simp only at HN6;have HQ6:=hid hq6.symm;clear hq6;go_wp2_with fail
  refine (HN6.o).mono ?_;rintro e w6 ⟨rfl,hm6,hs6⟩;have HM6:=hid (HM5.o.trans (row':=X) hm6 (fun _ e=>by cases e));have HS6:=hid hs6;have HO6:=hid (fZ HO5.o hm6 HGL.o);clear hm6 hs6;have HN7:=hid (cQ HS6.o 1048576 (by decide));obtain ⟨q7,hq7⟩ : ∃ q,q=aZ 1048576 s6:=⟨_,rfl⟩;rw [<-hq7] at HN7;unfold qR at HN7;obtain ⟨x7,s7⟩:=q7;simp only at HN7;have HQ7:=hid hq7.symm;clear hq7;go_wp2_with fail
  refine (HN7.o).mono ?_;rintro e w7 ⟨rfl,hm7,hs7⟩;have HM7:=hid (HM6.o.trans (row':=X) hm7 (fun _ e=>by cases e));have HS7:=hid hs7;have HO7:=hid (fZ HO6.o hm7 HGL.o);clear hm7 hs7;have HND:Hid (iW s4=(⟨x5,x6,x7⟩,s7)):=hid (by
   simp only [iW,bL.seq,bL.pure,HQ5.o,HQ6.o,HQ7.o])
  have HSZ:=hid HM7.o.size;have hacl:acc.length<=4096:=by have:=HAL.o;omega
  have HLL:Hid (acc.length+1=(acc++[(⟨x5,x6,x7⟩:Nd)]).length):=hid (by simp);go_wp2_with (at_builtin;go_loud (refine aN rfl (cS (.tmp 29) (.tmp 34) 28 rfl w.heap.size i0 Tryz.underlying28 HI0.o HY0.o HY1.o HY2.o (O A2 acc.length c2) acc ⟨x5,x6,x7⟩ w7 (by rfl) (by rfl) HO7.o _ (by rfl) (by rfl) aA HSZ.o ?_));intro A8 c8 w8 hown8 happ8;have HOWN8:=hid hown8;have HAPP8:=hid happ8;clear hown8 happ8)
  go_roundw
  case rel =>
   have hg8:=HAPP8.o.grown;have hne8:∀ b,(Value.slice A2 acc.length c2).ownBlock=some b->w.heap.size<=b:=fun b e=>(aC HO7.o e).1;refine ⟨i+1,A8,c8,acc++[⟨x5,x6,x7⟩],s7,by rw [HLL.o],by go_num,by omega,hid (by rw [<-HLL.o,HAL.o]),hid (HS7.o.grown hg8 hne8 HRS.o HGL.o),hid (j6 HM7.o hg8 hne8),by rw [<-HLL.o];exact HOWN8,hid (fun h9 => ?_),hid (fun h9 => ?_)⟩
   · rw [HR3.o,show v-i=(v-(i+1))+1 from by omega,fJ (by rw [HND.o];simp [jH,h9]),HND.o]
   rw [HR3.o,show v-i=(v-(i+1))+1 from by omega,fO (by rw [HND.o];simp [jH,h9]),HND.o]
  case measure=>simp [intOf];omega
theorem lD {R:Nat->Prop} {w:World} {g:Nat} {s0:Rd} (h:s9 R g s0 w) (h0:s0.odd=false) :
 Calls Tryz.prog 60 #[.pointer (some ⟨g,0,X⟩)] w (MJ R g (eH s0) w):=by
 obtain ⟨i0,hi,hy0,hy1,hy2⟩:=info_parts wQ;have HI0:=hid hi;have HY0:=hid hy0;have HY1:=hid hy1;have HY2:=hid hy2;have HN1:=hid (cQ h 255 (by decide));have hle:=bD 255 s0;have HRR:Hid (eH s0=aP jH bT (aJ 255 s0).1 (aJ 255 s0).2):=hid (rV eP _ _ ((bI _ _).trans h0));unfold qR aZ at HN1;obtain ⟨q,hq⟩ : ∃ q,q=aJ 255 s0:=⟨_,rfl⟩;rw [<-hq] at HN1 hle HRR;obtain ⟨v,s1⟩:=q;simp only at HN1 hle HRR;obtain ⟨res,hres⟩ : ∃ r,r=eH s0:=⟨_,rfl⟩;rw [<-hres] at HRR ⊢;have HGL:Hid (g<w.heap.size):=hid h.lt;have HRS:Hid (∀ q,R q->q<w.heap.size):=hid (fun q hq=>(h.off q hq).1);clear h h0 hq hres hi hy0 hy1 hy2;go_in;go_wp2_with fail
 refine (HN1.o).mono ?_;rintro e w1 ⟨rfl,hm1,hs1⟩;have HM1:=hid hm1;have HS1:=hid hs1;clear hm1 hs1;go_wp2_with fail
 go_loopw [4,5] (fun sv iv wr=>∃ (i:Nat) (A2:Option Addr) (c2:Nat) (vs:List Value) (acc:List (List Nd)) (s:Rd),sv=O A2 i c2/\iv=.int .i64 (i:Int)/\i<=v/\Hid (acc.length=i)/\Hid (s9 R g s wr)/\Hid (aG (fun q=>q=g) X w wr)/\Hid (wr.ownsRow w.heap.size 28 1 (O A2 i c2) i vs)/\Hid (cV (dR w.heap.size wr (O A2 i c2)) wr vs acc)/\Hid (s.err=0->res=eE jH bT acc (v-i) s)/\Hid (s.err ≠ 0->res=([],s))) (fun _ iv _=>v-(intOf iv).toNat)
 case atStart=>exact ⟨0,X,0,[],[],s1,rfl,rfl,Nat.zero_le _,hid rfl,HS1,HM1,hid (World.ownsRow_nil _ _ _ _),hid trivial,hid (fun _=>by rw [HRR.o,Nat.sub_zero,eV]),hid (fun h9=>HRR.o.trans (pV fQ.stays v h9))⟩
 case round =>
  obtain ⟨i,A2,c2,vs,acc,s4,rfl,rfl,hiv,HAL,HS4,HM4,HO4,HC4,HR1,HR2⟩:=hrel;obtain ⟨w4,hw4⟩ : ∃ W:World,W=wr:=⟨_,rfl⟩;rw [<-hw4] at HS4 HM4 HO4 HC4 ⊢;clear hw4;obtain ⟨A,n,c,hk4,hy4⟩:=HS4.o.at_;have z0:=hk4.cell;clear hk4 hy4;obtain ⟨z4,hz4⟩ : ∃ z,z=s4.err:=⟨_,rfl⟩;rw [<-hz4] at z0 HR1 HR2;have HZ4:=hid hz4;clear hz4;have HEND:Hid (cW (fresh w w4) w4 A2 i c2 acc):=hid (pF (S:=dR w.heap.size w4 (O A2 i c2)) HO4.o HAL.o.symm aA HC4.o (fun q hq=>⟨hq.1,hq.2.1⟩) (fun b hb=>⟨(aC HO4.o hb).1,(aC HO4.o hb).2.1⟩));have HNUL:=hid (jU HO4.o);by_cases hez:z4=0;rotate_left
  · have dz:(z4 != 0)=true:=by simpa using hez
    have dz2:(z4==0)=false:=by simpa using hez
    have dz3:decide (z4=0)=false:=decide_eq_false hez;have HR3:=hid (HR2.o hez);have HE9:Hid (s4.err ≠ 0):=hid (HZ4.o ▸ hez);clear hez;by_cases hlt:i<v
    · have d1:decide ((i:Int)<(v:Int))=true:=decide_eq_true aA;have d2:decide (i<v)=true:=decide_eq_true hlt;clear hlt;go_wp2_with fail
      go_ret;exact ⟨HM4.o,by rw [HR3.o];exact HS4.o,A2,i,c2,acc,rfl,HEND.o,fun h9=>by rw [HR3.o] at h9;exact absurd h9 HE9.o,HNUL.o⟩
    have d1:decide ((i:Int)<(v:Int))=false:=decide_eq_false aA;have d2:decide (i<v)=false:=decide_eq_false hlt;clear hlt;go_wp2_with fail
    go_ret;exact ⟨HM4.o,by rw [HR3.o];exact HS4.o,A2,i,c2,acc,rfl,HEND.o,fun h9=>by rw [HR3.o] at h9;exact absurd h9 HE9.o,HNUL.o⟩
  have dz:(z4 != 0)=false:=by rw [hez];rfl
  have dz2:(z4==0)=true:=by rw [hez];rfl
  have dz3:decide (z4=0)=true:=decide_eq_true hez;have HR3:=hid (HR1.o hez);have HE4:Hid (s4.err=0):=hid (HZ4.o.symm.trans hez);by_cases hlt:i<v;rotate_left
  · have d1:decide ((i:Int)<(v:Int))=false:=decide_eq_false aA;have d2:decide (i<v)=false:=decide_eq_false hlt;have HR4:Hid (res=(acc,s4)):=hid (by rw [HR3.o,show v-i=0 from by omega,gB (fun h9=>by simp [jH,HE4.o] at h9)]);clear hlt hez;go_wp2_with fail
    go_ret;exact ⟨HM4.o,by rw [HR4.o];exact HS4.o,A2,i,c2,acc,rfl,HEND.o,fun _=>by rw [HR4.o],HNUL.o⟩
  have d1:decide ((i:Int)<(v:Int))=true:=decide_eq_true aA;have d2:decide (i<v)=true:=decide_eq_true hlt;have HRW:=hid (hY HS4.o);obtain ⟨q5,hq5⟩ : ∃ q,q=bT s4:=⟨_,rfl⟩;rw [<-hq5] at HRW;obtain ⟨x5,s5⟩:=q5;have HQ5:=hid hq5.symm;have hSB:w.heap.size<=w4.heap.size:=HM4.o.size;have HSB:=hid hSB;clear hez hq5 hSB;go_wp2_with fail
  refine (HRW.o).mono ?_;rintro e w5 ⟨hm5,hs5,A5,n5,c5,rfl,ht5⟩;simp only at hs5 ht5;have HM5:=hid (HM4.o.trans (row':=X) hm5 (fun _ e=>by cases e));have HS5:=hid hs5;have HT5:=hid ht5;have HO5:=hid (fZ HO4.o hm5 HGL.o);have HC5:Hid (cV (dR w.heap.size w5 (O A2 i c2)) w5 vs acc):=hid (cV.keep (fun q hq=>⟨⟨hq.1,Nat.lt_of_lt_of_le hq.2.1 hm5.size,hq.2.2⟩,fun o=>aF (hm5.block q hq.2.1 (by have:=HGL.o;have:=hq.1;omega) (by simp)) o⟩) HC4.o);have HSZ:=hid HM5.o.size;have HS45:=hid hm5.size;clear hm5 hs5 ht5;have HSA:Hid (w.heap.size<=w5.heap.size):=HSZ;go_wp2_with (at_builtin;go_loud (refine aN rfl (lK (.tmp 20) (.tmp 23) 54 28 rfl w.heap.size i0 _ 24 Tryz.underlying54 HI0.o HY0.o HY1.o HY2.o rfl (by decide) (O A2 i c2) i vs (O A5 n5 c5) rfl w5 rfl rfl HO5.o _ rfl (by simp) aA HSA.o ?_));intro A8 c8 w8 happ;have HAPP:=hid happ;clear happ)
  go_roundw
  case rel =>
   have hg8:=HAPP.o.grown;have hne8:∀ b,(Value.slice A2 i c2).ownBlock=some b->w.heap.size<=b:=fun b e=>(aC HO5.o e).1;have hasd:∀ q,dR w.heap.size w5 (O A2 i c2) q->dR w.heap.size w8 (O A8 (i+1) c8) q/\∀ o,w8.cell? ⟨q,o,X⟩=w5.cell? ⟨q,o,X⟩:=fun q hq=>⟨⟨hq.1,Nat.lt_of_lt_of_le hq.2.1 hg8.size,fun e=>by
    rcases HAPP.o.new q e with h9 | h9
    · exact hq.2.2 h9
    have:=hq.2.1;omega⟩,fun o=>aF (hg8.block q hq.2.1 (fun e=>hq.2.2 e.symm)) o⟩
   refine ⟨i+1,A8,c8,vs++[O A5 n5 c5],acc++[x5],s5,rfl,by go_num,by omega,hid (by simp [HAL.o]),hid (HS5.o.grown hg8 hne8 HRS.o HGL.o),hid (j6 HM5.o hg8 hne8),hid HAPP.o.own,hid (cV.add (HT5.o.keep fun q hq=>hasd q ⟨Nat.le_trans HSB.o hq.1,hq.2,fun e=>by have:=(aC HO4.o e).2.1;have:=hq.1;omega⟩) (cV.keep hasd HC5.o)),hid (fun h9 => ?_),hid (fun h9 => ?_)⟩
   · rw [HR3.o,show v-i=(v-(i+1))+1 from by omega,fJ (by rw [HQ5.o];simp [jH,h9]),HQ5.o]
   rw [HR3.o,show v-i=(v-(i+1))+1 from by omega,fO (by rw [HQ5.o];simp [jH,h9]),HQ5.o]
  case measure=>simp [intOf];omega
end Go.Proofs.YtplecfbdchmogaaGreat
