/- Programs that are written: fits, Encode (book). -/
import Derived.Test.YtplecfbdchmogaaGreatDWrtF
import Derived.Test.YtplecfbdchmogaaGreatDRights
import Derived.Laws.EntriesVeiled
namespace Go.Proofs.YtplecfbdchmogaaGreat
open Go.Value renaming int → O, slice → X, pointer → Y
open Go.IntKind renaming i64 → S
open Go.Lib (hid)
set_option maxHeartbeats 8000000
set_option maxRecDepth 100000
set_option linter.unusedVariables false
set_option linter.unusedSimpArgs false
open Go.RowKit
theorem gS {α:Type} {f:α->List Nat} {B:Nat} : ∀ (l:List α),(∀ x ∈ l,(f x).length<=B)->(l.flatMap f).length<=l.length*B
 | [],_=>by simp
 | x::r,h=>by
  have h1:=h x List.mem_cons_self;have h2:=gS r (fun y hy=>h y (List.mem_cons_of_mem _ hy));simp only [List.flatMap_cons,List.length_append,List.length_cons,Nat.add_mul,Nat.one_mul];omega
theorem kQ {t:List Nd} (h:m5 t):(bU t).length<=122890:=by
 have h1:=(aW t.length).2;have h2:=gS (f:=gG) (B:=30) t (fun x _=>nL x);have h3:=h.1;simp only [bU,List.length_append];omega
theorem mU {ls:List (List Nd)} (h:p4 ls):(cU ls).length<=31336960:=by
 have h1:=(aW ls.length).2;have h2:=gS (f:=bU) (B:=122890) ls (fun x hx=>kQ (h.2 x hx));have h3:=h.1;simp only [cU,List.length_append];omega
theorem C6 {c:Ct} (h:tD c):(gF c).length<=62673920:=by
 have h1:=mU h.1;have h2:=mU h.2;simp only [gF,List.length_append];omega
theorem zM {x:En} (h:kW x):(cK x).length<=16044646430:=by
 have h0:=(aW x.kind.toNat).2;unfold cK;rcases h with ⟨h1,⟨h2,h3,h4,h5⟩,_⟩ | ⟨h1,⟨h2,h3⟩,_⟩
 · rw [if_neg (by rw [h1];decide)];have a1:=kQ h2;have a2:=mU h3;have a3:=mU h4;have a4:=(aW x.ctors.length).2;have a5:=gS (f:=gF) (B:=62673920) x.ctors (fun c hc=>C6 (h5.2 c hc));have a6:=h5.1;simp only [List.length_append];omega
 rw [if_pos h1];have a1:=kQ h2;have a2:=kQ h3;simp only [List.length_append];omega
theorem B7 {p:Pg} (h:oQ p):(jI p).length<=4500000000000:=by
 obtain ⟨⟨_,h2,h3⟩,_,h5,h6,h7⟩:=h;have a1:=(aW p.book.vars.toNat).2;have a2:=(aW p.book.orders.length).2;have a3:=gS (f:=eU) (B:=30) p.book.orders (fun o _=>by
  have h1:=(aW o.op.toNat).2;have h2:=(aW (mZ o.a)).2;have h3:=(aW o.b.toNat).2;simp only [eU,List.length_append];omega)
 have a4:=(aW p.book.entries.length).2;have a5:=gS (f:=cK) (B:=16044646430) p.book.entries (fun x hx=>zM (h3.2 x hx));have a6:=(aW (p.book.nat+1).toNat).2;have a7:=(aW p.book.prims.length).2;have a8:=gS (f:=iI) (B:=20) p.book.prims (fun o _=>by
  have h1:=(aW o.1.toNat).2;have h2:=(aW o.2.toNat).2;simp only [iI,List.length_append];omega)
 have a9:=kQ h6;have a10:=kQ h7;have b1:=h2.1;have b2:=h3.1;have b3:=h5.1;simp only [jI,rS,qX,List.length_append];omega
structure gX where
 bk:cP
 Am:Option Addr
 nm:Nat
 cm:Nat
 At:Option Addr
 nt:Nat
 ct:Nat
structure iM (w:World) (u:gX) (p:Pg):Prop where
 book:bY w u.bk p.book
 main:aQ w u.Am u.nm u.cm p.main
 type:aQ w u.At u.nt u.ct p.type
theorem iM.below {w w':World} {u:gX} {p:Pg} (h:iM w u p) (hb:Below w.heap.size w w'):iM w' u p:=⟨h.book.below hb,h.main.below hb,h.type.below hb⟩
abbrev cT (u:gX) (p:Pg):Array Value:=#[O S p.book.vars,X u.bk.Ao u.bk.no u.bk.co,X u.bk.Ae u.bk.ne u.bk.ce,O S p.book.nat,X u.bk.Ap u.bk.np u.bk.cp,X u.Am u.nm u.cm,X u.At u.nt u.ct]
theorem xL (p:Pg):dU p=fR [cZ p.book,eS p.book 0 p.main,eS p.book 0 p.type]:=by
 unfold dU;simp only [fR];by_cases h1:cZ p.book ≠ 0
 · rw [if_pos h1,if_pos h1]
 rw [if_neg h1,if_neg h1];by_cases h2:eS p.book 0 p.main ≠ 0
 · rw [if_pos h2,if_pos h2]
 rw [if_neg h2,if_neg h2];by_cases h3:eS p.book 0 p.type ≠ 0
 · rw [if_pos h3]
 rw [if_neg h3];exact Decidable.not_not.1 h3
theorem AF {w:World} {g:Nat} {u:gX} {p:Pg} (hp:iM w u p) (hk:aE w g 36 #[O S p.book.vars,X u.bk.Ao u.bk.no u.bk.co,X u.bk.Ae u.bk.ne u.bk.ce,O S p.book.nat,X u.bk.Ap u.bk.np u.bk.cp,X u.Am u.nm u.cm,X u.At u.nt u.ct]) :
 Calls Tryz.prog 91 #[Y (some ⟨g,0,none⟩)] w (gD (cZ p.book) w):=by
 have z:=hk.cell;have HC:=hid (mS hp.book);obtain ⟨res,hres⟩ : ∃ r,r=cZ p.book:=⟨_,rfl⟩;rw [<-hres] at HC ⊢;clear hp hk hres;go_in;go_wp2_with fail
 refine (HC.o).mono ?_;rintro e w1 ⟨rfl,hb1⟩;have HB1:=hid hb1;clear hb1;go_wp2_with fail
 go_ret;exact ⟨rfl,HB1.o⟩
theorem AG {w:World} {g:Nat} {u:gX} {p:Pg} (hp:iM w u p) (hk:aE w g 36 #[O S p.book.vars,X u.bk.Ao u.bk.no u.bk.co,X u.bk.Ae u.bk.ne u.bk.ce,O S p.book.nat,X u.bk.Ap u.bk.np u.bk.cp,X u.Am u.nm u.cm,X u.At u.nt u.ct]) :
 Calls Tryz.prog 92 #[Y (some ⟨g,0,none⟩)] w (gD (eS p.book 0 p.main) w):=by
 have z:=hk.cell;have HC:=hid (wJ hp.book 0 hp.main);obtain ⟨res,hres⟩ : ∃ r,r=eS p.book 0 p.main:=⟨_,rfl⟩;rw [<-hres] at HC ⊢;clear hp hk hres;go_in;go_wp2_with fail
 refine (HC.o).mono ?_;rintro e w1 ⟨rfl,hb1⟩;have HB1:=hid hb1;clear hb1;go_wp2_with fail
 go_ret;exact ⟨rfl,HB1.o⟩
theorem AH {w:World} {g:Nat} {u:gX} {p:Pg} (hp:iM w u p) (hk:aE w g 36 #[O S p.book.vars,X u.bk.Ao u.bk.no u.bk.co,X u.bk.Ae u.bk.ne u.bk.ce,O S p.book.nat,X u.bk.Ap u.bk.np u.bk.cp,X u.Am u.nm u.cm,X u.At u.nt u.ct]) :
 Calls Tryz.prog 93 #[Y (some ⟨g,0,none⟩)] w (gD (eS p.book 0 p.type) w):=by
 have z:=hk.cell;have HC:=hid (wJ hp.book 0 hp.type);obtain ⟨res,hres⟩ : ∃ r,r=eS p.book 0 p.type:=⟨_,rfl⟩;rw [<-hres] at HC ⊢;clear hp hk hres;go_in;go_wp2_with fail
 refine (HC.o).mono ?_;rintro e w1 ⟨rfl,hb1⟩;have HB1:=hid hb1;clear hb1;go_wp2_with fail
 go_ret;exact ⟨rfl,HB1.o⟩
def JO (i:Nat):FuncId:=match i with
 | 0=>91
 | 1=>92
 | _=>93
def FE (p:Pg):List Int:=[cZ p.book,eS p.book 0 p.main,eS p.book 0 p.type]
theorem JM {w:World} {g:Nat} {u:gX} {p:Pg} (hp:iM w u p) (hk:aE w g 36 #[O S p.book.vars,X u.bk.Ao u.bk.no u.bk.co,X u.bk.Ae u.bk.ne u.bk.ce,O S p.book.nat,X u.bk.Ap u.bk.np u.bk.cp,X u.Am u.nm u.cm,X u.At u.nt u.ct]) : ∀ i,i<3->(∀ j,j<i->(FE p).getD j 0=0)->∀ w',Below w.heap.size w w'->Calls Tryz.prog (JO i) #[Y (some ⟨g,0,none⟩)] w' (gD ((FE p).getD i 0) w'):=by
 intro i hi hz w' hw;have h1:=hp.below hw;have h2:=hk.below hw hk.lt
 match i,hi with
 | 0,_=>exact AF h1 h2
 | 1,_=>exact AG h1 h2
 | 2,_=>exact AH h1 h2
theorem JN (i:Nat) (hi:i<3) : ∀ args w,(callFunc (JO i) args).run Tryz.prog w=.ok (.enter (JO i) args) w:=by
 match i,hi with
 | 0,_=>exact fun _ _=>by kernel_rfl
 | 1,_=>exact fun _ _=>by kernel_rfl
 | 2,_=>exact fun _ _=>by kernel_rfl
theorem tQ {w:World} {u:gX} {p:Pg} (hp:iM w u p) :
 Calls Tryz.prog 35 #[.agg #[O S p.book.vars,X u.bk.Ao u.bk.no u.bk.co,X u.bk.Ae u.bk.ne u.bk.ce,O S p.book.nat,X u.bk.Ap u.bk.np u.bk.cp,X u.Am u.nm u.cm,X u.At u.nt u.ct]] w (gD (dU p) w):=by
 have hmf:∀ (fn:Fn) (first cap:Array Value) (w:World),(Instr.makeFunc fn first cap).run Tryz.prog w=.ok (.func fn first cap) w:=fun _ _ _ _=>rfl;have hb1:=aB w (.cells #[O S p.book.vars,X u.bk.Ao u.bk.no u.bk.co,X u.bk.Ae u.bk.ne u.bk.ce,O S p.book.nat,X u.bk.Ap u.bk.np u.bk.cp,X u.Am u.nm u.cm,X u.At u.nt u.ct] 36);have hk1:=aE.new w 36 #[O S p.book.vars,X u.bk.Ao u.bk.no u.bk.co,X u.bk.Ae u.bk.ne u.bk.ce,O S p.book.nat,X u.bk.Ap u.bk.np u.bk.cp,X u.Am u.nm u.cm,X u.At u.nt u.ct];have hb2:=aB (w.alloc (.cells #[O S p.book.vars,X u.bk.Ao u.bk.no u.bk.co,X u.bk.Ae u.bk.ne u.bk.ce,O S p.book.nat,X u.bk.Ap u.bk.np u.bk.cp,X u.Am u.nm u.cm,X u.At u.nt u.ct] 36)) (.cells #[.func (.func 91) #[] #[Y (some ⟨w.heap.size,0,none⟩)],.func (.func 92) #[] #[Y (some ⟨w.heap.size,0,none⟩)],.func (.func 93) #[] #[Y (some ⟨w.heap.size,0,none⟩)]] 99);have hk2:=aE.new (w.alloc (.cells #[O S p.book.vars,X u.bk.Ao u.bk.no u.bk.co,X u.bk.Ae u.bk.ne u.bk.ce,O S p.book.nat,X u.bk.Ap u.bk.np u.bk.cp,X u.Am u.nm u.cm,X u.At u.nt u.ct] 36)) 99 #[.func (.func 91) #[] #[Y (some ⟨w.heap.size,0,none⟩)],.func (.func 92) #[] #[Y (some ⟨w.heap.size,0,none⟩)],.func (.func 93) #[] #[Y (some ⟨w.heap.size,0,none⟩)]];rw [show (w.alloc (.cells #[O S p.book.vars,X u.bk.Ao u.bk.no u.bk.co,X u.bk.Ae u.bk.ne u.bk.ce,O S p.book.nat,X u.bk.Ap u.bk.np u.bk.cp,X u.Am u.nm u.cm,X u.At u.nt u.ct] 36)).heap.size=w.heap.size+1 from by simp] at hk2;have hF:=tF (b:=w.heap.size+1) (off:=0) (n:=3) (c:=3) (fid:=JO) (caps:=fun _=>#[Y (some ⟨w.heap.size,0,none⟩)]) (es:=FE p) hk2.lt rfl (by decide) (fun i hi=>by
  have hc:=hk2.cell i;rw [Nat.zero_add,hc]
  match i,hi with
  | 0,_=>rfl
  | 1,_=>rfl
  | 2,_=>rfl) JN (JM ((hp.below hb1).below hb2) (hk1.alloc _))
 have HE:Hid (dU p=fR (FE p)):=hid (xL p);rw [HE.o];obtain ⟨res,hres⟩ : ∃ r,r=fR (FE p):=⟨_,rfl⟩;rw [<-hres] at hF ⊢;have HF:=hid hF;have HB:=hid (hb1.trans (hb2.mono hb1.size));clear hb1 hk1 hb2 hk2 hF hp hres HE;go_in;go_wp2_with fail
 refine (HF.o).mono ?_;rintro e w1 ⟨rfl,hb3⟩;have HB3:=cN HB hb3;clear hb3;go_wp2_with fail
 go_ret;exact ⟨rfl,HB3.o⟩
theorem rA {w:World} {u:gX} {p:Pg} (hp:iM w u p) :
 Calls Tryz.prog 13 #[.agg #[O S p.book.vars,X u.bk.Ao u.bk.no u.bk.co,X u.bk.Ae u.bk.ne u.bk.ce,O S p.book.nat,X u.bk.Ap u.bk.np u.bk.cp,X u.Am u.nm u.cm,X u.At u.nt u.ct]] w (pN (eL p) w):=by
 have hmf:∀ (fn:Fn) (first cap:Array Value) (w:World),(Instr.makeFunc fn first cap).run Tryz.prog w=.ok (.func fn first cap) w:=fun _ _ _ _=>rfl;have hb1:=aB w (.cells #[O S p.book.vars,X u.bk.Ao u.bk.no u.bk.co,X u.bk.Ae u.bk.ne u.bk.ce,O S p.book.nat,X u.bk.Ap u.bk.np u.bk.cp,X u.Am u.nm u.cm,X u.At u.nt u.ct] 36);have hk1:=aE.new w 36 #[O S p.book.vars,X u.bk.Ao u.bk.no u.bk.co,X u.bk.Ae u.bk.ne u.bk.ce,O S p.book.nat,X u.bk.Ap u.bk.np u.bk.cp,X u.Am u.nm u.cm,X u.At u.nt u.ct];have hf:=tQ (hp.below hb1);have HP1:=hid (hp.below hb1);have HB1:=hid hb1;have HK1:=hid hk1;have z:=hk1.cell;obtain ⟨q,hq⟩ : ∃ q,q=eL p:=⟨_,rfl⟩;rw [<-hq];have HQ:=hid hq;by_cases he:dU p=0;rotate_left
 · have he1:(dU p != 0)=true:=by simpa using he
   have HQ2:Hid (q=([],dU p)):=hid (by rw [hq];unfold eL;rw [if_pos he]);obtain ⟨z9,hz9⟩ : ∃ z,z=dU p:=⟨_,rfl⟩;rw [<-hz9] at hf he1 HQ2;have HF:=hid hf;clear hb1 hk1 hf hp hq he hz9;go_in;go_wp2_with fail
   refine (HF.o).mono ?_;rintro e w2 ⟨rfl,hb2⟩;have HB2:=cN HB1 hb2;clear hb2;go_wp2_with fail
   go_ret2;rw [HQ2.o];exact ⟨HB2.o,none,0,rfl,bM.nil _ _⟩
 rw [he] at hf;have hw:=rT he;have HW:=hid hw;have hle:=B7 hw;have HE:Hid (jI p=(((((([]++aH p.book.vars.toNat)++(aH p.book.orders.length++p.book.orders.flatMap eU))++(aH p.book.entries.length++p.book.entries.flatMap cK))++aH (p.book.nat+1).toNat)++(aH p.book.prims.length++p.book.prims.flatMap iI))++bU p.main)++bU p.type):=hid (by simp [jI,rS,qX]);have HQ2:Hid (q=if 65536<(jI p).length then ([],6) else (jI p,0)):=hid (by rw [hq];unfold eL;rw [if_neg (by simp [he])]);obtain ⟨q0,hq0⟩ : ∃ q:List Nat,q=[]:=⟨_,rfl⟩;rw [HE.o] at hle HQ2;obtain ⟨q1,hq1⟩ : ∃ q,q=([]:List Nat)++aH p.book.vars.toNat:=⟨_,rfl⟩;have e1:([]:List Nat).length<=q1.length:=by rw [hq1,List.length_append];omega
 rw [<-hq1] at hle HQ2;obtain ⟨q2,hq2⟩ : ∃ q,q=q1++(aH p.book.orders.length++p.book.orders.flatMap eU):=⟨_,rfl⟩;have e2:q1.length<=q2.length:=by rw [hq2,List.length_append];omega
 rw [<-hq2] at hle HQ2;obtain ⟨q3,hq3⟩ : ∃ q,q=q2++(aH p.book.entries.length++p.book.entries.flatMap cK):=⟨_,rfl⟩;have e3:q2.length<=q3.length:=by rw [hq3,List.length_append];omega
 rw [<-hq3] at hle HQ2;obtain ⟨q4,hq4⟩ : ∃ q,q=q3++aH (p.book.nat+1).toNat:=⟨_,rfl⟩;have e4:q3.length<=q4.length:=by rw [hq4,List.length_append];omega
 rw [<-hq4] at hle HQ2;obtain ⟨q5,hq5⟩ : ∃ q,q=q4++(aH p.book.prims.length++p.book.prims.flatMap iI):=⟨_,rfl⟩;have e5:q4.length<=q5.length:=by rw [hq5,List.length_append];omega
 rw [<-hq5] at hle HQ2;obtain ⟨q6,hq6⟩ : ∃ q,q=q5++bU p.main:=⟨_,rfl⟩;have e6:q5.length<=q6.length:=by rw [hq6,List.length_append];omega
 rw [<-hq6] at hle HQ2;obtain ⟨q7,hq7⟩ : ∃ q,q=q6++bU p.type:=⟨_,rfl⟩;have e7:q6.length<=q7.length:=by rw [hq7,List.length_append];omega
 rw [<-hq7] at hle HQ2;have HQ11:=hid hq1;have HL1:Hid (q1.length<=4500000000000):=hid aA;have HQ12:=hid hq2;have HL2:Hid (q2.length<=4500000000000):=hid aA;have HQ13:=hid hq3;have HL3:Hid (q3.length<=4500000000000):=hid aA;have HQ14:=hid hq4;have HL4:Hid (q4.length<=4500000000000):=hid aA;have HQ15:=hid hq5;have HL5:Hid (q5.length<=4500000000000):=hid aA;have HQ16:=hid hq6;have HL6:Hid (q6.length<=4500000000000):=hid aA;have HQ17:=hid hq7;have HL7:Hid (q7.length<=4500000000000):=hid aA;have HL0:Hid (([]:List Nat).length<=4500000000000):=hid (by decide);have HV1:Hid (0<=p.book.vars/\p.book.vars<=255):=hid hw.1.1;have HV2:Hid (0<=p.book.nat+1/\p.book.nat+1<=255):=hid hw.2.1;have hn1 : -1<=p.book.nat:=by have:=hw.2.1;omega
 have hn2:p.book.nat<=254:=by have:=hw.2.1;omega
 have HF:=hid hf;clear hb1 hk1 hf hp hq he hw hle hq0 hq1 e1 hq2 e2 hq3 e3 hq4 e4 hq5 e5 hq6 e6 hq7 e7;go_in;go_wp2_with fail
 refine (HF.o).mono ?_;rintro e w2 ⟨rfl,hb2⟩;have HB2:=cN HB1 hb2;have HP2:=hid (HP1.o.below hb2);have HK2:=hid (HK1.o.below hb2 HK1.o.lt);have hbw:=aB w2 (.cells #[X none 0 0] 74);have HS0:Hid (lH w2 w2.heap.size [] (w2.alloc (.cells #[X none 0 0] 74))):=hid ⟨hbw,⟨none,0,aE.new _ _ _,bM.nil _ _⟩,Nat.le_refl _,fun x hx=>by cases hx⟩;have HN0:=hid (mO (b:=w2.heap.size+1) HS0.o (by simp) HV1.o.1 HV1.o.2 HL0.o);rw [<-HQ11.o] at HN0;clear z;have z0:=(HK2.o.below hbw HK2.o.lt).cell;clear hb2 hbw;go_wp2_with fail
 refine (HN0.o).mono ?_;rintro e1 v1 ⟨rfl,-,hs1⟩;have HS1:=hid hs1;clear z0;have z1:=(HK2.o.below hs1.bel HK2.o.lt).cell;clear hs1;go_wp2_with fail
 have HC2:=hid (DD HS1.o HP2.o.book.orders HW.o.1.2.1.2 (by have h1:=HW.o.1.2.1.1;have h2:=HP2.o.book.orders.len;omega) (by rw [<-HQ12.o];exact HL2.o));rw [<-HQ12.o] at HC2;refine (HC2.o).mono ?_;rintro e2 v2 ⟨rfl,-,hs2⟩;have HS2:=hid hs2;clear z1;have z2:=(HK2.o.below hs2.bel HK2.o.lt).cell;clear hs2;go_wp2_with fail
 have HC3:=hid (DC HS2.o HP2.o.book.entries HW.o.1.2.2.2 (by have h1:=HW.o.1.2.2.1;have h2:=HP2.o.book.entries.len;omega) (by rw [<-HQ13.o];exact HL3.o));rw [<-HQ13.o] at HC3;refine (HC3.o).mono ?_;rintro e3 v3 ⟨rfl,-,hs3⟩;have HS3:=hid hs3;clear z2;have z3:=(HK2.o.below hs3.bel HK2.o.lt).cell;clear hs3;go_wp2_with fail
 have HC4:=hid (mO (b:=v3.heap.size) HS3.o rfl HV2.o.1 HV2.o.2 HL3.o);rw [<-HQ14.o] at HC4;refine (HC4.o).mono ?_;rintro e4 v4 ⟨rfl,-,hs4⟩;have HS4:=hid hs4;clear z3;have z4:=(HK2.o.below hs4.bel HK2.o.lt).cell;clear hs4;go_wp2_with fail
 have HC5:=hid (DE HS4.o HP2.o.book.prims HW.o.2.2.1.2 (by have h1:=HW.o.2.2.1.1;have h2:=HP2.o.book.prims.len;omega) (by rw [<-HQ15.o];exact HL5.o));rw [<-HQ15.o] at HC5;refine (HC5.o).mono ?_;rintro e5 v5 ⟨rfl,-,hs5⟩;have HS5:=hid hs5;clear z4;have z5:=(HK2.o.below hs5.bel HK2.o.lt).cell;clear hs5;go_wp2_with fail
 have HC6:=hid (kU HS5.o (HP2.o.main.below HS5.o.bel) HW.o.2.2.2.1 HL5.o);rw [<-HQ16.o] at HC6;refine (HC6.o).mono ?_;rintro e6 v6 ⟨rfl,-,hs6⟩;have HS6:=hid hs6;clear z5;have z6:=(HK2.o.below hs6.bel HK2.o.lt).cell;clear hs6;go_wp2_with fail
 have HC7:=hid (kU HS6.o (HP2.o.type.below HS6.o.bel) HW.o.2.2.2.2 HL6.o);rw [<-HQ17.o] at HC7;refine (HC7.o).mono ?_;rintro e7 v7 ⟨rfl,-,hs7⟩;obtain ⟨A7,c7,hblk,hown⟩:=hs7.row;have HO7:=hid (kN hown (B':=w.heap.size) (by have:=HB2.o.size;omega));have HB7:=hid (HB2.o.trans (hs7.bel.mono HB2.o.size));have y7:=hblk.cell 0;have hl7:=HL7.o;clear z6 hs7 hblk hown;by_cases hbig:65536<q7.length
 · have d1:decide ((q7.length:Int)>65536)=true:=decide_eq_true aA;have d2:decide (65536<(q7.length:Int))=true:=decide_eq_true aA;have d3:decide (65536<q7.length)=true:=decide_eq_true hbig;have HQ3:Hid (q=([],6)):=hid (HQ2.o.trans (if_pos hbig));clear hbig;go_wp2_with fail
   go_ret2;rw [HQ3.o];exact ⟨HB7.o,none,0,rfl,bM.nil _ _⟩
 have d1:decide ((q7.length:Int)>65536)=false:=decide_eq_false aA;have d2:decide (65536<(q7.length:Int))=false:=decide_eq_false aA;have d3:decide (65536<q7.length)=false:=decide_eq_false hbig;have HQ3:Hid (q=(q7,0)):=hid (HQ2.o.trans (if_neg hbig));clear hbig;go_wp2_with fail
 go_ret2;rw [HQ3.o];exact ⟨HB7.o,A7,c7,rfl,HO7.o⟩
end Go.Proofs.YtplecfbdchmogaaGreat
