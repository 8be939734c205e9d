/- Merged: LiftP, TermP, TermP2, TermP3, TermP4, Parts0, KidsD, Parts1, Clone, Count, Parts, Kids. -/
import Derived.Test.YtplecfbdchmogaaGreatDBase
import Derived.Test.YtplecfbdchmogaaGreatDTermL
import Derived.Test.YtplecfbdchmogaaGreatDFines
import Derived.Test.YtplecfbdchmogaaGreatDCopyD
import Derived.Test.YtplecfbdchmogaaGreatDEnds
import Derived.Test.YtplecfbdchmogaaGreatDLeafs
import Derived.Lib.SliceRun
import Derived.Test.YtplecfbdchmogaaGreatProg
import Derived.WalkKit
import Derived.WalkLawsBesides
import Derived.WalkSpells
import Derived.Lib.Hide
import Derived.Deep.QuietTactic
import Derived.BigQuiet
namespace Go.Proofs.YtplecfbdchmogaaGreat
open Go.Value renaming int → O
open Go.IntKind renaming i64 → S
open Go.Lib (hid)
set_option maxHeartbeats 1000000
set_option maxRecDepth 100000
section
open Go.RowKit
end
section
open Go.RowKit
end
section
open Go.RowKit
end
section
open Go.RowKit
def Vk:Fo->Prop
 | .nil=>True
 | .cons _ n ats k x=>iC n=true/\(n.op=1->ats=[]/\k=.nil)/\Vk k/\Vk x
theorem KW {n:Nd} (h:n.op=1):ds n=[]:=by simp [ds,eI,h]
theorem CO {n:Nd} {ats:List Nd} {k:Fo} (h1:vP n ats) (h2:Wf (ds n) k) (h:n.op=1):ats=[]/\k=.nil:=by
 rw [KW h] at h2;constructor
 · unfold vP at h1;rw [if_neg aA] at h1;exact h1
 cases k with
 | nil=>rfl
 | cons _ _ _ _ _=>exact h2.elim
theorem sE:∀ (F:Fo) (dl:List Bool),Wf dl F->Vk F
 | .nil,_,_=>trivial
 | .cons _ _ _ _ _,[],h=>h.elim
 | .cons p n ats k x,d::dr,h=>by
  obtain ⟨_,hok,hat,hk,hx⟩:=h;exact ⟨hok,CO hat hk,sE k _ hk,sE x _ hx⟩
theorem uX:∀ (F:Fo),(∀ m i,i % 2=0->Wf ((List.replicate m [true,false]).flatten) F->pQ true i F)/\(∀ m i,i % 2=1->Wf (false::(List.replicate m [true,false]).flatten) F->pQ true i F)/\(∀ m i,Wf (List.replicate m false) F->pQ false i F)
 | .nil=>⟨fun _ _ _ _=>trivial,fun _ _ _ _=>trivial,fun _ _ _=>trivial⟩
 | .cons p n ats k x=>by
  have hk:=uX k;have hx:=uX x;have kid:Wf (ds n) k->pQ (decide (n.op=12)) 0 k:=fun h=>by
   unfold ds at h;by_cases h12:n.op=12
   · rw [if_pos h12] at h;rw [decide_eq_true h12];exact hk.1 _ 0 rfl h
   rw [if_neg h12] at h;rw [decide_eq_false h12];exact hk.2.2 _ 0 h
  refine ⟨fun m i hi h => ?_,fun m i hi h => ?_,fun m i h => ?_⟩
  · cases m with
    | zero=>exact h.elim
    | succ m =>
     simp only [List.replicate_succ,List.flatten_cons,List.cons_append,List.nil_append] at h;obtain ⟨⟨f,hp,_⟩,_,_,hkk,hxx⟩:=h;exact ⟨by rw [hp];simp [hi],kid hkk,hx.2.1 m (i+1) aA hxx⟩
  · obtain ⟨hp,_,_,hkk,hxx⟩:=h;simp only at hp;exact ⟨by rw [hp];simp [hi],kid hkk,hx.1 m (i+1) aA hxx⟩
  · cases m with
    | zero=>exact h.elim
    | succ m =>
     rw [List.replicate_succ] at h;obtain ⟨hp,_,_,hkk,hxx⟩:=h;simp only at hp;exact ⟨by rw [hp];simp,kid hkk,hx.2.2 m (i+1) hxx⟩
theorem EF {n:Nd} {k:Fo} (h:Wf (ds n) k):pQ (decide (n.op=12)) 0 k:=by
 have hk:=uX k;unfold ds at h;by_cases h12:n.op=12
 · rw [if_pos h12] at h;rw [decide_eq_true h12];exact hk.1 _ 0 rfl h
 rw [if_neg h12] at h;rw [decide_eq_false h12];exact hk.2.2 _ 0 h
theorem zW (m x y:Int):decide (m<=max x y)=(decide (m<=x)||decide (m<=y)):=by
 rw [<-Bool.decide_or];exact decide_eq_decide.2 aA
theorem BT {m a:Int} (hm:0<=m) {n:Nd} {k:Fo} (h1:n.op=1->k=.nil) (ih:decide (m<=DL n.op n.b 0 a k)=IH (fun v z=>decide (m<=v-z)) n.op n.b 0 a k):decide (m<=pB n k a)=KY (fun v z=>decide (m<=v-z)) a n k:=by
 unfold pB KY;by_cases h:n.op=1
 · rw [if_pos h,h1 h,decide_eq_true h];simp only [IH,Bool.or_false,Bool.true_and];exact decide_eq_decide.2 aA
 rw [if_neg h,decide_eq_false h,ih];simp
theorem zQ {m:Int} (hm:0<=m) (pop pb:Int) : ∀ (j:Nat) (a:Int) (F:Fo),Vk F->decide (m<=DL pop pb j a F)=IH (fun v z=>decide (m<=v-z)) pop pb j a F
 | _,_,.nil,_=>decide_eq_false (by simp only [DL];omega)
 | j,a,.cons p n ats k x,h=>by
  rw [rI,wH,zW,zQ hm pop pb (j+1) a x h.2.2.2,BT hm (fun q=>(h.2.1 q).2) (zQ hm n.op n.b 0 _ k h.2.2.1)]
end
section
open Go.RowKit
section
variable {l : List Nd} {n : Nd} {ats : List Nd} {k : Fo}
theorem tW (hs:aO l=0) (hpp:pp [false] l=some (.cons [] n ats k .nil,[])):iC n=true/\(n.op=1->ats=[]/\k=.nil)/\Vk k/\gI k/\pQ (decide (n.op=12)) 0 k/\l=n::(ats++row k)/\l.length<=4096/\bN k<=4096:=by
 obtain ⟨hl,n',ats',k',hpp',hrow,hfs⟩:=f6 hs;rw [hpp] at hpp';injection hpp' with e;injection e with e1 _;injection e1 with _ e2 e3 e4 _;subst e2 e3 e4;have hw:=kT hpp;have hal:=xH hpp;obtain ⟨_,hok,hat,hk,_⟩:=hw;exact ⟨hok,CO hat hk,sE _ _ hk,hal.2.1,EF hk,hrow,hl,hfs⟩
theorem yX (hs:aO l=0) (hpp:pp [false] l=some (.cons [] n ats k .nil,[])) (v:Int):gE l v=(decide (pB n k 0<0)||decide (pB n k 0<v)):=by
 obtain ⟨hok,hv,hk,_⟩:=tW hs hpp;have h:=BT (m:=max v 0) (a:=0) aA (fun q=>(hv q).2) (zQ aA n.op n.b 0 0 k hk);unfold gE LR;rw [hpp,decide_eq_true hs];simp only;rw [<-h,Bool.true_and,<-Bool.decide_or,<-decide_not];exact decide_eq_decide.2 aA
end
end
section
open Go.RowKit
end
section
open Go.RowKit
end
section
open Go.RowKit
end
section
open Go.RowKit
theorem pE {w w':World} {A:Option Addr} {n c:Nat} {l:List Nd} (h:cI w' w.heap.size (.slice A n c) l) (hl:l.length<=5864062014805):bJ (fresh w w') w' A n c l:=by
 obtain ⟨A',n',c',e,ht⟩:=cI.termS h hl;injection e with e1 e2 e3;subst e1 e2 e3;exact ht.keep fun b hb=>⟨⟨(aC h hb).1,(aC h hb).2.1⟩,fun _=>rfl⟩
end
section
open Go.RowKit
def dW (n:Nd) (w:World) (e:Ending) (w':World):Prop:=(∃ k:Int,e=.returned (.tuple #[O S k,.bool (iC n)])/\(iC n=true->k=cF n.op n.b))/\Below w.heap.size w w'
theorem aV {n:Nd} {w w':World} {k:Int} {b:Bool} (hb:b=iC n) (hk:iC n=true->k=cF n.op n.b) (hw:Below w.heap.size w w'):dW n w (.returned (.tuple #[O S k,.bool b])) w' :=
 ⟨⟨k,by rw [hb],hk⟩,hw⟩
theorem cY (n lo hi:Int) (w:World) (m:Nat) :
 Calls Tryz.prog 141 #[O S n,O S lo,O S hi] (w.drewN m) fun e w'=>e=.returned (.bool (decide (lo<=n)&&decide (n<=hi)))/\∃ k,w'=w.drewN k :=
 (dO n lo hi (w.drewN m)).mono fun _ _ ⟨h1,h2⟩=>⟨h1,m,h2.symm⟩
theorem bH (n lo hi:Int) (w:World) (m:Nat) (h:lo<=n/\n<=hi) :
 Calls Tryz.prog 141 #[O S n,O S lo,O S hi] (w.drewN m) fun e w'=>e=.returned (.bool true)/\∃ k,w'=w.drewN k :=
 (cY n lo hi w m).mono fun _ _ ⟨h1,h2⟩=>⟨by rw [h1];simp [h],h2⟩
theorem bG (n lo hi:Int) (w:World) (m:Nat) (h:¬ (lo<=n/\n<=hi)) :
 Calls Tryz.prog 141 #[O S n,O S lo,O S hi] (w.drewN m) fun e w'=>e=.returned (.bool false)/\∃ k,w'=w.drewN k :=
 (cY n lo hi w m).mono fun _ _ ⟨h1,h2⟩=>⟨by rw [h1,<-Bool.decide_and,decide_eq_false h],h2⟩
theorem aI (w:World) (o:Obj) (m:Nat):Below w.heap.size w ((w.alloc o).drewN m):=aK (aB w o) m
theorem aM (n:Nd):iC n=true ↔ bQ n.op n.a n.b=true/\n.op ≠ 3/\n.op ≠ 13:=by
 simp only [iC,Bool.and_eq_true,decide_eq_true_eq,and_assoc]
theorem nD (n:Nd):iC n=false ↔ ¬ (bQ n.op n.a n.b=true/\n.op ≠ 3/\n.op ≠ 13):=by
 rw [<-aM];simp
theorem IS (a b:Int) (w:World) :
 Calls Tryz.prog 140 #[.agg #[O S 1,O S a,O S b]] w (dW ⟨1,a,b⟩ w):=by
 by_cases a0:a=0
 · have a0b:(a==0)=true:=by simp [a0]
   have A0:=hid a0;clear a0;by_cases ht:0<=a/\a<=1048576
   · obtain ⟨hl,hh⟩:=ht;go_in;go_wp2_with fail
     all_goals
      go_quiet ((go_at_call 141;first | exact bH _ _ _ _ _ aA | exact bG _ _ _ _ _ aA | exact cY _ _ _ _ _))
      go_wp2_with fail
     all_goals
      have a0:=A0.o;refine bodyPost_ret (results_tmp2 rfl _ _ _) rfl ?_;refine aV ?_ ?_ (by first | exact aB _ _ | exact aI _ _ _)
      · rw [Bool.eq_iff_iff,aM,aD];first | (simp;done) | (simp;omega) | (simp [IntKind.wrap_i64];omega)
      rw [aM,aD];first | (simp [cF];done) | (simp [cF];omega) | (simp [cF,wrap64];omega) | (simp [cF,IntKind.wrap_i64];omega)
   have htb:(decide ((0:Int)<=a)&&decide (a<=1048576))=false:=by rw [Bool.and_eq_false_iff,decide_eq_false_iff_not,decide_eq_false_iff_not];omega
   have HT:=hid ht;go_in;go_wp2_with fail
   all_goals
    go_quiet ((go_at_call 141;first | exact bH _ _ _ _ _ aA | exact bG _ _ _ _ _ aA | exact cY _ _ _ _ _))
    go_wp2_with fail
   all_goals
    have a0:=A0.o;refine bodyPost_ret (results_tmp2 rfl _ _ _) rfl ?_;refine aV ?_ ?_ (by first | exact aB _ _ | exact aI _ _ _)
    · rw [Bool.eq_iff_iff,aM,aD];first | (simp;done) | (simp;omega) | (simp [IntKind.wrap_i64];omega)
    rw [aM,aD];first | (simp [cF];done) | (simp [cF];omega) | (simp [cF,wrap64];omega) | (simp [cF,IntKind.wrap_i64];omega)
 have a0b:(a==0)=false:=by simp [a0]
 have A0:=hid a0;clear a0;by_cases ht:0<=a/\a<=1048576
 · obtain ⟨hl,hh⟩:=ht;go_in;go_wp2_with fail
   all_goals
    go_quiet ((go_at_call 141;first | exact bH _ _ _ _ _ aA | exact bG _ _ _ _ _ aA | exact cY _ _ _ _ _))
    go_wp2_with fail
   all_goals
    have a0:=A0.o;refine bodyPost_ret (results_tmp2 rfl _ _ _) rfl ?_;refine aV ?_ ?_ (by first | exact aB _ _ | exact aI _ _ _)
    · rw [Bool.eq_iff_iff,aM,aD];first | (simp;done) | (simp;omega) | (simp [IntKind.wrap_i64];omega)
    rw [aM,aD];first | (simp [cF];done) | (simp [cF];omega) | (simp [cF,wrap64];omega) | (simp [cF,IntKind.wrap_i64];omega)
 have htb:(decide ((0:Int)<=a)&&decide (a<=1048576))=false:=by rw [Bool.and_eq_false_iff,decide_eq_false_iff_not,decide_eq_false_iff_not];omega
 have HT:=hid ht;go_in;go_wp2_with fail
 all_goals
  go_quiet ((go_at_call 141;first | exact bH _ _ _ _ _ aA | exact bG _ _ _ _ _ aA | exact cY _ _ _ _ _))
  go_wp2_with fail
 all_goals
  have a0:=A0.o;refine bodyPost_ret (results_tmp2 rfl _ _ _) rfl ?_;refine aV ?_ ?_ (by first | exact aB _ _ | exact aI _ _ _)
  · rw [Bool.eq_iff_iff,aM,aD];first | (simp;done) | (simp;omega) | (simp [IntKind.wrap_i64];omega)
  rw [aM,aD];first | (simp [cF];done) | (simp [cF];omega) | (simp [cF,wrap64];omega) | (simp [cF,IntKind.wrap_i64];omega)
theorem IT (a b:Int) (w:World) :
 Calls Tryz.prog 140 #[.agg #[O S 2,O S a,O S b]] w (dW ⟨2,a,b⟩ w):=by
 by_cases a0:a=0
 · have a0b:(a==0)=true:=by simp [a0]
   have A0:=hid a0;clear a0;by_cases ht:0<=a/\a<=1
   · obtain ⟨hl,hh⟩:=ht;go_in;go_wp2_with (go_at_call 141;refine (dO _ _ _ _).mono ?_;rintro e w2 ⟨rfl,rfl⟩)
     all_goals
      have a0:=A0.o;refine bodyPost_ret (results_tmp2 rfl _ _ _) rfl ?_;refine aV ?_ ?_ (by first | exact aB _ _ | exact aI _ _ _)
      · rw [Bool.eq_iff_iff,aM,aD];first | (simp;done) | (simp;omega) | (simp [IntKind.wrap_i64];omega)
      rw [aM,aD];first | (simp [cF];done) | (simp [cF];omega) | (simp [cF,wrap64];omega) | (simp [cF,IntKind.wrap_i64];omega)
   have htb:(decide ((0:Int)<=a)&&decide (a<=1))=false:=by rw [Bool.and_eq_false_iff,decide_eq_false_iff_not,decide_eq_false_iff_not];omega
   have HT:=hid ht;clear ht;go_in;go_wp2_with (go_at_call 141;refine (dO _ _ _ _).mono ?_;rintro e w2 ⟨rfl,rfl⟩)
   all_goals
    have a0:=A0.o;have ht:=HT.o;refine bodyPost_ret (results_tmp2 rfl _ _ _) rfl ?_;refine aV ?_ ?_ (by first | exact aB _ _ | exact aI _ _ _)
    · rw [Bool.eq_iff_iff,aM,aD];first | (simp;done) | (simp;omega) | (simp [IntKind.wrap_i64];omega)
    rw [aM,aD];first | (simp [cF];done) | (simp [cF];omega) | (simp [cF,wrap64];omega) | (simp [cF,IntKind.wrap_i64];omega)
 have a0b:(a==0)=false:=by simp [a0]
 have A0:=hid a0;clear a0;by_cases ht:0<=a/\a<=1
 · obtain ⟨hl,hh⟩:=ht;go_in;go_wp2_with (go_at_call 141;refine (dO _ _ _ _).mono ?_;rintro e w2 ⟨rfl,rfl⟩)
   all_goals
    have a0:=A0.o;refine bodyPost_ret (results_tmp2 rfl _ _ _) rfl ?_;refine aV ?_ ?_ (by first | exact aB _ _ | exact aI _ _ _)
    · rw [Bool.eq_iff_iff,aM,aD];first | (simp;done) | (simp;omega) | (simp [IntKind.wrap_i64];omega)
    rw [aM,aD];first | (simp [cF];done) | (simp [cF];omega) | (simp [cF,wrap64];omega) | (simp [cF,IntKind.wrap_i64];omega)
 have htb:(decide ((0:Int)<=a)&&decide (a<=1))=false:=by rw [Bool.and_eq_false_iff,decide_eq_false_iff_not,decide_eq_false_iff_not];omega
 have HT:=hid ht;clear ht;go_in;go_wp2_with (go_at_call 141;refine (dO _ _ _ _).mono ?_;rintro e w2 ⟨rfl,rfl⟩)
 all_goals
  have a0:=A0.o;have ht:=HT.o;refine bodyPost_ret (results_tmp2 rfl _ _ _) rfl ?_;refine aV ?_ ?_ (by first | exact aB _ _ | exact aI _ _ _)
  · rw [Bool.eq_iff_iff,aM,aD];first | (simp;done) | (simp;omega) | (simp [IntKind.wrap_i64];omega)
  rw [aM,aD];first | (simp [cF];done) | (simp [cF];omega) | (simp [cF,wrap64];omega) | (simp [cF,IntKind.wrap_i64];omega)
theorem IU (a b:Int) (w:World) :
 Calls Tryz.prog 140 #[.agg #[O S 4,O S a,O S b]] w (dW ⟨4,a,b⟩ w):=by
 by_cases h1:a=0
 · have h2:(a==0)=true:=by simp [h1]
   have H1:=hid h1;clear h1;go_in;go_wp2
   all_goals
    have h1:=H1.o;refine bodyPost_ret (results_tmp2 rfl _ _ _) rfl ?_;refine aV ?_ ?_ (by first | exact aB _ _ | exact aI _ _ _)
    · rw [Bool.eq_iff_iff,aM,aD];first | (simp;done) | (simp;omega) | (simp [IntKind.wrap_i64];omega)
    rw [aM,aD];first | (simp [cF];done) | (simp [cF];omega) | (simp [cF,wrap64];omega) | (simp [cF,IntKind.wrap_i64];omega)
 have h2:(a==0)=false:=by simp [h1]
 have H1:=hid h1;clear h1;go_in;go_wp2
 all_goals
  have h1:=H1.o;refine bodyPost_ret (results_tmp2 rfl _ _ _) rfl ?_;refine aV ?_ ?_ (by first | exact aB _ _ | exact aI _ _ _)
  · rw [Bool.eq_iff_iff,aM,aD];first | (simp;done) | (simp;omega) | (simp [IntKind.wrap_i64];omega)
  rw [aM,aD];first | (simp [cF];done) | (simp [cF];omega) | (simp [cF,wrap64];omega) | (simp [cF,IntKind.wrap_i64];omega)
theorem IV (a b:Int) (w:World) :
 Calls Tryz.prog 140 #[.agg #[O S 5,O S a,O S b]] w (dW ⟨5,a,b⟩ w):=by
 by_cases h1:a=0
 · have h2:(a==0)=true:=by simp [h1]
   have H1:=hid h1;clear h1;go_in;go_wp2
   all_goals
    have h1:=H1.o;refine bodyPost_ret (results_tmp2 rfl _ _ _) rfl ?_;refine aV ?_ ?_ (by first | exact aB _ _ | exact aI _ _ _)
    · rw [Bool.eq_iff_iff,aM,aD];first | (simp;done) | (simp;omega) | (simp [IntKind.wrap_i64];omega)
    rw [aM,aD];first | (simp [cF];done) | (simp [cF];omega) | (simp [cF,wrap64];omega) | (simp [cF,IntKind.wrap_i64];omega)
 have h2:(a==0)=false:=by simp [h1]
 have H1:=hid h1;clear h1;go_in;go_wp2
 all_goals
  have h1:=H1.o;refine bodyPost_ret (results_tmp2 rfl _ _ _) rfl ?_;refine aV ?_ ?_ (by first | exact aB _ _ | exact aI _ _ _)
  · rw [Bool.eq_iff_iff,aM,aD];first | (simp;done) | (simp;omega) | (simp [IntKind.wrap_i64];omega)
  rw [aM,aD];first | (simp [cF];done) | (simp [cF];omega) | (simp [cF,wrap64];omega) | (simp [cF,IntKind.wrap_i64];omega)
theorem IW (a b:Int) (w:World) :
 Calls Tryz.prog 140 #[.agg #[O S 6,O S a,O S b]] w (dW ⟨6,a,b⟩ w):=by
 by_cases h1:a=0
 · have h2:(a==0)=true:=by simp [h1]
   have H1:=hid h1;clear h1;go_in;go_wp2
   all_goals
    have h1:=H1.o;refine bodyPost_ret (results_tmp2 rfl _ _ _) rfl ?_;refine aV ?_ ?_ (by first | exact aB _ _ | exact aI _ _ _)
    · rw [Bool.eq_iff_iff,aM,aD];first | (simp;done) | (simp;omega) | (simp [IntKind.wrap_i64];omega)
    rw [aM,aD];first | (simp [cF];done) | (simp [cF];omega) | (simp [cF,wrap64];omega) | (simp [cF,IntKind.wrap_i64];omega)
 have h2:(a==0)=false:=by simp [h1]
 have H1:=hid h1;clear h1;go_in;go_wp2
 all_goals
  have h1:=H1.o;refine bodyPost_ret (results_tmp2 rfl _ _ _) rfl ?_;refine aV ?_ ?_ (by first | exact aB _ _ | exact aI _ _ _)
  · rw [Bool.eq_iff_iff,aM,aD];first | (simp;done) | (simp;omega) | (simp [IntKind.wrap_i64];omega)
  rw [aM,aD];first | (simp [cF];done) | (simp [cF];omega) | (simp [cF,wrap64];omega) | (simp [cF,IntKind.wrap_i64];omega)
theorem IX (a b:Int) (w:World) :
 Calls Tryz.prog 140 #[.agg #[O S 7,O S a,O S b]] w (dW ⟨7,a,b⟩ w):=by
 by_cases h1:a=0
 · have h2:(a==0)=true:=by simp [h1]
   have H1:=hid h1;clear h1;go_in;go_wp2
   all_goals
    have h1:=H1.o;refine bodyPost_ret (results_tmp2 rfl _ _ _) rfl ?_;refine aV ?_ ?_ (by first | exact aB _ _ | exact aI _ _ _)
    · rw [Bool.eq_iff_iff,aM,aD];first | (simp;done) | (simp;omega) | (simp [IntKind.wrap_i64];omega)
    rw [aM,aD];first | (simp [cF];done) | (simp [cF];omega) | (simp [cF,wrap64];omega) | (simp [cF,IntKind.wrap_i64];omega)
 have h2:(a==0)=false:=by simp [h1]
 have H1:=hid h1;clear h1;go_in;go_wp2
 all_goals
  have h1:=H1.o;refine bodyPost_ret (results_tmp2 rfl _ _ _) rfl ?_;refine aV ?_ ?_ (by first | exact aB _ _ | exact aI _ _ _)
  · rw [Bool.eq_iff_iff,aM,aD];first | (simp;done) | (simp;omega) | (simp [IntKind.wrap_i64];omega)
  rw [aM,aD];first | (simp [cF];done) | (simp [cF];omega) | (simp [cF,wrap64];omega) | (simp [cF,IntKind.wrap_i64];omega)
theorem IY (a b:Int) (w:World) :
 Calls Tryz.prog 140 #[.agg #[O S 8,O S a,O S b]] w (dW ⟨8,a,b⟩ w):=by
 by_cases a0:a=0
 · have a0b:(a==0)=true:=by simp [a0]
   have A0:=hid a0;clear a0;by_cases ht:0<=a/\a<=63
   · obtain ⟨hl,hh⟩:=ht;go_in;go_wp2_with fail
     all_goals
      go_quiet ((go_at_call 141;first | exact bH _ _ _ _ _ aA | exact bG _ _ _ _ _ aA | exact cY _ _ _ _ _))
      go_wp2_with fail
     all_goals
      have a0:=A0.o;refine bodyPost_ret (results_tmp2 rfl _ _ _) rfl ?_;refine aV ?_ ?_ (by first | exact aB _ _ | exact aI _ _ _)
      · rw [Bool.eq_iff_iff,aM,aD];first | (simp;done) | (simp;omega) | (simp [IntKind.wrap_i64];omega)
      rw [aM,aD];first | (simp [cF];done) | (simp [cF];omega) | (simp [cF,wrap64];omega) | (simp [cF,IntKind.wrap_i64];omega)
   have htb:(decide ((0:Int)<=a)&&decide (a<=63))=false:=by rw [Bool.and_eq_false_iff,decide_eq_false_iff_not,decide_eq_false_iff_not];omega
   have HT:=hid ht;go_in;go_wp2_with fail
   all_goals
    go_quiet ((go_at_call 141;first | exact bH _ _ _ _ _ aA | exact bG _ _ _ _ _ aA | exact cY _ _ _ _ _))
    go_wp2_with fail
   all_goals
    have a0:=A0.o;refine bodyPost_ret (results_tmp2 rfl _ _ _) rfl ?_;refine aV ?_ ?_ (by first | exact aB _ _ | exact aI _ _ _)
    · rw [Bool.eq_iff_iff,aM,aD];first | (simp;done) | (simp;omega) | (simp [IntKind.wrap_i64];omega)
    rw [aM,aD];first | (simp [cF];done) | (simp [cF];omega) | (simp [cF,wrap64];omega) | (simp [cF,IntKind.wrap_i64];omega)
 have a0b:(a==0)=false:=by simp [a0]
 have A0:=hid a0;clear a0;by_cases ht:0<=a/\a<=63
 · obtain ⟨hl,hh⟩:=ht;go_in;go_wp2_with fail
   all_goals
    go_quiet ((go_at_call 141;first | exact bH _ _ _ _ _ aA | exact bG _ _ _ _ _ aA | exact cY _ _ _ _ _))
    go_wp2_with fail
   all_goals
    have a0:=A0.o;refine bodyPost_ret (results_tmp2 rfl _ _ _) rfl ?_;refine aV ?_ ?_ (by first | exact aB _ _ | exact aI _ _ _)
    · rw [Bool.eq_iff_iff,aM,aD];first | (simp;done) | (simp;omega) | (simp [IntKind.wrap_i64];omega)
    rw [aM,aD];first | (simp [cF];done) | (simp [cF];omega) | (simp [cF,wrap64];omega) | (simp [cF,IntKind.wrap_i64];omega)
 have htb:(decide ((0:Int)<=a)&&decide (a<=63))=false:=by rw [Bool.and_eq_false_iff,decide_eq_false_iff_not,decide_eq_false_iff_not];omega
 have HT:=hid ht;go_in;go_wp2_with fail
 all_goals
  go_quiet ((go_at_call 141;first | exact bH _ _ _ _ _ aA | exact bG _ _ _ _ _ aA | exact cY _ _ _ _ _))
  go_wp2_with fail
 all_goals
  have a0:=A0.o;refine bodyPost_ret (results_tmp2 rfl _ _ _) rfl ?_;refine aV ?_ ?_ (by first | exact aB _ _ | exact aI _ _ _)
  · rw [Bool.eq_iff_iff,aM,aD];first | (simp;done) | (simp;omega) | (simp [IntKind.wrap_i64];omega)
  rw [aM,aD];first | (simp [cF];done) | (simp [cF];omega) | (simp [cF,wrap64];omega) | (simp [cF,IntKind.wrap_i64];omega)
theorem IZ (a b:Int) (w:World) :
 Calls Tryz.prog 140 #[.agg #[O S 9,O S a,O S b]] w (dW ⟨9,a,b⟩ w):=by
 by_cases a0:a=0
 · have a0b:(a==0)=true:=by simp [a0]
   have A0:=hid a0;clear a0;by_cases ht:0<=a/\a<=63
   · obtain ⟨hl,hh⟩:=ht;go_in;go_wp2_with fail
     all_goals
      go_quiet ((go_at_call 141;first | exact bH _ _ _ _ _ aA | exact bG _ _ _ _ _ aA | exact cY _ _ _ _ _))
      go_wp2_with fail
     all_goals
      have a0:=A0.o;refine bodyPost_ret (results_tmp2 rfl _ _ _) rfl ?_;refine aV ?_ ?_ (by first | exact aB _ _ | exact aI _ _ _)
      · rw [Bool.eq_iff_iff,aM,aD];first | (simp;done) | (simp;omega) | (simp [IntKind.wrap_i64];omega)
      rw [aM,aD];first | (simp [cF];done) | (simp [cF];omega) | (simp [cF,wrap64];omega) | (simp [cF,IntKind.wrap_i64];omega)
   have htb:(decide ((0:Int)<=a)&&decide (a<=63))=false:=by rw [Bool.and_eq_false_iff,decide_eq_false_iff_not,decide_eq_false_iff_not];omega
   have HT:=hid ht;go_in;go_wp2_with fail
   all_goals
    go_quiet ((go_at_call 141;first | exact bH _ _ _ _ _ aA | exact bG _ _ _ _ _ aA | exact cY _ _ _ _ _))
    go_wp2_with fail
   all_goals
    have a0:=A0.o;refine bodyPost_ret (results_tmp2 rfl _ _ _) rfl ?_;refine aV ?_ ?_ (by first | exact aB _ _ | exact aI _ _ _)
    · rw [Bool.eq_iff_iff,aM,aD];first | (simp;done) | (simp;omega) | (simp [IntKind.wrap_i64];omega)
    rw [aM,aD];first | (simp [cF];done) | (simp [cF];omega) | (simp [cF,wrap64];omega) | (simp [cF,IntKind.wrap_i64];omega)
 have a0b:(a==0)=false:=by simp [a0]
 have A0:=hid a0;clear a0;by_cases ht:0<=a/\a<=63
 · obtain ⟨hl,hh⟩:=ht;go_in;go_wp2_with fail
   all_goals
    go_quiet ((go_at_call 141;first | exact bH _ _ _ _ _ aA | exact bG _ _ _ _ _ aA | exact cY _ _ _ _ _))
    go_wp2_with fail
   all_goals
    have a0:=A0.o;refine bodyPost_ret (results_tmp2 rfl _ _ _) rfl ?_;refine aV ?_ ?_ (by first | exact aB _ _ | exact aI _ _ _)
    · rw [Bool.eq_iff_iff,aM,aD];first | (simp;done) | (simp;omega) | (simp [IntKind.wrap_i64];omega)
    rw [aM,aD];first | (simp [cF];done) | (simp [cF];omega) | (simp [cF,wrap64];omega) | (simp [cF,IntKind.wrap_i64];omega)
 have htb:(decide ((0:Int)<=a)&&decide (a<=63))=false:=by rw [Bool.and_eq_false_iff,decide_eq_false_iff_not,decide_eq_false_iff_not];omega
 have HT:=hid ht;go_in;go_wp2_with fail
 all_goals
  go_quiet ((go_at_call 141;first | exact bH _ _ _ _ _ aA | exact bG _ _ _ _ _ aA | exact cY _ _ _ _ _))
  go_wp2_with fail
 all_goals
  have a0:=A0.o;refine bodyPost_ret (results_tmp2 rfl _ _ _) rfl ?_;refine aV ?_ ?_ (by first | exact aB _ _ | exact aI _ _ _)
  · rw [Bool.eq_iff_iff,aM,aD];first | (simp;done) | (simp;omega) | (simp [IntKind.wrap_i64];omega)
  rw [aM,aD];first | (simp [cF];done) | (simp [cF];omega) | (simp [cF,wrap64];omega) | (simp [cF,IntKind.wrap_i64];omega)
theorem FO (a b:Int) (w:World) :
 Calls Tryz.prog 140 #[.agg #[O S 10,O S a,O S b]] w (dW ⟨10,a,b⟩ w):=by
 by_cases a0:a=0
 · have a0b:(a==0)=true:=by simp [a0]
   have A0:=hid a0;clear a0;by_cases ht:0<=a/\a<=63
   · obtain ⟨hl,hh⟩:=ht;go_in;go_wp2_with (go_at_call 141;refine (dO _ _ _ _).mono ?_;rintro e w2 ⟨rfl,rfl⟩)
     all_goals
      have a0:=A0.o;refine bodyPost_ret (results_tmp2 rfl _ _ _) rfl ?_;refine aV ?_ ?_ (by first | exact aB _ _ | exact aI _ _ _)
      · rw [Bool.eq_iff_iff,aM,aD];first | (simp;done) | (simp;omega) | (simp [IntKind.wrap_i64];omega)
      rw [aM,aD];first | (simp [cF];done) | (simp [cF];omega) | (simp [cF,wrap64];omega) | (simp [cF,IntKind.wrap_i64];omega)
   have htb:(decide ((0:Int)<=a)&&decide (a<=63))=false:=by rw [Bool.and_eq_false_iff,decide_eq_false_iff_not,decide_eq_false_iff_not];omega
   have HT:=hid ht;clear ht;go_in;go_wp2_with (go_at_call 141;refine (dO _ _ _ _).mono ?_;rintro e w2 ⟨rfl,rfl⟩)
   all_goals
    have a0:=A0.o;have ht:=HT.o;refine bodyPost_ret (results_tmp2 rfl _ _ _) rfl ?_;refine aV ?_ ?_ (by first | exact aB _ _ | exact aI _ _ _)
    · rw [Bool.eq_iff_iff,aM,aD];first | (simp;done) | (simp;omega) | (simp [IntKind.wrap_i64];omega)
    rw [aM,aD];first | (simp [cF];done) | (simp [cF];omega) | (simp [cF,wrap64];omega) | (simp [cF,IntKind.wrap_i64];omega)
 have a0b:(a==0)=false:=by simp [a0]
 have A0:=hid a0;clear a0;by_cases ht:0<=a/\a<=63
 · obtain ⟨hl,hh⟩:=ht;go_in;go_wp2_with (go_at_call 141;refine (dO _ _ _ _).mono ?_;rintro e w2 ⟨rfl,rfl⟩)
   all_goals
    have a0:=A0.o;refine bodyPost_ret (results_tmp2 rfl _ _ _) rfl ?_;refine aV ?_ ?_ (by first | exact aB _ _ | exact aI _ _ _)
    · rw [Bool.eq_iff_iff,aM,aD];first | (simp;done) | (simp;omega) | (simp [IntKind.wrap_i64];omega)
    rw [aM,aD];first | (simp [cF];done) | (simp [cF];omega) | (simp [cF,wrap64];omega) | (simp [cF,IntKind.wrap_i64];omega)
 have htb:(decide ((0:Int)<=a)&&decide (a<=63))=false:=by rw [Bool.and_eq_false_iff,decide_eq_false_iff_not,decide_eq_false_iff_not];omega
 have HT:=hid ht;clear ht;go_in;go_wp2_with (go_at_call 141;refine (dO _ _ _ _).mono ?_;rintro e w2 ⟨rfl,rfl⟩)
 all_goals
  have a0:=A0.o;have ht:=HT.o;refine bodyPost_ret (results_tmp2 rfl _ _ _) rfl ?_;refine aV ?_ ?_ (by first | exact aB _ _ | exact aI _ _ _)
  · rw [Bool.eq_iff_iff,aM,aD];first | (simp;done) | (simp;omega) | (simp [IntKind.wrap_i64];omega)
  rw [aM,aD];first | (simp [cF];done) | (simp [cF];omega) | (simp [cF,wrap64];omega) | (simp [cF,IntKind.wrap_i64];omega)
theorem FP (a b:Int) (w:World) :
 Calls Tryz.prog 140 #[.agg #[O S 11,O S a,O S b]] w (dW ⟨11,a,b⟩ w):=by
 by_cases a0:a=0
 · have a0b:(a==0)=true:=by simp [a0]
   have A0:=hid a0;clear a0;by_cases ht:0<=a/\a<=63
   · obtain ⟨hl,hh⟩:=ht;go_in;go_wp2_with fail
     all_goals
      go_quiet ((go_at_call 141;first | exact bH _ _ _ _ _ aA | exact bG _ _ _ _ _ aA | exact cY _ _ _ _ _))
      go_wp2_with fail
     all_goals
      have a0:=A0.o;refine bodyPost_ret (results_tmp2 rfl _ _ _) rfl ?_;refine aV ?_ ?_ (by first | exact aB _ _ | exact aI _ _ _)
      · rw [Bool.eq_iff_iff,aM,aD];first | (simp;done) | (simp;omega) | (simp [IntKind.wrap_i64];omega)
      rw [aM,aD];first | (simp [cF];done) | (simp [cF];omega) | (simp [cF,wrap64];omega) | (simp [cF,IntKind.wrap_i64];omega)
   have htb:(decide ((0:Int)<=a)&&decide (a<=63))=false:=by rw [Bool.and_eq_false_iff,decide_eq_false_iff_not,decide_eq_false_iff_not];omega
   have HT:=hid ht;go_in;go_wp2_with fail
   all_goals
    go_quiet ((go_at_call 141;first | exact bH _ _ _ _ _ aA | exact bG _ _ _ _ _ aA | exact cY _ _ _ _ _))
    go_wp2_with fail
   all_goals
    have a0:=A0.o;refine bodyPost_ret (results_tmp2 rfl _ _ _) rfl ?_;refine aV ?_ ?_ (by first | exact aB _ _ | exact aI _ _ _)
    · rw [Bool.eq_iff_iff,aM,aD];first | (simp;done) | (simp;omega) | (simp [IntKind.wrap_i64];omega)
    rw [aM,aD];first | (simp [cF];done) | (simp [cF];omega) | (simp [cF,wrap64];omega) | (simp [cF,IntKind.wrap_i64];omega)
 have a0b:(a==0)=false:=by simp [a0]
 have A0:=hid a0;clear a0;by_cases ht:0<=a/\a<=63
 · obtain ⟨hl,hh⟩:=ht;go_in;go_wp2_with fail
   all_goals
    go_quiet ((go_at_call 141;first | exact bH _ _ _ _ _ aA | exact bG _ _ _ _ _ aA | exact cY _ _ _ _ _))
    go_wp2_with fail
   all_goals
    have a0:=A0.o;refine bodyPost_ret (results_tmp2 rfl _ _ _) rfl ?_;refine aV ?_ ?_ (by first | exact aB _ _ | exact aI _ _ _)
    · rw [Bool.eq_iff_iff,aM,aD];first | (simp;done) | (simp;omega) | (simp [IntKind.wrap_i64];omega)
    rw [aM,aD];first | (simp [cF];done) | (simp [cF];omega) | (simp [cF,wrap64];omega) | (simp [cF,IntKind.wrap_i64];omega)
 have htb:(decide ((0:Int)<=a)&&decide (a<=63))=false:=by rw [Bool.and_eq_false_iff,decide_eq_false_iff_not,decide_eq_false_iff_not];omega
 have HT:=hid ht;go_in;go_wp2_with fail
 all_goals
  go_quiet ((go_at_call 141;first | exact bH _ _ _ _ _ aA | exact bG _ _ _ _ _ aA | exact cY _ _ _ _ _))
  go_wp2_with fail
 all_goals
  have a0:=A0.o;refine bodyPost_ret (results_tmp2 rfl _ _ _) rfl ?_;refine aV ?_ ?_ (by first | exact aB _ _ | exact aI _ _ _)
  · rw [Bool.eq_iff_iff,aM,aD];first | (simp;done) | (simp;omega) | (simp [IntKind.wrap_i64];omega)
  rw [aM,aD];first | (simp [cF];done) | (simp [cF];omega) | (simp [cF,wrap64];omega) | (simp [cF,IntKind.wrap_i64];omega)
theorem FQ (a b:Int) (w:World) :
 Calls Tryz.prog 140 #[.agg #[O S 12,O S a,O S b]] w (dW ⟨12,a,b⟩ w):=by
 by_cases a0:a=0
 · have a0b:(a==0)=true:=by simp [a0]
   have A0:=hid a0;clear a0;by_cases ht:1<=b/\b<=4
   · obtain ⟨hl,hh⟩:=ht;go_in;go_wp2_with fail
     all_goals
      go_quiet ((go_at_call 141;first | exact bH _ _ _ _ _ aA | exact bG _ _ _ _ _ aA | exact cY _ _ _ _ _))
      go_wp2_with fail
     all_goals
      have a0:=A0.o;refine bodyPost_ret (results_tmp2 rfl _ _ _) rfl ?_;refine aV ?_ ?_ (by first | exact aB _ _ | exact aI _ _ _)
      · rw [Bool.eq_iff_iff,aM,aD];first | (simp;done) | (simp;omega) | (simp [IntKind.wrap_i64];omega)
      rw [aM,aD];first | (simp [cF];done) | (simp [cF];omega) | (simp [cF,wrap64];omega) | (simp [cF,IntKind.wrap_i64];omega)
   have htb:(decide ((1:Int)<=b)&&decide (b<=4))=false:=by rw [Bool.and_eq_false_iff,decide_eq_false_iff_not,decide_eq_false_iff_not];omega
   have HT:=hid ht;go_in;go_wp2_with fail
   all_goals
    go_quiet ((go_at_call 141;first | exact bH _ _ _ _ _ aA | exact bG _ _ _ _ _ aA | exact cY _ _ _ _ _))
    go_wp2_with fail
   all_goals
    have a0:=A0.o;refine bodyPost_ret (results_tmp2 rfl _ _ _) rfl ?_;refine aV ?_ ?_ (by first | exact aB _ _ | exact aI _ _ _)
    · rw [Bool.eq_iff_iff,aM,aD];first | (simp;done) | (simp;omega) | (simp [IntKind.wrap_i64];omega)
    rw [aM,aD];first | (simp [cF];done) | (simp [cF];omega) | (simp [cF,wrap64];omega) | (simp [cF,IntKind.wrap_i64];omega)
 have a0b:(a==0)=false:=by simp [a0]
 have A0:=hid a0;clear a0;by_cases ht:1<=b/\b<=4
 · obtain ⟨hl,hh⟩:=ht;go_in;go_wp2_with fail
   all_goals
    go_quiet ((go_at_call 141;first | exact bH _ _ _ _ _ aA | exact bG _ _ _ _ _ aA | exact cY _ _ _ _ _))
    go_wp2_with fail
   all_goals
    have a0:=A0.o;refine bodyPost_ret (results_tmp2 rfl _ _ _) rfl ?_;refine aV ?_ ?_ (by first | exact aB _ _ | exact aI _ _ _)
    · rw [Bool.eq_iff_iff,aM,aD];first | (simp;done) | (simp;omega) | (simp [IntKind.wrap_i64];omega)
    rw [aM,aD];first | (simp [cF];done) | (simp [cF];omega) | (simp [cF,wrap64];omega) | (simp [cF,IntKind.wrap_i64];omega)
 have htb:(decide ((1:Int)<=b)&&decide (b<=4))=false:=by rw [Bool.and_eq_false_iff,decide_eq_false_iff_not,decide_eq_false_iff_not];omega
 have HT:=hid ht;go_in;go_wp2_with fail
 all_goals
  go_quiet ((go_at_call 141;first | exact bH _ _ _ _ _ aA | exact bG _ _ _ _ _ aA | exact cY _ _ _ _ _))
  go_wp2_with fail
 all_goals
  have a0:=A0.o;refine bodyPost_ret (results_tmp2 rfl _ _ _) rfl ?_;refine aV ?_ ?_ (by first | exact aB _ _ | exact aI _ _ _)
  · rw [Bool.eq_iff_iff,aM,aD];first | (simp;done) | (simp;omega) | (simp [IntKind.wrap_i64];omega)
  rw [aM,aD];first | (simp [cF];done) | (simp [cF];omega) | (simp [cF,wrap64];omega) | (simp [cF,IntKind.wrap_i64];omega)
theorem C0 (op a b:Int) (w:World) (hop:¬ (1<=op/\op<=12/\op ≠ 3)) :
 Calls Tryz.prog 140 #[.agg #[O S op,O S a,O S b]] w (dW ⟨op,a,b⟩ w):=by
 have b1:(op==1)=false:=beq_eq_false_iff_ne.2 aA;have b2:(op==2)=false:=beq_eq_false_iff_ne.2 aA;have b4:(op==4)=false:=beq_eq_false_iff_ne.2 aA;have b5:(op==5)=false:=beq_eq_false_iff_ne.2 aA;have b6:(op==6)=false:=beq_eq_false_iff_ne.2 aA;have b7:(op==7)=false:=beq_eq_false_iff_ne.2 aA;have b8:(op==8)=false:=beq_eq_false_iff_ne.2 aA;have b9:(op==9)=false:=beq_eq_false_iff_ne.2 aA;have b10:(op==10)=false:=beq_eq_false_iff_ne.2 aA;have b11:(op==11)=false:=beq_eq_false_iff_ne.2 aA;have b12:(op==12)=false:=beq_eq_false_iff_ne.2 aA;have HOP:=hid hop;clear hop;by_cases a0:a=0
 · have a0b:(a==0)=true:=by simp [a0]
   clear a0;go_in;go_wp2_with fail
   all_goals
    refine bodyPost_ret (results_tmp2 rfl _ _ _) rfl ?_;refine aV ?_ ?_ (aB _ _)
    · have hop:=HOP.o;symm;rw [nD,aD];dsimp only;omega
    have hop:=HOP.o;rw [aM,aD];dsimp only;omega
 have a0b:(a==0)=false:=by simp [a0]
 clear a0;go_in;go_wp2_with fail
 all_goals
  refine bodyPost_ret (results_tmp2 rfl _ _ _) rfl ?_;refine aV ?_ ?_ (aB _ _)
  · have hop:=HOP.o;symm;rw [nD,aD];dsimp only;omega
  have hop:=HOP.o;rw [aM,aD];dsimp only;omega
theorem tB (op a b:Int) (w:World) :
 Calls Tryz.prog 140 #[.agg #[O S op,O S a,O S b]] w (dW ⟨op,a,b⟩ w):=by
 by_cases hop:1<=op/\op<=12/\op ≠ 3
 · have:op=1\/op=2\/op=4\/op=5\/op=6\/op=7\/op=8\/op=9\/op=10\/op=11\/op=12:=aA;rcases this with rfl | rfl | rfl | rfl | rfl | rfl | rfl | rfl | rfl | rfl | rfl
   · exact IS a b w
   · exact IT a b w
   · exact IU a b w
   · exact IV a b w
   · exact IW a b w
   · exact IX a b w
   · exact IY a b w
   · exact IZ a b w
   · exact FO a b w
   · exact FP a b w
   exact FQ a b w
 exact C0 op a b w hop
theorem tC (op a b:Int) (w:World) (h:iC ⟨op,a,b⟩=true) :
 Calls Tryz.prog 140 #[.agg #[O S op,O S a,O S b]] w fun e w'=>e=.returned (.tuple #[O S (cF op b),.bool true])/\Below w.heap.size w w' :=
 (tB op a b w).mono fun _ _ ⟨⟨k,h1,h2⟩,h3⟩=>⟨by rw [h1,h,h2 h],h3⟩
theorem FR (op a b:Int) (w:World) (h:iC ⟨op,a,b⟩=false) :
 Calls Tryz.prog 140 #[.agg #[O S op,O S a,O S b]] w fun e w'=>(∃ k:Int,e=.returned (.tuple #[O S k,.bool false]))/\Below w.heap.size w w' :=
 (tB op a b w).mono fun _ _ ⟨⟨k,h1,_⟩,h3⟩=>⟨⟨k,by rw [h1,h]⟩,h3⟩
end
section
open Go.RowKit
end
section
open Go.RowKit
end
end Go.Proofs.YtplecfbdchmogaaGreat
