/- Merged: MapG, LevelP, Level. -/
import Derived.Maps.OwnOps
import Derived.Maps.OwnSet
import Derived.DeepKeys4
import Derived.WalkKit
import Derived.Test.YtplecfbdchmogaaGreatProg
import Derived.Test.YtplecfbdchmogaaGreatChecked
import Derived.Test.YtplecfbdchmogaaGreatDFines
namespace Go.Proofs.YtplecfbdchmogaaGreat
open Option renaming some → O, none → S
open Go.Lib (hid)
set_option maxHeartbeats 8000000
set_option maxRecDepth 100000
section
open Go.RowKit Go.Maps
abbrev GF:=Int->Int->Option Int
def eM (g:GF) (l h z:Int):GF:=fun a b=>if a=l/\b=h then O z else g a b
structure j0 (P:Program) (k t e:TypeId):Prop where
 keyed:Keyed P k
 key:∀ l h:Int,(Lit.int .i64 l).wf=true->(Lit.int .i64 h).wf=true->∃ kl,keyOf P k (.agg #[.int .i64 l,.int .i64 h])=O kl
 ht:P.underlying t=O (.map k e)
 he:P.underlying e=O (.int .i64)
 hz:∀ w,(zeroValue e).run P w=.ok (.int .i64 0) w
def iD (P:Program) (k e:TypeId) (w:World) (b n:Nat) (g:GF):Prop :=
 ∃ D:DataW Unit,w.ownsMap P k (plainElem P e) b n D/\∀ l h kl,keyOf P k (.agg #[.int .i64 l,.int .i64 h])=O kl->Maps.has D kl=(g l h).isSome/\D.atKey kl (.lit (.int .i64 0))=.lit (.int .i64 ((g l h).getD 0))
section
variable {P : Program} {k t e : TypeId} {w w' : World} {b n : Nat} {g : GF}
theorem iD.made (w:World) (P:Program) (k e:TypeId):iD P k e (w.alloc (.map #[] 0)) w.heap.size 0 (fun _ _=>S) :=
 ⟨.map [],World.ownsMap_made w P k _,fun _ _ _ _=>⟨rfl,rfl⟩⟩
theorem iD.mono (h:iD P k e w b n g) {m:Nat} (hm:n<=m):iD P k e w b m g:=by
 obtain ⟨D,h1,h2⟩:=h;exact ⟨D,h1.mono hm,h2⟩
theorem iD.lt (h:iD P k e w b n g):b<w.heap.size:=by
 obtain ⟨D,h1,h2⟩:=h;exact h1.lt
theorem iD.kept {row:Option Nat} (h:iD P k e w b n g) (hg:w.grownBy w' row) (hne:O b ≠ row):iD P k e w' b n g:=by
 obtain ⟨D,h1,h2⟩:=h;exact ⟨D,h1.kept hg hne,h2⟩
theorem iD.alloc (h:iD P k e w b n g) (o:Obj):iD P k e (w.alloc o) b n g:=by
 obtain ⟨D,h1,h2⟩:=h;exact ⟨D,h1.alloc o,h2⟩
theorem iD.set_ (K:j0 P k t e) {l r z:Int} {D:DataW Unit} {kl:Lit} (hD:w.ownsMap P k (plainElem P e) b n D) (h2:∀ l h kl,keyOf P k (.agg #[.int .i64 l,.int .i64 h])=O kl->Maps.has D kl=(g l h).isSome/\D.atKey kl (.lit (.int .i64 0))=.lit (.int .i64 ((g l h).getD 0)))
 (hk:keyOf P k (.agg #[.int .i64 l,.int .i64 r])=O kl) (h3:w'.ownsMap P k (plainElem P e) b (n+1) (D.put kl (.lit (.int .i64 z)))):iD P k e w' b (n+1) (eM g l r z):=by
 refine ⟨_,h3,fun l' r' kl' hk' => ?_⟩;by_cases hlr:l'=l/\r'=r
 · obtain ⟨rfl,rfl⟩:=hlr;rw [hk] at hk';obtain rfl:=Option.some.inj hk';simp only [eM,and_self,if_true,Option.isSome_some,Option.getD_some];exact ⟨has_put_same hD.isMap (K.keyed.key hk) _,atKey_put_same hD.isMap (K.keyed.key hk) _ _⟩
 have hne:kl' ≠ kl:=fun e=>by
  subst e;have:=K.keyed.inj hk hk';injection this with this;have h0:=congrArg (fun x:Array Value=>x[0]?) this;have h1:=congrArg (fun x:Array Value=>x[1]?) this;simp at h0 h1;exact hlr ⟨h0.symm,h1.symm⟩
 simp only [eM,if_neg hlr];rw [has_put_other hne,atKey_put_other hne];exact h2 l' r' kl' hk'
theorem dI {ops:Array Oper} {rest:List Oper} {o:Oper} {a:Act} {Q:Exit->Act->World->Prop}
 (hg:o.guard=S) (m x:Operand) (hop:o.op=Op.lookup t m x true) (K:j0 P k t e) (hm:a.eval m=.map (O b)) (hown:iD P k e w b n g) (l r:Int) (hx:a.eval x=.agg #[.int .i64 l,.int .i64 r]) (hl:(Lit.int .i64 l).wf=true) (hr:(Lit.int .i64 r).wf=true)
 (hK:wpList P ops Q rest (a.put o.dst (.tuple #[.int .i64 ((g l r).getD 0),.bool (g l r).isSome])) w):wpList P ops Q (o::rest) a w:=by
 obtain ⟨D,h1,h2⟩:=hown;obtain ⟨kl,hk⟩:=K.key l r hl hr;obtain ⟨e1,e2⟩:=h2 l r kl hk;refine wpList_lookup_own_ok_int w hg m x t hop k e .i64 K.keyed K.ht K.he (K.hz w) b n D hm h1 _ kl hx hk fun c hc _ => ?_;rw [hc] at e2;injection e2 with e2;injection e2 with _ e2;rw [e1,e2];exact hK
theorem oV {ops:Array Oper} {rest:List Oper} {o:Oper} {a:Act} {Q:Exit->Act->World->Prop}
 (hg:o.guard=S) (m x:Operand) (hop:o.op=Op.lookup t m x false) (K:j0 P k t e) (hm:a.eval m=.map (O b)) (hown:iD P k e w b n g) (l r:Int) (hx:a.eval x=.agg #[.int .i64 l,.int .i64 r]) (hl:(Lit.int .i64 l).wf=true) (hr:(Lit.int .i64 r).wf=true)
 (hK:wpList P ops Q rest (a.put o.dst (.int .i64 ((g l r).getD 0))) w):wpList P ops Q (o::rest) a w:=by
 obtain ⟨D,h1,h2⟩:=hown;obtain ⟨kl,hk⟩:=K.key l r hl hr;obtain ⟨e1,e2⟩:=h2 l r kl hk;refine wpList_lookup_own_int w hg m x t hop k e .i64 K.keyed K.ht K.he (K.hz w) b n D hm h1 _ kl hx hk fun c hc _ => ?_;rw [hc] at e2;injection e2 with e2;injection e2 with _ e2;rw [e2];exact hK
theorem j9 {ops:Array Oper} {rest:List Oper} {o:Oper} {a:Act} {Q:Exit->Act->World->Prop}
 (hg:o.guard=S) (m x v:Operand) (hop:o.op=Op.mapUpdate t m x v) (K:j0 P k t e) (hm:a.eval m=.map (O b)) (hown:iD P k e w b n g) (hn:n<100000000000000) (l r z:Int) (hx:a.eval x=.agg #[.int .i64 l,.int .i64 r]) (hl:(Lit.int .i64 l).wf=true) (hr:(Lit.int .i64 r).wf=true) (hv:a.eval v=.int .i64 z) (hzw:(Lit.int .i64 z).wf=true)
 (hK:∀ w',iD P k e w' b (n+1) (eM g l r z)->w.grownBy w' (O b)->wpList P ops Q rest (a.put o.dst undef) w'):wpList P ops Q (o::rest) a w:=by
 obtain ⟨D,h1,h2⟩:=hown;obtain ⟨kl,hk⟩:=K.key l r hl hr;exact wpList_mapUpdate_own w hg m x v t hop k e K.keyed K.ht (plainElem P e) b n D hm h1 (by unfold maxLen;omega) _ _ kl hx hv hk (.lit (.int .i64 z)) [] (plainElem_int K.he hzw) fun w' h3 h4=>hK w' (iD.set_ K h1 h2 hk h3) h4
end
theorem wS {P : Program} {k e : TypeId} {f1 f2 : Field} (hu : P.underlying k = O (.struct #[f1, f2])) (h1 : (f1.name != "_") = true) (h2 : (f2.name != "_") = true) (t1 : f1.type = e) (t2 : f2.type = e) (he : P.underlying e = O (.int .i64)) (o1 : f1.offset = 0) (o2 : f2.offset = 1) (hc : P.cellsOf k = 2) (hce : P.cellsOf e = 1) (hk : P.keyType k = true) (hs : 2<=P.types.size + 1) (l r : Int) (hl : (Lit.int .i64 l).wf = true) (hr : (Lit.int .i64 r).wf = true) :
 ∃ kl,keyOf P k (.agg #[.int .i64 l,.int .i64 r])=O kl:=by
 obtain ⟨d,hd⟩ : ∃ d,P.types.size+1=d+2:=⟨P.types.size-1,by omega⟩;have hf:(Value.agg #[.int .i64 l,.int .i64 r]).formed P k=true:=by simp [Value.formed,hu,hc]
 have hk2:∀ z:Int,(Lit.int .i64 z).wf=true->P.keyLits (d+1) e [.int .i64 z]=O [.int .i64 z]:=fun z hz=>by
  unfold Program.keyLits;rw [he];simp [hz]
 have hkl:P.keyLits (d+2) k [.int .i64 l,.int .i64 r]=O [.int .i64 l,.int .i64 r]:=by
  unfold Program.keyLits;rw [hu];simp only;rw [if_pos (by simp [hc,h1,h2])];simp [t1,t2,o1,o2,hce,hk2 l hl,hk2 r hr]
 refine ⟨.string (keyBytes [.int .i64 l,.int .i64 r]),?_⟩;unfold keyOf;rw [hu];simp only;rw [hk,hf,hd];simp only [Bool.and_self,if_true];show (P.keyLits (d+2) k [.int .i64 l,.int .i64 r]).map _=_;rw [hkl];rfl
theorem laidOut:laidOutB Tryz.prog=true:=by kernel_rfl
theorem tI:Tryz.prog.cellsOf 3=1:=by kernel_rfl
theorem uB:2<=Tryz.prog.types.size+1:=of_decide_eq_true (by kernel_rfl)
theorem zG:Tryz.prog.cellsOf 158=2:=by kernel_rfl
theorem I3:Tryz.prog.keyType 158=true:=by kernel_rfl
theorem I4 : (("low" : String) != "_") = true := by decide
theorem I5 : (("high" : String) != "_") = true := by decide
theorem fI:j0 Tryz.prog 158 115 3 where
 keyed:=Keyed.of_law (deep_law_laid laidOut (m:=2) aA (of_decide_eq_true (by kernel_rfl)) (by kernel_rfl) (by rw [Tryz.underlying158]))
 key:=fun l r hl hr=>wS Tryz.underlying158 I4 I5 rfl rfl Tryz.underlying3 rfl rfl zG tI I3 uB l r hl hr
 ht:=Tryz.underlying115
 he:=Tryz.underlying3
 hz:=fun w=>by kernel_rfl
theorem AI:Tryz.prog.cellsOf 68=2:=by kernel_rfl
theorem JR:Tryz.prog.keyType 68=true:=by kernel_rfl
theorem JS : (("Entry" : String) != "_") = true := by decide
theorem JT : (("Id" : String) != "_") = true := by decide
theorem qI:j0 Tryz.prog 68 122 3 where
 keyed:=Keyed.of_law (deep_law_laid laidOut (m:=2) aA (of_decide_eq_true (by kernel_rfl)) (by kernel_rfl) (by rw [Tryz.underlying68]))
 key:=fun l r hl hr=>wS Tryz.underlying68 JS JT rfl rfl Tryz.underlying3 rfl rfl AI tI JR uB l r hl hr
 ht:=Tryz.underlying122
 he:=Tryz.underlying3
 hz:=fun w=>by kernel_rfl
end
section
open Go.RowKit
def sI (g:GF) (l h z:Int):GF:=match g l h with
 | none=>eM g l h z
 | some o=>if z>o then eM g l h z else g
def oI:Nat->GF
 | 0=>fun _ _=>S
 | v+1=>eM (eM (oI v) v v 0) 0 v 0
def iL (vars:Int) (o:Nd):Bool:=decide (o.op<0)||decide (o.op>vars)||decide (o.b<0)||decide (o.b>vars)||decide (o.a < -1000)||decide (o.a>1000)
def k9 (vars:Int):List Nd->GF->Option GF
 | [],g=>O g
 | o::r,g=>if iL vars o then S else k9 vars r (sI g o.op o.b o.a)
def vO (g:GF) (mid low high:Int):GF:=match g low mid,g mid high with
 | some a,O b=>sI g low high (wrap64 (a+b))
 | _,_=>g
def gN (mid low:Int):Nat->GF->GF
 | 0,g=>g
 | k+1,g=>vO (gN mid low k g) mid low k
def gA (N:Nat) (mid:Int):Nat->GF->GF
 | 0,g=>g
 | l+1,g=>gN mid l N (gA N mid l g)
def lN (g:GF):Nat->Bool
 | 0=>false
 | v+1=>lN g v||decide ((g v v).getD 0>0)
def m7 (N:Nat):Nat->Nat->GF->Option GF
 | 0,_,g=>O g
 | r+1,mid,g=>if lN (gA N mid N g) N then S else m7 N r (mid+1) (gA N mid N g)
def mL (vars:Int) (os:List Nd):Int×GF :=
 if vars<0\/16<vars then (1,fun _ _=>S)
 else if 64<os.length then (5,fun _ _=>S)
 else match k9 vars os (oI (vars.toNat+1)) with
  | none=>(1,fun _ _=>S)
  | some g=>match m7 (vars.toNat+1) (vars.toNat+1) 0 g with
   | none=>(7,fun _ _=>S)
   | some g=>(0,g)
theorem bC {z:Int} (h1 : -9223372036854775808<=z) (h2:z<=9223372036854775807):(Lit.int .i64 z).wf=true:=WalkArith.wf_i64 ⟨h1,h2⟩
theorem eT {w w1 w2:World} {row:Option Nat} (h1:w.grownBy w1 row) (h2:w1.grownBy w2 row):w.grownBy w2 row:=by
 refine ⟨h2.os.trans h1.os,h2.tape.trans h1.tape,h2.output.trans h1.output,Nat.le_trans h1.size h2.size,fun k hk hr => ?_⟩;exact (h2.block k (Nat.lt_of_lt_of_le hk h1.size) hr).trans (h1.block k hk hr)
abbrev qC (w:World) (b n:Nat) (g:GF):Prop:=iD Tryz.prog 158 3 w b n g
def KQ (w:World) (b n:Nat) (g:GF) (e:Ending) (w':World):Prop:=e=.returned (.tuple #[])/\qC w' b n g/\w.grownBy w' (O b)
theorem tT {w:World} {b n:Nat} {g:GF} (hm:qC w b n g) (hn:n<100000) (l h z:Int) (hl:(Lit.int .i64 l).wf=true) (hh:(Lit.int .i64 h).wf=true) (hz:(Lit.int .i64 z).wf=true) :
 Calls Tryz.prog 118 #[.map (O b),.agg #[.int .i64 l,.int .i64 h],.int .i64 z] w (KQ w b (n+1) (sI g l h z)):=by
 have HM:=hid (hm.alloc (.cells #[.int .i64 l,.int .i64 h] 158));have HL:=hid hl;have HH:=hid hh;have HZ:=hid hz;have HG0:=hid (World.grownBy_alloc w (.cells #[.int .i64 l,.int .i64 h] 158) (O b));have hlt:=hm.lt;cases hg:g l h with
 | none =>
  have HR:Hid (sI g l h z=eM g l h z):=hid (by unfold sI;rw [hg]);clear hm hl hh hz;go_in;go_wp2_with (first
   | (at_lookup;go_loud (refine dI (t:=115) rfl (.tmp 9) (.tmp 10) rfl fI rfl HM.o l h rfl HL.o HH.o ?_))
   | (at_mapUpdate;go_loud (refine j9 (t:=115) rfl (.tmp 21) (.tmp 22) (.tmp 23) rfl fI rfl HM.o aA l h z rfl HL.o HH.o rfl HZ.o ?_);intro w3 hm3 hg3))
  refine bodyPost_end (results_none rfl _ _ _) rfl ⟨rfl,?_,eT HG0.o hg3⟩;rw [HR.o];exact hm3
 | some o =>
  by_cases hgt:z>o
  · have HR:Hid (sI g l h z=eM g l h z):=hid (by unfold sI;rw [hg];simp only;rw [if_pos hgt]);have hb:decide (z>o)=true:=decide_eq_true hgt;clear hm hl hh hz hgt;go_in;go_wp2_with (first
     | (at_lookup;go_loud (refine dI (t:=115) rfl (.tmp 9) (.tmp 10) rfl fI rfl HM.o l h rfl HL.o HH.o ?_))
     | (at_mapUpdate;go_loud (refine j9 (t:=115) rfl (.tmp 21) (.tmp 22) (.tmp 23) rfl fI rfl HM.o aA l h z rfl HL.o HH.o rfl HZ.o ?_);intro w3 hm3 hg3))
    refine bodyPost_end (results_none rfl _ _ _) rfl ⟨rfl,?_,eT HG0.o hg3⟩;rw [HR.o];exact hm3
  · have HR:Hid (sI g l h z=g):=hid (by unfold sI;rw [hg];simp only;rw [if_neg hgt]);have hb:decide (z>o)=false:=decide_eq_false hgt;clear hm hl hh hz hgt;go_in;go_wp2_with (first
     | (at_lookup;go_loud (refine dI (t:=115) rfl (.tmp 9) (.tmp 10) rfl fI rfl HM.o l h rfl HL.o HH.o ?_)))
    refine bodyPost_end (results_none rfl _ _ _) rfl ⟨rfl,?_,HG0.o⟩;rw [HR.o];exact HM.o.mono aA
end
section
open Go.RowKit
def II (r:Int×GF) (w:World) (e:Ending) (w':World):Prop:=∃ v,e=.returned (.tuple #[v,.int .i64 r.1])/\(r.1=0->∃ b n,v=.map (O b)/\w.heap.size<=b/\n<=50000/\qC w' b n r.2)/\Below w.heap.size w w'
theorem oH {w wr w2:World} {b:Nat} (h:Below w.heap.size w wr) (hb:w.heap.size<=b) (hg:wr.grownBy w2 (O b)):Below w.heap.size w w2:=h.grown hg h.size (fun g e=>by injection e with e;omega)
theorem J5 (z:Int):(Lit.int .i64 (wrap64 z)).wf=true:=by
 refine WalkArith.wf_i64 ?_;unfold wrap64;omega
theorem H8 {g:GF} {mid low high a b:Int} (h1:g low mid=O a) (h2:g mid high=O b):vO g mid low high=sI g low high (wrap64 (a+b)):=by unfold vO;rw [h1,h2]
theorem E0 {g:GF} {mid low high:Int} (h1:g low mid=S):vO g mid low high=g:=by unfold vO;rw [h1]
theorem E2 {g:GF} {mid low high:Int} (h2:g mid high=S):vO g mid low high=g:=by unfold vO;rw [h2];cases g low mid<;>rfl
theorem CR {vars:Int} {o:Nd} (h:iL vars o=true):(o.op<0)\/(¬ o.op<0/\o.op>vars)\/(¬ o.op<0/\¬ o.op>vars/\o.b<0)\/(¬ o.op<0/\¬ o.op>vars/\¬ o.b<0/\o.b>vars)\/(¬ o.op<0/\¬ o.op>vars/\¬ o.b<0/\¬ o.b>vars/\o.a < -1000)\/(¬ o.op<0/\¬ o.op>vars/\¬ o.b<0/\¬ o.b>vars/\¬ o.a < -1000/\o.a>1000):=by
 simp only [iL,Bool.or_eq_true,decide_eq_true_eq] at h;omega
theorem uI {vars:Int} {o:Nd} (h:iL vars o=false) : ¬ o.op<0/\¬ o.op>vars/\¬ o.b<0/\¬ o.b>vars/\¬ o.a < -1000/\¬ o.a>1000:=by
 simp only [iL,Bool.or_eq_false_iff,decide_eq_false_iff_not] at h;omega
theorem EV {N r mid:Nat} {g:GF}:m7 N (r+1) mid g=if lN (gA N mid N g) N then S else m7 N r (mid+1) (gA N mid N g):=rfl
theorem vX {g:GF} {k:Nat} : ∀ {m:Nat},k<=m->lN g k=true->lN g m=true
 | 0,h,hc=>by
  obtain rfl:k=0:=aA;exact hc
 | m+1,h,hc=>by
  rcases Nat.lt_or_ge k (m+1) with h1 | h1
  · simp only [lN];rw [vX (m:=m) aA hc,Bool.true_or]
  · obtain rfl:k=m+1:=aA;exact hc
set_option linter.unusedSimpArgs false in
set_option linter.unusedVariables false in
theorem zC {vars:Int} {A:Option Addr} {n c:Nat} {os:List Nd} {w:World} (hv:(Lit.int .i64 vars).wf=true) (ht:aQ w A n c os) :
 Calls Tryz.prog 71 #[.int .i64 vars,.slice A n c] w (II (mL vars os) w):=by
 have hlen:=ht.len;have hnf:=ht.few;by_cases h1:vars<0\/16<vars
 · have HR:Hid (mL vars os=(1,fun _ _=>S)):=hid (by unfold mL;rw [if_pos h1]);clear ht hlen hv;by_cases h0:vars<0
   · have hb:decide (vars<0)=true:=decide_eq_true h0;clear h1 h0;go_in;go_wp2_with fail
     go_ret2;rw [HR.o];exact ⟨_,rfl,fun e=>(by cases e),Below.refl _ _⟩
   have hb:decide (vars<0)=false:=decide_eq_false h0;have hb2:decide (vars>16)=true:=decide_eq_true aA;clear h1 h0;go_in;go_wp2_with fail
   go_ret2;rw [HR.o];exact ⟨_,rfl,fun e=>(by cases e),Below.refl _ _⟩
 have hb:decide (vars<0)=false:=decide_eq_false aA;have hb2:decide (vars>16)=false:=decide_eq_false aA;by_cases h64:64<os.length
 · have HR:Hid (mL vars os=(5,fun _ _=>S)):=hid (by unfold mL;rw [if_neg h1,if_pos h64]);have hb3:decide ((n:Int)>64)=true:=decide_eq_true aA;clear ht hlen hv h1;go_in;go_wp2_with fail
   go_ret2;rw [HR.o];exact ⟨_,rfl,fun e=>(by cases e),Below.refl _ _⟩
 have hb3:decide ((n:Int)>64)=false:=decide_eq_false aA;have HR:Hid (mL vars os=match k9 vars os (oI (vars.toNat+1)) with
  | none=>(1,fun _ _=>S)
  | some g=>match m7 (vars.toNat+1) (vars.toNat+1) 0 g with
   | none=>(7,fun _ _=>S)
   | some g=>(0,g)):=hid (by unfold mL;rw [if_neg h1,if_neg h64];try rfl)
 obtain ⟨vn,rfl⟩ : ∃ vn:Nat,vars=(vn:Int):=⟨vars.toNat,by omega⟩;rw [Int.toNat_natCast] at HR;have hvn:vn<=16:=aA;have hn64:n<=64:=aA;have HT:=hid (fun (w':World) (h:Below w.heap.size w w')=>ht.below h);have HL:=hid hlen;obtain ⟨res,hres⟩ : ∃ res,res=mL (vn:Int) os:=⟨_,rfl⟩;rw [<-hres] at HR ⊢;have HM0:=hid (iD.made w Tryz.prog 158 3);have HB0:=hid (aB w (.map #[] 0));have hmm:=@run_makeMap Tryz.prog;clear hres ht hlen hv h1 h64;go_in;go_wp2_with fail
 go_loopw [30] (fun iv wr=>∃ v:Nat,iv=.int .i64 (v:Int)/\v<=vn+1/\Hid (qC wr w.heap.size (2*v) (oI v))/\Hid (Below w.heap.size w wr)) (fun i _=>vn+1-(intOf i).toNat)
 case atStart=>exact ⟨0,rfl,by omega,HM0,HB0⟩
 case round =>
  obtain ⟨v,rfl,hvl,hm,hbw⟩:=hrel;by_cases hlt:v<vn+1
  · have hvb:decide ((v:Int)<(vn:Int)+1)=true:=decide_eq_true aA;have tok1:True:=trivial;go_wp2_with (first
     | (at_mapUpdate;have _t:=tok1;go_loud (refine j9 (t:=115) rfl (.tmp 33) (.tmp 36) _ rfl fI rfl hm.o aA (v:Int) (v:Int) 0 rfl (bC aA aA) (bC aA aA) rfl (bC aA aA) ?_);intro w2 hm2 hg2;have HM2:=hid hm2;have HB2:=hid (oH hbw.o (Nat.le_refl _) hg2);clear tok1 _t hm2 hg2)
     | (at_mapUpdate;go_loud (refine j9 (t:=115) rfl (.tmp 37) (.tmp 39) _ rfl fI rfl HM2.o aA 0 (v:Int) 0 rfl (bC aA aA) (bC aA aA) rfl (bC aA aA) ?_);intro w3 hm3 hg3;have HM3:=hid hm3;have HB3:=hid (oH HB2.o (Nat.le_refl _) hg3);clear hm3 hg3))
    go_roundw
    case rel=>exact ⟨v+1,by go_num,by omega,hid (HM3.o.mono aA),HB3⟩
    case measure=>simp [intOf];omega
  have hve:v=vn+1:=aA;have hvb:decide ((v:Int)<(vn:Int)+1)=false:=decide_eq_false aA;rw [hve] at hm;have hm:Hid (qC wr w.heap.size (34+0) (oI (vn+1))):=hid (hm.o.mono aA);clear hve;obtain ⟨w1,rfl⟩ : ∃ w1:World,w1=wr:=⟨_,rfl⟩;go_wp2_with fail
  go_loopw [43] (fun iv wr=>∃ (i:Nat) (g:GF),iv=.int .i64 (i:Int)/\i<=n/\Hid (k9 (vn:Int) (os.drop i) g=k9 (vn:Int) os (oI (vn+1)))/\Hid (qC wr w.heap.size (34+i) g)/\Hid (Below w.heap.size w wr)) (fun i _=>n-(intOf i).toNat)
  case atStart=>exact ⟨0,_,rfl,by omega,hid rfl,hm,hbw⟩
  case round =>
   clear hm hbw;obtain ⟨i,g,rfl,hin,hord,hm,hbw⟩:=hrel;by_cases hlti:i<n
   · have hib:decide ((i:Int)<(n:Int))=true:=decide_eq_true aA;obtain ⟨b,off,rfl,hbb,hc0,hc1,hc2⟩:=(HT.o wr hbw.o).at_ hlti;have hil:i<os.length:=by rw [HL.o];exact hlti
     obtain ⟨o,ho⟩ : ∃ o,o=aL os i:=⟨_,rfl⟩;rw [<-ho] at hc0 hc1 hc2;have hog:=hord.o;rw [List.drop_eq_getElem_cons hil,show os[i]=o from by rw [ho];unfold aL;rw [List.getD_eq_getElem?_getD,List.getElem?_eq_getElem hil];rfl] at hog;have HBa:=hid (hbw.o.trans ((aB wr (.cells #[.int .i64 o.op,.int .i64 o.a,.int .i64 o.b] 78)).mono hbw.o.size));have HMa:=hid (hm.o.alloc (.cells #[.int .i64 o.op,.int .i64 o.a,.int .i64 o.b] 78));by_cases hbad:iL (vn:Int) o=true
     · have HRES:Hid (res=(1,fun _ _=>S)):=hid (by
        rw [HR.o,<-hog];simp only [k9];rw [if_pos hbad])
       have hsp:=CR hbad;generalize o.op=lo at *;generalize o.a=ad at *;generalize o.b=hi at *;clear hog hbad ho;rcases hsp with h | ⟨g1,h⟩ | ⟨g1,g2,h⟩ | ⟨g1,g2,g3,h⟩ | ⟨g1,g2,g3,g4,h⟩ | ⟨g1,g2,g3,g4,g5,h⟩;all_goals
        (try have d1:=decide_eq_false g1)
        (try have d2:=decide_eq_false g2)
        (try have d3:=decide_eq_false g3)
        (try have d4:=decide_eq_false g4)
        (try have d5:=decide_eq_false g5)
        have d6:=decide_eq_true h
        (try clear g1)
        (try clear g2)
        (try clear g3)
        (try clear g4)
        (try clear g5)
        clear h;go_wp2_with fail
        go_ret2;rw [HRES.o];exact ⟨_,rfl,fun e=>(by cases e),HBa.o⟩
     have hbf:iL (vn:Int) o=false:=by simpa using hbad
     have HON:Hid (k9 (vn:Int) (os.drop (i+1)) (sI g o.op o.b o.a)=k9 (vn:Int) os (oI (vn+1))):=hid (by
      rw [<-hog];simp only [k9];rw [if_neg hbad])
     obtain ⟨g1,g2,g3,g4,g5,g6⟩:=uI hbf;generalize o.op=lo at *;generalize o.a=ad at *;generalize o.b=hi at *;have HC:=hid (tT HMa.o aA lo hi ad (bC aA aA) (bC aA aA) (bC aA aA));have d1:=decide_eq_false g1;have d2:=decide_eq_false g2;have d3:=decide_eq_false g3;have d4:=decide_eq_false g4;have d5:=decide_eq_false g5;have d6:=decide_eq_false g6;clear hog hbad hbf ho g1 g2 g3 g4 g5 g6;go_wp2_with fail
     refine (HC.o).mono ?_;rintro e w3 ⟨rfl,hm3,hg3⟩;have HM3:=hid hm3;have HB3:=hid (oH HBa.o (Nat.le_refl _) hg3);clear hm3 hg3;go_wp2_with fail
     go_roundw
     case rel=>exact ⟨i+1,_,by go_num,by omega,HON,hid (HM3.o.mono aA),HB3⟩
     case measure=>simp [intOf];omega
   obtain rfl:i=n:=aA;have hib:decide ((i:Int)<(i:Int))=false:=decide_eq_false aA;have hog:=hord.o;rw [<-HL.o,List.drop_length] at hog;have HR2:Hid (res=match m7 (vn+1) (vn+1) 0 g with
    | none=>(7,fun _ _=>S)
    | some g=>(0,g)):=hid (by rw [HR.o,<-hog];rfl)
   obtain ⟨w2,rfl⟩ : ∃ w2:World,w2=wr:=⟨_,rfl⟩;obtain ⟨g0,hg0⟩ : ∃ g0:GF,g0=g:=⟨_,rfl⟩;rw [<-hg0] at HR2 hm;clear hog hord hg0;go_wp2_with fail
   go_loopw [89] (fun iv wr=>∃ (m:Nat) (g:GF),iv=.int .i64 (m:Int)/\m<=vn+1/\Hid (m7 (vn+1) (vn+1-m) m g=m7 (vn+1) (vn+1) 0 g0)/\Hid (qC wr w.heap.size (100+400*m) g)/\Hid (Below w.heap.size w wr)) (fun i _=>vn+1-(intOf i).toNat)
   case atStart=>exact ⟨0,g0,rfl,by omega,hid rfl,hid (hm.o.mono aA),hbw⟩
   case round =>
    clear hm hbw;obtain ⟨m,g,rfl,hml,hrun,hm,hbw⟩:=hrel;by_cases hltm:m<vn+1;rotate_left
    · have hme:m=vn+1:=aA;have hmb:decide ((m:Int)<(vn:Int)+1)=false:=decide_eq_false aA;have HRES:Hid (res=(0,g)):=hid (by
       have:=hrun.o;rw [show vn+1-m=0 from by omega] at this;rw [HR2.o,<-this];rfl)
      have hmb2:100+400*m<=50000:=aA;clear hme;go_wp2_with fail
      go_ret2;rw [HRES.o];exact ⟨_,rfl,fun _=>⟨_,_,rfl,Nat.le_refl _,by omega,hm.o⟩,hbw.o⟩
    have hmb:decide ((m:Int)<(vn:Int)+1)=true:=decide_eq_true aA;obtain ⟨w3,rfl⟩ : ∃ w3:World,w3=wr:=⟨_,rfl⟩;obtain ⟨gm,hgm⟩ : ∃ gm:GF,gm=g:=⟨_,rfl⟩;rw [<-hgm] at hrun hm;clear hgm;have hru:=hrun.o;rw [show vn+1-m=(vn+1-(m+1))+1 from by omega] at hru;rw [EV (r:=vn+1-(m+1))] at hru;have HRU:=hid hru;clear hru hrun;go_wp2_with fail
    go_loopw [94] (fun iv wr=>∃ (l:Nat),iv=.int .i64 (l:Int)/\l<=vn+1/\Hid (qC wr w.heap.size (100+400*m+17*l) (gA (vn+1) m l gm))/\Hid (Below w.heap.size w wr)) (fun i _=>vn+1-(intOf i).toNat)
    case atStart=>exact ⟨0,rfl,by omega,hid (hm.o.mono aA),hbw⟩
    case round =>
     clear hm hbw;obtain ⟨l,rfl,hll,hm,hbw⟩:=hrel;by_cases hltl:l<vn+1;rotate_left
     · have hle:l=vn+1:=aA;have hlb:decide ((l:Int)<(vn:Int)+1)=false:=decide_eq_false aA;rw [hle] at hm;have hm:Hid (qC wr w.heap.size (100+400*m+17*17) (gA (vn+1) m (vn+1) gm)):=hid (hm.o.mono aA);clear hle;obtain ⟨w4,rfl⟩ : ∃ w4:World,w4=wr:=⟨_,rfl⟩;obtain ⟨gl,hgl⟩ : ∃ gl:GF,gl=gA (vn+1) m (vn+1) gm:=⟨_,rfl⟩;rw [<-hgl] at hm HRU;clear hgl;go_wp2_with fail
       go_loopw [134] (fun iv wr=>∃ (k:Nat),iv=.int .i64 (k:Int)/\k<=vn+1/\Hid (lN gl k=false)/\wr=w4) (fun i _=>vn+1-(intOf i).toNat)
       case atStart=>exact ⟨0,rfl,by omega,hid rfl,rfl⟩
       case round =>
        obtain ⟨k,rfl,hkl,hcy,rfl⟩:=hrel;by_cases hltk:k<vn+1
        · have hkb:decide ((k:Int)<(vn:Int)+1)=true:=decide_eq_true aA;by_cases hpos:(gl k k).getD 0>0
          · have hpb:decide ((gl k k).getD 0>0)=true:=decide_eq_true hpos;have HCY:Hid (lN gl (vn+1)=true):=hid (vX (k:=k+1) aA (by simp only [lN];rw [hpb,Bool.or_true]));have HRES:Hid (res=(7,fun _ _=>S)):=hid (by rw [HR2.o,<-HRU.o,if_pos HCY.o]);clear hpos;go_wp2_with (first
             | (at_lookup;go_loud (refine oV (t:=115) rfl (.tmp 137) (.tmp 140) rfl fI rfl hm.o (k:Int) (k:Int) rfl (bC aA aA) (bC aA aA) ?_)))
            go_ret2;rw [HRES.o];exact ⟨_,rfl,fun e=>(by cases e),hbw.o⟩
          have hpb:decide ((gl k k).getD 0>0)=false:=decide_eq_false hpos;have HCY:Hid (lN gl (k+1)=false):=hid (by simp only [lN];rw [hpb,hcy.o];rfl);clear hpos;go_wp2_with (first
           | (at_lookup;go_loud (refine oV (t:=115) rfl (.tmp 137) (.tmp 140) rfl fI rfl hm.o (k:Int) (k:Int) rfl (bC aA aA) (bC aA aA) ?_)))
          go_roundw
          case rel=>exact ⟨k+1,by go_num,by omega,HCY,trivial⟩
          case measure=>simp [intOf];omega
        have hke:k=vn+1:=aA;have hkb:decide ((k:Int)<(vn:Int)+1)=false:=decide_eq_false aA;rw [hke] at hcy;clear hke;have HRN:Hid (m7 (vn+1) (vn+1-(m+1)) ((m+1:Nat)) gl=m7 (vn+1) (vn+1) 0 g0):=hid (by
         rw [<-HRU.o,if_neg (by rw [hcy.o];decide)])
        have HMN:=hid (hm.o.mono (m:=100+400*(m+1)) aA);clear hm;go_wp2_with fail
        go_roundw
        case rel=>exact ⟨m+1,gl,by go_num,by omega,HRN,HMN,hbw⟩
        case measure=>simp [intOf];omega
     have hlb:decide ((l:Int)<(vn:Int)+1)=true:=decide_eq_true aA;obtain ⟨w4,rfl⟩ : ∃ w4:World,w4=wr:=⟨_,rfl⟩;obtain ⟨gl,hgl⟩ : ∃ gl:GF,gl=gA (vn+1) m l gm:=⟨_,rfl⟩;rw [<-hgl] at hm;have HGL:=hid hgl;clear hgl;go_wp2_with fail
     go_loopw [99] (fun iv wr=>∃ (k:Nat),iv=.int .i64 (k:Int)/\k<=vn+1/\Hid (qC wr w.heap.size (100+400*m+17*l+k) (gN m l k gl))/\Hid (Below w.heap.size w wr)) (fun i _=>vn+1-(intOf i).toNat)
     case atStart=>exact ⟨0,rfl,by omega,hid (hm.o.mono aA),hbw⟩
     case round =>
      clear hm hbw;obtain ⟨k,rfl,hkl,hm,hbw⟩:=hrel;by_cases hltk:k<vn+1;rotate_left
      · have hke:k=vn+1:=aA;have hkb:decide ((k:Int)<(vn:Int)+1)=false:=decide_eq_false aA;rw [hke] at hm;clear hke;have HML:Hid (qC wr w.heap.size (100+400*m+17*(l+1)) (gA (vn+1) m (l+1) gm)):=hid (by
         show qC _ _ _ (gN m l (vn+1) (gA (vn+1) m l gm));rw [<-HGL.o];exact hm.o.mono aA)
        clear hm;go_wp2_with fail
        go_roundw
        case rel=>exact ⟨l+1,by go_num,by omega,HML,hbw⟩
        case measure=>simp [intOf];omega
      have hkb:decide ((k:Int)<(vn:Int)+1)=true:=decide_eq_true aA;obtain ⟨gk,hgk⟩ : ∃ gk:GF,gk=gN m l k gl:=⟨_,rfl⟩;rw [<-hgk] at hm;have HGK:Hid (gN m l (k+1) gl=vO gk m l k):=hid (by rw [hgk];rfl);clear hgk;cases hx:gk (l:Int) (m:Int) with
      | none =>
       have HSN:Hid (gN m l (k+1) gl=gk):=hid (by rw [HGK.o,E0 hx]);have tok1:True:=trivial;go_wp2_with (first
        | (at_lookup;have _t:=tok1;go_loud (refine dI (t:=115) rfl (.tmp 103) (.tmp 106) rfl fI rfl hm.o (l:Int) (m:Int) rfl (bC aA aA) (bC aA aA) ?_);clear tok1 _t)
        | (at_lookup;go_loud (refine dI (t:=115) rfl (.tmp 111) (.tmp 114) rfl fI rfl hm.o (m:Int) (k:Int) rfl (bC aA aA) (bC aA aA) ?_)))
       go_roundw
       case rel=>exact ⟨k+1,by go_num,by omega,hid (by rw [HSN.o];exact hm.o.mono aA),hbw⟩
       case measure=>simp [intOf];omega
      | some xa =>
       cases hy:gk (m:Int) (k:Int) with
       | none =>
        have HSN:Hid (gN m l (k+1) gl=gk):=hid (by rw [HGK.o,E2 hy]);have tok1:True:=trivial;go_wp2_with (first
         | (at_lookup;have _t:=tok1;go_loud (refine dI (t:=115) rfl (.tmp 103) (.tmp 106) rfl fI rfl hm.o (l:Int) (m:Int) rfl (bC aA aA) (bC aA aA) ?_);clear tok1 _t)
         | (at_lookup;go_loud (refine dI (t:=115) rfl (.tmp 111) (.tmp 114) rfl fI rfl hm.o (m:Int) (k:Int) rfl (bC aA aA) (bC aA aA) ?_)))
        go_roundw
        case rel=>exact ⟨k+1,by go_num,by omega,hid (by rw [HSN.o];exact hm.o.mono aA),hbw⟩
        case measure=>simp [intOf];omega
       | some ya =>
        have HSN:Hid (gN m l (k+1) gl=sI gk l k (wrap64 (xa+ya))):=hid (by rw [HGK.o,H8 hx hy]);have HC:=hid (tT hm.o aA (l:Int) (k:Int) (wrap64 (xa+ya)) (bC aA aA) (bC aA aA) (J5 _));have tok1:True:=trivial;go_wp2_with (first
         | (at_lookup;have _t:=tok1;go_loud (refine dI (t:=115) rfl (.tmp 103) (.tmp 106) rfl fI rfl hm.o (l:Int) (m:Int) rfl (bC aA aA) (bC aA aA) ?_);clear tok1 _t)
         | (at_lookup;go_loud (refine dI (t:=115) rfl (.tmp 111) (.tmp 114) rfl fI rfl hm.o (m:Int) (k:Int) rfl (bC aA aA) (bC aA aA) ?_)))
        refine (HC.o).mono ?_;rintro e w5 ⟨rfl,hm5,hg5⟩;have HM5:=hid hm5;have HB5:=hid (oH hbw.o (Nat.le_refl _) hg5);clear hm5 hg5;go_wp2_with fail
        go_roundw
        case rel=>exact ⟨k+1,by go_num,by omega,hid (by rw [HSN.o];exact HM5.o.mono aA),HB5⟩
        case measure=>simp [intOf];omega
theorem CY {vars:Int} {A:Option Addr} {n c:Nat} {os:List Nd} {w:World} (hv:(Lit.int .i64 vars).wf=true) (ht:aQ w A n c os) :
 Calls Tryz.prog 27 #[.int .i64 vars,.slice A n c] w (gD (mL vars os).1 w):=by
 have HC:=hid (zC hv ht);generalize (mL vars os)=res at *;clear ht hv;go_in;go_wp2_with fail
 refine (HC.o).mono ?_;rintro e w2 ⟨v,rfl,_,hb2⟩;have HB2:=hid hb2;clear hb2;go_wp2_with fail
 go_ret;exact ⟨rfl,HB2.o⟩
end
end Go.Proofs.YtplecfbdchmogaaGreat
