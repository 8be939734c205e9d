/- Merged: MapG, LevelP, Level. -/
import Derived.Maps.OwnOps
import Derived.Maps.OwnSet
import Derived.DeepKeys4
import Derived.Test.YtjoddliplahgkaaGreatChecked
import Derived.Test.YtjoddliplahgkaaGreatPRowsD
namespace Go.Proofs.YtjoddliplahgkaaGreat
set_option linter.unusedVariables false
set_option linter.unusedSimpArgs false
open Go.RowKit
open Option renaming some → O, none → S
open Go.Lib renaming hid->aB
set_option maxHeartbeats 8000000
set_option maxRecDepth 100000
section
open Go.RowKit Go.Maps
abbrev GF:=Int->Int->Option Int
def gB (g:GF) (l h z:Int):GF:=fun a b=>if a=l/\b=h then O z else g a b
structure kL (P:Program) (k t e:TypeId):Prop where
 keyed:Keyed P k
 key:∀l h:Int,(Lit.int .i64 l).wf=true->(Lit.int .i64 h).wf=true->∃kl,keyOf P k (.agg #[.int .i64 l,.int .i64 h])=O kl
 ht:P.underlying t=O (.map k e)
 he:P.underlying e=O (.int .i64)
 hz:∀w,(zeroValue e).run P w=.ok (.int .i64 0) w
def iH (P:Program) (k e:TypeId) (w:World) (b n:Nat) (g:GF):Prop :=
 ∃D:DataW Unit,w.ownsMap P k (plainElem P e) b n D/\∀l h kl,keyOf P k (.agg #[.int .i64 l,.int .i64 h])=O kl->Maps.has D kl=(g l h).isSome/\D.atKey kl (.lit (.int .i64 0))=.lit (.int .i64 ((g l h).getD 0))
section
variable {P : Program} {k t e : TypeId} {w w' : World} {b n : Nat} {g : GF}
theorem iH.made (w:World) (P:Program) (k e:TypeId):iH P k e (w.alloc (.map #[] 0)) w.heap.size 0 (fun _ _=>S) :=
 ⟨.map [],World.ownsMap_made w P k _,fun _ _ _ _=>⟨rfl,rfl⟩⟩
theorem iH.mono (h:iH P k e w b n g) {m:Nat} (hm:n<=m):iH P k e w b m g:=by
 obtain⟨D,h1,h2⟩:=h;exact⟨D,h1.mono hm,h2⟩
theorem iH.lt (h:iH P k e w b n g):b<w.heap.size:=by
 obtain⟨D,h1,h2⟩:=h;exact h1.lt
theorem iH.kept {row:Option Nat} (h:iH P k e w b n g) (hg:w.grownBy w' row) (hne:O b ≠ row):iH P k e w' b n g:=by
 obtain⟨D,h1,h2⟩:=h;exact⟨D,h1.kept hg hne,h2⟩
theorem iH.alloc (h:iH P k e w b n g) (o:Obj):iH P k e (w.alloc o) b n g:=by
 obtain⟨D,h1,h2⟩:=h;exact⟨D,h1.alloc o,h2⟩
theorem iH.set_ (K:kL P k t e) {l r z:Int} {D:DataW Unit} {kl:Lit} (hD:w.ownsMap P k (plainElem P e) b n D) (h2:∀l h kl,keyOf P k (.agg #[.int .i64 l,.int .i64 h])=O kl->Maps.has D kl=(g l h).isSome/\D.atKey kl (.lit (.int .i64 0))=.lit (.int .i64 ((g l h).getD 0)))
 (hk:keyOf P k (.agg #[.int .i64 l,.int .i64 r])=O kl) (h3:w'.ownsMap P k (plainElem P e) b (n+1) (D.put kl (.lit (.int .i64 z)))):iH P k e w' b (n+1) (gB g l r z):=by
 refine⟨_,h3,fun l' r' kl' hk' => ?_⟩;by_cases hlr:l'=l/\r'=r
 · obtain⟨rfl,rfl⟩:=hlr;rw[hk] at hk';obtain rfl:=Option.some.inj hk';simp only[gB,and_self,if_true,Option.isSome_some,Option.getD_some];exact⟨has_put_same hD.isMap (K.keyed.key hk) _,atKey_put_same hD.isMap (K.keyed.key hk) _ _⟩
 have a0:kl' ≠ kl:=fun e=>by
  subst e;have:=K.keyed.inj hk hk';injection this with this;have h0:=congrArg (fun x:Array Value=>x[0]?) this;have h1:=congrArg (fun x:Array Value=>x[1]?) this;simp at h0 h1;exact hlr ⟨h0.symm,h1.symm⟩
 simp only[gB,if_neg hlr];rw[has_put_other a0,atKey_put_other a0];exact h2 l' r' kl' hk'
theorem dZ {ops:Array Oper} {rest:List Oper} {o:Oper} {a:Act} {Q:Exit->Act->World->Prop}
 (hg:o.guard=S) (m x:Operand) (hop:o.op=Op.lookup t m x true) (K:kL P k t e) (hm:a.eval m=.map (O b)) (hown:iH P k e w b n g) (l r:Int) (hx:a.eval x=.agg #[.int .i64 l,.int .i64 r]) (hl:(Lit.int .i64 l).wf=true) (hr:(Lit.int .i64 r).wf=true)
 (hK:wpList P ops Q rest (a.put o.dst (.tuple #[.int .i64 ((g l r).getD 0),.bool (g l r).isSome])) w):wpList P ops Q (o::rest) a w:=by
 obtain⟨D,h1,h2⟩:=hown;obtain⟨kl,hk⟩:=K.key l r hl hr;obtain⟨e1,e2⟩:=h2 l r kl hk;refine wpList_lookup_own_ok_int w hg m x t hop k e .i64 K.keyed K.ht K.he (K.hz w) b n D hm h1 _ kl hx hk fun c hc _ => ?_;rw[hc] at e2;injection e2 with e2;injection e2 with _ e2;rw[e1,e2];exact hK
theorem qK {ops:Array Oper} {rest:List Oper} {o:Oper} {a:Act} {Q:Exit->Act->World->Prop}
 (hg:o.guard=S) (m x:Operand) (hop:o.op=Op.lookup t m x false) (K:kL P k t e) (hm:a.eval m=.map (O b)) (hown:iH P k e w b n g) (l r:Int) (hx:a.eval x=.agg #[.int .i64 l,.int .i64 r]) (hl:(Lit.int .i64 l).wf=true) (hr:(Lit.int .i64 r).wf=true)
 (hK:wpList P ops Q rest (a.put o.dst (.int .i64 ((g l r).getD 0))) w):wpList P ops Q (o::rest) a w:=by
 obtain⟨D,h1,h2⟩:=hown;obtain⟨kl,hk⟩:=K.key l r hl hr;obtain⟨e1,e2⟩:=h2 l r kl hk;refine wpList_lookup_own_int w hg m x t hop k e .i64 K.keyed K.ht K.he (K.hz w) b n D hm h1 _ kl hx hk fun c hc _ => ?_;rw[hc] at e2;injection e2 with e2;injection e2 with _ e2;rw[e2];exact hK
theorem kO {ops:Array Oper} {rest:List Oper} {o:Oper} {a:Act} {Q:Exit->Act->World->Prop}
 (hg:o.guard=S) (m x v:Operand) (hop:o.op=Op.mapUpdate t m x v) (K:kL P k t e) (hm:a.eval m=.map (O b)) (hown:iH P k e w b n g) (hn:n<100000000000000) (l r z:Int) (hx:a.eval x=.agg #[.int .i64 l,.int .i64 r]) (hl:(Lit.int .i64 l).wf=true) (hr:(Lit.int .i64 r).wf=true) (hv:a.eval v=.int .i64 z) (hzw:(Lit.int .i64 z).wf=true)
 (hK:∀w',iH P k e w' b (n+1) (gB g l r z)->w.grownBy w' (O b)->wpList P ops Q rest (a.put o.dst undef) w'):wpList P ops Q (o::rest) a w:=by
 obtain⟨D,h1,h2⟩:=hown;obtain⟨kl,hk⟩:=K.key l r hl hr;exact wpList_mapUpdate_own w hg m x v t hop k e K.keyed K.ht (plainElem P e) b n D hm h1 aJ _ _ kl hx hv hk (.lit (.int .i64 z)) [] (plainElem_int K.he hzw) fun w' h3 h4=>hK w' (iH.set_ K h1 h2 hk h3) h4
end
theorem BZ {P : Program} {k e : TypeId} {f1 f2 : Field} (hu : P.underlying k = O (.struct #[f1, f2])) (h1 : (f1.name != "_") = true) (h2 : (f2.name != "_") = true) (t1 : f1.type = e) (t2 : f2.type = e) (he : P.underlying e = O (.int .i64)) (o1 : f1.offset = 0) (o2 : f2.offset = 1) (hc : P.cellsOf k = 2) (hce : P.cellsOf e = 1) (hk : P.keyType k = true) (hs : 2<=P.types.size + 1) (l r : Int) (hl : (Lit.int .i64 l).wf = true) (hr : (Lit.int .i64 r).wf = true) :
 ∃kl,keyOf P k (.agg #[.int .i64 l,.int .i64 r])=O kl:=by
 obtain⟨d,hd⟩ : ∃d,P.types.size+1=d+2:=⟨P.types.size-1,by omega⟩;have hf:(Value.agg #[.int .i64 l,.int .i64 r]).formed P k=true:=by simp[Value.formed,hu,hc]
 have a0:∀z:Int,(Lit.int .i64 z).wf=true->P.keyLits (d+1) e [.int .i64 z]=O [.int .i64 z]:=fun z hz=>by
  unfold Program.keyLits;rw[he];simp[hz]
 have a1:P.keyLits (d+2) k [.int .i64 l,.int .i64 r]=O [.int .i64 l,.int .i64 r]:=by
  unfold Program.keyLits;rw[hu];simp only;rw[if_pos (by simp[hc,h1,h2])];simp[t1,t2,o1,o2,hce,a0 l hl,a0 r hr]
 refine⟨.string (keyBytes [.int .i64 l,.int .i64 r]),?_⟩;unfold keyOf;rw[hu];simp only;rw[hk,hf,hd];simp only[Bool.and_self,if_true];show (P.keyLits (d+2) k [.int .i64 l,.int .i64 r]).map _=_;rw[a1];rfl
theorem laidOut:laidOutB Tryz.prog=true:=by kernel_rfl
theorem wS:Tryz.prog.cellsOf 3=1:=by kernel_rfl
theorem yG:2<=Tryz.prog.types.size+1:=of_decide_eq_true aC
theorem EF:Tryz.prog.cellsOf 168=2:=by kernel_rfl
theorem OT:Tryz.prog.keyType 168=true:=by kernel_rfl
theorem OU : (("low" : String) != "_") = true := by decide
theorem OV : (("high" : String) != "_") = true := by decide
theorem fU:kL Tryz.prog 168 135 3 where
 keyed:=Keyed.of_law (deep_law_laid laidOut (m:=2) aA (of_decide_eq_true aC) aC (by rw[Tryz.underlying168]))
 key:=fun l r hl hr=>BZ Tryz.underlying168 OU OV rfl rfl Tryz.underlying3 rfl rfl EF wS OT yG l r hl hr
 ht:=Tryz.underlying135
 he:=Tryz.underlying3
 hz:=fun w=>by kernel_rfl
theorem FB:Tryz.prog.cellsOf 69=2:=by kernel_rfl
theorem PH:Tryz.prog.keyType 69=true:=by kernel_rfl
theorem PI : (("Entry" : String) != "_") = true := by decide
theorem PJ : (("Id" : String) != "_") = true := by decide
theorem sO:kL Tryz.prog 69 142 3 where
 keyed:=Keyed.of_law (deep_law_laid laidOut (m:=2) aA (of_decide_eq_true aC) aC (by rw[Tryz.underlying69]))
 key:=fun l r hl hr=>BZ Tryz.underlying69 PI PJ rfl rfl Tryz.underlying3 rfl rfl FB wS PH yG l r hl hr
 ht:=Tryz.underlying142
 he:=Tryz.underlying3
 hz:=fun w=>by kernel_rfl
end
def vJ (g:GF) (l h z:Int):GF:=match g l h with
 | none=>gB g l h z
 | some o=>if z>o then gB g l h z else g
def qZ:Nat->GF
 | 0=>fun _ _=>S
 | v+1=>gB (gB (qZ v) v v 0) 0 v 0
def jK (vars:Int) (o:Nd):Bool:=decide (o.op<0)||decide (o.op>vars)||decide (o.b<0)||decide (o.b>vars)||decide (o.a < -1000)||decide (o.a>1000)
def oE (vars:Int):List Nd->GF->Option GF
 | [],g=>O g
 | o::r,g=>if jK vars o then S else oE vars r (vJ g o.op o.b o.a)
def AJ (g:GF) (mid low high:Int):GF:=match g low mid,g mid high with
 | some a,O b=>vJ g low high (wrap64 (a+b))
 | _,_=>g
def gU (mid low:Int):Nat->GF->GF
 | 0,g=>g
 | k+1,g=>AJ (gU mid low k g) mid low k
def gL (N:Nat) (mid:Int):Nat->GF->GF
 | 0,g=>g
 | l+1,g=>gU mid l N (gL N mid l g)
def mB (g:GF):Nat->Bool
 | 0=>false
 | v+1=>mB g v||decide ((g v v).getD 0>0)
def oF (N:Nat):Nat->Nat->GF->Option GF
 | 0,_,g=>O g
 | r+1,mid,g=>if mB (gL N mid N g) N then S else oF N r (mid+1) (gL N mid N g)
def pC (vars:Int) (os:List Nd):Int×GF :=
 if vars<0\/16<vars then (1,fun _ _=>S)
 else if 64<os.length then (5,fun _ _=>S)
 else match oE vars os (qZ (vars.toNat+1)) with
  | none=>(1,fun _ _=>S)
  | some g=>match oF (vars.toNat+1) (vars.toNat+1) 0 g with
   | none=>(7,fun _ _=>S)
   | some g=>(0,g)
theorem cG {z:Int} (h1 : -9223372036854775808<=z) (h2:z<=9223372036854775807):(Lit.int .i64 z).wf=true:=WalkArith.wf_i64 ⟨h1,h2⟩
theorem rW {w w1 w2:World} {row:Option Nat} (h1:w.grownBy w1 row) (h2:w1.grownBy w2 row):w.grownBy w2 row:=by
 refine⟨h2.os.trans h1.os,h2.tape.trans h1.tape,h2.output.trans h1.output,Nat.le_trans h1.size h2.size,fun k hk hr => ?_⟩;exact (h2.block k (Nat.lt_of_lt_of_le hk h1.size) hr).trans (h1.block k hk hr)
abbrev sE (w:World) (b n:Nat) (g:GF):Prop:=iH Tryz.prog 168 3 w b n g
def QL (w:World) (b n:Nat) (g:GF) (e:Ending) (w':World):Prop:=e=.returned (.tuple #[])/\sE w' b n g/\w.grownBy w' (O b)
theorem xJ {w:World} {b n:Nat} {g:GF} (hm:sE w b n g) (hn:n<100000) (l h z:Int) (hl:(Lit.int .i64 l).wf=true) (hh:(Lit.int .i64 h).wf=true) (hz:(Lit.int .i64 z).wf=true) :
 Calls Tryz.prog 126 #[.map (O b),.agg #[.int .i64 l,.int .i64 h],.int .i64 z] w (QL w b (n+1) (vJ g l h z)):=by
 have HM:=aB (hm.alloc (.cells #[.int .i64 l,.int .i64 h] 168));have HL:=aB hl;have HH:=aB hh;have HZ:=aB hz;have a2:=aB (World.grownBy_alloc w (.cells #[.int .i64 l,.int .i64 h] 168) (O b));cases hg:g l h with
 | none =>
  have HR:Hid (vJ g l h z=gB g l h z):=aB (by unfold vJ;rw[hg]);clear hm hl hh hz;go_in;go_wp2_with (first
   | (at_lookup;go_loud (refine dZ (t:=135) rfl (.tmp 9) (.tmp 10) rfl fU rfl HM.o l h rfl HL.o HH.o ?_))
   | (at_mapUpdate;go_loud (refine kO (t:=135) rfl (.tmp 21) (.tmp 22) (.tmp 23) rfl fU rfl HM.o aA l h z rfl HL.o HH.o rfl HZ.o ?_);intro w3 a0 a1))
  refine bodyPost_end (results_none rfl _ _ _) rfl ⟨rfl,?_,rW a2.o a1⟩;rw[HR.o];exact a0
 | some o =>
  by_cases hgt:z>o
  · have HR:Hid (vJ g l h z=gB g l h z):=aB (by unfold vJ;rw[hg];simp only;rw[if_pos hgt]);have hb:decide (z>o)=true:=decide_eq_true hgt;clear hm hl hh hz hgt;go_in;go_wp2_with (first
     | (at_lookup;go_loud (refine dZ (t:=135) rfl (.tmp 9) (.tmp 10) rfl fU rfl HM.o l h rfl HL.o HH.o ?_))
     | (at_mapUpdate;go_loud (refine kO (t:=135) rfl (.tmp 21) (.tmp 22) (.tmp 23) rfl fU rfl HM.o aA l h z rfl HL.o HH.o rfl HZ.o ?_);intro w3 a0 a1))
    refine bodyPost_end (results_none rfl _ _ _) rfl ⟨rfl,?_,rW a2.o a1⟩;rw[HR.o];exact a0
  · have HR:Hid (vJ g l h z=g):=aB (by unfold vJ;rw[hg];simp only;rw[if_neg hgt]);have hb:decide (z>o)=false:=decide_eq_false hgt;clear hm hl hh hz hgt;go_in;go_wp2_with (first
     | (at_lookup;go_loud (refine dZ (t:=135) rfl (.tmp 9) (.tmp 10) rfl fU rfl HM.o l h rfl HL.o HH.o ?_)))
    refine bodyPost_end (results_none rfl _ _ _) rfl ⟨rfl,?_,a2.o⟩;rw[HR.o];exact HM.o.mono aA
section
def OB (r:Int×GF) (w:World) (e:Ending) (w':World):Prop:=∃v,e=.returned (.tuple #[v,.int .i64 r.1])/\(r.1=0->∃b n,v=.map (O b)/\w.heap.size<=b/\n<=50000/\sE w' b n r.2)/\Below w.heap.size w w'
theorem pQ {w wr w2:World} {b:Nat} (h:Below w.heap.size w wr) (hb:w.heap.size<=b) (hg:wr.grownBy w2 (O b)):Below w.heap.size w w2:=h.grown hg h.size (fun g e=>by injection e with e;omega)
theorem PY (z:Int):(Lit.int .i64 (wrap64 z)).wf=true:=by
 refine WalkArith.wf_i64 ?_;unfold wrap64;omega
theorem NM {g:GF} {mid low high a b:Int} (h1:g low mid=O a) (h2:g mid high=O b):AJ g mid low high=vJ g low high (wrap64 (a+b)):=by unfold AJ;rw[h1,h2]
theorem KD {g:GF} {mid low high:Int} (h1:g low mid=S):AJ g mid low high=g:=by unfold AJ;rw[h1]
theorem KE {g:GF} {mid low high:Int} (h2:g mid high=S):AJ g mid low high=g:=by unfold AJ;rw[h2];cases g low mid<;>rfl
theorem IN {vars:Int} {o:Nd} (h:jK vars o=true):(o.op<0)\/(¬ o.op<0/\o.op>vars)\/(¬ o.op<0/\¬ o.op>vars/\o.b<0)\/(¬ o.op<0/\¬ o.op>vars/\¬ o.b<0/\o.b>vars)\/(¬ o.op<0/\¬ o.op>vars/\¬ o.b<0/\¬ o.b>vars/\o.a < -1000)\/(¬ o.op<0/\¬ o.op>vars/\¬ o.b<0/\¬ o.b>vars/\¬ o.a < -1000/\o.a>1000):=by
 simp only[jK,Bool.or_eq_true,decide_eq_true_eq] at h;omega
theorem yO {vars:Int} {o:Nd} (h:jK vars o=false) : ¬ o.op<0/\¬ o.op>vars/\¬ o.b<0/\¬ o.b>vars/\¬ o.a < -1000/\¬ o.a>1000:=by
 simp only[jK,Bool.or_eq_false_iff,decide_eq_false_iff_not] at h;omega
theorem J6 {N r mid:Nat} {g:GF}:oF N (r+1) mid g=if mB (gL N mid N g) N then S else oF N r (mid+1) (gL N mid N g):=rfl
theorem BE {g:GF} {k:Nat} : ∀{m:Nat},k<=m->mB g k=true->mB g m=true
 | 0,h,hc=>by
  obtain rfl:k=0:=aA;exact hc
 | m+1,h,hc=>by
  rcases Nat.lt_or_ge k (m+1) with h1 | h1
  · simp only[mB];rw[BE (m:=m) aA hc,Bool.true_or]
  · obtain rfl:k=m+1:=aA;exact hc
theorem EA {vars:Int} {A:Option Addr} {n c:Nat} {os:List Nd} {w:World} (hv:(Lit.int .i64 vars).wf=true) (ht:aY w A n c os) :
 Calls Tryz.prog 86 #[.int .i64 vars,.slice A n c] w (OB (pC vars os) w):=by
 have a4:=ht.len;have h7:=ht.few;by_cases h1:vars<0\/16<vars
 · have HR:Hid (pC vars os=(1,fun _ _=>S)):=aB (by unfold pC;rw[if_pos h1]);clear ht a4 hv;by_cases h0:vars<0
   · have hb:decide (vars<0)=true:=decide_eq_true h0;clear h1 h0;go_in;go_wp2_with fail;go_ret2;rw[HR.o];exact⟨_,rfl,fun e=>(by cases e),Below.refl _ _⟩
   have hb:decide (vars<0)=false:=decide_eq_false h0;have f3:decide (vars>16)=true:=decide_eq_true aA;clear h1 h0;go_in;go_wp2_with fail;go_ret2;rw[HR.o];exact⟨_,rfl,fun e=>(by cases e),Below.refl _ _⟩
 have hb:decide (vars<0)=false:=decide_eq_false aA;have f3:decide (vars>16)=false:=decide_eq_false aA;by_cases h64:64<os.length
 · have HR:Hid (pC vars os=(5,fun _ _=>S)):=aB (by unfold pC;rw[if_neg h1,if_pos h64]);have f2:decide ((n:Int)>64)=true:=decide_eq_true aA;clear ht a4 hv h1;go_in;go_wp2_with fail;go_ret2;rw[HR.o];exact⟨_,rfl,fun e=>(by cases e),Below.refl _ _⟩
 have f2:decide ((n:Int)>64)=false:=decide_eq_false aA;have HR:Hid (pC vars os=match oE vars os (qZ (vars.toNat+1)) with
  | none=>(1,fun _ _=>S)
  | some g=>match oF (vars.toNat+1) (vars.toNat+1) 0 g with
   | none=>(7,fun _ _=>S)
   | some g=>(0,g)):=aB (by unfold pC;rw[if_neg h1,if_neg h64];try rfl)
 obtain⟨vn,rfl⟩ : ∃vn:Nat,vars=(vn:Int):=⟨vars.toNat,by omega⟩;rw[Int.toNat_natCast] at HR;have h5:vn<=16:=aA;have e2:n<=64:=aA;have HT:=aB (fun (w':World) (h:Below w.heap.size w w')=>ht.below h);have HL:=aB a4;obtain⟨res,a7⟩ : ∃res,res=pC (vn:Int) os:=⟨_,rfl⟩;rw[<-a7] at HR ⊢;have g8:=aB (iH.made w Tryz.prog 168 3);have h4:=aB (aP w (.map #[] 0));have h8:=@run_makeMap Tryz.prog;clear a7 ht a4 hv h1 h64;go_in;go_wp2_with fail;go_loopw [30] (fun iv wr=>∃v:Nat,iv=.int .i64 (v:Int)/\v<=vn+1/\Hid (sE wr w.heap.size (2*v) (qZ v))/\Hid (Below w.heap.size w wr)) (fun i _=>vn+1-(intOf i).toNat)
 case atStart=>exact⟨0,rfl,by omega,g8,h4⟩
 case round =>
  obtain⟨v,rfl,h6,hm,a0⟩:=hrel;by_cases hlt:v<vn+1
  · have e0:decide ((v:Int)<(vn:Int)+1)=true:=decide_eq_true aA;have tok1:True:=trivial;go_wp2_with (first
     | (at_mapUpdate;have _t:=tok1;go_loud (refine kO (t:=135) rfl (.tmp 33) (.tmp 36) _ rfl fU rfl hm.o aA (v:Int) (v:Int) 0 rfl (cG aA aA) (cG aA aA) rfl (cG aA aA) ?_);intro w2 c5 d0;have g7:=aB c5;have h3:=aB (pQ a0.o (Nat.le_refl _) d0);clear tok1 _t c5 d0)
     | (at_mapUpdate;go_loud (refine kO (t:=135) rfl (.tmp 37) (.tmp 39) _ rfl fU rfl g7.o aA 0 (v:Int) 0 rfl (cG aA aA) (cG aA aA) rfl (cG aA aA) ?_);intro w3 a8 b0;have b9:=aB a8;have c2:=aB (pQ h3.o (Nat.le_refl _) b0);clear a8 b0))
    go_roundw
    case rel=>exact⟨v+1,by go_num,by omega,aB (b9.o.mono aA),c2⟩
    case measure=>simp[intOf];omega
  have c3:v=vn+1:=aA;have e0:decide ((v:Int)<(vn:Int)+1)=false:=decide_eq_false aA;rw[c3] at hm;have hm:Hid (sE wr w.heap.size (34+0) (qZ (vn+1))):=aB (hm.o.mono aA);clear c3;obtain⟨w1,rfl⟩ : ∃w1:World,w1=wr:=⟨_,rfl⟩;go_wp2_with fail;go_loopw [43] (fun iv wr=>∃(i:Nat) (g:GF),iv=.int .i64 (i:Int)/\i<=n/\Hid (oE (vn:Int) (os.drop i) g=oE (vn:Int) os (qZ (vn+1)))/\Hid (sE wr w.heap.size (34+i) g)/\Hid (Below w.heap.size w wr)) (fun i _=>n-(intOf i).toNat)
  case atStart=>exact⟨0,_,rfl,by omega,aB rfl,hm,a0⟩
  case round =>
   clear hm a0;obtain⟨i,g,rfl,i1,a5,hm,a0⟩:=hrel;by_cases hlti:i<n
   · have e8:decide ((i:Int)<(n:Int))=true:=decide_eq_true aA;obtain⟨b,off,rfl,i2,f1,f0,e9⟩:=(HT.o wr a0.o).at_ hlti;have c7:i<os.length:=by rw[HL.o];exact hlti
     obtain⟨o,ho⟩ : ∃o,o=bD os i:=⟨_,rfl⟩;rw[<-ho] at f1 f0 e9;have a3:=a5.o;rw[List.drop_eq_getElem_cons c7,show os[i]=o from by rw[ho];unfold bD;rw[List.getD_eq_getElem?_getD,List.getElem?_eq_getElem c7];rfl] at a3;have d9:=aB (a0.o.trans ((aP wr (.cells #[.int .i64 o.op,.int .i64 o.a,.int .i64 o.b] 66)).mono a0.o.size));have f6:=aB (hm.o.alloc (.cells #[.int .i64 o.op,.int .i64 o.a,.int .i64 o.b] 66));by_cases hbad:jK (vn:Int) o=true
     · have a1:Hid (res=(1,fun _ _=>S)):=aB (by
        rw[HR.o,<-a3];simp only[oE];rw[if_pos hbad])
       have e1:=IN hbad;generalize o.op=lo at *;generalize o.a=ad at *;generalize o.b=hi at *;clear a3 hbad ho;rcases e1 with h | ⟨g1,h⟩ | ⟨g1,g2,h⟩ | ⟨g1,g2,g3,h⟩ | ⟨g1,g2,g3,g4,h⟩ | ⟨g1,g2,g3,g4,g5,h⟩;all_goals
        (try have d1:=decide_eq_false g1)
        (try have d2:=decide_eq_false g2)
        (try have d3:=decide_eq_false g3)
        (try have d4:=decide_eq_false g4)
        (try have d5:=decide_eq_false g5)
        have d6:=decide_eq_true h
        (try clear g1)
        (try clear g2)
        (try clear g3)
        (try clear g4)
        (try clear g5)
        clear h;go_wp2_with fail;go_ret2;rw[a1.o];exact⟨_,rfl,fun e=>(by cases e),d9.o⟩
     have d8:jK (vn:Int) o=false:=by simpa using hbad
     have f5:Hid (oE (vn:Int) (os.drop (i+1)) (vJ g o.op o.b o.a)=oE (vn:Int) os (qZ (vn+1))):=aB (by
      rw[<-a3];simp only[oE];rw[if_neg hbad])
     obtain⟨g1,g2,g3,g4,g5,g6⟩:=yO d8;generalize o.op=lo at *;generalize o.a=ad at *;generalize o.b=hi at *;have HC:=aB (xJ f6.o aA lo hi ad (cG aA aA) (cG aA aA) (cG aA aA));have d1:=decide_eq_false g1;have d2:=decide_eq_false g2;have d3:=decide_eq_false g3;have d4:=decide_eq_false g4;have d5:=decide_eq_false g5;have d6:=decide_eq_false g6;clear a3 hbad d8 ho g1 g2 g3 g4 g5 g6;go_wp2_with fail;refine (HC.o).mono ?_;rintro e w3 ⟨rfl,a8,b0⟩;have b9:=aB a8;have c2:=aB (pQ d9.o (Nat.le_refl _) b0);clear a8 b0;go_wp2_with fail;go_roundw
     case rel=>exact⟨i+1,_,by go_num,by omega,f5,aB (b9.o.mono aA),c2⟩
     case measure=>simp[intOf];omega
   obtain rfl:i=n:=aA;have e8:decide ((i:Int)<(i:Int))=false:=decide_eq_false aA;have a3:=a5.o;rw[<-HL.o,List.drop_length] at a3;have b8:Hid (res=match oF (vn+1) (vn+1) 0 g with
    | none=>(7,fun _ _=>S)
    | some g=>(0,g)):=aB (by rw[HR.o,<-a3];rfl)
   obtain⟨w2,rfl⟩ : ∃w2:World,w2=wr:=⟨_,rfl⟩;obtain⟨g0,d7⟩ : ∃g0:GF,g0=g:=⟨_,rfl⟩;rw[<-d7] at b8 hm;clear a3 a5 d7;go_wp2_with fail;go_loopw [89] (fun iv wr=>∃(m:Nat) (g:GF),iv=.int .i64 (m:Int)/\m<=vn+1/\Hid (oF (vn+1) (vn+1-m) m g=oF (vn+1) (vn+1) 0 g0)/\Hid (sE wr w.heap.size (100+400*m) g)/\Hid (Below w.heap.size w wr)) (fun i _=>vn+1-(intOf i).toNat)
   case atStart=>exact⟨0,g0,rfl,by omega,aB rfl,aB (hm.o.mono aA),a0⟩
   case round =>
    clear hm a0;obtain⟨m,g,rfl,h9,a2,hm,a0⟩:=hrel;by_cases hltm:m<vn+1;rotate_left
    · have e3:m=vn+1:=aA;have e5:decide ((m:Int)<(vn:Int)+1)=false:=decide_eq_false aA;have a1:Hid (res=(0,g)):=aB (by
       have:=a2.o;rw[show vn+1-m=0 from by omega] at this;rw[b8.o,<-this];rfl)
      have e4:100+400*m<=50000:=aA;clear e3;go_wp2_with fail;go_ret2;rw[a1.o];exact⟨_,rfl,fun _=>⟨_,_,rfl,Nat.le_refl _,by omega,hm.o⟩,a0.o⟩
    have e5:decide ((m:Int)<(vn:Int)+1)=true:=decide_eq_true aA;obtain⟨w3,rfl⟩ : ∃w3:World,w3=wr:=⟨_,rfl⟩;obtain⟨gm,c8⟩ : ∃gm:GF,gm=g:=⟨_,rfl⟩;rw[<-c8] at a2 hm;clear c8;have b2:=a2.o;rw[show vn+1-m=(vn+1-(m+1))+1 from by omega] at b2;rw[J6 (r:=vn+1-(m+1))] at b2;have b7:=aB b2;clear b2 a2;go_wp2_with fail;go_loopw [94] (fun iv wr=>∃(l:Nat),iv=.int .i64 (l:Int)/\l<=vn+1/\Hid (sE wr w.heap.size (100+400*m+17*l) (gL (vn+1) m l gm))/\Hid (Below w.heap.size w wr)) (fun i _=>vn+1-(intOf i).toNat)
    case atStart=>exact⟨0,rfl,by omega,aB (hm.o.mono aA),a0⟩
    case round =>
     clear hm a0;obtain⟨l,rfl,i0,hm,a0⟩:=hrel;by_cases hltl:l<vn+1;rotate_left
     · have c6:l=vn+1:=aA;have e6:decide ((l:Int)<(vn:Int)+1)=false:=decide_eq_false aA;rw[c6] at hm;have hm:Hid (sE wr w.heap.size (100+400*m+17*17) (gL (vn+1) m (vn+1) gm)):=aB (hm.o.mono aA);clear c6;obtain⟨w4,rfl⟩ : ∃w4:World,w4=wr:=⟨_,rfl⟩;obtain⟨gl,a6⟩ : ∃gl:GF,gl=gL (vn+1) m (vn+1) gm:=⟨_,rfl⟩;rw[<-a6] at hm b7;clear a6;go_wp2_with fail;go_loopw [134] (fun iv wr=>∃(k:Nat),iv=.int .i64 (k:Int)/\k<=vn+1/\Hid (mB gl k=false)/\wr=w4) (fun i _=>vn+1-(intOf i).toNat)
       case atStart=>exact⟨0,rfl,by omega,aB rfl,rfl⟩
       case round =>
        obtain⟨k,rfl,e7,b6,rfl⟩:=hrel;by_cases hltk:k<vn+1
        · have b4:decide ((k:Int)<(vn:Int)+1)=true:=decide_eq_true aA;by_cases hpos:(gl k k).getD 0>0
          · have b3:decide ((gl k k).getD 0>0)=true:=decide_eq_true hpos;have c1:Hid (mB gl (vn+1)=true):=aB (BE (k:=k+1) aA (by simp only[mB];rw[b3,Bool.or_true]));have a1:Hid (res=(7,fun _ _=>S)):=aB (by rw[b8.o,<-b7.o,if_pos c1.o]);clear hpos;go_wp2_with (first
             | (at_lookup;go_loud (refine qK (t:=135) rfl (.tmp 137) (.tmp 140) rfl fU rfl hm.o (k:Int) (k:Int) rfl (cG aA aA) (cG aA aA) ?_)))
            go_ret2;rw[a1.o];exact⟨_,rfl,fun e=>(by cases e),a0.o⟩
          have b3:decide ((gl k k).getD 0>0)=false:=decide_eq_false hpos;have c1:Hid (mB gl (k+1)=false):=aB (by simp only[mB];rw[b3,b6.o];rfl);clear hpos;go_wp2_with (first
           | (at_lookup;go_loud (refine qK (t:=135) rfl (.tmp 137) (.tmp 140) rfl fU rfl hm.o (k:Int) (k:Int) rfl (cG aA aA) (cG aA aA) ?_)))
          go_roundw
          case rel=>exact⟨k+1,by go_num,by omega,c1,trivial⟩
          case measure=>simp[intOf];omega
        have a9:k=vn+1:=aA;have b4:decide ((k:Int)<(vn:Int)+1)=false:=decide_eq_false aA;rw[a9] at b6;clear a9;have f4:Hid (oF (vn+1) (vn+1-(m+1)) ((m+1:Nat)) gl=oF (vn+1) (vn+1) 0 g0):=aB (by
         rw[<-b7.o,if_neg (by rw[b6.o];decide)])
        have f7:=aB (hm.o.mono (m:=100+400*(m+1)) aA);clear hm;go_wp2_with fail;go_roundw
        case rel=>exact⟨m+1,gl,by go_num,by omega,f4,f7,a0⟩
        case measure=>simp[intOf];omega
     have e6:decide ((l:Int)<(vn:Int)+1)=true:=decide_eq_true aA;obtain⟨w4,rfl⟩ : ∃w4:World,w4=wr:=⟨_,rfl⟩;obtain⟨gl,a6⟩ : ∃gl:GF,gl=gL (vn+1) m l gm:=⟨_,rfl⟩;rw[<-a6] at hm;have g9:=aB a6;clear a6;go_wp2_with fail;go_loopw [99] (fun iv wr=>∃(k:Nat),iv=.int .i64 (k:Int)/\k<=vn+1/\Hid (sE wr w.heap.size (100+400*m+17*l+k) (gU m l k gl))/\Hid (Below w.heap.size w wr)) (fun i _=>vn+1-(intOf i).toNat)
     case atStart=>exact⟨0,rfl,by omega,aB (hm.o.mono aA),a0⟩
     case round =>
      clear hm a0;obtain⟨k,rfl,e7,hm,a0⟩:=hrel;by_cases hltk:k<vn+1;rotate_left
      · have a9:k=vn+1:=aA;have b4:decide ((k:Int)<(vn:Int)+1)=false:=decide_eq_false aA;rw[a9] at hm;clear a9;have f8:Hid (sE wr w.heap.size (100+400*m+17*(l+1)) (gL (vn+1) m (l+1) gm)):=aB (by
         show sE _ _ _ (gU m l (vn+1) (gL (vn+1) m l gm));rw[<-g9.o];exact hm.o.mono aA)
        clear hm;go_wp2_with fail;go_roundw
        case rel=>exact⟨l+1,by go_num,by omega,f8,a0⟩
        case measure=>simp[intOf];omega
      have b4:decide ((k:Int)<(vn:Int)+1)=true:=decide_eq_true aA;obtain⟨gk,b5⟩ : ∃gk:GF,gk=gU m l k gl:=⟨_,rfl⟩;rw[<-b5] at hm;have c0:Hid (gU m l (k+1) gl=AJ gk m l k):=aB (by rw[b5];rfl);clear b5;cases hx:gk (l:Int) (m:Int) with
      | none =>
       have b1:Hid (gU m l (k+1) gl=gk):=aB (by rw[c0.o,KD hx]);have tok1:True:=trivial;go_wp2_with (first
        | (at_lookup;have _t:=tok1;go_loud (refine dZ (t:=135) rfl (.tmp 103) (.tmp 106) rfl fU rfl hm.o (l:Int) (m:Int) rfl (cG aA aA) (cG aA aA) ?_);clear tok1 _t)
        | (at_lookup;go_loud (refine dZ (t:=135) rfl (.tmp 111) (.tmp 114) rfl fU rfl hm.o (m:Int) (k:Int) rfl (cG aA aA) (cG aA aA) ?_)))
       go_roundw
       case rel=>exact⟨k+1,by go_num,by omega,aB (by rw[b1.o];exact hm.o.mono aA),a0⟩
       case measure=>simp[intOf];omega
      | some xa =>
       cases hy:gk (m:Int) (k:Int) with
       | none =>
        have b1:Hid (gU m l (k+1) gl=gk):=aB (by rw[c0.o,KE hy]);have tok1:True:=trivial;go_wp2_with (first
         | (at_lookup;have _t:=tok1;go_loud (refine dZ (t:=135) rfl (.tmp 103) (.tmp 106) rfl fU rfl hm.o (l:Int) (m:Int) rfl (cG aA aA) (cG aA aA) ?_);clear tok1 _t)
         | (at_lookup;go_loud (refine dZ (t:=135) rfl (.tmp 111) (.tmp 114) rfl fU rfl hm.o (m:Int) (k:Int) rfl (cG aA aA) (cG aA aA) ?_)))
        go_roundw
        case rel=>exact⟨k+1,by go_num,by omega,aB (by rw[b1.o];exact hm.o.mono aA),a0⟩
        case measure=>simp[intOf];omega
       | some ya =>
        have b1:Hid (gU m l (k+1) gl=vJ gk l k (wrap64 (xa+ya))):=aB (by rw[c0.o,NM hx hy]);have HC:=aB (xJ hm.o aA (l:Int) (k:Int) (wrap64 (xa+ya)) (cG aA aA) (cG aA aA) (PY _));have tok1:True:=trivial;go_wp2_with (first
         | (at_lookup;have _t:=tok1;go_loud (refine dZ (t:=135) rfl (.tmp 103) (.tmp 106) rfl fU rfl hm.o (l:Int) (m:Int) rfl (cG aA aA) (cG aA aA) ?_);clear tok1 _t)
         | (at_lookup;go_loud (refine dZ (t:=135) rfl (.tmp 111) (.tmp 114) rfl fU rfl hm.o (m:Int) (k:Int) rfl (cG aA aA) (cG aA aA) ?_)))
        refine (HC.o).mono ?_;rintro e w5 ⟨rfl,c4,c9⟩;have f9:=aB c4;have h2:=aB (pQ a0.o (Nat.le_refl _) c9);clear c4 c9;go_wp2_with fail;go_roundw
        case rel=>exact⟨k+1,by go_num,by omega,aB (by rw[b1.o];exact f9.o.mono aA),h2⟩
        case measure=>simp[intOf];omega
theorem IX {vars:Int} {A:Option Addr} {n c:Nat} {os:List Nd} {w:World} (hv:(Lit.int .i64 vars).wf=true) (ht:aY w A n c os) :
 Calls Tryz.prog 48 #[.int .i64 vars,.slice A n c] w (iG (pC vars os).1 w):=by
 have HC:=aB (EA hv ht);generalize (pC vars os)=res at *;clear ht hv;go_in;go_wp2_with fail;refine (HC.o).mono ?_;rintro e w2 ⟨v,rfl,_,a0⟩;have a1:=aB a0;clear a0;go_wp2_with fail;go_ret;exact⟨rfl,a1.o⟩
end
end Go.Proofs.YtjoddliplahgkaaGreat
