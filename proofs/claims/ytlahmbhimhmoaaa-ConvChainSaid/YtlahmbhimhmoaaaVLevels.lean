/- Merged: MapG, LevelP, Level. -/
import Derived.Maps.OwnOps
import Derived.Maps.OwnSet
import Derived.DeepKeys4
import Derived.Test.YtlahmbhimhmoaaaChecked
import Derived.Test.YtlahmbhimhmoaaaVFines
namespace Go.Proofs.Ytlahmbhimhmoaaa
set_option linter.unusedVariables false
set_option linter.unusedSimpArgs false
open Go.RowKit
open Option renaming some → O, none → S
open Go.Lib renaming hid->aB
set_option maxHeartbeats 8000000
set_option maxRecDepth 100000
section
open Go.RowKit Go.Maps
abbrev GF:=Int->Int->Option Int
def eD(g:GF)(l h z:Int):GF:=fun a b=>if a=l/\b=h then O z else g a b
structure gW (P:Program) (k t e:TypeId):Prop where
 keyed:Keyed P k
 key:∀l h:Int,(Lit.int .i64 l).wf=true->(Lit.int .i64 h).wf=true->∃kl,keyOf P k (.agg #[.int .i64 l,.int .i64 h])=O kl
 ht:P.underlying t=O (.map k e)
 he:P.underlying e=O (.int .i64)
 hz:∀w,(zeroValue e).run P w=.ok (.int .i64 0) w
def eY(P:Program)(k e:TypeId)(w:OE)(b n:Nat)(g:GF):Prop :=
 ∃D:DataW Unit,w.ownsMap P k (plainElem P e) b n D/\∀l h F,keyOf P k (.agg #[.int .i64 l,.int .i64 h])=O F->Maps.has D F=(g l h).isSome/\D.atKey F (.lit (.int .i64 0))=.lit (.int .i64 ((g l h).getD 0))
section
variable {P : Program}{k t e : TypeId}{w w' : OE}{b n : Nat}{g : GF}
theorem eY.made(w:OE)(P:Program)(k e:TypeId):eY P k e (w.alloc (.map #[] 0)) w.heap.size 0 (fun _ _=>S) :=
 ⟨.map [],World.ownsMap_made w P k _,fun _ _ _ _=>⟨rfl,rfl⟩⟩
theorem eY.mono(h:eY P k e w b n g){m:Nat}(I:n<=m):eY P k e w b m g:=by
 obtain⟨D,F,G⟩:=h;exact⟨D,F.mono I,G⟩
theorem eY.lt(h:eY P k e w b n g):b<w.heap.size:=by
 obtain⟨D,F,G⟩:=h;exact F.lt
theorem eY.kept{row:Option Nat}(h:eY P k e w b n g)(U:w.grownBy w' row)(F:O b≠row):eY P k e w' b n g:=by
 obtain⟨D,G,I⟩:=h;exact⟨D,G.kept U F,I⟩
theorem eY.alloc(h:eY P k e w b n g)(o:Obj):eY P k e (w.alloc o) b n g:=by
 obtain⟨D,F,G⟩:=h;exact⟨D,F.alloc o,G⟩
theorem eY.set_(K:gW P k t e){l r z:Int}{D:DataW Unit}{I:Lit}(hD:w.ownsMap P k (plainElem P e) b n D)(h2:∀l h I,keyOf P k (.agg #[.int .i64 l,.int .i64 h])=O I->Maps.has D I=(g l h).isSome/\D.atKey I (.lit (.int .i64 0))=.lit (.int .i64 ((g l h).getD 0)))
 (Z:keyOf P k (.agg #[.int .i64 l,.int .i64 r])=O I) (h3:w'.ownsMap P k (plainElem P e) b (n+1) (D.put I (.lit (.int .i64 z)))):eY P k e w' b (n+1) (eD g l r z):=by
 refine⟨_,h3,fun l' r' Y F=>?_⟩;by_cases G:l'=l/\r'=r
 . obtain⟨rfl,rfl⟩:=G;rw[Z]at F;obtain rfl:=Option.some.inj F;simp only[eD,and_self,if_true,Option.isSome_some,Option.getD_some];exact⟨has_put_same hD.isMap (K.keyed.key Z) _,atKey_put_same hD.isMap (K.keyed.key Z) _ _⟩
 have U:Y≠I:=fun e=>by
  subst e;have:=K.keyed.inj Z F;injection this with this;have o:=congrArg (fun x:Array Value=>x[0]?) this;have s:=congrArg (fun x:Array Value=>x[1]?) this;simp at o s;exact G ⟨o.symm,s.symm⟩
 simp only[eD,aN G];rw[has_put_other U,atKey_put_other U];exact h2 l' r' Y F
theorem bN{ops:Array Oper}{rest:List Oper}{o:Oper}{a:Act}{Q:Exit->Act->World->Prop}
 (hg:o.guard=S) (m x:Operand) (I:o.op=Op.lookup t m x true) (K:gW P k t e) (hm:a.eval m=.map (O b)) (G:eY P k e w b n g) (l r:Int) (hx:a.eval x=.agg #[.int .i64 l,.int .i64 r]) (hl:(Lit.int .i64 l).wf=true) (hr:(Lit.int .i64 r).wf=true)
 (hK:wpList P ops Q rest (a.put o.dst (.tuple #[.int .i64 ((g l r).getD 0),.bool (g l r).isSome])) w):wpList P ops Q (o::rest) a w:=by
 obtain⟨D,h,s⟩:=G;obtain⟨Y,U⟩:=K.key l r hl hr;obtain⟨Z,F⟩:=s l r Y U;refine wpList_lookup_own_ok_int w hg m x t I k e .i64 K.keyed K.ht K.he (K.hz w) b n D hm h _ Y hx U fun c z _=>?_;rw[z]at F;injection F with F;injection F with _ F;rw[Z,F];exact hK
theorem lT{ops:Array Oper}{rest:List Oper}{o:Oper}{a:Act}{Q:Exit->Act->World->Prop}
 (z:o.guard=S) (m x:Operand) (I:o.op=Op.lookup t m x false) (K:gW P k t e) (hm:a.eval m=.map (O b)) (G:eY P k e w b n g) (l r:Int) (hx:a.eval x=.agg #[.int .i64 l,.int .i64 r]) (hl:(Lit.int .i64 l).wf=true) (hr:(Lit.int .i64 r).wf=true)
 (hK:wpList P ops Q rest (a.put o.dst (.int .i64 ((g l r).getD 0))) w):wpList P ops Q (o::rest) a w:=by
 obtain⟨D,Z,h⟩:=G;obtain⟨Y,U⟩:=K.key l r hl hr;obtain⟨e1,F⟩:=h l r Y U;refine wpList_lookup_own_int w z m x t I k e .i64 K.keyed K.ht K.he (K.hz w) b n D hm Z _ Y hx U fun c s _=>?_;rw[s]at F;injection F with F;injection F with _ F;rw[F];exact hK
theorem gY{ops:Array Oper}{rest:List Oper}{o:Oper}{a:Act}{Q:Exit->Act->World->Prop}
 (hg:o.guard=S) (m x v:Operand) (G:o.op=Op.mapUpdate t m x v) (K:gW P k t e) (hm:a.eval m=.map (O b)) (F:eY P k e w b n g) (hn:n<100000000000000) (l r z:Int) (hx:a.eval x=.agg #[.int .i64 l,.int .i64 r]) (hl:(Lit.int .i64 l).wf=true) (hr:(Lit.int .i64 r).wf=true) (hv:a.eval v=.int .i64 z) (I:(Lit.int .i64 z).wf=true)
 (hK:∀w',eY P k e w' b (n+1) (eD g l r z)->w.grownBy w' (O b)->wpList P ops Q rest (a.put o.dst undef) w'):wpList P ops Q (o::rest) a w:=by
 obtain⟨D,U,Z⟩:=F;obtain⟨kl,Y⟩:=K.key l r hl hr;exact wpList_mapUpdate_own w hg m x v t G k e K.keyed K.ht (plainElem P e) b n D hm U aJ _ _ kl hx hv Y (.lit (.int .i64 z)) [] (plainElem_int K.he I) fun w' h s=>hK w' (eY.set_ K U Z Y h) s
end
theorem vD {P : Program} {k e : TypeId} {F G : Field} (Y : P.underlying k = O (.struct #[F, G])) (h : (F.name != "_") = true) (o : (G.name != "_") = true) (t1 : F.type = e) (t2 : G.type = e) (he : P.underlying e = O (.int .i64)) (o1 : F.offset = 0) (o2 : G.offset = 1) (Z : P.cellsOf k = 2) (I : P.cellsOf e = 1) (hk : P.keyType k = true) (hs : 2<=P.types.size + 1) (l r : Int) (hl : (Lit.int .i64 l).wf = true) (hr : (Lit.int .i64 r).wf = true) :
 ∃kl,keyOf P k (.agg #[.int .i64 l,.int .i64 r])=O kl:=by
 obtain⟨d,hd⟩:∃d,P.types.size+1=d+2:=⟨P.types.size-1,by omega⟩;have s:(Value.agg #[.int .i64 l,.int .i64 r]).formed P k=true:=by simp[Value.formed,Y,Z]
 have D:∀z:Int,(Lit.int .i64 z).wf=true->P.keyLits (d+1) e [.int .i64 z]=O [.int .i64 z]:=fun z hz=>by
  unfold Program.keyLits;rw[he];simp[hz]
 have U:P.keyLits (d+2) k [.int .i64 l,.int .i64 r]=O [.int .i64 l,.int .i64 r]:=by
  unfold Program.keyLits;rw[Y];simp only;rw[LZ (by simp[Z,h,o])];simp[t1,t2,o1,o2,I,D l hl,D r hr]
 refine⟨.string (keyBytes [.int .i64 l,.int .i64 r]),?_⟩;unfold keyOf;rw[Y];simp only;rw[hk,s,hd];simp only[Bool.and_self,if_true];show (P.keyLits (d+2) k [.int .i64 l,.int .i64 r]).map _=_;rw[U];rfl
theorem laidOut:laidOutB Try.prog=true:=by kernel_rfl
theorem rO:Try.prog.cellsOf 3=1:=by kernel_rfl
theorem sI:2<=Try.prog.types.size+1:=of_decide_eq_true aC
theorem xO:Try.prog.cellsOf 97=2:=by kernel_rfl
theorem GM:Try.prog.keyType 97=true:=by kernel_rfl
theorem GN : (("low" : String) != "_") = true := by decide
theorem GO : (("high" : String) != "_") = true := by decide
theorem cX:gW Try.prog 97 75 3 where
 keyed:=Keyed.of_law (deep_law_laid laidOut (m:=2) aA (of_decide_eq_true aC) aC (by rw[Try.underlying97]))
 key:=fun l r D F=>vD Try.underlying97 GN GO rfl rfl Try.underlying3 rfl rfl xO rO GM sI l r D F
 ht:=Try.underlying75
 he:=Try.underlying3
 hz:=fun w=>by kernel_rfl
theorem yO:Try.prog.cellsOf 85=2:=by kernel_rfl
theorem H9:Try.prog.keyType 85=true:=by kernel_rfl
theorem IA : (("Entry" : String) != "_") = true := by decide
theorem IB : (("Id" : String) != "_") = true := by decide
theorem oB:gW Try.prog 85 83 3 where
 keyed:=Keyed.of_law (deep_law_laid laidOut (m:=2) aA (of_decide_eq_true aC) aC (by rw[Try.underlying85]))
 key:=fun l r D F=>vD Try.underlying85 IA IB rfl rfl Try.underlying3 rfl rfl yO rO H9 sI l r D F
 ht:=Try.underlying83
 he:=Try.underlying3
 hz:=fun w=>by kernel_rfl
end
def qP(g:GF)(l h z:Int):GF:=match g l h with
 | none=>eD g l h z
 | some o=>if z>o then eD g l h z else g
def nS:Nat->GF
 | 0=>fun _ _=>S
 | v+1=>eD (eD (nS v) v v 0) 0 v 0
def qR(vars:Int)(o:Nd):Bool:=decide (o.op<0)||decide (o.op>vars)||decide (o.b<0)||decide (o.b>vars)||decide (o.a < -1000)||decide (o.a>1000)
def mP(vars:Int):List Nd->GF->Option GF
 | [],g=>O g
 | o::r,g=>if qR vars o then S else mP vars r (qP g o.op o.b o.a)
def tS(g:GF)(mid low D:Int):GF:=match g low mid,g mid D with
 | some a,O b=>qP g low D (wrap64 (a+b))
 | _,_=>g
def eI(mid low:Int):Nat->GF->GF
 | 0,g=>g
 | k+1,g=>tS (eI mid low k g) mid low k
def dZ(N:Nat)(mid:Int):Nat->GF->GF
 | 0,g=>g
 | l+1,g=>eI mid l N (dZ N mid l g)
def kE(g:GF):Nat->Bool
 | 0=>false
 | v+1=>kE g v||decide ((g v v).getD 0>0)
def kO(N:Nat):Nat->Nat->GF->Option GF
 | 0,_,g=>O g
 | r+1,mid,g=>if kE (dZ N mid N g) N then S else kO N r (mid+1) (dZ N mid N g)
def kT(vars:Int)(os:List Nd):Int×GF :=
 if vars<0\/16<vars then (1,fun _ _=>S)
 else if 64<os.length then (5,fun _ _=>S)
 else match mP vars os (nS (vars.toNat+1)) with
  | none=>(1,fun _ _=>S)
  | some g=>match kO (vars.toNat+1) (vars.toNat+1) 0 g with
   | none=>(7,fun _ _=>S)
   | some g=>(0,g)
theorem bF{z:Int}(D : -9223372036854775808<=z)(F:z<=9223372036854775807):(Lit.int .i64 z).wf=true:=WalkArith.wf_i64 ⟨D,F⟩
theorem nL{w U Y:OE}{row:Option Nat}(D:w.grownBy U row)(F:U.grownBy Y row):w.grownBy Y row:=by
 refine⟨F.os.trans D.os,F.tape.trans D.tape,F.output.trans D.output,MO D.size F.size,fun k G I=>?_⟩;exact (F.block k (MD G D.size) I).trans (D.block k G I)
abbrev jA(w:OE)(b n:Nat)(g:GF):Prop:=eY Try.prog 97 3 w b n g
def I8(w:OE)(b n:Nat)(g:GF)(e:Ending)(w':OE):Prop:=e=.returned (.tuple #[])/\jA w' b n g/\w.grownBy w' (O b)
theorem rW{w:OE}{b n:Nat}{g:GF}(hm:jA w b n g)(hn:n<100000)(l h z:Int)(hl:(Lit.int .i64 l).wf=true)(hh:(Lit.int .i64 h).wf=true)(hz:(Lit.int .i64 z).wf=true):
 Calls Try.prog 51 #[.map (O b),.agg #[.int .i64 l,.int .i64 h],.int .i64 z] w (I8 w b (n+1) (qP g l h z)):=by
 obtain⟨U,Z,Y,HZ,F⟩:=OG (hm.alloc (.cells #[.int .i64 l,.int .i64 h] 97)) hl hh hz (World.grownBy_alloc w (.cells #[.int .i64 l,.int .i64 h] 97) (O b));have a0:=hm.lt;cases hg:g l h with
 | none =>
  have s:Hid (qP g l h z=eD g l h z):=aB (by unfold qP;rw[hg]);clear hm hl hh hz;go_in;go_wp2_with (first
   | (at_lookup;go_loud (refine bN (t:=75) rfl (.tmp 9) (.tmp 10) rfl cX rfl U.o l h rfl Z.o Y.o ?_))
   | (at_mapUpdate;go_loud (refine gY (t:=75) rfl (.tmp 21) (.tmp 22) (.tmp 23) rfl cX rfl U.o aA l h z rfl Z.o Y.o rfl HZ.o ?_);intro w3 I G))
  refine bodyPost_end (results_none rfl _ _ _) rfl ⟨rfl,?_,nL F.o G⟩;rw[s.o];exact I
 | some o =>
  by_cases D:z>o
  . have s:Hid (qP g l h z=eD g l h z):=aB (by unfold qP;rw[hg];simp only;rw[LZ D]);have hb:decide (z>o)=true:=MB D;clear hm hl hh hz D;go_in;go_wp2_with (first
     | (at_lookup;go_loud (refine bN (t:=75) rfl (.tmp 9) (.tmp 10) rfl cX rfl U.o l h rfl Z.o Y.o ?_))
     | (at_mapUpdate;go_loud (refine gY (t:=75) rfl (.tmp 21) (.tmp 22) (.tmp 23) rfl cX rfl U.o aA l h z rfl Z.o Y.o rfl HZ.o ?_);intro w3 I G))
    refine bodyPost_end (results_none rfl _ _ _) rfl ⟨rfl,?_,nL F.o G⟩;rw[s.o];exact I
  . have s:Hid (qP g l h z=g):=aB (by unfold qP;rw[hg];simp only;rw[aN D]);have hb:decide (z>o)=false:=MA D;clear hm hl hh hz D;go_in;go_wp2_with (first
     | (at_lookup;go_loud (refine bN (t:=75) rfl (.tmp 9) (.tmp 10) rfl cX rfl U.o l h rfl Z.o Y.o ?_)))
    refine bodyPost_end (results_none rfl _ _ _) rfl ⟨rfl,?_,F.o⟩;rw[s.o];exact U.o.mono aA
section
def GA(r:Int×GF)(w:OE)(e:Ending)(w':OE):Prop:=∃o:Option Nat,e=.returned (.tuple #[.map o,.int .i64 r.1])/\(r.1=0->∃b n,o=O b/\w.heap.size<=b/\n<=50000/\jA w' b n r.2)/\OB w w'
theorem lD{w wr D:OE}{b:Nat}(h:OB w wr)(G:w.heap.size<=b)(F:wr.grownBy D (O b)):OB w D:=h.grown F h.size (fun g e=>by injection e with e;omega)
theorem IL(z:Int):(Lit.int .i64 (wrap64 z)).wf=true:=by
 refine WalkArith.wf_i64 ?_;unfold wrap64;omega
theorem FL{g:GF}{mid low D a b:Int}(F:g low mid=O a)(G:g mid D=O b):tS g mid low D=qP g low D (wrap64 (a+b)):=by unfold tS;rw[F,G]
theorem C6{g:GF}{mid low D:Int}(F:g low mid=S):tS g mid low D=g:=by unfold tS;rw[F]
theorem C7{g:GF}{mid low D:Int}(F:g mid D=S):tS g mid low D=g:=by unfold tS;rw[F];cases g low mid<;>rfl
theorem BB{vars:Int}{o:Nd}(h:qR vars o=true):(o.op<0)\/(¬ o.op<0/\o.op>vars)\/(¬ o.op<0/\¬ o.op>vars/\o.b<0)\/(¬ o.op<0/\¬ o.op>vars/\¬ o.b<0/\o.b>vars)\/(¬ o.op<0/\¬ o.op>vars/\¬ o.b<0/\¬ o.b>vars/\o.a < -1000)\/(¬ o.op<0/\¬ o.op>vars/\¬ o.b<0/\¬ o.b>vars/\¬ o.a < -1000/\o.a>1000):=by
 simp only[qR,NM,MJ]at h;omega
theorem zM{vars:Int}{o:Nd}(h:qR vars o=false):¬ o.op<0/\¬ o.op>vars/\¬ o.b<0/\¬ o.b>vars/\¬ o.a < -1000/\¬ o.a>1000:=by
 simp only[qR,NL,NY]at h;omega
theorem C4{N r mid:Nat}{g:GF}:kO N (r+1) mid g=if kE (dZ N mid N g) N then S else kO N r (mid+1) (dZ N mid N g):=rfl
theorem uO{g:GF}{k:Nat}:∀{m:Nat},k<=m->kE g k=true->kE g m=true
 | 0,h,hc=>by
  obtain rfl:k=0:=aA;exact hc
 | m+1,h,hc=>by
  rcases Nat.lt_or_ge k (m+1) with D|D
  . simp only[kE];rw[uO (m:=m) aA hc,Bool.true_or]
  . obtain rfl:k=m+1:=aA;exact hc
theorem oP{vars:Int}{A:OC}{n c:Nat}{os:List Nd}{w:OE}(hv:(Lit.int .i64 vars).wf=true)(ht:aX w A n c os):
 Calls Try.prog 29 #[.int .i64 vars,.slice A n c] w (GA (kT vars os) w):=by
 have z:=ht.len;have i4:=ht.few;by_cases h1:vars<0\/16<vars
 . have HR:Hid (kT vars os=(1,fun _ _=>S)):=aB (by unfold kT;rw[LZ h1]);clear ht z hv;by_cases h0:vars<0
   . have hb:decide (vars<0)=true:=MB h0;clear h1 h0;go_in;go_wp2_with fail;go_ret2;rw[HR.o];exact⟨_,rfl,fun e=>(by cases e),MC _ _⟩
   have hb:decide (vars<0)=false:=MA h0;have f3:decide (vars>16)=true:=MB aA;clear h1 h0;go_in;go_wp2_with fail;go_ret2;rw[HR.o];exact⟨_,rfl,fun e=>(by cases e),MC _ _⟩
 have hb:decide (vars<0)=false:=MA aA;have f3:decide (vars>16)=false:=MA aA;by_cases b8:64<os.length
 . have HR:Hid (kT vars os=(5,fun _ _=>S)):=aB (by unfold kT;rw[aN h1,LZ b8]);have f4:decide ((n:Int)>64)=true:=MB aA;clear ht z hv h1;go_in;go_wp2_with fail;go_ret2;rw[HR.o];exact⟨_,rfl,fun e=>(by cases e),MC _ _⟩
 have f4:decide ((n:Int)>64)=false:=MA aA;have HR:Hid (kT vars os=match mP vars os (nS (vars.toNat+1)) with
  | none=>(1,fun _ _=>S)
  | some g=>match kO (vars.toNat+1) (vars.toNat+1) 0 g with
   | none=>(7,fun _ _=>S)
   | some g=>(0,g)):=aB (by unfold kT;rw[aN h1,aN b8];try rfl)
 obtain⟨D,rfl⟩:∃D:Nat,vars=(D:Int):=⟨vars.toNat,by omega⟩;rw[NA]at HR;have i6:D<=16:=aA;have h7:n<=64:=aA;obtain⟨HT,HL⟩:=OF (fun (w':OE) (h:OB w w')=>ht.below h) z;obtain⟨a9,b1⟩:=OM (kT (D:Int) os);rw[<-b1]at HR ⊢;obtain⟨e5,e1⟩:=OF (eY.made w Try.prog 97 3) (aQ w (.map #[] 0));have i3:=@run_makeMap Try.prog;clear b1 ht z hv h1 b8;go_in;go_wp2_with fail;go_loopw [30] (fun iv wr=>∃v:Nat,iv=.int .i64 (v:Int)/\v<=D+1/\Hid (jA wr w.heap.size (2*v) (nS v))/\Hid (OB w wr)) (fun i _=>D+1-(intOf i).toNat)
 case atStart=>exact⟨0,rfl,by omega,e5,e1⟩
 case round =>
  obtain⟨v,rfl,i5,G,F⟩:=hrel;by_cases i1:v<D+1
  . have h3:decide ((v:Int)<(D:Int)+1)=true:=MB aA;have I:True:=trivial;go_wp2_with (first
     | (at_mapUpdate;have _t:=I;go_loud (refine gY (t:=75) rfl (.tmp 33) (.tmp 36) _ rfl cX rfl G.o aA (v:Int) (v:Int) 0 rfl (bF aA aA) (bF aA aA) rfl (bF aA aA) ?_);intro w2 d8 c6;have e6:=aB d8;have e2:=aB (lD F.o (MF _) c6);clear I _t d8 c6)
     | (at_mapUpdate;go_loud (refine gY (t:=75) rfl (.tmp 37) (.tmp 39) _ rfl cX rfl e6.o aA 0 (v:Int) 0 rfl (bF aA aA) (bF aA aA) rfl (bF aA aA) ?_);intro w3 a6 a4;have b5:=aB a6;have b2:=aB (lD e2.o (MF _) a4);clear a6 a4))
    go_roundw
    case rel=>exact⟨v+1,by go_num,by omega,aB (b5.o.mono aA),b2⟩
    case measure=>simp[intOf];omega
  have e0:v=D+1:=aA;have h3:decide ((v:Int)<(D:Int)+1)=false:=MA aA;rw[e0]at G;have G:Hid (jA wr w.heap.size (34+0) (nS (D+1))):=aB (G.o.mono aA);clear e0;obtain⟨w1,rfl⟩:=OM wr;go_wp2_with fail;go_loopw [43] (fun iv wr=>∃(i:Nat)(g:GF),iv=.int .i64 (i:Int)/\i<=n/\Hid (mP (D:Int) (os.drop i) g=mP (D:Int) os (nS (D+1)))/\Hid (jA wr w.heap.size (34+i) g)/\Hid (OB w wr)) (fun i _=>n-(intOf i).toNat)
  case atStart=>exact⟨0,_,rfl,by omega,aB rfl,G,F⟩
  case round =>
   clear G F;obtain⟨i,g,rfl,h9,a7,G,F⟩:=hrel;by_cases b0:i<n
   . have f8:decide ((i:Int)<(n:Int))=true:=MB aA;obtain⟨b,off,rfl,h8,f5,f6,f7⟩:=(HT.o wr F.o).at_ b0;have c9:i<os.length:=by rw[HL.o];exact b0
     obtain⟨o,ho⟩:=OM (bB os i);rw[<-ho]at f5 f6 f7;have Y:=a7.o;rw[MT c9,show os[i]=o from by rw[ho];unfold bB;rw[MK,MI c9];rfl]at Y;have c3:=aB (F.o.trans ((aQ wr (.cells #[.int .i64 o.op,.int .i64 o.a,.int .i64 o.b] 99)).mono F.o.size));have f0:=aB (G.o.alloc (.cells #[.int .i64 o.op,.int .i64 o.a,.int .i64 o.b] 99));by_cases U:qR (D:Int) o=true
     . have Z:Hid (a9=(1,fun _ _=>S)):=aB (by
        rw[HR.o,<-Y];simp only[mP];rw[LZ U])
       have h2:=BB U;generalize o.op=lo at *;generalize o.a=ad at *;generalize o.b=hi at *;clear Y U ho;rcases h2 with h|⟨g1,h⟩|⟨g1,g2,h⟩|⟨g1,g2,g3,h⟩|⟨g1,g2,g3,g4,h⟩|⟨g1,g2,g3,g4,g5,h⟩;all_goals
        (try have d1:=MA g1)
        (try have d2:=MA g2)
        (try have d3:=MA g3)
        (try have d4:=MA g4)
        (try have d5:=MA g5)
        have d6:=MB h
        (try clear g1)
        (try clear g2)
        (try clear g3)
        (try clear g4)
        (try clear g5)
        clear h;go_wp2_with fail;go_ret2;rw[Z.o];exact⟨_,rfl,fun e=>(by cases e),c3.o⟩
     have c4:qR (D:Int) o=false:=by simpa using U
     have f1:Hid (mP (D:Int) (os.drop (i+1)) (qP g o.op o.b o.a)=mP (D:Int) os (nS (D+1))):=aB (by
      rw[<-Y];simp only[mP];rw[aN U])
     obtain⟨g1,g2,g3,g4,g5,g6⟩:=zM c4;generalize o.op=lo at *;generalize o.a=ad at *;generalize o.b=hi at *;have HC:=aB (rW f0.o aA lo hi ad (bF aA aA) (bF aA aA) (bF aA aA));have d1:=MA g1;have d2:=MA g2;have d3:=MA g3;have d4:=MA g4;have d5:=MA g5;have d6:=MA g6;clear Y U c4 ho g1 g2 g3 g4 g5 g6;go_wp2_with fail;refine (HC.o).mono ?_;rintro e w3 ⟨rfl,a6,a4⟩;obtain⟨b5,b2⟩:=OF a6 (lD c3.o (MF _) a4);clear a6 a4;go_wp2_with fail;go_roundw
     case rel=>exact⟨i+1,_,by go_num,by omega,f1,aB (b5.o.mono aA),b2⟩
     case measure=>simp[intOf];omega
   obtain rfl:i=n:=aA;have f8:decide ((i:Int)<(i:Int))=false:=MA aA;have Y:=a7.o;rw[<-HL.o,List.drop_length]at Y;have b6:Hid (a9=match kO (D+1) (D+1) 0 g with
    | none=>(7,fun _ _=>S)
    | some g=>(0,g)):=aB (by rw[HR.o,<-Y];rfl)
   obtain⟨w2,rfl⟩:=OM wr;obtain⟨g0,c5⟩:=OM g;rw[<-c5]at b6 G;clear Y a7 c5;go_wp2_with fail;go_loopw [89] (fun iv wr=>∃(m:Nat)(g:GF),iv=.int .i64 (m:Int)/\m<=D+1/\Hid (kO (D+1) (D+1-m) m g=kO (D+1) (D+1) 0 g0)/\Hid (jA wr w.heap.size (100+400*m) g)/\Hid (OB w wr)) (fun i _=>D+1-(intOf i).toNat)
   case atStart=>exact⟨0,g0,rfl,by omega,aB rfl,aB (G.o.mono aA),F⟩
   case round =>
    clear G F;obtain⟨m,g,rfl,i2,a1,G,F⟩:=hrel;by_cases h5:m<D+1;rotate_left
    . have g9:m=D+1:=aA;have g8:decide ((m:Int)<(D:Int)+1)=false:=MA aA;have Z:Hid (a9=(0,g)):=aB (by
       have:=a1.o;rw[show D+1-m=0 from by omega]at this;rw[b6.o,<-this];rfl)
      have h6:100+400*m<=50000:=aA;clear g9;go_wp2_with fail;go_ret2;rw[Z.o];exact⟨_,rfl,fun _=>⟨_,_,rfl,MF _,by omega,G.o⟩,F.o⟩
    have g8:decide ((m:Int)<(D:Int)+1)=true:=MB aA;obtain⟨w3,rfl⟩:=OM wr;obtain⟨gm,c8⟩:=OM g;rw[<-c8]at a1 G;clear c8;have a8:=a1.o;rw[show D+1-m=(D+1-(m+1))+1 from by omega]at a8;rw[C4 (r:=D+1-(m+1))]at a8;have b7:=aB a8;clear a8 a1;go_wp2_with fail;go_loopw [94] (fun iv wr=>∃(l:Nat),iv=.int .i64 (l:Int)/\l<=D+1/\Hid (jA wr w.heap.size (100+400*m+17*l) (dZ (D+1) m l gm))/\Hid (OB w wr)) (fun i _=>D+1-(intOf i).toNat)
    case atStart=>exact⟨0,rfl,by omega,aB (G.o.mono aA),F⟩
    case round =>
     clear G F;obtain⟨l,rfl,i0,G,F⟩:=hrel;by_cases h4:l<D+1;rotate_left
     . have d0:l=D+1:=aA;have g7:decide ((l:Int)<(D:Int)+1)=false:=MA aA;rw[d0]at G;have G:Hid (jA wr w.heap.size (100+400*m+17*17) (dZ (D+1) m (D+1) gm)):=aB (G.o.mono aA);clear d0;obtain⟨w4,rfl⟩:=OM wr;obtain⟨s,a2⟩:=OM (dZ (D+1) m (D+1) gm);rw[<-a2]at G b7;clear a2;go_wp2_with fail;go_loopw [134] (fun iv wr=>∃(k:Nat),iv=.int .i64 (k:Int)/\k<=D+1/\Hid (kE s k=false)/\wr=w4) (fun i _=>D+1-(intOf i).toNat)
       case atStart=>exact⟨0,rfl,by omega,aB rfl,rfl⟩
       case round =>
        obtain⟨k,rfl,f9,b9,rfl⟩:=hrel;by_cases d7:k<D+1
        . have c1:decide ((k:Int)<(D:Int)+1)=true:=MB aA;by_cases a0:(s k k).getD 0>0
          . have c2:decide ((s k k).getD 0>0)=true:=MB a0;have b3:Hid (kE s (D+1)=true):=aB (uO (k:=k+1) aA (by simp only[kE];rw[c2,Bool.or_true]));have Z:Hid (a9=(7,fun _ _=>S)):=aB (by rw[b6.o,<-b7.o,LZ b3.o]);clear a0;go_wp2_with (first
             | (at_lookup;go_loud (refine lT (t:=75) rfl (.tmp 137) (.tmp 140) rfl cX rfl G.o (k:Int) (k:Int) rfl (bF aA aA) (bF aA aA) ?_)))
            go_ret2;rw[Z.o];exact⟨_,rfl,fun e=>(by cases e),F.o⟩
          have c2:decide ((s k k).getD 0>0)=false:=MA a0;have b3:Hid (kE s (k+1)=false):=aB (by simp only[kE];rw[c2,b9.o];rfl);clear a0;go_wp2_with (first
           | (at_lookup;go_loud (refine lT (t:=75) rfl (.tmp 137) (.tmp 140) rfl cX rfl G.o (k:Int) (k:Int) rfl (bF aA aA) (bF aA aA) ?_)))
          go_roundw
          case rel=>exact⟨k+1,by go_num,by omega,b3,trivial⟩
          case measure=>simp[intOf];omega
        have a5:k=D+1:=aA;have c1:decide ((k:Int)<(D:Int)+1)=false:=MA aA;rw[a5]at b9;clear a5;have f2:Hid (kO (D+1) (D+1-(m+1)) ((m+1:Nat)) s=kO (D+1) (D+1) 0 g0):=aB (by
         rw[<-b7.o,aN (by rw[b9.o];decide)])
        have e9:=aB (G.o.mono (m:=100+400*(m+1)) aA);clear G;go_wp2_with fail;go_roundw
        case rel=>exact⟨m+1,s,by go_num,by omega,f2,e9,F⟩
        case measure=>simp[intOf];omega
     have g7:decide ((l:Int)<(D:Int)+1)=true:=MB aA;obtain⟨w4,rfl⟩:=OM wr;obtain⟨s,a2⟩:=OM (dZ (D+1) m l gm);rw[<-a2]at G;have e4:=aB a2;clear a2;go_wp2_with fail;go_loopw [99] (fun iv wr=>∃(k:Nat),iv=.int .i64 (k:Int)/\k<=D+1/\Hid (jA wr w.heap.size (100+400*m+17*l+k) (eI m l k s))/\Hid (OB w wr)) (fun i _=>D+1-(intOf i).toNat)
     case atStart=>exact⟨0,rfl,by omega,aB (G.o.mono aA),F⟩
     case round =>
      clear G F;obtain⟨k,rfl,f9,G,F⟩:=hrel;by_cases d7:k<D+1;rotate_left
      . have a5:k=D+1:=aA;have c1:decide ((k:Int)<(D:Int)+1)=false:=MA aA;rw[a5]at G;clear a5;have e8:Hid (jA wr w.heap.size (100+400*m+17*(l+1)) (dZ (D+1) m (l+1) gm)):=aB (by
         show jA _ _ _ (eI m l (D+1) (dZ (D+1) m l gm));rw[<-e4.o];exact G.o.mono aA)
        clear G;go_wp2_with fail;go_roundw
        case rel=>exact⟨l+1,by go_num,by omega,e8,F⟩
        case measure=>simp[intOf];omega
      have c1:decide ((k:Int)<(D:Int)+1)=true:=MB aA;obtain⟨gk,c0⟩:=OM (eI m l k s);rw[<-c0]at G;have b4:Hid (eI m l (k+1) s=tS gk m l k):=aB (by rw[c0];rfl);clear c0;cases hx:gk (l:Int) (m:Int) with
      | none =>
       have a3:Hid (eI m l (k+1) s=gk):=aB (by rw[b4.o,C6 hx]);have I:True:=trivial;go_wp2_with (first
        | (at_lookup;have _t:=I;go_loud (refine bN (t:=75) rfl (.tmp 103) (.tmp 106) rfl cX rfl G.o (l:Int) (m:Int) rfl (bF aA aA) (bF aA aA) ?_);clear I _t)
        | (at_lookup;go_loud (refine bN (t:=75) rfl (.tmp 111) (.tmp 114) rfl cX rfl G.o (m:Int) (k:Int) rfl (bF aA aA) (bF aA aA) ?_)))
       go_roundw
       case rel=>exact⟨k+1,by go_num,by omega,aB (by rw[a3.o];exact G.o.mono aA),F⟩
       case measure=>simp[intOf];omega
      | some xa =>
       cases hy:gk (m:Int) (k:Int) with
       | none =>
        have a3:Hid (eI m l (k+1) s=gk):=aB (by rw[b4.o,C7 hy]);have I:True:=trivial;go_wp2_with (first
         | (at_lookup;have _t:=I;go_loud (refine bN (t:=75) rfl (.tmp 103) (.tmp 106) rfl cX rfl G.o (l:Int) (m:Int) rfl (bF aA aA) (bF aA aA) ?_);clear I _t)
         | (at_lookup;go_loud (refine bN (t:=75) rfl (.tmp 111) (.tmp 114) rfl cX rfl G.o (m:Int) (k:Int) rfl (bF aA aA) (bF aA aA) ?_)))
        go_roundw
        case rel=>exact⟨k+1,by go_num,by omega,aB (by rw[a3.o];exact G.o.mono aA),F⟩
        case measure=>simp[intOf];omega
       | some ya =>
        have a3:Hid (eI m l (k+1) s=qP gk l k (wrap64 (xa+ya))):=aB (by rw[b4.o,FL hx hy]);have HC:=aB (rW G.o aA (l:Int) (k:Int) (wrap64 (xa+ya)) (bF aA aA) (bF aA aA) (IL _));have I:True:=trivial;go_wp2_with (first
         | (at_lookup;have _t:=I;go_loud (refine bN (t:=75) rfl (.tmp 103) (.tmp 106) rfl cX rfl G.o (l:Int) (m:Int) rfl (bF aA aA) (bF aA aA) ?_);clear I _t)
         | (at_lookup;go_loud (refine bN (t:=75) rfl (.tmp 111) (.tmp 114) rfl cX rfl G.o (m:Int) (k:Int) rfl (bF aA aA) (bF aA aA) ?_)))
        refine (HC.o).mono ?_;rintro e w5 ⟨rfl,d9,c7⟩;obtain⟨e7,e3⟩:=OF d9 (lD F.o (MF _) c7);clear d9 c7;go_wp2_with fail;go_roundw
        case rel=>exact⟨k+1,by go_num,by omega,aB (by rw[a3.o];exact e7.o.mono aA),e3⟩
        case measure=>simp[intOf];omega
theorem BK{vars:Int}{A:OC}{n c:Nat}{os:List Nd}{w:OE}(hv:(Lit.int .i64 vars).wf=true)(ht:aX w A n c os):
 Calls Try.prog 20 #[.int .i64 vars,.slice A n c] w (iT (kT vars os).1 w):=by
 have G:=aB (oP hv ht);generalize (kT vars os)=res at *;clear ht hv;go_in;go_wp2_with fail;refine (G.o).mono ?_;rintro e I ⟨v,rfl,_,D⟩;have F:=aB D;clear D;go_wp2_with fail;go_ret;exact⟨rfl,F.o⟩
end
end Go.Proofs.Ytlahmbhimhmoaaa
