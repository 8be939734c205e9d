/- Merged: MapG, LevelP, Level. -/
import Derived.Maps.OwnOps
import Derived.Maps.OwnSet
import Derived.DeepKeys4
import Derived.Test.YtjoddliplahgkaaGreatChecked
import Derived.Test.YtjoddliplahgkaaGreatTRowsD
namespace Go.Proofs.YtjoddliplahgkaaGreat
set_option linter.unusedVariables false
set_option linter.unusedSimpArgs false
open Go.RowKit
open Option renaming some → O, none → S
open Go.Lib renaming hid->aB
set_option maxHeartbeats 8000000
set_option maxRecDepth 100000
section
open Go.RowKit Go.Maps
abbrev GF:=Int->Int->Option Int
def gQ(g:GF)(l h z:Int):GF:=fun a b=>if a=l/\b=h then O z else g a b
structure lF (P:Program) (k t e:TypeId):Prop where
 keyed:Keyed P k
 key:∀l h:Int,(Lit.int .i64 l).wf=true->(Lit.int .i64 h).wf=true->∃kl,keyOf P k (.agg #[.int .i64 l,.int .i64 h])=O kl
 ht:P.underlying t=O (.map k e)
 he:P.underlying e=O (.int .i64)
 hz:∀w,(zeroValue e).run P w=.ok (.int .i64 0) w
def iW(P:Program)(k e:TypeId)(w:aAB)(b n:Nat)(g:GF):Prop :=
 ∃D:DataW Unit,w.ownsMap P k (plainElem P e) b n D/\∀l h F,keyOf P k (.agg #[.int .i64 l,.int .i64 h])=O F->Maps.has D F=(g l h).isSome/\D.atKey F (.lit (.int .i64 0))=.lit (.int .i64 ((g l h).getD 0))
section
variable {P : Program}{k t e : TypeId}{w w' : aAB}{b n : Nat}{g : GF}
theorem iW.made(w:aAB)(P:Program)(k e:TypeId):iW P k e (w.alloc (.map #[] 0)) w.heap.size 0 (fun _ _=>S) :=
 ⟨.map [],World.ownsMap_made w P k _,fun _ _ _ _=>⟨rfl,rfl⟩⟩
theorem iW.mono(h:iW P k e w b n g){m:Nat}(I:n<=m):iW P k e w b m g:=by
 obtain⟨D,F,G⟩:=h;exact⟨D,F.mono I,G⟩
theorem iW.lt(h:iW P k e w b n g):b<w.heap.size:=by
 obtain⟨D,F,G⟩:=h;exact F.lt
theorem iW.kept{row:Option Nat}(h:iW P k e w b n g)(U:w.grownBy w' row)(F:O b≠row):iW P k e w' b n g:=by
 obtain⟨D,G,I⟩:=h;exact⟨D,G.kept U F,I⟩
theorem iW.alloc(h:iW P k e w b n g)(o:Obj):iW P k e (w.alloc o) b n g:=by
 obtain⟨D,F,G⟩:=h;exact⟨D,F.alloc o,G⟩
theorem iW.set_(K:lF P k t e){l r z:Int}{D:DataW Unit}{I:Lit}(hD:w.ownsMap P k (plainElem P e) b n D)(h2:∀l h I,keyOf P k (.agg #[.int .i64 l,.int .i64 h])=O I->Maps.has D I=(g l h).isSome/\D.atKey I (.lit (.int .i64 0))=.lit (.int .i64 ((g l h).getD 0)))
 (Z:keyOf P k (.agg #[.int .i64 l,.int .i64 r])=O I) (h3:w'.ownsMap P k (plainElem P e) b (n+1) (D.put I (.lit (.int .i64 z)))):iW P k e w' b (n+1) (gQ g l r z):=by
 refine⟨_,h3,fun l' r' Y F=>?_⟩;by_cases G:l'=l/\r'=r
 . obtain⟨rfl,rfl⟩:=G;rw[Z]at F;obtain rfl:=Option.some.inj F;simp only[gQ,and_self,if_true,Option.isSome_some,Option.getD_some];exact⟨has_put_same hD.isMap (K.keyed.key Z) _,atKey_put_same hD.isMap (K.keyed.key Z) _ _⟩
 have U:Y≠I:=fun e=>by
  subst e;have:=K.keyed.inj Z F;injection this with this;have o:=congrArg (fun x:Array Value=>x[0]?) this;have s:=congrArg (fun x:Array Value=>x[1]?) this;simp at o s;exact G ⟨o.symm,s.symm⟩
 simp only[gQ,XN G];rw[has_put_other U,atKey_put_other U];exact h2 l' r' Y F
theorem eH{ops:Array Oper}{rest:List Oper}{o:Oper}{a:Act}{Q:Exit->Act->World->Prop}
 (hg:o.guard=S) (m x:Operand) (I:o.op=Op.lookup t m x true) (K:lF P k t e) (hm:a.eval m=.map (O b)) (G:iW P k e w b n g) (l r:Int) (hx:a.eval x=.agg #[.int .i64 l,.int .i64 r]) (hl:(Lit.int .i64 l).wf=true) (hr:(Lit.int .i64 r).wf=true)
 (hK:wpList P ops Q rest (a.put o.dst (.tuple #[.int .i64 ((g l r).getD 0),.bool (g l r).isSome])) w):wpList P ops Q (o::rest) a w:=by
 obtain⟨D,h,s⟩:=G;obtain⟨Y,U⟩:=K.key l r hl hr;obtain⟨Z,F⟩:=s l r Y U;refine wpList_lookup_own_ok_int w hg m x t I k e .i64 K.keyed K.ht K.he (K.hz w) b n D hm h _ Y hx U fun c z _=>?_;rw[z]at F;injection F with F;injection F with _ F;rw[Z,F];exact hK
theorem r8{ops:Array Oper}{rest:List Oper}{o:Oper}{a:Act}{Q:Exit->Act->World->Prop}
 (z:o.guard=S) (m x:Operand) (I:o.op=Op.lookup t m x false) (K:lF P k t e) (hm:a.eval m=.map (O b)) (G:iW P k e w b n g) (l r:Int) (hx:a.eval x=.agg #[.int .i64 l,.int .i64 r]) (hl:(Lit.int .i64 l).wf=true) (hr:(Lit.int .i64 r).wf=true)
 (hK:wpList P ops Q rest (a.put o.dst (.int .i64 ((g l r).getD 0))) w):wpList P ops Q (o::rest) a w:=by
 obtain⟨D,Z,h⟩:=G;obtain⟨Y,U⟩:=K.key l r hl hr;obtain⟨e1,F⟩:=h l r Y U;refine wpList_lookup_own_int w z m x t I k e .i64 K.keyed K.ht K.he (K.hz w) b n D hm Z _ Y hx U fun c s _=>?_;rw[s]at F;injection F with F;injection F with _ F;rw[F];exact hK
theorem lN{ops:Array Oper}{rest:List Oper}{o:Oper}{a:Act}{Q:Exit->Act->World->Prop}
 (hg:o.guard=S) (m x v:Operand) (G:o.op=Op.mapUpdate t m x v) (K:lF P k t e) (hm:a.eval m=.map (O b)) (F:iW P k e w b n g) (hn:n<100000000000000) (l r z:Int) (hx:a.eval x=.agg #[.int .i64 l,.int .i64 r]) (hl:(Lit.int .i64 l).wf=true) (hr:(Lit.int .i64 r).wf=true) (hv:a.eval v=.int .i64 z) (I:(Lit.int .i64 z).wf=true)
 (hK:∀w',iW P k e w' b (n+1) (gQ g l r z)->w.grownBy w' (O b)->wpList P ops Q rest (a.put o.dst undef) w'):wpList P ops Q (o::rest) a w:=by
 obtain⟨D,U,Z⟩:=F;obtain⟨kl,Y⟩:=K.key l r hl hr;exact wpList_mapUpdate_own w hg m x v t G k e K.keyed K.ht (plainElem P e) b n D hm U aJ _ _ kl hx hv Y (.lit (.int .i64 z)) [] (plainElem_int K.he I) fun w' h s=>hK w' (iW.set_ K U Z Y h) s
end
theorem EV {P : Program} {k e : TypeId} {F G : Field} (Y : P.underlying k = O (.struct #[F, G])) (h : (F.name != "_") = true) (o : (G.name != "_") = true) (t1 : F.type = e) (t2 : G.type = e) (he : P.underlying e = O (.int .i64)) (o1 : F.offset = 0) (o2 : G.offset = 1) (Z : P.cellsOf k = 2) (I : P.cellsOf e = 1) (hk : P.keyType k = true) (hs : 2<=P.types.size + 1) (l r : Int) (hl : (Lit.int .i64 l).wf = true) (hr : (Lit.int .i64 r).wf = true) :
 ∃kl,keyOf P k (.agg #[.int .i64 l,.int .i64 r])=O kl:=by
 obtain⟨d,hd⟩:∃d,P.types.size+1=d+2:=⟨P.types.size-1,by omega⟩;have s:(Value.agg #[.int .i64 l,.int .i64 r]).formed P k=true:=by simp[Value.formed,Y,Z]
 have D:∀z:Int,(Lit.int .i64 z).wf=true->P.keyLits (d+1) e [.int .i64 z]=O [.int .i64 z]:=fun z hz=>by
  unfold Program.keyLits;rw[he];simp[hz]
 have U:P.keyLits (d+2) k [.int .i64 l,.int .i64 r]=O [.int .i64 l,.int .i64 r]:=by
  unfold Program.keyLits;rw[Y];simp only;rw[XP (by simp[Z,h,o])];simp[t1,t2,o1,o2,I,D l hl,D r hr]
 refine⟨.string (keyBytes [.int .i64 l,.int .i64 r]),?_⟩;unfold keyOf;rw[Y];simp only;rw[hk,s,hd];simp only[Bool.and_self,if_true];show (P.keyLits (d+2) k [.int .i64 l,.int .i64 r]).map _=_;rw[U];rfl
theorem laidOut:laidOutB Tryz.prog=true:=by kernel_rfl
theorem zX:Tryz.prog.cellsOf 3=1:=by kernel_rfl
theorem BH:2<=Tryz.prog.types.size+1:=of_decide_eq_true aC
theorem G8:Tryz.prog.cellsOf 168=2:=by kernel_rfl
theorem SJ:Tryz.prog.keyType 168=true:=by kernel_rfl
theorem SK : (("low" : String) != "_") = true := by decide
theorem SL : (("high" : String) != "_") = true := by decide
theorem gJ:lF Tryz.prog 168 135 3 where
 keyed:=Keyed.of_law (deep_law_laid laidOut (m:=2) aA (of_decide_eq_true aC) aC (by rw[Tryz.underlying168]))
 key:=fun l r D F=>EV Tryz.underlying168 SK SL rfl rfl Tryz.underlying3 rfl rfl G8 zX SJ BH l r D F
 ht:=Tryz.underlying135
 he:=Tryz.underlying3
 hz:=fun w=>by kernel_rfl
theorem I5:Tryz.prog.cellsOf 69=2:=by kernel_rfl
theorem TB:Tryz.prog.keyType 69=true:=by kernel_rfl
theorem TC : (("Entry" : String) != "_") = true := by decide
theorem TD : (("Id" : String) != "_") = true := by decide
theorem uV:lF Tryz.prog 69 142 3 where
 keyed:=Keyed.of_law (deep_law_laid laidOut (m:=2) aA (of_decide_eq_true aC) aC (by rw[Tryz.underlying69]))
 key:=fun l r D F=>EV Tryz.underlying69 TC TD rfl rfl Tryz.underlying3 rfl rfl I5 zX TB BH l r D F
 ht:=Tryz.underlying142
 he:=Tryz.underlying3
 hz:=fun w=>by kernel_rfl
end
def yN(g:GF)(l h z:Int):GF:=match g l h with
 | none=>gQ g l h z
 | some o=>if z>o then gQ g l h z else g
def sP:Nat->GF
 | 0=>fun _ _=>S
 | v+1=>gQ (gQ (sP v) v v 0) 0 v 0
def j7(vars:Int)(o:Nd):Bool:=decide (o.op<0)||decide (o.op>vars)||decide (o.b<0)||decide (o.b>vars)||decide (o.a < -1000)||decide (o.a>1000)
def pM(vars:Int):List Nd->GF->Option GF
 | [],g=>O g
 | o::r,g=>if j7 vars o then S else pM vars r (yN g o.op o.b o.a)
def DO(g:GF)(mid low D:Int):GF:=match g low mid,g mid D with
 | some a,O b=>yN g low D (wrap64 (a+b))
 | _,_=>g
def iG(mid low:Int):Nat->GF->GF
 | 0,g=>g
 | k+1,g=>DO (iG mid low k g) mid low k
def gX(N:Nat)(mid:Int):Nat->GF->GF
 | 0,g=>g
 | l+1,g=>iG mid l N (gX N mid l g)
def nG(g:GF):Nat->Bool
 | 0=>false
 | v+1=>nG g v||decide ((g v v).getD 0>0)
def pN(N:Nat):Nat->Nat->GF->Option GF
 | 0,_,g=>O g
 | r+1,mid,g=>if nG (gX N mid N g) N then S else pN N r (mid+1) (gX N mid N g)
def qI(vars:Int)(os:List Nd):Int×GF :=
 if vars<0\/16<vars then (1,fun _ _=>S)
 else if 64<os.length then (5,fun _ _=>S)
 else match pM vars os (sP (vars.toNat+1)) with
  | none=>(1,fun _ _=>S)
  | some g=>match pN (vars.toNat+1) (vars.toNat+1) 0 g with
   | none=>(7,fun _ _=>S)
   | some g=>(0,g)
theorem cH{z:Int}(D : -9223372036854775808<=z)(F:z<=9223372036854775807):(Lit.int .i64 z).wf=true:=WalkArith.wf_i64 ⟨D,F⟩
theorem tS{w U Y:aAB}{row:Option Nat}(D:w.grownBy U row)(F:U.grownBy Y row):w.grownBy Y row:=by
 refine⟨F.os.trans D.os,F.tape.trans D.tape,F.output.trans D.output,YE D.size F.size,fun k G I=>?_⟩;exact (F.block k (XT G D.size) I).trans (D.block k G I)
abbrev uF(w:aAB)(b n:Nat)(g:GF):Prop:=iW Tryz.prog 168 3 w b n g
def UI(w:aAB)(b n:Nat)(g:GF)(e:Ending)(w':aAB):Prop:=e=.returned (.tuple #[])/\uF w' b n g/\w.grownBy w' (O b)
theorem AL{w:aAB}{b n:Nat}{g:GF}(hm:uF w b n g)(hn:n<100000)(l h z:Int)(hl:(Lit.int .i64 l).wf=true)(hh:(Lit.int .i64 h).wf=true)(hz:(Lit.int .i64 z).wf=true):
 Calls Tryz.prog 126 #[.map (O b),.agg #[.int .i64 l,.int .i64 h],.int .i64 z] w (UI w b (n+1) (yN g l h z)):=by
 obtain⟨U,Z,Y,HZ,F⟩:=aAD (hm.alloc (.cells #[.int .i64 l,.int .i64 h] 168)) hl hh hz (World.grownBy_alloc w (.cells #[.int .i64 l,.int .i64 h] 168) (O b));cases hg:g l h with
 | none =>
  have s:Hid (yN g l h z=gQ g l h z):=aB (by unfold yN;rw[hg]);clear hm hl hh hz;go_in;go_wp2_with (first
   | (at_lookup;go_loud (refine eH (t:=135) rfl (.tmp 9) (.tmp 10) rfl gJ rfl U.o l h rfl Z.o Y.o ?_))
   | (at_mapUpdate;go_loud (refine lN (t:=135) rfl (.tmp 21) (.tmp 22) (.tmp 23) rfl gJ rfl U.o aA l h z rfl Z.o Y.o rfl HZ.o ?_);intro w3 I G))
  refine bodyPost_end (results_none rfl _ _ _) rfl ⟨rfl,?_,tS F.o G⟩;rw[s.o];exact I
 | some o =>
  by_cases D:z>o
  . have s:Hid (yN g l h z=gQ g l h z):=aB (by unfold yN;rw[hg];simp only;rw[XP D]);have hb:decide (z>o)=true:=XR D;clear hm hl hh hz D;go_in;go_wp2_with (first
     | (at_lookup;go_loud (refine eH (t:=135) rfl (.tmp 9) (.tmp 10) rfl gJ rfl U.o l h rfl Z.o Y.o ?_))
     | (at_mapUpdate;go_loud (refine lN (t:=135) rfl (.tmp 21) (.tmp 22) (.tmp 23) rfl gJ rfl U.o aA l h z rfl Z.o Y.o rfl HZ.o ?_);intro w3 I G))
    refine bodyPost_end (results_none rfl _ _ _) rfl ⟨rfl,?_,tS F.o G⟩;rw[s.o];exact I
  . have s:Hid (yN g l h z=g):=aB (by unfold yN;rw[hg];simp only;rw[XN D]);have hb:decide (z>o)=false:=XQ D;clear hm hl hh hz D;go_in;go_wp2_with (first
     | (at_lookup;go_loud (refine eH (t:=135) rfl (.tmp 9) (.tmp 10) rfl gJ rfl U.o l h rfl Z.o Y.o ?_)))
    refine bodyPost_end (results_none rfl _ _ _) rfl ⟨rfl,?_,F.o⟩;rw[s.o];exact U.o.mono aA
section
def RT(r:Int×GF)(w:aAB)(e:Ending)(w':aAB):Prop:=∃v,e=.returned (.tuple #[v,.int .i64 r.1])/\(r.1=0->∃b n,v=.map (O b)/\w.heap.size<=b/\n<=50000/\uF w' b n r.2)/\ZY w w'
theorem qX{w wr D:aAB}{b:Nat}(h:ZY w wr)(G:w.heap.size<=b)(F:wr.grownBy D (O b)):ZY w D:=h.grown F h.size (fun g e=>by injection e with e;omega)
theorem TS(z:Int):(Lit.int .i64 (wrap64 z)).wf=true:=by
 refine WalkArith.wf_i64 ?_;unfold wrap64;omega
theorem QX{g:GF}{mid low D a b:Int}(F:g low mid=O a)(G:g mid D=O b):DO g mid low D=yN g low D (wrap64 (a+b)):=by unfold DO;rw[F,G]
theorem N0{g:GF}{mid low D:Int}(F:g low mid=S):DO g mid low D=g:=by unfold DO;rw[F]
theorem N1{g:GF}{mid low D:Int}(F:g mid D=S):DO g mid low D=g:=by unfold DO;rw[F];cases g low mid<;>rfl
theorem L5{vars:Int}{o:Nd}(h:j7 vars o=true):(o.op<0)\/(¬ o.op<0/\o.op>vars)\/(¬ o.op<0/\¬ o.op>vars/\o.b<0)\/(¬ o.op<0/\¬ o.op>vars/\¬ o.b<0/\o.b>vars)\/(¬ o.op<0/\¬ o.op>vars/\¬ o.b<0/\¬ o.b>vars/\o.a < -1000)\/(¬ o.op<0/\¬ o.op>vars/\¬ o.b<0/\¬ o.b>vars/\¬ o.a < -1000/\o.a>1000):=by
 simp only[j7,ZJ,YJ]at h;omega
theorem BQ{vars:Int}{o:Nd}(h:j7 vars o=false):¬ o.op<0/\¬ o.op>vars/\¬ o.b<0/\¬ o.b>vars/\¬ o.a < -1000/\¬ o.a>1000:=by
 simp only[j7,ZG,YM]at h;omega
theorem NT{N r mid:Nat}{g:GF}:pN N (r+1) mid g=if nG (gX N mid N g) N then S else pN N r (mid+1) (gX N mid N g):=rfl
theorem ED{g:GF}{k:Nat}:∀{m:Nat},k<=m->nG g k=true->nG g m=true
 | 0,h,hc=>by
  obtain rfl:k=0:=aA;exact hc
 | m+1,h,hc=>by
  rcases Nat.lt_or_ge k (m+1) with D|D
  . simp only[nG];rw[ED (m:=m) aA hc,Bool.true_or]
  . obtain rfl:k=m+1:=aA;exact hc
theorem G3{vars:Int}{A:ZZ}{n c:Nat}{os:List Nd}{w:aAB}(hv:(Lit.int .i64 vars).wf=true)(ht:aX w A n c os):
 Calls Tryz.prog 86 #[.int .i64 vars,.slice A n c] w (RT (qI vars os) w):=by
 have z:=ht.len;have i4:=ht.few;by_cases h1:vars<0\/16<vars
 . have HR:Hid (qI vars os=(1,fun _ _=>S)):=aB (by unfold qI;rw[XP h1]);clear ht z hv;by_cases h0:vars<0
   . have hb:decide (vars<0)=true:=XR h0;clear h1 h0;go_in;go_wp2_with fail;go_ret2;rw[HR.o];exact⟨_,rfl,fun e=>(by cases e),XS _ _⟩
   have hb:decide (vars<0)=false:=XQ h0;have f3:decide (vars>16)=true:=XR aA;clear h1 h0;go_in;go_wp2_with fail;go_ret2;rw[HR.o];exact⟨_,rfl,fun e=>(by cases e),XS _ _⟩
 have hb:decide (vars<0)=false:=XQ aA;have f3:decide (vars>16)=false:=XQ aA;by_cases b8:64<os.length
 . have HR:Hid (qI vars os=(5,fun _ _=>S)):=aB (by unfold qI;rw[XN h1,XP b8]);have f4:decide ((n:Int)>64)=true:=XR aA;clear ht z hv h1;go_in;go_wp2_with fail;go_ret2;rw[HR.o];exact⟨_,rfl,fun e=>(by cases e),XS _ _⟩
 have f4:decide ((n:Int)>64)=false:=XQ aA;have HR:Hid (qI vars os=match pM vars os (sP (vars.toNat+1)) with
  | none=>(1,fun _ _=>S)
  | some g=>match pN (vars.toNat+1) (vars.toNat+1) 0 g with
   | none=>(7,fun _ _=>S)
   | some g=>(0,g)):=aB (by unfold qI;rw[XN h1,XN b8];try rfl)
 obtain⟨D,rfl⟩:∃D:Nat,vars=(D:Int):=⟨vars.toNat,by omega⟩;rw[YG]at HR;have i6:D<=16:=aA;have h7:n<=64:=aA;obtain⟨HT,HL⟩:=aAC (fun (w':aAB) (h:ZY w w')=>ht.below h) z;obtain⟨a9,b1⟩:=aAJ (qI (D:Int) os);rw[<-b1]at HR ⊢;obtain⟨e5,e1⟩:=aAC (iW.made w Tryz.prog 168 3) (aQ w (.map #[] 0));have i3:=@run_makeMap Tryz.prog;clear b1 ht z hv h1 b8;go_in;go_wp2_with fail;go_loopw [30] (fun iv wr=>∃v:Nat,iv=.int .i64 (v:Int)/\v<=D+1/\Hid (uF wr w.heap.size (2*v) (sP v))/\Hid (ZY w wr)) (fun i _=>D+1-(intOf i).toNat)
 case atStart=>exact⟨0,rfl,by omega,e5,e1⟩
 case round =>
  obtain⟨v,rfl,i5,G,F⟩:=hrel;by_cases i1:v<D+1
  . have h3:decide ((v:Int)<(D:Int)+1)=true:=XR aA;have I:True:=trivial;go_wp2_with (first
     | (at_mapUpdate;have _t:=I;go_loud (refine lN (t:=135) rfl (.tmp 33) (.tmp 36) _ rfl gJ rfl G.o aA (v:Int) (v:Int) 0 rfl (cH aA aA) (cH aA aA) rfl (cH aA aA) ?_);intro w2 d8 c6;have e6:=aB d8;have e2:=aB (qX F.o (XU _) c6);clear I _t d8 c6)
     | (at_mapUpdate;go_loud (refine lN (t:=135) rfl (.tmp 37) (.tmp 39) _ rfl gJ rfl e6.o aA 0 (v:Int) 0 rfl (cH aA aA) (cH aA aA) rfl (cH aA aA) ?_);intro w3 a6 a4;have b5:=aB a6;have b2:=aB (qX e2.o (XU _) a4);clear a6 a4))
    go_roundw
    case rel=>exact⟨v+1,by go_num,by omega,aB (b5.o.mono aA),b2⟩
    case measure=>simp[intOf];omega
  have e0:v=D+1:=aA;have h3:decide ((v:Int)<(D:Int)+1)=false:=XQ aA;rw[e0]at G;have G:Hid (uF wr w.heap.size (34+0) (sP (D+1))):=aB (G.o.mono aA);clear e0;obtain⟨w1,rfl⟩:=aAJ wr;go_wp2_with fail;go_loopw [43] (fun iv wr=>∃(i:Nat)(g:GF),iv=.int .i64 (i:Int)/\i<=n/\Hid (pM (D:Int) (os.drop i) g=pM (D:Int) os (sP (D+1)))/\Hid (uF wr w.heap.size (34+i) g)/\Hid (ZY w wr)) (fun i _=>n-(intOf i).toNat)
  case atStart=>exact⟨0,_,rfl,by omega,aB rfl,G,F⟩
  case round =>
   clear G F;obtain⟨i,g,rfl,h9,a7,G,F⟩:=hrel;by_cases b0:i<n
   . have f8:decide ((i:Int)<(n:Int))=true:=XR aA;obtain⟨b,off,rfl,h8,f5,f6,f7⟩:=(HT.o wr F.o).at_ b0;have c9:i<os.length:=by rw[HL.o];exact b0
     obtain⟨o,ho⟩:=aAJ (bC os i);rw[<-ho]at f5 f6 f7;have Y:=a7.o;rw[YX c9,show os[i]=o from by rw[ho];unfold bC;rw[YD,YB c9];rfl]at Y;have c3:=aB (F.o.trans ((aQ wr (.cells #[.int .i64 o.op,.int .i64 o.a,.int .i64 o.b] 66)).mono F.o.size));have f0:=aB (G.o.alloc (.cells #[.int .i64 o.op,.int .i64 o.a,.int .i64 o.b] 66));by_cases U:j7 (D:Int) o=true
     . have Z:Hid (a9=(1,fun _ _=>S)):=aB (by
        rw[HR.o,<-Y];simp only[pM];rw[XP U])
       have h2:=L5 U;generalize o.op=lo at *;generalize o.a=ad at *;generalize o.b=hi at *;clear Y U ho;rcases h2 with h|⟨g1,h⟩|⟨g1,g2,h⟩|⟨g1,g2,g3,h⟩|⟨g1,g2,g3,g4,h⟩|⟨g1,g2,g3,g4,g5,h⟩;all_goals
        (try have d1:=XQ g1)
        (try have d2:=XQ g2)
        (try have d3:=XQ g3)
        (try have d4:=XQ g4)
        (try have d5:=XQ g5)
        have d6:=XR h
        (try clear g1)
        (try clear g2)
        (try clear g3)
        (try clear g4)
        (try clear g5)
        clear h;go_wp2_with fail;go_ret2;rw[Z.o];exact⟨_,rfl,fun e=>(by cases e),c3.o⟩
     have c4:j7 (D:Int) o=false:=by simpa using U
     have f1:Hid (pM (D:Int) (os.drop (i+1)) (yN g o.op o.b o.a)=pM (D:Int) os (sP (D+1))):=aB (by
      rw[<-Y];simp only[pM];rw[XN U])
     obtain⟨g1,g2,g3,g4,g5,g6⟩:=BQ c4;generalize o.op=lo at *;generalize o.a=ad at *;generalize o.b=hi at *;have HC:=aB (AL f0.o aA lo hi ad (cH aA aA) (cH aA aA) (cH aA aA));have d1:=XQ g1;have d2:=XQ g2;have d3:=XQ g3;have d4:=XQ g4;have d5:=XQ g5;have d6:=XQ g6;clear Y U c4 ho g1 g2 g3 g4 g5 g6;go_wp2_with fail;refine (HC.o).mono ?_;rintro e w3 ⟨rfl,a6,a4⟩;obtain⟨b5,b2⟩:=aAC a6 (qX c3.o (XU _) a4);clear a6 a4;go_wp2_with fail;go_roundw
     case rel=>exact⟨i+1,_,by go_num,by omega,f1,aB (b5.o.mono aA),b2⟩
     case measure=>simp[intOf];omega
   obtain rfl:i=n:=aA;have f8:decide ((i:Int)<(i:Int))=false:=XQ aA;have Y:=a7.o;rw[<-HL.o,List.drop_length]at Y;have b6:Hid (a9=match pN (D+1) (D+1) 0 g with
    | none=>(7,fun _ _=>S)
    | some g=>(0,g)):=aB (by rw[HR.o,<-Y];rfl)
   obtain⟨w2,rfl⟩:=aAJ wr;obtain⟨g0,c5⟩:=aAJ g;rw[<-c5]at b6 G;clear Y a7 c5;go_wp2_with fail;go_loopw [89] (fun iv wr=>∃(m:Nat)(g:GF),iv=.int .i64 (m:Int)/\m<=D+1/\Hid (pN (D+1) (D+1-m) m g=pN (D+1) (D+1) 0 g0)/\Hid (uF wr w.heap.size (100+400*m) g)/\Hid (ZY w wr)) (fun i _=>D+1-(intOf i).toNat)
   case atStart=>exact⟨0,g0,rfl,by omega,aB rfl,aB (G.o.mono aA),F⟩
   case round =>
    clear G F;obtain⟨m,g,rfl,i2,a1,G,F⟩:=hrel;by_cases h5:m<D+1;rotate_left
    . have g9:m=D+1:=aA;have g8:decide ((m:Int)<(D:Int)+1)=false:=XQ aA;have Z:Hid (a9=(0,g)):=aB (by
       have:=a1.o;rw[show D+1-m=0 from by omega]at this;rw[b6.o,<-this];rfl)
      have h6:100+400*m<=50000:=aA;clear g9;go_wp2_with fail;go_ret2;rw[Z.o];exact⟨_,rfl,fun _=>⟨_,_,rfl,XU _,by omega,G.o⟩,F.o⟩
    have g8:decide ((m:Int)<(D:Int)+1)=true:=XR aA;obtain⟨w3,rfl⟩:=aAJ wr;obtain⟨gm,c8⟩:=aAJ g;rw[<-c8]at a1 G;clear c8;have a8:=a1.o;rw[show D+1-m=(D+1-(m+1))+1 from by omega]at a8;rw[NT (r:=D+1-(m+1))]at a8;have b7:=aB a8;clear a8 a1;go_wp2_with fail;go_loopw [94] (fun iv wr=>∃(l:Nat),iv=.int .i64 (l:Int)/\l<=D+1/\Hid (uF wr w.heap.size (100+400*m+17*l) (gX (D+1) m l gm))/\Hid (ZY w wr)) (fun i _=>D+1-(intOf i).toNat)
    case atStart=>exact⟨0,rfl,by omega,aB (G.o.mono aA),F⟩
    case round =>
     clear G F;obtain⟨l,rfl,i0,G,F⟩:=hrel;by_cases h4:l<D+1;rotate_left
     . have d0:l=D+1:=aA;have g7:decide ((l:Int)<(D:Int)+1)=false:=XQ aA;rw[d0]at G;have G:Hid (uF wr w.heap.size (100+400*m+17*17) (gX (D+1) m (D+1) gm)):=aB (G.o.mono aA);clear d0;obtain⟨w4,rfl⟩:=aAJ wr;obtain⟨s,a2⟩:=aAJ (gX (D+1) m (D+1) gm);rw[<-a2]at G b7;clear a2;go_wp2_with fail;go_loopw [134] (fun iv wr=>∃(k:Nat),iv=.int .i64 (k:Int)/\k<=D+1/\Hid (nG s k=false)/\wr=w4) (fun i _=>D+1-(intOf i).toNat)
       case atStart=>exact⟨0,rfl,by omega,aB rfl,rfl⟩
       case round =>
        obtain⟨k,rfl,f9,b9,rfl⟩:=hrel;by_cases d7:k<D+1
        . have c1:decide ((k:Int)<(D:Int)+1)=true:=XR aA;by_cases a0:(s k k).getD 0>0
          . have c2:decide ((s k k).getD 0>0)=true:=XR a0;have b3:Hid (nG s (D+1)=true):=aB (ED (k:=k+1) aA (by simp only[nG];rw[c2,Bool.or_true]));have Z:Hid (a9=(7,fun _ _=>S)):=aB (by rw[b6.o,<-b7.o,XP b3.o]);clear a0;go_wp2_with (first
             | (at_lookup;go_loud (refine r8 (t:=135) rfl (.tmp 137) (.tmp 140) rfl gJ rfl G.o (k:Int) (k:Int) rfl (cH aA aA) (cH aA aA) ?_)))
            go_ret2;rw[Z.o];exact⟨_,rfl,fun e=>(by cases e),F.o⟩
          have c2:decide ((s k k).getD 0>0)=false:=XQ a0;have b3:Hid (nG s (k+1)=false):=aB (by simp only[nG];rw[c2,b9.o];rfl);clear a0;go_wp2_with (first
           | (at_lookup;go_loud (refine r8 (t:=135) rfl (.tmp 137) (.tmp 140) rfl gJ rfl G.o (k:Int) (k:Int) rfl (cH aA aA) (cH aA aA) ?_)))
          go_roundw
          case rel=>exact⟨k+1,by go_num,by omega,b3,trivial⟩
          case measure=>simp[intOf];omega
        have a5:k=D+1:=aA;have c1:decide ((k:Int)<(D:Int)+1)=false:=XQ aA;rw[a5]at b9;clear a5;have f2:Hid (pN (D+1) (D+1-(m+1)) ((m+1:Nat)) s=pN (D+1) (D+1) 0 g0):=aB (by
         rw[<-b7.o,XN (by rw[b9.o];decide)])
        have e9:=aB (G.o.mono (m:=100+400*(m+1)) aA);clear G;go_wp2_with fail;go_roundw
        case rel=>exact⟨m+1,s,by go_num,by omega,f2,e9,F⟩
        case measure=>simp[intOf];omega
     have g7:decide ((l:Int)<(D:Int)+1)=true:=XR aA;obtain⟨w4,rfl⟩:=aAJ wr;obtain⟨s,a2⟩:=aAJ (gX (D+1) m l gm);rw[<-a2]at G;have e4:=aB a2;clear a2;go_wp2_with fail;go_loopw [99] (fun iv wr=>∃(k:Nat),iv=.int .i64 (k:Int)/\k<=D+1/\Hid (uF wr w.heap.size (100+400*m+17*l+k) (iG m l k s))/\Hid (ZY w wr)) (fun i _=>D+1-(intOf i).toNat)
     case atStart=>exact⟨0,rfl,by omega,aB (G.o.mono aA),F⟩
     case round =>
      clear G F;obtain⟨k,rfl,f9,G,F⟩:=hrel;by_cases d7:k<D+1;rotate_left
      . have a5:k=D+1:=aA;have c1:decide ((k:Int)<(D:Int)+1)=false:=XQ aA;rw[a5]at G;clear a5;have e8:Hid (uF wr w.heap.size (100+400*m+17*(l+1)) (gX (D+1) m (l+1) gm)):=aB (by
         show uF _ _ _ (iG m l (D+1) (gX (D+1) m l gm));rw[<-e4.o];exact G.o.mono aA)
        clear G;go_wp2_with fail;go_roundw
        case rel=>exact⟨l+1,by go_num,by omega,e8,F⟩
        case measure=>simp[intOf];omega
      have c1:decide ((k:Int)<(D:Int)+1)=true:=XR aA;obtain⟨gk,c0⟩:=aAJ (iG m l k s);rw[<-c0]at G;have b4:Hid (iG m l (k+1) s=DO gk m l k):=aB (by rw[c0];rfl);clear c0;cases hx:gk (l:Int) (m:Int) with
      | none =>
       have a3:Hid (iG m l (k+1) s=gk):=aB (by rw[b4.o,N0 hx]);have I:True:=trivial;go_wp2_with (first
        | (at_lookup;have _t:=I;go_loud (refine eH (t:=135) rfl (.tmp 103) (.tmp 106) rfl gJ rfl G.o (l:Int) (m:Int) rfl (cH aA aA) (cH aA aA) ?_);clear I _t)
        | (at_lookup;go_loud (refine eH (t:=135) rfl (.tmp 111) (.tmp 114) rfl gJ rfl G.o (m:Int) (k:Int) rfl (cH aA aA) (cH aA aA) ?_)))
       go_roundw
       case rel=>exact⟨k+1,by go_num,by omega,aB (by rw[a3.o];exact G.o.mono aA),F⟩
       case measure=>simp[intOf];omega
      | some xa =>
       cases hy:gk (m:Int) (k:Int) with
       | none =>
        have a3:Hid (iG m l (k+1) s=gk):=aB (by rw[b4.o,N1 hy]);have I:True:=trivial;go_wp2_with (first
         | (at_lookup;have _t:=I;go_loud (refine eH (t:=135) rfl (.tmp 103) (.tmp 106) rfl gJ rfl G.o (l:Int) (m:Int) rfl (cH aA aA) (cH aA aA) ?_);clear I _t)
         | (at_lookup;go_loud (refine eH (t:=135) rfl (.tmp 111) (.tmp 114) rfl gJ rfl G.o (m:Int) (k:Int) rfl (cH aA aA) (cH aA aA) ?_)))
        go_roundw
        case rel=>exact⟨k+1,by go_num,by omega,aB (by rw[a3.o];exact G.o.mono aA),F⟩
        case measure=>simp[intOf];omega
       | some ya =>
        have a3:Hid (iG m l (k+1) s=yN gk l k (wrap64 (xa+ya))):=aB (by rw[b4.o,QX hx hy]);have HC:=aB (AL G.o aA (l:Int) (k:Int) (wrap64 (xa+ya)) (cH aA aA) (cH aA aA) (TS _));have I:True:=trivial;go_wp2_with (first
         | (at_lookup;have _t:=I;go_loud (refine eH (t:=135) rfl (.tmp 103) (.tmp 106) rfl gJ rfl G.o (l:Int) (m:Int) rfl (cH aA aA) (cH aA aA) ?_);clear I _t)
         | (at_lookup;go_loud (refine eH (t:=135) rfl (.tmp 111) (.tmp 114) rfl gJ rfl G.o (m:Int) (k:Int) rfl (cH aA aA) (cH aA aA) ?_)))
        refine (HC.o).mono ?_;rintro e w5 ⟨rfl,d9,c7⟩;obtain⟨e7,e3⟩:=aAC d9 (qX F.o (XU _) c7);clear d9 c7;go_wp2_with fail;go_roundw
        case rel=>exact⟨k+1,by go_num,by omega,aB (by rw[a3.o];exact e7.o.mono aA),e3⟩
        case measure=>simp[intOf];omega
theorem ME{vars:Int}{A:ZZ}{n c:Nat}{os:List Nd}{w:aAB}(hv:(Lit.int .i64 vars).wf=true)(ht:aX w A n c os):
 Calls Tryz.prog 48 #[.int .i64 vars,.slice A n c] w (iV (qI vars os).1 w):=by
 have G:=aB (G3 hv ht);generalize (qI vars os)=res at *;clear ht hv;go_in;go_wp2_with fail;refine (G.o).mono ?_;rintro e I ⟨v,rfl,_,D⟩;have F:=aB D;clear D;go_wp2_with fail;go_ret;exact⟨rfl,F.o⟩
end
end Go.Proofs.YtjoddliplahgkaaGreat
