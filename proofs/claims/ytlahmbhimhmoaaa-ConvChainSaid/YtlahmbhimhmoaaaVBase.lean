/- Merged: Mem, Tree, Own, Own2, Own3, Fold, HeldE, HeldF, Ints, Short. -/
import Derived.Deep.RegionHeld
import Derived.WalkKit
import Derived.Lib.Hide
import Derived.Deep.Quiet
import Derived.Deep.RegionLaw
import Derived.OrdersHeld
namespace Go.Proofs.Ytlahmbhimhmoaaa
set_option linter.unusedVariables false
set_option linter.unusedSimpArgs false
theorem aC{p : Prop}(h : p:=by kernel_rfl):p:=h
theorem aD{p : Prop}(h : p:=by simp):p:=h
theorem aE{p : Prop}(h : p:=by decide):p:=h
theorem aF{p : Prop}(h : p:=by rfl):p:=h
theorem aG{p : Prop}(h : p:=by (simp; omega)):p:=h
theorem aH{p : Prop}(h : p:=by (simp <;> omega)):p:=h
theorem aI{p : Prop}(h : p:=by assumption):p:=h
theorem aJ{p : Prop}(h : p:=by (unfold maxLen; omega)):p:=h
theorem aK{p : Prop}(h : p:=by (intro e; injection e with e; omega)):p:=h
theorem _root_.Go.RowKit.Hid.o{p : Prop}(h : RowKit.Hid p):p:=RowKit.Hid.out h
theorem _root_.Go.Shut.o{p : Prop}(h : Shut p):p:=Shut.out h
theorem aA{p : Prop}(h : p:=by omega):p:=h
open Go.Lib (hid)
section
open Go.RowKit
structure Nd where
 op:Int
 a:Int
 b:Int
deriving DecidableEq
instance:Inhabited Nd:=⟨⟨0,0,0⟩⟩
def bB(l:List Nd)(k:Nat):Nd:=l.getD k default
theorem pK{l:List Nd}{k:Nat}(h:k<l.length):bB l k=l[k]:=by simp[bB,h]
theorem jN(l:List Nd)(m k:Nat):bB (l.drop m) k=bB l (m+k):=by simp[bB]
theorem E2{l:List Nd}{m k:Nat}(h:k<m):bB (l.take m) k=bB l k:=by
 simp[bB,h]
theorem GT{l m:List Nd}(h:l.length=m.length)(G:∀k,k<l.length → bB l k=bB m k):l=m:=by
 apply List.ext_getElem h;intro i D F;have:=G i D
 rwa [pK D,pK F]at this
theorem kY{l:List Nd}{k:Nat}(h:k<l.length):l.drop k=bB l k::l.drop (k+1):=by
 rw[pK h];exact List.drop_eq_getElem_cons h
def nV(w:World)(b off:Nat)(l:List Nd):Prop :=
 ∀k,k<l.length → w.cell? ⟨b,off+k*3,none⟩=some (.int .i64 (bB l k).op)∧w.cell? ⟨b,off+k*3+1,none⟩=some (.int .i64 (bB l k).a)∧w.cell? ⟨b,off+k*3+2,none⟩=some (.int .i64 (bB l k).b)
structure a6 (R:Nat → Prop) (w:World) (A:Option Addr) (n c:Nat) (l:List Nd):Prop where
 len:l.length=n
 cap:n ≤ c
 few:n ≤ 5864062014805
 nul:A=none → c=0
 mem:0<n → ∃b off,A=some ⟨b,off,none⟩∧R b∧nV w b off l
abbrev aX(w:World)(A:Option Addr)(n cap:Nat)(l:List Nd):Prop:=a6 (· < w.heap.size) w A n cap l
theorem aX.at_{w:World}{A:Option Addr}{n c:Nat}{l:List Nd}(h:aX w A n c l){p:Nat}(G:p<n):
 ∃b off,A=some ⟨b,off,none⟩∧b<w.heap.size∧w.cell? ⟨b,off+p*3,none⟩=some (.int .i64 (bB l p).op)∧w.cell? ⟨b,off+p*3+1,none⟩=some (.int .i64 (bB l p).a)∧w.cell? ⟨b,off+p*3+2,none⟩=some (.int .i64 (bB l p).b):=by
 obtain⟨b,off,e,D,F⟩:=h.mem (by omega);exact⟨b,off,e,D,F p (by rw[h.len];exact G)⟩
theorem aX.cells{w:World}{b off n c:Nat}{l:List Nd}(h:aX w (some ⟨b,off,none⟩) n c l){p:Nat}(O:p<n):
 b<w.heap.size∧w.cell? ⟨b,off+p*3,none⟩=some (.int .i64 (bB l p).op)∧w.cell? ⟨b,off+p*3+1,none⟩=some (.int .i64 (bB l p).a)∧w.cell? ⟨b,off+p*3+2,none⟩=some (.int .i64 (bB l p).b):=by
 obtain⟨U,off',e,G,I⟩:=h.at_ O;injection e with e;injection e with D F;subst D F;exact⟨G,I⟩
theorem DU(w:World)(x y z:Value)(t:TypeId)(o:Nat)(v:Value)(h:#[x,y,z][o]? = some v):(w.alloc (.cells #[x,y,z] t)).cell? ⟨w.heap.size,o,none⟩=some v:=by
 rw[World.cell?_alloc_new];exact h
theorem aQ(w:World)(o:Obj):Below w.heap.size w (w.alloc o):=(Below.refl _ _).alloc (Nat.le_refl _) _
theorem cB(w:World)(o D:Obj):Below w.heap.size w ((w.alloc o).alloc D):=(aQ w o).alloc (by simp) _
theorem nV.keep{w w':World}{b off:Nat}{l:List Nd}(h:nV w b off l)(D:∀o,w'.cell? ⟨b,o,none⟩=w.cell? ⟨b,o,none⟩):nV w' b off l:=by
 intro k F;rw[D,D,D];exact h k F
theorem a6.keep{R R':Nat → Prop}{w w':World}{A:Option Addr}{n cap:Nat}{l:List Nd}(h:a6 R w A n cap l)(hR:∀b,R b → R' b∧∀o,w'.cell? ⟨b,o,none⟩=w.cell? ⟨b,o,none⟩):a6 R' w' A n cap l :=
 ⟨h.len,h.cap,h.few,h.nul,fun G=>by
  obtain⟨b,off,e,D,F⟩:=h.mem G;exact⟨b,off,e,(hR b D).1,F.keep (hR b D).2⟩⟩
theorem aX.below{w w':World}{A:Option Addr}{n cap:Nat}{l:List Nd}(h:aX w A n cap l)(F:Below w.heap.size w w'):aX w' A n cap l :=
 ⟨h.len,h.cap,h.few,h.nul,fun I=>by
  obtain⟨b,off,e,D,G⟩:=h.mem I;exact⟨b,off,e,Nat.lt_of_lt_of_le D F.size,G.keep fun o=>F.cell (p:=⟨b,o,none⟩) D⟩⟩
theorem aX.alloc{w:World}{A:Option Addr}{n c:Nat}{l:List Nd}(h:aX w A n c l)(o:Obj):aX (w.alloc o) A n c l:=h.below (aQ _ _)
theorem aX.nil(w:World):aX w none 0 0 []:=⟨rfl,Nat.le_refl _,Nat.zero_le _,fun _=>rfl,fun h=>absurd h (by omega)⟩
theorem aU{B:Nat}{a w:World}(h:Below B a w)(n:Nat):Below B a (w.drewN n):=⟨h.os,h.tape,h.output,h.size,h.block⟩
theorem cU{a b:Bool}(h:a=b):Ending.returned (.bool a)=.returned (.bool b):=by rw[h]
theorem cN{k:IntKind}{a b:Int}(h:a=b):Ending.returned (.int k a)=.returned (.int k b):=by rw[h]
theorem kF{W D:World}(F:Below W.heap.size W D):(∀b o,b<W.heap.size → D.cell? ⟨b,o,none⟩=W.cell? ⟨b,o,none⟩)∧(∀b o,b<W.heap.size → D.frozen? ⟨b,o,none⟩=W.frozen? ⟨b,o,none⟩) :=
 ⟨fun b o h=>F.cell (p:=⟨b,o,none⟩) h,fun b o h=>F.frozen (p:=⟨b,o,none⟩) h⟩
end
section
def bR(op a b:Int):Bool :=
 if op=1 then decide (0 ≤ a∧a ≤ 1048576∧b=0)
 else if op=2 then decide ((a=0∨a=1)∧1 ≤ b∧b ≤ 4)
 else if op=3 then decide (0 ≤ a∧a ≤ 16∧0 ≤ b∧b ≤ 1000)
 else if op=4 then decide (a=0∧b=0)
 else if op=5 then decide (a=0∧b=0)
 else if op=6 then decide (a=0∧b=0)
 else if op=7 then decide (a=0∧b=0)
 else if op=8 then decide (0 ≤ a∧a<64∧b=0)
 else if op=9 then decide (0 ≤ a∧a<64∧b=0)
 else if op=10 then decide (0 ≤ a∧a<64∧0 ≤ b∧b<16)
 else if op=11 then decide (0 ≤ a∧a<64∧0 ≤ b∧b ≤ 16)
 else if op=12 then decide (1 ≤ b∧b ≤ 4∧0 ≤ a∧a<b)
 else if op=13 then decide (0 ≤ a∧a<16∧b=0)
 else false
def cK(op b:Int):Int:=if op=4 then 2 else if op=5 then 2 else if op=6 then 2 else if op=13 then 2 else if op=7 then 3 else if op=11 then 2+b else if op=12 then b else 0
def cO(op k:Int):Int:=if (op=4∨op=5)∧k=1∨op=7∧k=2 then 1 else 0
def aR(op b k:Int):Int:=if (op=4∨op=5)∧k=1∨op=7∧k=2 then 1 else if op=12∧k % 2=1 then b else 0
theorem vC{c:Prop}[Decidable c]{x y:Bool}{q:Prop}(D:c → (x=true ↔ q))(F:¬ c → (y=true ↔ q)):(if c then x else y)=true ↔ q:=by
 split
 . exact D ‹_›
 exact F ‹_›
def eU(n:Nd):Bool:=bR n.op n.a n.b&&decide (n.op≠3)&&decide (n.op≠13)
def yG(n:Nd):Bool:=bR n.op n.a n.b&&decide (n.op=13)
theorem bI{op a b:Int}:bR op a b=true ↔ (op=1∧0 ≤ a∧a ≤ 1048576∧b=0)∨(op=2∧(a=0∨a=1)∧1 ≤ b∧b ≤ 4)∨(op=3∧0 ≤ a∧a ≤ 16∧0 ≤ b∧b ≤ 1000) ∨
 ((op=4∨op=5∨op=6∨op=7)∧a=0∧b=0)∨((op=8∨op=9)∧0 ≤ a∧a<64∧b=0)∨(op=10∧0 ≤ a∧a<64∧0 ≤ b∧b<16)∨(op=11∧0 ≤ a∧a<64∧0 ≤ b∧b ≤ 16) ∨
 (op=12∧1 ≤ b∧b ≤ 4∧0 ≤ a∧a<b)∨(op=13∧0 ≤ a∧a<16∧b=0):=by
 unfold bR;iterate 13
  refine vC ?_ ?_<;>intro _
  . subst_vars;rw[decide_eq_true_eq];simp
 constructor
 . intro h;cases h
 intro h;omega
theorem fS{op a b:Int}(h:bR op a b=true):0 ≤ b∧b ≤ 1000:=by
 rw[bI]at h;omega
theorem gQ{op a b:Int}(h:bR op a b=true):0 ≤ a∧a ≤ 1048576:=by
 rw[bI]at h;omega
theorem vE{op a b:Int}(h:bR op a b=true):0 ≤ cK op b∧cK op b ≤ 18:=by
 rw[bI]at h;simp only[cK]
 repeat' split
 all_goals omega
def ds(n:Nd):List Bool:=if n.op=12 then (List.replicate n.b.toNat [true,false]).flatten else List.replicate (cK n.op n.b).toNat false
inductive Fo where
 | nil
 | cons (pre:List Nd) (n:Nd) (atoms:List Nd) (kids next:Fo)
def bE:Nat → Int → List Nd → Option (List Nd×List Nd)
 | 0,_,l=>some ([],l)
 | _+1,_,[]=>none
 | k+1,last,x::l=>if x.op=3∧bR x.op x.a x.b=true∧last<x.a then (bE k x.a l).map fun p=>(x::p.1,p.2) else none
def dU:Bool → List Nd → Option (List Nd×List Nd)
 | false,l=>some ([],l)
 | true,[]=>none
 | true,x::l=>if yG x then some ([x],l) else none
def fC(n:Nd)(l:List Nd):Option (List Nd×List Nd):=if n.op=2 then bE n.b.toNat (-1) l else some ([],l)
def iA:Nat → List Bool → List Nd → Option (Fo×List Nd)
 | 0,_,_=>none
 | _+1,[],l=>some (.nil,l)
 | f+1,d::dr,l =>
  (dU d l).bind fun p=>match p.2 with
   | []=>none
   | n::D=>if eU n then
    (fC n D).bind fun q=>(iA f (ds n) q.2).bind fun k=>(iA f dr k.2).bind fun x=>some (.cons p.1 n q.1 k.1 x.1,x.2)
    else none
theorem iC:∀(k:Nat)(D:Int)(l:List Nd)(p:List Nd×List Nd),bE k D l=some p → l=p.1++p.2∧p.1.length=k
 | 0,_,l,p,h=>by simp only[bE,Option.some.injEq]at h;subst h;simp
 | k+1,_,[],p,h=>by simp[bE]at h
 | k+1,D,x::l,p,h=>by
  simp only[bE]at h;split at h
  . simp only[Option.map_eq_some_iff]at h;obtain⟨q,I,rfl⟩:=h;obtain⟨F,G⟩:=iC k x.a l q I;simp[← F,G]
  . cases h
theorem mS{d:Bool}{l:List Nd}{p:List Nd×List Nd}(h:dU d l=some p):l=p.1++p.2:=by
 cases d with
 | false=>simp only[dU,Option.some.injEq]at h;subst h;simp
 | true =>
  cases l with
  | nil=>simp[dU]at h
  | cons x l =>
   simp only[dU]at h;split at h
   . simp only[Option.some.injEq]at h;subst h;simp
   . cases h
theorem jD{n:Nd}{l:List Nd}{p:List Nd×List Nd}(h:fC n l=some p):l=p.1++p.2:=by
 simp only[fC]at h;split at h
 . exact (iC _ _ _ _ h).1
 simp only[Option.some.injEq]at h;subst h;simp
def row:Fo → List Nd
 | .nil=>[]
 | .cons D n atoms kids next=>D++n::(atoms++(row kids++row next))
theorem iK:∀(f:Nat)(F:List Bool)(l:List Nd)(x:Fo×List Nd),iA f F l=some x → l=row x.1++x.2∧(F≠[] → x.2.length<l.length)
 | 0,_,_,_,h=>by simp[iA]at h
 | _+1,[],l,x,h=>by simp only[iA,Option.some.injEq]at h;subst h;simp[row]
 | f+1,d::dr,l,x,h=>by
  simp only[iA,Option.bind_eq_some_iff]at h;obtain⟨p,Z,h⟩:=h;have G:=mS Z;split at h
  . cases h
  . rename_i n z D
    split at h
    . simp only[Option.bind_eq_some_iff]at h;obtain⟨q,o,k,Y,y,s,h⟩:=h;simp only[Option.some.injEq]at h;subst h;have I:=jD o;obtain⟨O,_⟩:=iK f _ _ _ Y;obtain⟨U,_⟩:=iK f _ _ _ s;have e:l=p.1++n::(q.1++(row k.1++(row y.1++y.2))):=by rw[G,D,I,O,U]
      refine⟨by rw[e];simp[row],fun _=>?_⟩;rw[e];simp;omega
    cases h
theorem j4:∀(f g:Nat)(G:List Bool)(l:List Nd),l.length<f → l.length<g → iA f G l=iA g G l
 | 0,_,_,_,h,_=>absurd h (by omega)
 | _,0,_,_,_,h=>absurd h (by omega)
 | f+1,g+1,[],l,_,_=>by simp[iA]
 | f+1,g+1,d::dr,l,hf,hg=>by
  simp only[iA];refine Option.bind_congr fun p o=>?_;have O:=mS o;split
  . rfl
  . rename_i n z D
    split
    . refine Option.bind_congr fun q s=>?_;have U:=jD s;have I:q.2.length<l.length:=by rw[O,D,U];simp;omega
      rw[j4 f g (ds n) q.2 (by omega) (by omega)];refine Option.bind_congr fun k Z=>?_;have Y:=(iK _ _ _ _ Z).1;have F:k.2.length ≤ q.2.length:=by rw[Y];simp
      rw[j4 f g dr k.2 (by omega) (by omega)]
    rfl
def pp(D:List Bool)(l:List Nd):Option (Fo×List Nd):=iA (l.length+1) D l
theorem iB(l:List Nd):pp [] l=some (.nil,l):=by simp[pp,iA]
theorem cZ(d:Bool)(D:List Bool)(l:List Nd):pp (d::D) l =
 (dU d l).bind fun p=>match p.2 with
  | []=>none
  | n::O=>if eU n then
   (fC n O).bind fun q=>(pp (ds n) q.2).bind fun k=>(pp D k.2).bind fun x=>some (.cons p.1 n q.1 k.1 x.1,x.2)
   else none:=by
 simp only[pp,iA];refine Option.bind_congr fun p o=>?_;have U:=mS o;split
 . rfl
 rename_i n O F
 split
 . refine Option.bind_congr fun q s=>?_;have Y:=jD s;have I:q.2.length<l.length:=by rw[U,F,Y];simp;omega
   rw[j4 l.length (q.2.length+1) (ds n) q.2 (by omega) (by omega)];refine Option.bind_congr fun k h=>?_;have Z:=(iK _ _ _ _ h).1;have G:k.2.length ≤ q.2.length:=by rw[Z];simp
   rw[j4 l.length (k.2.length+1) D k.2 (by omega) (by omega)]
 rfl
theorem pR{D:List Bool}{l:List Nd}{x:Fo×List Nd}(h:pp D l=some x):l=row x.1++x.2:=(iK _ _ _ _ h).1
theorem E8{D:List Bool}{l:List Nd}{x:Fo×List Nd}(h:pp D l=some x)(hd:D≠[]):x.2.length<l.length:=(iK _ _ _ _ h).2 hd
def Fo.app:Fo → Fo → Fo
 | .nil,g=>g
 | .cons p n a k x,g=>.cons p n a k (x.app g)
theorem mR:∀(F D:List Bool)(l:List Nd),pp (F++D) l=(pp F l).bind fun x=>(pp D x.2).map fun y=>(x.1.app y.1,y.2)
 | [],D,l=>by simp[iB,Fo.app]
 | d::F,D,l=>by
  rw[List.cons_append,cZ,cZ];simp only[Option.bind_assoc];refine Option.bind_congr fun p I=>?_;split
  . rfl
  . split
    . simp only[Option.bind_assoc];refine Option.bind_congr fun q O=>?_;refine Option.bind_congr fun k G=>?_;rw[mR F D k.2];simp only[Option.bind_assoc];refine Option.bind_congr fun x U=>?_;cases hy:pp D x.2<;>simp[Fo.app,hy]
    rfl
def ends(D:List Bool)(t:List Nd)(p:Nat):Option Nat:=(pp D (t.drop p)).map fun x=>t.length-x.2.length
theorem tC{D:List Bool}{t:List Nd}{p:Nat}{x:Fo×List Nd}(h:pp D (t.drop p)=some x)(G:p ≤ t.length):x.2=t.drop (t.length-x.2.length)∧p ≤ t.length-x.2.length∧x.2.length ≤ t.length-p:=by
 have e:=pR h;have F:=congrArg List.length e;rw[List.length_drop,List.length_append]at F;refine⟨?_,by omega,by omega⟩;have:t.drop (p+(row x.1).length)=x.2:=by rw[← List.drop_drop,e,List.drop_left]
 rw[show t.length-x.2.length=p+(row x.1).length from by omega,this]
theorem EH{t:List Nd}{p:Nat}(D:p ≤ t.length):ends [] t p=some p:=by
 simp only[ends,iB,Option.map_some,List.length_drop,Option.some.injEq];omega
theorem uU(D F:List Bool){t:List Nd}{p:Nat}(G:p ≤ t.length):ends (D++F) t p=(ends D t p).bind (ends F t):=by
 unfold ends;rw[mR,Option.map_bind,Option.bind_map];refine Option.bind_congr fun x I=>?_;obtain⟨e,_,_⟩:=tC I G;simp only[Function.comp];rw[← e,Option.map_map];rfl
theorem mC(d:Bool)(D:List Bool){t:List Nd}{p:Nat}(F:p ≤ t.length):ends (d::D) t p=(ends [d] t p).bind (ends D t):=uU [d] D F
theorem nZ{D:List Bool}{t:List Nd}{p q:Nat}(h:ends D t p=some q)(I:p ≤ t.length):p ≤ q∧q ≤ t.length∧(D≠[] → p<q):=by
 simp only[ends,Option.map_eq_some_iff]at h;obtain⟨x,F,rfl⟩:=h;obtain⟨_,G,O⟩:=tC F I;refine⟨G,by omega,fun hd=>?_⟩;have:=E8 F hd;rw[List.length_drop]at this;omega
theorem k8(d:Bool)(D:List Bool){t:List Nd}{p:Nat}(F:t.length ≤ p):ends (d::D) t p=none:=by
 simp only[ends];rw[List.drop_eq_nil_of_le F,cZ];cases d<;>simp[dU]
theorem EG(D:List Bool){t:List Nd}{p:Nat}(F:p<t.length):ends (true::D) t p=if yG (bB t p) then ends (false::D) t (p+1) else none:=by
 simp only[ends];rw[kY F,cZ,cZ];simp only[dU];by_cases h:yG (bB t p)=true
 . simp only[h,if_true,Option.bind_some];split
   . rfl
   split
   . simp only[Option.map_bind];refine Option.bind_congr fun q I=>?_;simp only[Option.map_bind,Function.comp];refine Option.bind_congr fun k G=>?_;simp only[Option.map_bind,Function.comp];refine Option.bind_congr fun x O=>?_;rfl
   rfl
 simp[h]
def fY:Nat → Int → List Nd → Nat → Option Nat
 | 0,_,_,p=>some p
 | k+1,last,t,p=>if p<t.length∧(bB t p).op=3∧bR (bB t p).op (bB t p).a (bB t p).b=true∧last<(bB t p).a then fY k (bB t p).a t (p+1) else none
theorem rE:∀(k:Nat)(D:Int)(t:List Nd)(p:Nat),p ≤ t.length → (bE k D (t.drop p)).map (fun x=>t.length-x.2.length)=fY k D t p
 | 0,_,t,p,hp=>by simp only[bE,fY,Option.map_some,List.length_drop,Option.some.injEq];omega
 | k+1,D,t,p,hp=>by
  by_cases h:p<t.length
  . rw[kY h];simp only[bE,fY,h,true_and];split
    . rw[← rE k (bB t p).a t (p+1) h,Option.map_map];rfl
    rfl
  . rw[List.drop_eq_nil_of_le (by omega)];simp[bE,fY,h]
theorem uV{t:List Nd}{p:Nat}(D:p<t.length):ends [false] t p=if eU (bB t p) then (if (bB t p).op=2 then fY (bB t p).b.toNat (-1) t (p+1) else ends (ds (bB t p)) t (p+1)) else none:=by
 simp only[ends];rw[kY D,cZ];simp only[dU,Option.bind_some];split
 . simp only[fC];split
   . rename_i F
     have hd:ds (bB t p)=[]:=by simp[ds,F,cK]
     rw[← rE _ _ _ _ D,hd];cases bE (bB t p).b.toNat (-1) (t.drop (p+1))<;>simp[iB]
   simp only[Option.bind_some,iB,Option.map_bind];cases pp (ds (bB t p)) (t.drop (p+1))<;>simp
 rfl
def jH(t:List Nd)(at_:Int):Int:=if 0 ≤ at_∧at_<t.length then (match ends [false] t at_.toNat with|some q=>(q:Int)|none => -1) else -1
def mO:Option Nat → Int
 | some q=>q
 | none => -1
theorem kZ(t:List Nd)(p:Nat):jH t p=mO (ends [false] t p):=by
 simp only[jH];split
 . rw[Int.toNat_natCast];cases ends [false] t p<;>rfl
 rw[k8 _ _ (by omega)];rfl
def eQ(n:Nd)(i:Nat):List Bool:=if n.op=12 then (List.replicate (n.b.toNat-i) [true,false]).flatten else List.replicate ((cK n.op n.b).toNat-i) false
theorem mT(n:Nd):eQ n 0=ds n:=by simp[eQ,ds]
theorem pV(n:Nd){i:Nat}(h:cK n.op n.b ≤ i):eQ n i=[]:=by
 simp only[eQ];split
 . rename_i D
   have:n.b.toNat-i=0:=by simp[cK,D]at h;omega
   simp[this]
 have:(cK n.op n.b).toNat-i=0:=by omega
 simp[this]
theorem pW{n:Nd}{i:Nat}(h:n.op=12)(D:(i:Int)<n.b):eQ n i=true::false::eQ n (i+1):=by
 simp only[eQ,h,if_true];rw[show n.b.toNat-i=(n.b.toNat-(i+1))+1 from by omega,List.replicate_succ];rfl
theorem pX{n:Nd}{i:Nat}(h:n.op≠12)(D:(i:Int)<cK n.op n.b):eQ n i=false::eQ n (i+1):=by
 simp only[eQ,h,if_false];rw[show (cK n.op n.b).toNat-i=((cK n.op n.b).toNat-(i+1))+1 from by omega,List.replicate_succ]
theorem H6{l:List Nd}(G:0<l.length)(D:eU (bB l 0)=true)(F:(bB l 0).op=2):
 pp [false] l=(bE (bB l 0).b.toNat (-1) (l.drop 1)).map fun q=>(.cons [] (bB l 0) q.1 .nil .nil,q.2):=by
 cases l with
 | nil=>simp at G
 | cons n m =>
  have e:bB (n::m) 0=n:=rfl;rw[e]at D F ⊢;have hd:ds n=[]:=by simp[ds,F,cK]
  rw[cZ];simp only[dU,Option.bind_some,D,if_true,fC,F,hd,List.drop_one,List.tail_cons,iB];cases bE n.b.toNat (-1) m<;>rfl
def JU(op b:Int):Int:=if op=4 then 2 else if op=5 then 2 else if op=6 then 2 else if op=7 then 3 else if op=11 then 2+b else if op=12 then 2*b else 0
theorem jG{n:Nd}(h:eU n=true):(ds n).length=(JU n.op n.b).toNat:=by
 simp only[eU,Bool.and_eq_true,decide_eq_true_eq]at h;have F:=fS h.1.1;simp only[ds];split
 . rename_i D
   simp[JU,D,List.length_flatten];omega
 rename_i D
 rw[List.length_replicate];simp only[cK,JU]
 repeat' split
 all_goals first|rfl|omega
def Fo.setPre(p:List Nd):Fo → Fo
 | .nil=>.nil
 | .cons _ n a k x=>.cons p n a k x
theorem yN{l:List Nd}{x:Fo×List Nd}(h:pp [false] l=some x):∃n a k,x.1=.cons [] n a k .nil:=by
 rw[cZ]at h;simp only[dU,Option.bind_some]at h;split at h
 . cases h
 split at h
 . simp only[Option.bind_eq_some_iff,iB,Option.some.injEq]at h;obtain⟨q,_,k,_,y,rfl,rfl⟩:=h;exact⟨_,_,_,rfl⟩
 cases h
theorem vP(D:List Bool)(l:List Nd):pp (false::D) l=(pp [false] l).bind fun x=>(pp D x.2).map fun y=>(x.1.app y.1,y.2):=mR [false] D l
theorem H8(D:List Bool)(f:Nd)(l:List Nd):pp (true::D) (f::l)=if yG f then (pp [false] l).bind fun x=>(pp D x.2).map fun y=>((x.1.setPre [f]).app y.1,y.2) else none:=by
 rw[cZ,cZ];simp only[dU];by_cases h:yG f=true
 . simp only[h,if_true,Option.bind_some];split
   . rfl
   split
   . simp only[Option.bind_assoc,iB,Option.bind_some,Fo.setPre];refine Option.bind_congr fun q G=>?_;refine Option.bind_congr fun k F=>?_;cases pp D k.2<;>rfl
   rfl
 simp[h]
theorem H0{l:List Nd}(G:0<l.length)(D:eU (bB l 0)=true)(F:(bB l 0).op≠2):
 pp [false] l=(pp (ds (bB l 0)) (l.drop 1)).map fun q=>(.cons [] (bB l 0) [] q.1 .nil,q.2):=by
 cases l with
 | nil=>simp at G
 | cons n m =>
  have e:bB (n::m) 0=n:=rfl;rw[e]at D F ⊢;rw[cZ];simp only[dU,Option.bind_some,D,if_true,fC,if_neg F,List.drop_one,List.tail_cons,iB];cases pp (ds n) m<;>rfl
end
section
open Go.RowKit
def eC(n:Nd):List Value:=[.int .i64 n.op,.int .i64 n.a,.int .i64 n.b]
def fR(l:List Nd):List Value:=l.flatMap eC
theorem rL(n:Nd)(l:List Nd):fR (n::l)=eC n++fR l:=rfl
theorem uW(l m:List Nd):fR (l++m)=fR l++fR m:=by simp[fR]
theorem uX(l:List Nd):(fR l).length=l.length*3:=by
 induction l with
 | nil=>rfl
 | cons n l D=>rw[rL,List.length_append,D];simp[eC];omega
theorem iX:∀(l:List Nd)(k:Nat),k<l.length → (fR l)[k*3]? = some (.int .i64 (bB l k).op)∧(fR l)[k*3+1]? = some (.int .i64 (bB l k).a)∧(fR l)[k*3+2]? = some (.int .i64 (bB l k).b)
 | [],k,h=>absurd h (by simp)
 | n::l,0,_=>⟨rfl,rfl,rfl⟩
 | n::l,k+1,h=>by
  obtain⟨D,F,G⟩:=iX l k (by simpa using h);have e:bB (n::l) (k+1)=bB l k:=rfl;rw[e,rL];refine⟨?_,?_,?_⟩
  . rw[List.getElem?_append_right (by simp[eC];omega),← D];congr 1;simp[eC];omega
  . rw[List.getElem?_append_right (by simp[eC];omega),← F];congr 1;simp[eC];omega
  . rw[List.getElem?_append_right (by simp[eC];omega),← G];congr 1;simp[eC];omega
theorem EN(l:List Nd):∀u∈fR l,u.oneCell'=true:=by
 intro u D;simp only[fR,eC,List.mem_flatMap]at D;obtain⟨n,_,D⟩:=D;simp at D;rcases D with rfl|rfl|rfl<;>rfl
def zI(R:Nat → Prop)(w:World)(v:Value)(l:List Nd):Prop:=∃A n c,v=.slice A n c∧a6 R w A n c l
theorem zI.nil(R:Nat → Prop)(w:World):zI R w (.slice none 0 0) []:=⟨none,0,0,rfl,rfl,Nat.le_refl _,Nat.zero_le _,fun _=>rfl,fun h=>absurd h (by omega)⟩
def bG(w:World)(base:Nat)(v:Value)(l:List Nd):Prop:=w.ownsRow base 42 3 v l.length (fR l)
theorem bG.nil(w:World)(base:Nat):bG w base (.slice none 0 0) []:=World.ownsRow_nil w base _ _
theorem aV{w:World}{base:Nat}{e:TypeId}{size:Nat}{v:Value}{n:Nat}{O:List Value}(h:w.ownsRow base e size v n O){g:Nat}(G:v.ownBlock=some g):base ≤ g∧g<w.heap.size∧∃D,w.heap[g]? = some (.cells D e (0,0)):=by
 rcases h.2 with⟨rfl,_⟩|⟨U,cap,D,rfl,I,F,_⟩
 . simp[Value.ownBlock]at G
 simp only[Value.ownBlock,Option.some.injEq]at G;subst G;exact⟨I,(Array.getElem?_eq_some_iff.1 F).1,D,F⟩
theorem bG.termS{w:World}{base:Nat}{v:Value}{l:List Nd}(h:bG w base v l)(hl:l.length ≤ 5864062014805):zI (fun b=>v.ownBlock=some b) w v l:=by
 have O:=fun g o=>World.ownsRow.cells h (g:=g) o;rcases h.2 with⟨rfl,Z⟩|⟨g,cap,U,rfl,hb,s,D,_⟩
 . obtain rfl:=List.eq_nil_of_length_eq_zero Z;exact zI.nil _ _
 refine⟨_,_,_,rfl,rfl,D,hl,(fun e=>by cases e),fun _=>⟨g,0,rfl,rfl,fun k z=>?_⟩⟩;obtain⟨F,G,I⟩:=iX l k z;have F:=O g rfl _ _ F;have G:=O g rfl _ _ G;have I:=O g rfl _ _ I;have Y:∀j,(⟨g,0,none⟩:Addr).add j=⟨g,j,none⟩:=fun j=>by unfold Addr.add;split<;>simp_all
 rw[Y]at F G I;simp only[Nat.zero_add];exact⟨F,G,I⟩
def aW(w:World)(g:Nat)(t:TypeId)(cs:Array Value):Prop:=w.heap[g]? = some (.cells cs t (0,0))
section
variable {w w' : World}{g : Nat}{t : TypeId}{cs : Array Value}
theorem aW.lt(h:aW w g t cs):g<w.heap.size:=(Array.getElem?_eq_some_iff.1 h).1
theorem aW.cell(h:aW w g t cs)(i:Nat):w.cell? ⟨g,i,none⟩=cs[i]?:=by
 unfold aW at h;simp[World.cell?,h]
theorem aW.frozen(h:aW w g t cs)(i:Nat):w.frozen? ⟨g,i,none⟩=false:=by
 unfold aW at h;simp[World.frozen?,h]
theorem aW.new(w:World)(t:TypeId)(cs:Array Value):aW (w.alloc (.cells cs t)) w.heap.size t cs:=heap_alloc_new w _
theorem aW.drewN(h:aW w g t cs)(n:Nat):aW (w.drewN n) g t cs:=h
theorem aW.alloc(h:aW w g t cs)(o:Obj):aW (w.alloc o) g t cs:=(Below.heap_alloc w o g h.lt).trans h
theorem aW.set_(h:aW w g t cs)(i:Nat)(u:Value):aW (w.setCell ⟨g,i,none⟩ u) g t (cs.setIfInBounds i u):=by
 unfold aW at h ⊢;simp[World.setCell,Array.getElem?_modify,h]
theorem aW.far(h:aW w g t cs){p:Addr}(D:g≠p.block)(u:Value):aW (w.setCell p u) g t cs:=(Below.heap_setCell w p u g D).trans h
theorem aW.below{B:Nat}(h:aW w g t cs)(D:Below B w w')(F:g<B):aW w' g t cs:=(D.block g F).trans h
theorem aW.grown{row:Option Nat}(h:aW w g t cs)(D:w.grownBy w' row)(F:some g≠row):aW w' g t cs:=(D.block g h.lt F).trans h
end
structure eE (w w':World) (base:Nat) (e:TypeId) (size:Nat) (v:Value) (A:Option Addr) (n c:Nat) (xs:List Value):Prop where
 own:w'.ownsRow base e size (.slice A n c) n xs
 grown:w.grownBy w' v.ownBlock
 new:∀g,(Value.slice A n c).ownBlock=some g → v.ownBlock=some g∨w.heap.size ≤ g
theorem i8{P:Program}(w:World)(base:Nat)(t ty e:TypeId)(i:TypeInfo)(z:Value)(size U:Nat)(ht:P.underlying t=some (.slice e))(hi:P.info? e=some i)(hz:i.zero=some z)
 (Z:i.size=size) (a3:i.bytes=U) (a8:z.cells.size=size) (a6:0<size)
 (v:Value) (n:Nat) (xs:List Value) (G:w.ownsRow base e size v n xs)
 (A:Option Addr) (m c:Nat) (D:List Value) (hl:D.length=m*size) (a2:A=none → m=0∧c=0) (F:∀ad,A=some ad → ∀j u,D[j]? = some u → w.cell? (ad.add j)=some u) (h1:∀u∈D,u.oneCell'=true)
 (a1:n+m ≤ maxLen) (I:(n+m)*U ≤ 140737488355328) (hbase:base ≤ w.heap.size) :
 ∃h o w',(Builtin.append_ #[t,t] ty #[v,.slice A m c]).run P w=.ok (.slice h (n+m) o) w'∧eE w w' base e size v h (n+m) o (xs++D):=by
 cases A with
 | none =>
  obtain⟨rfl,rfl⟩:=a2 rfl;obtain rfl:D=[]:=List.eq_nil_of_length_eq_zero (by simpa using hl);have hr:=run_append_owned_none (P:=P) w base t ty e i size ht hi v n xs G;obtain⟨h,o,rfl⟩:∃h o,v=.slice h n o:=by
   rcases G.2 with⟨rfl,rfl⟩|⟨g,cap,a0,rfl,_⟩
   . exact⟨none,0,rfl⟩
   exact⟨_,_,rfl⟩
  exact⟨h,o,w,hr,by simpa using G,World.grownBy.refl _ _,fun g s=>.inl s⟩
 | some ad =>
  have F:=F ad rfl;obtain⟨v',w',hr,h2,h3,h4⟩:=run_append_own (P:=P) w base t ty e i z size U ht hi hz Z a3 a8 a6 v n xs G ad m c D hl F h1 a1 I hbase;obtain⟨h,o,rfl⟩:∃h o,v'=.slice h (n+m) o:=by
   rcases h2.2 with⟨rfl,h0⟩|⟨g,cap,a0,rfl,_⟩
   . rw[h0];exact⟨none,0,rfl⟩
   exact⟨_,_,rfl⟩
  refine⟨h,o,w',hr,h2,h3,fun g s=>?_⟩;subst Z;subst a3;rcases G.2 with⟨rfl,rfl⟩|⟨g0,cap,a0,rfl,hb,a5,b0,a9,a4,a7⟩
  . by_cases hm:m=0
    . have:=h4.2 ⟨rfl,hm⟩;rw[this]at s;exact .inl s
    have O:=run_append_nil (P:=P) w t ty e i z ht hi hz ad m c D hl F (by omega) (by unfold maxLen at a1;omega) (by simp only[Nat.zero_add]at I;omega);rw[hr]at O;injection O with hv _;rw[hv]at s;simp only[Value.ownBlock,Option.some.injEq]at s;exact .inr (by omega)
  . by_cases Y:n+m ≤ cap
    . have O:=run_append_room (P:=P) w t ty e i ht hi g0 n cap a0 a5 ad m c D hl F h1 Y (by rw[hl,a4,← Nat.add_mul];exact Nat.mul_le_mul_right _ Y);rw[hr]at O;injection O with hv _;rw[hv]at s;exact .inl s
    have O:=run_append_grow (P:=P) w t ty e i z ht hi hz ⟨g0,0,none⟩ n cap xs G.1 (G.cells (g:=g0) rfl) ad m c D hl F (by omega) (by unfold maxLen at a1;omega) (growslice_fits (by omega) I);rw[hr]at O;injection O with hv _;rw[hv]at s;simp only[Value.ownBlock,Option.some.injEq]at s;exact .inr (by omega)
theorem cQ{P:Program}{o:Oper}{a:Act}{w:World}{K:Act → World → Prop}{Q:Exit → Act → World → Prop}
 (s x:Operand) (t:TypeId) (a0:o.op=Op.call { callee:=Callee.builtin Builtin.append,args:=#[s,x],argTypes:=#[t,t] })
 (base:Nat) (e:TypeId) (i:TypeInfo) (z:Value) (size F:Nat) (h1:P.underlying t=some (.slice e)) (h2:P.info? e=some i) (h3:i.zero=some z) (h4:i.size=size) (h5:i.bytes=F) (h6:z.cells.size=size) (h7:0<size)
 (v:Value) (n:Nat) (xs:List Value) (hs:a.eval s=v) (I:w.ownsRow base e size v n xs)
 (A:Option Addr) (m c:Nat) (D:List Value) (hx:a.eval x=.slice A m c) (hn:D.length=m*size) (G:A=none → m=0∧c=0) (hc:∀ad,A=some ad → ∀j u,D[j]? = some u → w.cell? (ad.add j)=some u) (Z:∀u∈D,u.oneCell'=true)
 (b1:n+m ≤ maxLen) (b2:(n+m)*F ≤ 140737488355328) (b3:base ≤ w.heap.size)
 (hK:∀U Y w',eE w w' base e size v U (n+m) Y (xs++D) → K (a.put o.dst (.slice U (n+m) Y)) w'):Oper.wp P o a w K Q:=by
 obtain⟨U,Y,w',O,h⟩:=i8 (P:=P) w base t o.type e i z size F h1 h2 h3 h4 h5 h6 h7 v n xs I A m c D hn G hc Z b1 b2 b3;unfold Oper.wp;simp[execOp,a0,resolve,invoke,builtin,hs,hx,O,Result.andThen];exact hK U Y w' h
theorem yM{w:World}{base:Nat}{e:TypeId}{size:Nat}{v:Value}{n:Nat}{D:List Value}(h:w.ownsRow base e size v n D){g:Nat}(F:g<base):some g≠v.ownBlock:=by
 intro e;have:=(aV h e.symm).1;omega
theorem jK{w w':World}(D:Below w.heap.size w w')(row:Option Nat):w.grownBy w' row:=⟨D.os,D.tape,D.output,D.size,fun k F _=>D.block k F⟩
theorem bY{w w':World}{base:Nat}{e:TypeId}{size:Nat}{v:Value}{n:Nat}{D:List Value}(h:w.ownsRow base e size v n D)(F:Below w.heap.size w w'):w'.ownsRow base e size v n D :=
 h.kept (jK F none) (by cases v.ownBlock<;>simp)
theorem bG.below{w w':World}{base:Nat}{v:Value}{l:List Nd}(h:bG w base v l)(D:Below w.heap.size w w'):bG w' base v l:=bY h D
theorem bG.drewN{w:World}{base:Nat}{v:Value}{l:List Nd}(h:bG w base v l)(m:Nat):bG (w.drewN m) base v l:=h
theorem bG.alloc{w:World}{base:Nat}{v:Value}{l:List Nd}(h:bG w base v l)(o:Obj):bG (w.alloc o) base v l:=World.ownsRow.alloc h o
theorem bG.setCell{w:World}{base:Nat}{v:Value}{l:List Nd}(h:bG w base v l){a:Addr}(ha:a.block<base)(u:Value):bG (w.setCell a u) base v l:=ownsRow_setCell_below h ha u
theorem BI(w:World)(n:Nd):∀j u,(eC n)[j]? = some u → (w.alloc (.cells #[.int .i64 n.op,.int .i64 n.a,.int .i64 n.b] 42)).cell? ((⟨w.heap.size,0,none⟩:Addr).add j)=some u:=by
 intro j u F;have D:(⟨w.heap.size,0,none⟩:Addr).add j=⟨w.heap.size,j,none⟩:=by unfold Addr.add;split<;>simp_all
 rw[D,World.cell?_alloc_new,← F];simp[eC]
theorem eE.ownN{w w':World}{base:Nat}{v:Value}{A:Option Addr}{n c:Nat}{l m:List Nd}(h:eE w w' base 42 3 v A n c (fR l++fR m))(D:n=l.length+m.length):bG w' base (.slice A n c) (l++m):=by
 unfold bG;rw[List.length_append,uW,← D];exact h.own
theorem cH{P:Program}{o:Oper}{a:Act}{w:World}{K:Act → World → Prop}{Q:Exit → Act → World → Prop}
 (s x:Operand) (t:TypeId) (U:o.op=Op.call { callee:=Callee.builtin Builtin.append,args:=#[s,x],argTypes:=#[t,t] })
 (base:Nat) (i:TypeInfo) (Z:P.underlying t=some (.slice 42)) (z:P.info? 42=some i) (h3:i.zero=some (.agg #[.int .i64 0,.int .i64 0,.int .i64 0])) (h4:i.size=3) (h5:i.bytes=24)
 (v:Value) (l:List Nd) (n:Nd) (W:World) (hW:w=W.alloc (.cells #[.int .i64 n.op,.int .i64 n.a,.int .i64 n.b] 42)) (hs:a.eval s=v) (G:bG W base v l)
 (g:Nat) (hx:a.eval x=.slice (some ⟨g,0,none⟩) 1 1) (I:g=W.heap.size) (b1:l.length+1 ≤ 5864062014805) (b3:base ≤ W.heap.size)
 (hK:∀D F w',bG w' base (.slice D (l.length+1) F) (l++[n]) → eE W w' base 42 3 v D (l.length+1) F (fR l++eC n) → K (a.put o.dst (.slice D (l.length+1) F)) w'):Oper.wp P o a w K Q:=by
 subst hW;subst I;refine cQ s x t U base _ i _ 3 24 Z z h3 h4 h5 rfl (by decide) v l.length (fR l) hs (World.ownsRow.alloc G _) _ 1 1 (eC n) hx rfl (fun e=>by cases e) (fun ad e=>by injection e with e;subst e;exact BI _ _) ?_ (by unfold maxLen;omega) (by omega) (by simp;omega) ?_
 . intro u Y;simp[eC]at Y;rcases Y with rfl|rfl|rfl<;>rfl
 intro D F w' h;refine hK D F w' ?_ ⟨h.own,?_,fun g hg=>(h.new g hg).imp id (fun hh=>by simp at hh;omega)⟩
 . exact eE.ownN (m:=[n]) (by simpa[fR] using h) rfl
 refine⟨h.grown.os,h.grown.tape,h.grown.output,Nat.le_trans (by simp) h.grown.size,fun k hk O=>?_⟩;rw[h.grown.block k (by simp;omega) O];exact Below.heap_alloc _ _ _ hk
theorem GW{l:List Nd}{j:Nat}{u:Value}(h:(fR l)[j]? = some u):∃k,k<l.length∧((j=k*3∧u=.int .i64 (bB l k).op)∨(j=k*3+1∧u=.int .i64 (bB l k).a)∨(j=k*3+2∧u=.int .i64 (bB l k).b)):=by
 have U:=(List.getElem?_eq_some_iff.1 h).1;rw[uX]at U;have O:j / 3<l.length:=by omega
 obtain⟨F,G,I⟩:=iX l (j / 3) O;have D:j=j / 3*3∨j=j / 3*3+1∨j=j / 3*3+2:=by omega
 refine⟨j / 3,O,?_⟩;rcases D with D|D|D
 . rw[← D]at F;rw[h]at F;exact .inl ⟨D,Option.some.inj F⟩
 . rw[← D]at G;rw[h]at G;exact .inr (.inl ⟨D,Option.some.inj G⟩)
 rw[← D]at I;rw[h]at I;exact .inr (.inr ⟨D,Option.some.inj I⟩)
theorem a6.flat_cells{R:Nat → Prop}{w:World}{A:Option Addr}{n c:Nat}{l:List Nd}(h:a6 R w A n c l)(D:Addr)(G:A=some D):∀j u,(fR l)[j]? = some u → w.cell? (D.add j)=some u:=by
 intro j u Y;obtain⟨k,O,I⟩:=GW Y;obtain⟨b,off,e,_,U⟩:=h.mem (by rw[← h.len];omega);rw[G]at e;injection e with e;subst e;obtain⟨Z,o,s⟩:=U k O;have F:∀j,(⟨b,off,none⟩:Addr).add j=⟨b,off+j,none⟩:=fun j=>by unfold Addr.add;split<;>simp_all
 rw[F];rcases I with⟨rfl,rfl⟩|⟨rfl,rfl⟩|⟨rfl,rfl⟩
 . exact Z
 . exact o
 exact s
theorem sP{P:Program}{t u e:TypeId}(ht:P.underlying t=some (.slice e))(F:P.underlying u=some (.slice e))(D:TypeId)(B:Option Addr)(m k:Nat)(x:Value)(w:World):
 (Builtin.append_ #[t,u] D #[.slice B m k,x]).run P w=(Builtin.append_ #[t,t] D #[.slice B m k,x]).run P w:=by
 simp[Builtin.append_,run_underlying ht,run_underlying F]
theorem cT{P:Program}{o:Oper}{a:Act}{w:World}{K:Act → World → Prop}{Q:Exit → Act → World → Prop}
 (s x:Operand) (t u:TypeId) (h:o.op=Op.call { callee:=Callee.builtin Builtin.append,args:=#[s,x],argTypes:=#[t,u] })
 (base:Nat) (i:TypeInfo) (h1:P.underlying t=some (.slice 42)) (Z:P.underlying u=some (.slice 42)) (h2:P.info? 42=some i) (h3:i.zero=some (.agg #[.int .i64 0,.int .i64 0,.int .i64 0])) (h4:i.size=3) (h5:i.bytes=24)
 (v:Value) (l m:List Nd) (hs:a.eval s=v) (D:bG w base v l) {R:Nat → Prop} {A:Option Addr} {n c:Nat} (hx:a.eval x=.slice A n c) (U:a6 R w A n c m)
 (b1:l.length+n ≤ 5864062014805) (b3:base ≤ w.heap.size)
 (hK:∀G I w',bG w' base (.slice G (l.length+n) I) (l++m) → eE w w' base 42 3 v G (l.length+n) I (fR l++fR m) → K (a.put o.dst (.slice G (l.length+n) I)) w'):Oper.wp P o a w K Q:=by
 obtain⟨G,I,w',F,O⟩:=i8 (P:=P) w base t o.type _ i _ 3 24 h1 h2 h3 h4 h5 rfl (by decide) v l.length (fR l) D A n c (fR m) (by rw[uX,U.len])
  (fun e=>⟨by
   by_cases Y:0<n
   . obtain⟨b,off,z,_⟩:=U.mem Y;rw[e]at z;cases z
   . omega,U.nul e⟩) (fun ad e=>U.flat_cells ad e) (EN m) (by unfold maxLen;omega) (by omega) b3
 obtain⟨B,k0,rfl⟩:∃B k0,v=.slice B l.length k0:=by
  rcases D.2 with⟨rfl,Y⟩|⟨g,cap,a0,rfl,_⟩
  . rw[Y];exact⟨none,0,rfl⟩
  exact⟨_,_,rfl⟩
 rw[← sP h1 Z]at F;unfold Oper.wp;simp[execOp,h,resolve,invoke,builtin,hs,hx,F,Result.andThen];exact hK G I w' (eE.ownN O (by rw[U.len])) O
theorem bL{P:Program}{ops:Array Oper}{rest:List Oper}{o:Oper}{a:Act}{w:World}{Q:Exit → Act → World → Prop}(D:o.guard=none)(h:Oper.wp P o a w (wpList P ops Q rest) Q):wpList P ops Q (o::rest) a w:=by
 unfold wpList;rw[if_pos (by simp[Region.wanted,D])];exact .inl h
theorem sF{P:Program}{ops:Array Oper}{o:Oper}{a:Act}{w:World}{K:Act → World → Prop}{Q:Exit → Act → World → Prop}{E:Prop}(D:o.guard=none)(h:Oper.wp P o a w K Q):
 if Region.wanted o (yielded ops a.tmps)=true then Oper.wp P o a w K Q else E:=by
 rw[if_pos (by simp[Region.wanted,D])];exact h
def bQ:Fo → Nat
 | .nil=>0
 | .cons _ _ _ _ x=>bQ x+1
def iN:Fo → List Nd
 | .nil=>[]
 | .cons p _ _ _ x=>p++iN x
theorem eF:∀(F G:Fo),bQ (F.app G)=bQ F+bQ G
 | .nil,G=>by simp[Fo.app,bQ]
 | .cons p n a k x,G=>by simp only[Fo.app,bQ,eF x G];omega
theorem nW:∀(F:Fo),F.app .nil=F
 | .nil=>rfl
 | .cons p n a k x=>by simp only[Fo.app,nW x]
theorem fH:∀(F G H:Fo),(F.app G).app H=F.app (G.app H)
 | .nil,G,H=>rfl
 | .cons p n a k x,G,H=>by simp only[Fo.app,fH x G H]
def bS:Fo → Nat
 | .nil=>0
 | .cons _ _ _ k x=>bS k+bS x+1
def nF(p:Bool):Nat → Fo → Prop
 | _,.nil=>True
 | i,.cons pre n _ k x=>pre.length=(if p=true∧i % 2=0 then 1 else 0)∧nF (decide (n.op=12)) 0 k∧nF p (i+1) x
theorem iF:∀(F G:Fo),bS (F.app G)=bS F+bS G
 | .nil,G=>by simp[Fo.app,bS]
 | .cons p n a k x,G=>by simp only[Fo.app,bS,iF x G];omega
end
section
open Go.RowKit
def zX(w w':World)(b:Nat):Prop:=w.heap.size ≤ b∧b<w'.heap.size
end
section
open Go.RowKit
end
section
def nD:Fo → Prop
 | .nil=>True
 | .cons _ n _ k x=>eU n=true∧nD k∧nD x
theorem eN{n:Nd}(h:eU n=true)(k:Int):0 ≤ aR n.op n.b k∧aR n.op n.b k ≤ 4:=by
 simp only[eU,Bool.and_eq_true]at h;have D:=h.1.1;rw[bI]at D;simp only[aR];split
 . omega
 split<;>omega
theorem kG:∀(F:Fo),bQ F ≤ bS F
 | .nil=>Nat.le_refl _
 | .cons p n a k x=>by
  have:=kG x;simp only[bQ,bS];omega
end
section
open Go Go.RowKit
section
variable {P : Program}{ops : Array Oper}{Q : Exit → Act → World → Prop}{md : Region.Mode}{S : World → Prop}{l : Nat}
def fG(P:Program)(md:Region.Mode)(ops:Array Oper)(Q:Exit → Act → World → Prop)(S:World → Prop)(l:Nat):Nat → Array Bool → Act → World → Prop
 | 0,done,a,w=>Region.ready md ops done=[]∧Q .normal a w
 | fuel+1,done,a,w =>
  (Region.ready md ops done=[] → Q .normal a w) ∧
  ∀i∈Region.ready md ops done,wpOp P ops Q i (fun D w'=>(i≠l → S w')∧fG P md ops Q S l fuel (done.setIfInBounds i true) D w') a w
theorem qN:∀(fuel:Nat)(done:Array Bool)(a:Act)(w:World),fG P md ops Q S l fuel done a w → wpAny P md ops Q fuel done a w
 | 0,_,_,_,h=>h
 | fuel+1,_,_,_,h=>⟨h.1,fun i G=>wpOp_mono (fun D w' F=>qN fuel _ D w' F.2) (h.2 i G)⟩
theorem lM{i:Nat}{done:Array Bool}(h:i∈Region.ready md ops done){j:Nat}{Y:Oper}(o:j∈Region.ready md ops done)(O:ops[j]? = some Y):∀e∈Y.after,Region.binds md e=true → e.on≠i:=fun e he Z I=>by
 obtain⟨_,s,D,G⟩:=mem_ready.1 o;rw[O]at D;obtain rfl:=Option.some.inj D;have F:=G e he Z;have U:=(mem_ready.1 h).1;rw[I]at F;rcases Nat.lt_or_ge i done.size with h' | h'
 . simp[h']at U F;rw[U]at F;cases F
 simp[Array.getElem?_eq_none h']at F
theorem tP{i:Nat}{Z ol:Oper}{v:Value}(hi:ops[i]? = some Z)(hl:ops[l]? = some ol)(hw:∃e∈ol.after,Region.binds md e=true∧e.on=i)(U:∀(j:Nat) (o:Oper) cs b,ops[j]? = some o → o.op≠.select cs b)
 (hQ:∀c a w,Q (.panic c) (a.put Z.dst v) w → Q (.panic c) a w) :
 ∀(fuel:Nat)(done:Array Bool)(a:Act)(w:World),
  (∀j s,ops[j]? = some s → j≠i → done.getD j true=false → (∀e∈s.after,Region.binds md e=true → e.on≠i) → Z.apart ops s=true) →
  i∈Region.ready md ops done → YieldsIf P ops S Z v a → S w →
  fG P md ops Q S l fuel (done.setIfInBounds i true) (a.put Z.dst v) w → fG P md ops Q S l (fuel+1) done a w:=by
 intro fuel
 induction fuel with
 | zero =>
  intro done a w _ Y hy hS H;refine⟨fun h=>(by rw[h]at Y;cases Y),fun j hj=>?_⟩;by_cases D:j=i
  . subst D;exact hy.wpOp hi hS ⟨fun _=>hS,H⟩
  . have:=ready_mono hj D;rw[H.1]at this;cases this
 | succ fuel ih =>
  intro done a w G Y hy hS H;refine⟨fun h=>(by rw[h]at Y;cases Y),fun j hj=>?_⟩;by_cases D:j=i
  . subst D;exact hy.wpOp hi hS ⟨fun _=>hS,H⟩
  . have h1:=H.2 j (ready_mono hj D);obtain⟨I,s,F,_⟩:=mem_ready.1 hj;have O:=lM Y hj F;have a2:j≠l:=fun e=>by
     subst e;obtain⟨x,hx,hb,a5⟩:=hw;rw[hl]at F;obtain rfl:=Option.some.inj F;exact O x hx hb a5
    have h2:=wpOp_putIf F (G j s F D I O) (fun cs b=>U i Z cs b hi) (fun cs b=>U j s cs b F) hQ hy h1;refine wpOp_mono (fun a' w' h3=>?_) h2;have z:=h3.2.1 a2;refine⟨fun _=>z,ih (done.setIfInBounds j true) a' w' (fun k ok hk a3 a1 a4=>G k ok hk a3 ?_ a4) (ready_mono Y (Ne.symm D)) h3.1 z ?_⟩
    . by_cases a0:j=k
      . subst a0;exact I
      rw[getD_set_ne true a0]at a1;exact a1
    rw[Array.setIfInBounds_comm _ _ D];exact h3.2.2
theorem I6{i:Nat}{D G:Oper}{v:Value}{fuel:Nat}{done:Array Bool}{a:Act}{w:World}(F:ops[i]? = some D)(Y:ops[l]? = some G)(s:(G.after.any fun e=>Region.binds md e&&e.on==i)=true)
 (o:Region.noSelect ops=true) (O:Region.free md ops done i=true) (Z:(Region.ready md ops done).contains i=true)
 (I:∀c a w,Q (.panic c) (a.put D.dst v) w → Q (.panic c) a w) (z:YieldsIf P ops S D v a) (hS:S w)
 (h:fG P md ops Q S l fuel (done.setIfInBounds i true) (a.put D.dst v) w):fG P md ops Q S l (fuel+1) done a w:=by
 refine tP F Y ?_ (Region.noSelect_spec o) I fuel done a w (Region.free_spec F O) (by simpa using Z) z hS h;obtain⟨k,U,he⟩:=Array.any_eq_true.1 s;simp only[Bool.and_eq_true,beq_iff_eq]at he;exact⟨_,Array.getElem_mem U,he⟩
theorem bW{i:Nat}{o:Oper}{fuel:Nat}{done:Array Bool}{a:Act}{w:World}(I:Region.ready md ops done=[i])(Z:ops[i]? = some o)(Y:o.guard=none)
 (h:∀D:Act → World → Prop,Hid (∀a w,(i≠l → S w) → fG P md ops Q S l fuel (done.setIfInBounds i true) a w → D a w) → Oper.wp P o a w D Q):fG P md ops Q S l (fuel+1) done a w:=by
 refine⟨fun F=>(by rw[I]at F;cases F),fun j G=>?_⟩;rw[I,List.mem_singleton]at G;subst G;refine wpOp_step Z fun D hK=>?_;rw[if_pos (by simp[Region.wanted,Y])];exact h D fun a w O U=>hK a w ⟨O,U⟩
theorem gV{done:Array Bool}{a:Act}{w:World}(D:Region.ready md ops done=[])(h:Q .normal a w):
 ∀fuel,fG P md ops Q S l fuel done a w
 | 0=>⟨D,h⟩
 | _+1=>⟨fun _=>h,by rw[D];simp⟩
theorem fW(l:Nat)(S:World → Prop){F:Nat}{a:Act}{w:World}(D:P.follows .mixedOrders=true)(hS:S w.drew)
 (h:S w.drew → fG P .any ops Q S l ops.size (Array.replicate ops.size false) a w.drew):(Code.region F ops true).wp P Q a w :=
 wp_region_any D (qN _ _ _ _ (h hS))
end
end
section
open Go Go.RowKit
section
variable {P : Program}{ops : Array Oper}{Q : Exit → Act → World → Prop}{md : Region.Mode}{S : World → Prop}{l : Nat}
def sK(md:Region.Mode)(ops:Array Oper)(i:Nat):Nat → Nat → Bool
 | 0,_=>false
 | f+1,x=>match ops[x]? with
  | some o=>o.after.any fun e=>Region.binds md e&&(e.on==i||sK md ops i f e.on)
  | none=>false
def Shut(md:Region.Mode)(ops:Array Oper)(done:Array Bool):Prop :=
 ∀x o,ops[x]? = some o → done.getD x false=true → ∀e∈o.after,Region.binds md e=true → done.getD e.on false=true
def FI(md:Region.Mode)(ops:Array Oper)(done:Array Bool):Bool :=
 (List.range ops.size).all fun x => !done.getD x false||(match ops[x]? with|some o=>o.after.all fun e => !Region.binds md e||done.getD e.on false|none=>true)
theorem IK{done:Array Bool}(h:FI md ops done=true):Shut md ops done:=by
 intro x o O Z e he U;have F:x<ops.size:=(Array.getElem?_eq_some_iff.1 O).1;unfold FI at h;rw[List.all_eq_true]at h;have G:=h x (List.mem_range.2 F);simp only[Z,O,Bool.not_true,Bool.false_or,Array.all_eq_true]at G;obtain⟨k,Y,D⟩:=Array.mem_iff_getElem.1 he;have I:=G k Y;rw[D,U]at I;simpa using I
theorem Shut.step{done:Array Bool}(h:Shut md ops done){j:Nat}(z:j∈Region.ready md ops done):Shut md ops (done.setIfInBounds j true):=by
 obtain⟨Y,oj,O,D⟩:=mem_ready.1 z;have up:∀y,done.getD y false=true → (done.setIfInBounds j true).getD y false=true:=fun y s=>by
  by_cases G:j=y
  . subst G;rcases Nat.lt_or_ge j done.size with h' | h'
    . simp[h']
    simp[Array.getElem?_eq_none h']at s
  rw[getD_set_ne false G];exact s
 intro x o I Z e he U;by_cases F:j=x
 . subst F;rw[O]at I;obtain rfl:=Option.some.inj I;exact up _ (D e he U)
 rw[getD_set_ne false F]at Z;exact up _ (h x o I Z e he U)
theorem Shut.undone{done:Array Bool}(h:Shut md ops done){i:Nat}(U:done.getD i false=false):∀(f x:Nat),sK md ops i f x=true → ∃o,ops[x]? = some o∧∃e∈o.after,Region.binds md e=true∧done.getD e.on false=false
 | 0,x,hx=>by simp[sK]at hx
 | f+1,x,hx=>by
  simp only[sK]at hx;split at hx
  . rename_i o s
    obtain⟨k,Z,he⟩:=Array.any_eq_true.1 hx;simp only[Bool.and_eq_true,Bool.or_eq_true,beq_iff_eq]at he;refine⟨o,s,_,Array.getElem_mem Z,he.1,?_⟩;rcases he.2 with D|D
    . rw[D];exact U
    obtain⟨z,O,Y,I,F,G⟩:=Shut.undone h U f _ D;cases hd:done.getD (o.after[k]).on false
    . rfl
    have:=h _ z O hd Y I F;rw[G]at this;cases this
  . cases hx
theorem q7{i:Nat}{s:Oper}{v:Value}(hi:ops[i]? = some s){f:Nat}(hw:sK md ops i f l=true)(U:∀(j:Nat) (o:Oper) cs b,ops[j]? = some o → o.op≠.select cs b)
 (hQ:∀c a w,Q (.panic c) (a.put s.dst v) w → Q (.panic c) a w) :
 ∀(fuel:Nat)(done:Array Bool)(a:Act)(w:World),
  (∀j z,ops[j]? = some z → j≠i → done.getD j true=false → (∀e∈z.after,Region.binds md e=true → e.on≠i) → s.apart ops z=true) →
  Shut md ops done → i∈Region.ready md ops done → YieldsIf P ops S s v a → S w →
  fG P md ops Q S l fuel (done.setIfInBounds i true) (a.put s.dst v) w → fG P md ops Q S l (fuel+1) done a w:=by
 intro fuel
 induction fuel with
 | zero =>
  intro done a w _ _ O hy hS H;refine⟨fun h=>(by rw[h]at O;cases O),fun j Z=>?_⟩;by_cases D:j=i
  . subst D;exact hy.wpOp hi hS ⟨fun _=>hS,H⟩
  . have:=ready_mono Z D;rw[H.1]at this;cases this
 | succ fuel ih =>
  intro done a w F a4 O hy hS H;refine⟨fun h=>(by rw[h]at O;cases O),fun j Z=>?_⟩;by_cases D:j=i
  . subst D;exact hy.wpOp hi hS ⟨fun _=>hS,H⟩
  . have h1:=H.2 j (ready_mono Z D);obtain⟨I,z,G,Y⟩:=mem_ready.1 Z;have a2:=lM O Z G;have b0:j≠l:=fun e=>by
     subst e;have a9:done.getD i false=false:=by
      have h0:=(mem_ready.1 O).1;rcases Nat.lt_or_ge i done.size with h' | h'
      . simp[h']at h0 ⊢;exact h0
      simp[Array.getElem?_eq_none h']
     obtain⟨o2,a3,e2,a8,a6,a7⟩:=a4.undone a9 f j hw;rw[G]at a3;obtain rfl:=Option.some.inj a3;have:=Y e2 a8 a6;rw[a7]at this;cases this
    have h2:=wpOp_putIf G (F j z G D I a2) (fun cs b=>U i s cs b hi) (fun cs b=>U j z cs b G) hQ hy h1;refine wpOp_mono (fun a' w' h3=>?_) h2;have a0:=h3.2.1 b0;refine⟨fun _=>a0,ih (done.setIfInBounds j true) a' w' (fun k ok hk b1 a5 b2=>F k ok hk b1 ?_ b2) (a4.step Z) (ready_mono O (Ne.symm D)) h3.1 a0 ?_⟩
    . by_cases a1:j=k
      . subst a1;exact I
      rw[getD_set_ne true a1]at a5;exact a5
    rw[Array.setIfInBounds_comm _ _ D];exact h3.2.2
theorem a7{i:Nat}{D:Oper}{v:Value}{fuel:Nat}{done:Array Bool}{a:Act}{w:World}(G:ops[i]? = some D)(Z:sK md ops i 8 l=true)(F:FI md ops done=true)
 (Y:Region.noSelect ops=true) (O:Region.free md ops done i=true) (U:(Region.ready md ops done).contains i=true)
 (I:∀c a w,Q (.panic c) (a.put D.dst v) w → Q (.panic c) a w) (o:YieldsIf P ops S D v a) (hS:S w)
 (h:fG P md ops Q S l fuel (done.setIfInBounds i true) (a.put D.dst v) w):fG P md ops Q S l (fuel+1) done a w :=
 q7 G Z (Region.noSelect_spec Y) I fuel done a w (Region.free_spec G O) (IK F) (by simpa using U) o hS h
end
end
section
open Go.RowKit
structure tU (R:Nat → Prop) (w:World) (A:Option Addr) (n c:Nat) (zs:List Int):Prop where
 len:zs.length=n
 few:n ≤ 5864062014805
 mem:0<n → ∃b off,A=some ⟨b,off,none⟩∧R b∧∀k,k<n → w.cell? ⟨b,off+k,none⟩=some (.int .i64 (zs.getD k 0))
end
section
open Go.RowKit
section
variable {P : Program}{ops : Array Oper}{Q : Exit → Act → World → Prop}{md : Region.Mode}{S : World → Prop}
theorem tk(i:Nat)(v:Value){F:Oper}{fuel:Nat}{D:Array Bool}{a:Act}{w:World}(o:∀w,S w → (execOp a.eval F).run P w=.ok (.value v) w)(hS:S w)(h:wpAnyH P md ops Q S fuel (D.setIfInBounds i true) (a.put F.dst v) w)
 (O:ops[i]? = some F:=by exact rfl) (Y:Region.noSelect ops=true:=by kernel_rfl) (I:Region.free md ops D i=true:=by kernel_rfl) (U:(Region.ready md ops D).contains i=true:=by kernel_rfl)
 (G:∀c a w,Q (.panic c) (a.put F.dst v) w → Q (.panic c) a w:=by exact fun _ _ _ h=>h) (Z:Region.wanted F (yielded ops a.tmps)=true:=by rfl):wpAnyH P md ops Q S (fuel+1) D a w :=
 wpAnyH_take O Y I U G (.inl ⟨Z,o⟩) hS h
theorem tq(i:Nat){v:Value}{F:Oper}{fuel:Nat}{D:Array Bool}{a:Act}{w:World}(hS:S w)(h:wpAnyH P md ops Q S fuel (D.setIfInBounds i true) (a.put F.dst v) w)
 (O:ops[i]? = some F:=by exact rfl) (o:∀w,S w → (execOp a.eval F).run P w=.ok (.value v) w:=by (intro w hSw;(try dsimp only at hSw);go_simp;try with_reducible rfl)) (Y:Region.noSelect ops=true:=by kernel_rfl) (I:Region.free md ops D i=true:=by kernel_rfl) (U:(Region.ready md ops D).contains i=true:=by kernel_rfl)
 (G:∀c a w,Q (.panic c) (a.put F.dst v) w → Q (.panic c) a w:=by exact fun _ _ _ h=>h) (Z:Region.wanted F (yielded ops a.tmps)=true:=by rfl):wpAnyH P md ops Q S (fuel+1) D a w :=
 wpAnyH_take O Y I U G (.inl ⟨Z,o⟩) hS h
theorem dk(i:Nat){F:Oper}{fuel:Nat}{D:Array Bool}{a:Act}{w:World}(hS:S w)(h:wpAnyH P md ops Q S fuel (D.setIfInBounds i true) (a.put F.dst undef) w)
 (O:ops[i]? = some F:=by exact rfl) (Y:Region.noSelect ops=true:=by kernel_rfl) (I:Region.free md ops D i=true:=by kernel_rfl) (U:(Region.ready md ops D).contains i=true:=by kernel_rfl)
 (G:∀c a w,Q (.panic c) (a.put F.dst undef) w → Q (.panic c) a w:=by exact fun _ _ _ h=>h) (Z:Region.wanted F (yielded ops a.tmps)=false:=by rfl):wpAnyH P md ops Q S (fuel+1) D a w :=
 wpAnyH_take O Y I U G (.inr ⟨Z,rfl⟩) hS h
end
end
section
open Go.RowKit Go.Lib
variable {P : Program}{ops : Array Oper}{Q : Exit → Act → World → Prop}{md : Region.Mode}{S : World → Prop}
theorem r1(i:Nat){o:Oper}{fuel:Nat}{D:Array Bool}{a:Act}{w:World}
 (h:∀F:Act → World → Prop,Go.Shut (∀a w,S w → (S w → wpAnyH P md ops Q S fuel (D.setIfInBounds i true) a w) → F a w) → if Region.wanted o (yielded ops a.tmps)=true then Oper.wp P o a w F Q else F (a.put o.dst undef) w)
 (I:Region.ready md ops D=[i]:=by kernel_rfl) (G:ops[i]? = some o:=by exact rfl):wpAnyH P md ops Q S (fuel+1) D a w :=
 wpAnyH_ready I (by simp) (AllReadyH.cons G h AllReadyH.nil)
theorem r2(i j:Nat){o G:Oper}{fuel:Nat}{D:Array Bool}{a:Act}{w:World}
 (h:∀F:Act → World → Prop,Go.Shut (∀a w,S w → (S w → wpAnyH P md ops Q S fuel (D.setIfInBounds i true) a w) → F a w) → if Region.wanted o (yielded ops a.tmps)=true then Oper.wp P o a w F Q else F (a.put o.dst undef) w)
 (O : ∀F:Act → World → Prop,Go.Shut (∀a w,S w → (S w → wpAnyH P md ops Q S fuel (D.setIfInBounds j true) a w) → F a w) → if Region.wanted G (yielded ops a.tmps)=true then Oper.wp P G a w F Q else F (a.put G.dst undef) w)
 (Y:Region.ready md ops D=[i,j]:=by kernel_rfl) (U:ops[i]? = some o:=by exact rfl) (I:ops[j]? = some G:=by exact rfl):wpAnyH P md ops Q S (fuel+1) D a w :=
 wpAnyH_ready Y (by simp) (AllReadyH.cons U h (AllReadyH.cons I O AllReadyH.nil))
theorem bK{w D F:World}(h:RowKit.Hid (Below w.heap.size w D))(G:Below D.heap.size D F):RowKit.Hid (Below w.heap.size w F):=hid (h.out.trans (G.mono h.out.size))
theorem IS{w D:World}{g:Nat}{t:TypeId}{cs:Array Value}(h:RowKit.Hid (aW w g t cs))(F:Below w.heap.size w D):RowKit.Hid (aW D g t cs):=hid (aW.below h.out F h.out.lt)
end
section
open Go.RowKit
theorem aO : (∀(a : Act)(t : Tmp)(v : Value), a.put (some t) v = { a with tmps:=a.tmps.setIfInBounds t v })∧(∀(a : Act)(v : Value), a.put none v = a)∧(∀(α : Type)(l : List α)(i : Nat)(h : i < l.toArray.size), l.toArray[i] = l[i]'(by simpa using h))∧(∀(α : Type)(x : α)(l : List α)(h : 0 < (x :: l).length), (x :: l)[0] = x)∧(∀(α : Type)(x : α)(l : List α)(i : Nat)(h : i + 1 < (x :: l).length), (x :: l)[i + 1] = l[i]'(by simpa using h))∧(∀(α : Type)(l : List α)(i : Nat)(x : α), l.toArray.setIfInBounds i x = (l.set i x).toArray)∧(∀(α : Type)(x y : α)(l : List α), (x :: l).set 0 y = y :: l)∧(∀(α : Type)(x y : α)(l : List α)(i : Nat), (x :: l).set (i + 1) y = x :: l.set i y) :=
 ⟨fun _ _ _=>rfl, fun _ _=>rfl, fun _ _ _ _=>by simp, fun _ _ _ _=>rfl, fun _ _ _ _ _=>rfl, fun _ _ _ _=>by simp, fun _ _ _ _=>rfl, fun _ _ _ _ _=>rfl⟩
variable {P : Program}{ops : Array Oper}{Q : Exit → Act → World → Prop}{md : Region.Mode}{S : World → Prop}
theorem aL(i : Nat){v : Value}{F : Oper}{fuel : Nat}{D I : Array Bool}{a G : Act}{w : World}(hS : S w)(h : wpAnyH P md ops Q S fuel I G w)(o : ops[i]? = some F:=by exact rfl)(hy : ∀ w, S w → (execOp a.eval F).run P w = .ok (.value v) w:=by (intro w hSw; (try dsimp only at hSw); go_simp; try with_reducible rfl))(z : Region.noSelect ops = true:=by kernel_rfl)(Z : Region.free md ops D i = true:=by kernel_rfl)(s : (Region.ready md ops D).contains i = true:=by kernel_rfl)(Y : ∀ c a w, Q (.panic c) (a.put F.dst v) w → Q (.panic c) a w:=by exact fun _ _ _ h=>h)(hw : Region.wanted F (yielded ops a.tmps) = true:=by rfl)(U : D.setIfInBounds i true = I:=by ((try simp only [aO]); rfl))(O : a.put F.dst v = G:=by ((try simp only [aO]); rfl)):wpAnyH P md ops Q S (fuel + 1) D a w:=wpAnyH_take o z Z s Y (.inl ⟨hw, hy⟩) hS (by rw [U, O]; exact h)
theorem aM(i : Nat){F : Oper}{fuel : Nat}{D I : Array Bool}{a G : Act}{w : World}(hS : S w)(h : wpAnyH P md ops Q S fuel I G w)(o : ops[i]? = some F:=by exact rfl)(z : Region.noSelect ops = true:=by kernel_rfl)(Z : Region.free md ops D i = true:=by kernel_rfl)(s : (Region.ready md ops D).contains i = true:=by kernel_rfl)(Y : ∀ c a w, Q (.panic c) (a.put F.dst undef) w → Q (.panic c) a w:=by exact fun _ _ _ h=>h)(hw : Region.wanted F (yielded ops a.tmps) = false:=by rfl)(U : D.setIfInBounds i true = I:=by ((try simp only [aO]); rfl))(O : a.put F.dst undef = G:=by ((try simp only [aO]); rfl)):wpAnyH P md ops Q S (fuel + 1) D a w:=wpAnyH_take o z Z s Y (.inr ⟨hw, rfl⟩) hS (by rw [U, O]; exact h)
end
section
open Go.RowKit Go.Lib
theorem aN : type_of% @if_neg:=@if_neg
theorem LZ : type_of% @if_pos:=@if_pos
theorem MA : type_of% @decide_eq_false:=@decide_eq_false
theorem MB : type_of% @decide_eq_true:=@decide_eq_true
theorem MC : type_of% @Below.refl:=@Below.refl
theorem MD : type_of% @Nat.lt_of_lt_of_le:=@Nat.lt_of_lt_of_le
theorem ME : type_of% @Bool.and_eq_true:=@Bool.and_eq_true
theorem MF : type_of% @Nat.le_refl:=@Nat.le_refl
theorem MG : type_of% @List.length_append:=@List.length_append
theorem MH : type_of% @Below.heap_setCell:=@Below.heap_setCell
theorem MI : type_of% @List.getElem?_eq_getElem:=@List.getElem?_eq_getElem
theorem MJ : type_of% @decide_eq_true_eq:=@decide_eq_true_eq
theorem MK : type_of% @List.getD_eq_getElem?_getD:=@List.getD_eq_getElem?_getD
theorem ML : type_of% @Nat.zero_add:=@Nat.zero_add
theorem MM : type_of% @beq_eq_false_iff_ne:=@beq_eq_false_iff_ne
theorem MN : type_of% @List.length_cons:=@List.length_cons
theorem MO : type_of% @Nat.le_trans:=@Nat.le_trans
theorem MP : type_of% @IntKind.wrap_i64:=@IntKind.wrap_i64
theorem MQ : type_of% @Nat.add_zero:=@Nat.add_zero
theorem MR : type_of% @Int.le_refl:=@Int.le_refl
theorem MS : type_of% @Option.some.injEq:=@Option.some.injEq
theorem MT : type_of% @List.drop_eq_getElem_cons:=@List.drop_eq_getElem_cons
theorem MU : type_of% @List.mem_cons:=@List.mem_cons
theorem MV : type_of% @Int.add_zero:=@Int.add_zero
theorem MW : type_of% @List.mem_append:=@List.mem_append
theorem MX : type_of% @List.length_map:=@List.length_map
theorem MY : type_of% @List.nil_append:=@List.nil_append
theorem MZ : type_of% @Prod.mk.injEq:=@Prod.mk.injEq
theorem NA : type_of% @Int.toNat_natCast:=@Int.toNat_natCast
theorem NB : type_of% @List.drop_of_length_le:=@List.drop_of_length_le
theorem NC : type_of% @List.length_drop:=@List.length_drop
theorem ND : type_of% @List.eq_nil_of_length_eq_zero:=@List.eq_nil_of_length_eq_zero
theorem NE : type_of% @Nat.zero_mul:=@Nat.zero_mul
theorem NF : type_of% @List.append_nil:=@List.append_nil
theorem NG : type_of% @bodyPost_ret:=@bodyPost_ret
theorem NH : type_of% @Nat.zero_le:=@Nat.zero_le
theorem NI : type_of% @Bool.true_and:=@Bool.true_and
theorem NJ : type_of% @List.length_nil:=@List.length_nil
theorem NK : type_of% @Bool.false_or:=@Bool.false_or
theorem NL : type_of% @Bool.or_eq_false_iff:=@Bool.or_eq_false_iff
theorem NM : type_of% @Bool.or_eq_true:=@Bool.or_eq_true
theorem NN : type_of% @List.cons_append:=@List.cons_append
theorem NO : type_of% @List.getElem_mem:=@List.getElem_mem
theorem NP : type_of% @List.getElem?_eq_some_iff:=@List.getElem?_eq_some_iff
theorem NQ : type_of% @Option.map_eq_some_iff:=@Option.map_eq_some_iff
theorem NR : type_of% @World.ownsRow_nil:=@World.ownsRow_nil
theorem NS : type_of% @List.flatten_cons:=@List.flatten_cons
theorem NT : type_of% @Nat.lt_succ_self:=@Nat.lt_succ_self
theorem NU : type_of% @List.append_assoc:=@List.append_assoc
theorem NV : type_of% @Option.bind_eq_some_iff:=@Option.bind_eq_some_iff
theorem NW : type_of% @List.cons.injEq:=@List.cons.injEq
theorem NX : type_of% @List.length_replicate:=@List.length_replicate
theorem NY : type_of% @decide_eq_false_iff_not:=@decide_eq_false_iff_not
theorem NZ : type_of% @List.getElem_of_mem:=@List.getElem_of_mem
theorem OA : type_of% @List.take_of_length_le:=@List.take_of_length_le
abbrev OB(a b:World):Prop:=Below a.heap.size a b
abbrev OC:=Option Addr
abbrev OD:=List (List Nd)
abbrev OE:=World
theorem OF{D F:Prop}(G:D)(I:F):RowKit.Hid D/\RowKit.Hid F:=⟨Go.Lib.hid G,Go.Lib.hid I⟩
theorem OK{D F G:Prop}(I:D)(O:F)(U:G):RowKit.Hid D/\RowKit.Hid F/\RowKit.Hid G:=⟨Go.Lib.hid I,Go.Lib.hid O,Go.Lib.hid U⟩
theorem OI{D F G I:Prop}(O:D)(U:F)(Y:G)(Z:I):RowKit.Hid D/\RowKit.Hid F/\RowKit.Hid G/\RowKit.Hid I:=⟨Go.Lib.hid O,Go.Lib.hid U,Go.Lib.hid Y,Go.Lib.hid Z⟩
theorem OG{D F G I O:Prop}(U:D)(Y:F)(Z:G)(h:I)(o:O):RowKit.Hid D/\RowKit.Hid F/\RowKit.Hid G/\RowKit.Hid I/\RowKit.Hid O:=⟨Go.Lib.hid U,Go.Lib.hid Y,Go.Lib.hid Z,Go.Lib.hid h,Go.Lib.hid o⟩
theorem OJ{D F G I O U:Prop}(Y:D)(Z:F)(h:G)(o:I)(s:O)(z:U):RowKit.Hid D/\RowKit.Hid F/\RowKit.Hid G/\RowKit.Hid I/\RowKit.Hid O/\RowKit.Hid U:=⟨Go.Lib.hid Y,Go.Lib.hid Z,Go.Lib.hid h,Go.Lib.hid o,Go.Lib.hid s,Go.Lib.hid z⟩
theorem OL{D F G I O U Y:Prop}(Z:D)(h:F)(o:G)(s:I)(z:O)(h5:U)(h6:Y):RowKit.Hid D/\RowKit.Hid F/\RowKit.Hid G/\RowKit.Hid I/\RowKit.Hid O/\RowKit.Hid U/\RowKit.Hid Y:=⟨Go.Lib.hid Z,Go.Lib.hid h,Go.Lib.hid o,Go.Lib.hid s,Go.Lib.hid z,Go.Lib.hid h5,Go.Lib.hid h6⟩
theorem OH{D F G I O U Y p7:Prop}(Z:D)(h:F)(o:G)(s:I)(z:O)(h5:U)(h6:Y)(h7:p7):RowKit.Hid D/\RowKit.Hid F/\RowKit.Hid G/\RowKit.Hid I/\RowKit.Hid O/\RowKit.Hid U/\RowKit.Hid Y/\RowKit.Hid p7:=⟨Go.Lib.hid Z,Go.Lib.hid h,Go.Lib.hid o,Go.Lib.hid s,Go.Lib.hid z,Go.Lib.hid h5,Go.Lib.hid h6,Go.Lib.hid h7⟩
theorem OM{α:Sort _}(a:α):∃x,x=a:=⟨_,rfl⟩
end
end Go.Proofs.Ytlahmbhimhmoaaa
