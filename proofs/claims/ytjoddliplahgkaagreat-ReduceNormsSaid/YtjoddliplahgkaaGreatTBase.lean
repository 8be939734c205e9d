/- Merged: Mem, Tree, Own, Own2, Own3, Fold, HeldE, HeldF, Ints, Short. -/
import Derived.Deep.RegionHeld
import Derived.WalkKit
import Derived.Lib.Hide
import Derived.Deep.Quiet
import Derived.Deep.RegionLaw
import Derived.OrdersHeld
namespace Go.Proofs.YtjoddliplahgkaaGreat
set_option linter.unusedVariables false
set_option linter.unusedSimpArgs false
theorem aC{p : Prop}(h : p:=by kernel_rfl):p:=h
theorem aD{p : Prop}(h : p:=by simp):p:=h
theorem aE{p : Prop}(h : p:=by decide):p:=h
theorem aF{p : Prop}(h : p:=by rfl):p:=h
theorem aG{p : Prop}(h : p:=by (simp; omega)):p:=h
theorem aH{p : Prop}(h : p:=by (simp <;> omega)):p:=h
theorem aI{p : Prop}(h : p:=by assumption):p:=h
theorem aJ{p : Prop}(h : p:=by (unfold maxLen; omega)):p:=h
theorem aK{p : Prop}(h : p:=by (intro e; injection e with e; omega)):p:=h
theorem _root_.Go.RowKit.Hid.o{p : Prop}(h : RowKit.Hid p):p:=RowKit.Hid.out h
theorem _root_.Go.Shut.o{p : Prop}(h : Shut p):p:=Shut.out h
theorem aA{p : Prop}(h : p:=by omega):p:=h
open Go.Lib (hid)
section
open Go.RowKit
structure Nd where
 op:Int
 a:Int
 b:Int
deriving DecidableEq
instance:Inhabited Nd:=⟨⟨0,0,0⟩⟩
def bC(l:List Nd)(k:Nat):Nd:=l.getD k default
theorem lR{l:List Nd}{k:Nat}(h:k<l.length):bC l k=l[k]:=by simp[bC,h]
theorem nZ(l:List Nd)(m k:Nat):bC (l.drop m) k=bC l (m+k):=by simp[bC]
theorem P3{l:List Nd}{m k:Nat}(h:k<m):bC (l.take m) k=bC l k:=by
 simp[bC,h]
theorem SP{l m:List Nd}(h:l.length=m.length)(G:∀k,k<l.length → bC l k=bC m k):l=m:=by
 apply List.ext_getElem h;intro i D F;have:=G i D
 rwa [lR D,lR F]at this
theorem kL{l:List Nd}{k:Nat}(h:k<l.length):l.drop k=bC l k::l.drop (k+1):=by
 rw[lR h];exact List.drop_eq_getElem_cons h
def uP(w:World)(b off:Nat)(l:List Nd):Prop :=
 ∀k,k<l.length → w.cell? ⟨b,off+k*3,none⟩=some (.int .i64 (bC l k).op)∧w.cell? ⟨b,off+k*3+1,none⟩=some (.int .i64 (bC l k).a)∧w.cell? ⟨b,off+k*3+2,none⟩=some (.int .i64 (bC l k).b)
structure bF (R:Nat → Prop) (w:World) (A:Option Addr) (n c:Nat) (l:List Nd):Prop where
 len:l.length=n
 cap:n ≤ c
 few:n ≤ 5864062014805
 nul:A=none → c=0
 mem:0<n → ∃b off,A=some ⟨b,off,none⟩∧R b∧uP w b off l
abbrev aX(w:World)(A:Option Addr)(n cap:Nat)(l:List Nd):Prop:=bF (· < w.heap.size) w A n cap l
theorem aX.at_{w:World}{A:Option Addr}{n c:Nat}{l:List Nd}(h:aX w A n c l){p:Nat}(G:p<n):
 ∃b off,A=some ⟨b,off,none⟩∧b<w.heap.size∧w.cell? ⟨b,off+p*3,none⟩=some (.int .i64 (bC l p).op)∧w.cell? ⟨b,off+p*3+1,none⟩=some (.int .i64 (bC l p).a)∧w.cell? ⟨b,off+p*3+2,none⟩=some (.int .i64 (bC l p).b):=by
 obtain⟨b,off,e,D,F⟩:=h.mem (by omega);exact⟨b,off,e,D,F p (by rw[h.len];exact G)⟩
theorem aX.cells{w:World}{b off n c:Nat}{l:List Nd}(h:aX w (some ⟨b,off,none⟩) n c l){p:Nat}(O:p<n):
 b<w.heap.size∧w.cell? ⟨b,off+p*3,none⟩=some (.int .i64 (bC l p).op)∧w.cell? ⟨b,off+p*3+1,none⟩=some (.int .i64 (bC l p).a)∧w.cell? ⟨b,off+p*3+2,none⟩=some (.int .i64 (bC l p).b):=by
 obtain⟨U,off',e,G,I⟩:=h.at_ O;injection e with e;injection e with D F;subst D F;exact⟨G,I⟩
theorem OS(w:World)(x y z:Value)(t:TypeId)(o:Nat)(v:Value)(h:#[x,y,z][o]? = some v):(w.alloc (.cells #[x,y,z] t)).cell? ⟨w.heap.size,o,none⟩=some v:=by
 rw[World.cell?_alloc_new];exact h
theorem aQ(w:World)(o:Obj):Below w.heap.size w (w.alloc o):=(Below.refl _ _).alloc (Nat.le_refl _) _
theorem bS(w:World)(o D:Obj):Below w.heap.size w ((w.alloc o).alloc D):=(aQ w o).alloc (by simp) _
theorem uP.keep{w w':World}{b off:Nat}{l:List Nd}(h:uP w b off l)(D:∀o,w'.cell? ⟨b,o,none⟩=w.cell? ⟨b,o,none⟩):uP w' b off l:=by
 intro k F;rw[D,D,D];exact h k F
theorem bF.keep{R R':Nat → Prop}{w w':World}{A:Option Addr}{n cap:Nat}{l:List Nd}(h:bF R w A n cap l)(hR:∀b,R b → R' b∧∀o,w'.cell? ⟨b,o,none⟩=w.cell? ⟨b,o,none⟩):bF R' w' A n cap l :=
 ⟨h.len,h.cap,h.few,h.nul,fun G=>by
  obtain⟨b,off,e,D,F⟩:=h.mem G;exact⟨b,off,e,(hR b D).1,F.keep (hR b D).2⟩⟩
theorem aX.below{w w':World}{A:Option Addr}{n cap:Nat}{l:List Nd}(h:aX w A n cap l)(F:Below w.heap.size w w'):aX w' A n cap l :=
 ⟨h.len,h.cap,h.few,h.nul,fun I=>by
  obtain⟨b,off,e,D,G⟩:=h.mem I;exact⟨b,off,e,Nat.lt_of_lt_of_le D F.size,G.keep fun o=>F.cell (p:=⟨b,o,none⟩) D⟩⟩
theorem aX.alloc{w:World}{A:Option Addr}{n c:Nat}{l:List Nd}(h:aX w A n c l)(o:Obj):aX (w.alloc o) A n c l:=h.below (aQ _ _)
theorem aX.nil(w:World):aX w none 0 0 []:=⟨rfl,Nat.le_refl _,Nat.zero_le _,fun _=>rfl,fun h=>absurd h (by omega)⟩
theorem aU{B:Nat}{a w:World}(h:Below B a w)(n:Nat):Below B a (w.drewN n):=⟨h.os,h.tape,h.output,h.size,h.block⟩
theorem fS{a b:Bool}(h:a=b):Ending.returned (.bool a)=.returned (.bool b):=by rw[h]
theorem cW{k:IntKind}{a b:Int}(h:a=b):Ending.returned (.int k a)=.returned (.int k b):=by rw[h]
theorem nB{W D:World}(F:Below W.heap.size W D):(∀b o,b<W.heap.size → D.cell? ⟨b,o,none⟩=W.cell? ⟨b,o,none⟩)∧(∀b o,b<W.heap.size → D.frozen? ⟨b,o,none⟩=W.frozen? ⟨b,o,none⟩) :=
 ⟨fun b o h=>F.cell (p:=⟨b,o,none⟩) h,fun b o h=>F.frozen (p:=⟨b,o,none⟩) h⟩
end
section
def cD(op a b:Int):Bool :=
 if op=1 then decide (0 ≤ a∧a ≤ 1048576∧b=0)
 else if op=2 then decide ((a=0∨a=1)∧1 ≤ b∧b ≤ 4)
 else if op=3 then decide (0 ≤ a∧a ≤ 16∧0 ≤ b∧b ≤ 1000)
 else if op=4 then decide (a=0∧b=0)
 else if op=5 then decide (a=0∧b=0)
 else if op=6 then decide (a=0∧b=0)
 else if op=7 then decide (a=0∧b=0)
 else if op=8 then decide (0 ≤ a∧a<64∧b=0)
 else if op=9 then decide (0 ≤ a∧a<64∧b=0)
 else if op=10 then decide (0 ≤ a∧a<64∧0 ≤ b∧b<16)
 else if op=11 then decide (0 ≤ a∧a<64∧0 ≤ b∧b ≤ 16)
 else if op=12 then decide (1 ≤ b∧b ≤ 4∧0 ≤ a∧a<b)
 else if op=13 then decide (0 ≤ a∧a<16∧b=0)
 else false
def dU(op b:Int):Int:=if op=4 then 2 else if op=5 then 2 else if op=6 then 2 else if op=13 then 2 else if op=7 then 3 else if op=11 then 2+b else if op=12 then b else 0
def eZ(op k:Int):Int:=if (op=4∨op=5)∧k=1∨op=7∧k=2 then 1 else 0
def aR(op b k:Int):Int:=if (op=4∨op=5)∧k=1∨op=7∧k=2 then 1 else if op=12∧k % 2=1 then b else 0
theorem EU{c:Prop}[Decidable c]{x y:Bool}{q:Prop}(D:c → (x=true ↔ q))(F:¬ c → (y=true ↔ q)):(if c then x else y)=true ↔ q:=by
 split
 . exact D ‹_›
 exact F ‹_›
def eW(n:Nd):Bool:=cD n.op n.a n.b&&decide (n.op≠3)&&decide (n.op≠13)
def yM(n:Nd):Bool:=cD n.op n.a n.b&&decide (n.op=13)
theorem aV{op a b:Int}:cD op a b=true ↔ (op=1∧0 ≤ a∧a ≤ 1048576∧b=0)∨(op=2∧(a=0∨a=1)∧1 ≤ b∧b ≤ 4)∨(op=3∧0 ≤ a∧a ≤ 16∧0 ≤ b∧b ≤ 1000) ∨
 ((op=4∨op=5∨op=6∨op=7)∧a=0∧b=0)∨((op=8∨op=9)∧0 ≤ a∧a<64∧b=0)∨(op=10∧0 ≤ a∧a<64∧0 ≤ b∧b<16)∨(op=11∧0 ≤ a∧a<64∧0 ≤ b∧b ≤ 16) ∨
 (op=12∧1 ≤ b∧b ≤ 4∧0 ≤ a∧a<b)∨(op=13∧0 ≤ a∧a<16∧b=0):=by
 unfold cD;iterate 13
  refine EU ?_ ?_<;>intro _
  . subst_vars;rw[decide_eq_true_eq];simp
 constructor
 . intro h;cases h
 intro h;omega
theorem iF{op a b:Int}(h:cD op a b=true):0 ≤ b∧b ≤ 1000:=by
 rw[aV]at h;omega
theorem fZ{op a b:Int}(h:cD op a b=true):0 ≤ a∧a ≤ 1048576:=by
 rw[aV]at h;omega
theorem EW{op a b:Int}(h:cD op a b=true):0 ≤ dU op b∧dU op b ≤ 18:=by
 rw[aV]at h;simp only[dU]
 repeat' split
 all_goals omega
def ds(n:Nd):List Bool:=if n.op=12 then (List.replicate n.b.toNat [true,false]).flatten else List.replicate (dU n.op n.b).toNat false
inductive Fo where
 | nil
 | cons (pre:List Nd) (n:Nd) (atoms:List Nd) (kids next:Fo)
def bJ:Nat → Int → List Nd → Option (List Nd×List Nd)
 | 0,_,l=>some ([],l)
 | _+1,_,[]=>none
 | k+1,last,x::l=>if x.op=3∧cD x.op x.a x.b=true∧last<x.a then (bJ k x.a l).map fun p=>(x::p.1,p.2) else none
def gL:Bool → List Nd → Option (List Nd×List Nd)
 | false,l=>some ([],l)
 | true,[]=>none
 | true,x::l=>if yM x then some ([x],l) else none
def iY(n:Nd)(l:List Nd):Option (List Nd×List Nd):=if n.op=2 then bJ n.b.toNat (-1) l else some ([],l)
def lS:Nat → List Bool → List Nd → Option (Fo×List Nd)
 | 0,_,_=>none
 | _+1,[],l=>some (.nil,l)
 | f+1,d::dr,l =>
  (gL d l).bind fun p=>match p.2 with
   | []=>none
   | n::D=>if eW n then
    (iY n D).bind fun q=>(lS f (ds n) q.2).bind fun k=>(lS f dr k.2).bind fun x=>some (.cons p.1 n q.1 k.1 x.1,x.2)
    else none
theorem lU:∀(k:Nat)(last:Int)(l:List Nd)(p:List Nd×List Nd),bJ k last l=some p → l=p.1++p.2∧p.1.length=k
 | 0,_,l,p,h=>by simp only[bJ,Option.some.injEq]at h;subst h;simp
 | k+1,_,[],p,h=>by simp[bJ]at h
 | k+1,last,x::l,p,h=>by
  simp only[bJ]at h;split at h
  . simp only[Option.map_eq_some_iff]at h;obtain⟨q,G,rfl⟩:=h;obtain⟨D,F⟩:=lU k x.a l q G;simp[← D,F]
  . cases h
theorem s7{d:Bool}{l:List Nd}{p:List Nd×List Nd}(h:gL d l=some p):l=p.1++p.2:=by
 cases d with
 | false=>simp only[gL,Option.some.injEq]at h;subst h;simp
 | true =>
  cases l with
  | nil=>simp[gL]at h
  | cons x l =>
   simp only[gL]at h;split at h
   . simp only[Option.some.injEq]at h;subst h;simp
   . cases h
theorem nL{n:Nd}{l:List Nd}{p:List Nd×List Nd}(h:iY n l=some p):l=p.1++p.2:=by
 simp only[iY]at h;split at h
 . exact (lU _ _ _ _ h).1
 simp only[Option.some.injEq]at h;subst h;simp
def row:Fo → List Nd
 | .nil=>[]
 | .cons pre n atoms kids next=>pre++n::(atoms++(row kids++row next))
theorem mD:∀(f:Nat)(F:List Bool)(l:List Nd)(x:Fo×List Nd),lS f F l=some x → l=row x.1++x.2∧(F≠[] → x.2.length<l.length)
 | 0,_,_,_,h=>by simp[lS]at h
 | _+1,[],l,x,h=>by simp only[lS,Option.some.injEq]at h;subst h;simp[row]
 | f+1,d::dr,l,x,h=>by
  simp only[lS,Option.bind_eq_some_iff]at h;obtain⟨p,Z,h⟩:=h;have G:=s7 Z;split at h
  . cases h
  . rename_i n z D
    split at h
    . simp only[Option.bind_eq_some_iff]at h;obtain⟨q,o,k,Y,y,s,h⟩:=h;simp only[Option.some.injEq]at h;subst h;have I:=nL o;obtain⟨O,_⟩:=mD f _ _ _ Y;obtain⟨U,_⟩:=mD f _ _ _ s;have e:l=p.1++n::(q.1++(row k.1++(row y.1++y.2))):=by rw[G,D,I,O,U]
      refine⟨by rw[e];simp[row],fun _=>?_⟩;rw[e];simp;omega
    cases h
theorem pA:∀(f g:Nat)(G:List Bool)(l:List Nd),l.length<f → l.length<g → lS f G l=lS g G l
 | 0,_,_,_,h,_=>absurd h (by omega)
 | _,0,_,_,_,h=>absurd h (by omega)
 | f+1,g+1,[],l,_,_=>by simp[lS]
 | f+1,g+1,d::dr,l,hf,hg=>by
  simp only[lS];refine Option.bind_congr fun p o=>?_;have O:=s7 o;split
  . rfl
  . rename_i n z D
    split
    . refine Option.bind_congr fun q s=>?_;have U:=nL s;have I:q.2.length<l.length:=by rw[O,D,U];simp;omega
      rw[pA f g (ds n) q.2 (by omega) (by omega)];refine Option.bind_congr fun k Z=>?_;have Y:=(mD _ _ _ _ Z).1;have F:k.2.length ≤ q.2.length:=by rw[Y];simp
      rw[pA f g dr k.2 (by omega) (by omega)]
    rfl
def pp(D:List Bool)(l:List Nd):Option (Fo×List Nd):=lS (l.length+1) D l
theorem kU(l:List Nd):pp [] l=some (.nil,l):=by simp[pp,lS]
theorem fD(d:Bool)(D:List Bool)(l:List Nd):pp (d::D) l =
 (gL d l).bind fun p=>match p.2 with
  | []=>none
  | n::O=>if eW n then
   (iY n O).bind fun q=>(pp (ds n) q.2).bind fun k=>(pp D k.2).bind fun x=>some (.cons p.1 n q.1 k.1 x.1,x.2)
   else none:=by
 simp only[pp,lS];refine Option.bind_congr fun p o=>?_;have U:=s7 o;split
 . rfl
 rename_i n O F
 split
 . refine Option.bind_congr fun q s=>?_;have Y:=nL s;have I:q.2.length<l.length:=by rw[U,F,Y];simp;omega
   rw[pA l.length (q.2.length+1) (ds n) q.2 (by omega) (by omega)];refine Option.bind_congr fun k h=>?_;have Z:=(mD _ _ _ _ h).1;have G:k.2.length ≤ q.2.length:=by rw[Z];simp
   rw[pA l.length (k.2.length+1) D k.2 (by omega) (by omega)]
 rfl
theorem qC{D:List Bool}{l:List Nd}{x:Fo×List Nd}(h:pp D l=some x):l=row x.1++x.2:=(mD _ _ _ _ h).1
theorem AF{D:List Bool}{l:List Nd}{x:Fo×List Nd}(h:pp D l=some x)(hd:D≠[]):x.2.length<l.length:=(mD _ _ _ _ h).2 hd
def Fo.app:Fo → Fo → Fo
 | .nil,g=>g
 | .cons p n a k x,g=>.cons p n a k (x.app g)
theorem sZ:∀(F D:List Bool)(l:List Nd),pp (F++D) l=(pp F l).bind fun x=>(pp D x.2).map fun y=>(x.1.app y.1,y.2)
 | [],D,l=>by simp[kU,Fo.app]
 | d::F,D,l=>by
  rw[List.cons_append,fD,fD];simp only[Option.bind_assoc];refine Option.bind_congr fun p I=>?_;split
  . rfl
  . split
    . simp only[Option.bind_assoc];refine Option.bind_congr fun q O=>?_;refine Option.bind_congr fun k G=>?_;rw[sZ F D k.2];simp only[Option.bind_assoc];refine Option.bind_congr fun x U=>?_;cases hy:pp D x.2<;>simp[Fo.app,hy]
    rfl
def ends(D:List Bool)(t:List Nd)(p:Nat):Option Nat:=(pp D (t.drop p)).map fun x=>t.length-x.2.length
theorem pC{D:List Bool}{t:List Nd}{p:Nat}{x:Fo×List Nd}(h:pp D (t.drop p)=some x)(G:p ≤ t.length):x.2=t.drop (t.length-x.2.length)∧p ≤ t.length-x.2.length∧x.2.length ≤ t.length-p:=by
 have e:=qC h;have F:=congrArg List.length e;rw[List.length_drop,List.length_append]at F;refine⟨?_,by omega,by omega⟩;have:t.drop (p+(row x.1).length)=x.2:=by rw[← List.drop_drop,e,List.drop_left]
 rw[show t.length-x.2.length=p+(row x.1).length from by omega,this]
theorem O9{t:List Nd}{p:Nat}(D:p ≤ t.length):ends [] t p=some p:=by
 simp only[ends,kU,Option.map_some,List.length_drop,Option.some.injEq];omega
theorem EJ(D F:List Bool){t:List Nd}{p:Nat}(G:p ≤ t.length):ends (D++F) t p=(ends D t p).bind (ends F t):=by
 unfold ends;rw[sZ,Option.map_bind,Option.bind_map];refine Option.bind_congr fun x I=>?_;obtain⟨e,_,_⟩:=pC I G;simp only[Function.comp];rw[← e,Option.map_map];rfl
theorem sG(d:Bool)(D:List Bool){t:List Nd}{p:Nat}(F:p ≤ t.length):ends (d::D) t p=(ends [d] t p).bind (ends D t):=EJ [d] D F
theorem uR{D:List Bool}{t:List Nd}{p q:Nat}(h:ends D t p=some q)(I:p ≤ t.length):p ≤ q∧q ≤ t.length∧(D≠[] → p<q):=by
 simp only[ends,Option.map_eq_some_iff]at h;obtain⟨x,F,rfl⟩:=h;obtain⟨_,G,O⟩:=pC F I;refine⟨G,by omega,fun hd=>?_⟩;have:=AF F hd;rw[List.length_drop]at this;omega
theorem qS(d:Bool)(D:List Bool){t:List Nd}{p:Nat}(F:t.length ≤ p):ends (d::D) t p=none:=by
 simp only[ends];rw[List.drop_eq_nil_of_le F,fD];cases d<;>simp[gL]
theorem O8(D:List Bool){t:List Nd}{p:Nat}(F:p<t.length):ends (true::D) t p=if yM (bC t p) then ends (false::D) t (p+1) else none:=by
 simp only[ends];rw[kL F,fD,fD];simp only[gL];by_cases h:yM (bC t p)=true
 . simp only[h,if_true,Option.bind_some];split
   . rfl
   split
   . simp only[Option.map_bind];refine Option.bind_congr fun q I=>?_;simp only[Option.map_bind,Function.comp];refine Option.bind_congr fun k G=>?_;simp only[Option.map_bind,Function.comp];refine Option.bind_congr fun x O=>?_;rfl
   rfl
 simp[h]
def jV:Nat → Int → List Nd → Nat → Option Nat
 | 0,_,_,p=>some p
 | k+1,last,t,p=>if p<t.length∧(bC t p).op=3∧cD (bC t p).op (bC t p).a (bC t p).b=true∧last<(bC t p).a then jV k (bC t p).a t (p+1) else none
theorem zI:∀(k:Nat)(last:Int)(t:List Nd)(p:Nat),p ≤ t.length → (bJ k last (t.drop p)).map (fun x=>t.length-x.2.length)=jV k last t p
 | 0,_,t,p,hp=>by simp only[bJ,jV,Option.map_some,List.length_drop,Option.some.injEq];omega
 | k+1,last,t,p,hp=>by
  by_cases h:p<t.length
  . rw[kL h];simp only[bJ,jV,h,true_and];split
    . rw[← zI k (bC t p).a t (p+1) h,Option.map_map];rfl
    rfl
  . rw[List.drop_eq_nil_of_le (by omega)];simp[bJ,jV,h]
theorem EK{t:List Nd}{p:Nat}(D:p<t.length):ends [false] t p=if eW (bC t p) then (if (bC t p).op=2 then jV (bC t p).b.toNat (-1) t (p+1) else ends (ds (bC t p)) t (p+1)) else none:=by
 simp only[ends];rw[kL D,fD];simp only[gL,Option.bind_some];split
 . simp only[iY];split
   . rename_i F
     have hd:ds (bC t p)=[]:=by simp[ds,F,dU]
     rw[← zI _ _ _ _ D,hd];cases bJ (bC t p).b.toNat (-1) (t.drop (p+1))<;>simp[kU]
   simp only[Option.bind_some,kU,Option.map_bind];cases pp (ds (bC t p)) (t.drop (p+1))<;>simp
 rfl
def nH(t:List Nd)(at_:Int):Int:=if 0 ≤ at_∧at_<t.length then (match ends [false] t at_.toNat with|some q=>(q:Int)|none => -1) else -1
def rE:Option Nat → Int
 | some q=>q
 | none => -1
theorem nN(t:List Nd)(p:Nat):nH t p=rE (ends [false] t p):=by
 simp only[nH];split
 . rw[Int.toNat_natCast];cases ends [false] t p<;>rfl
 rw[qS _ _ (by omega)];rfl
def iO(n:Nd)(i:Nat):List Bool:=if n.op=12 then (List.replicate (n.b.toNat-i) [true,false]).flatten else List.replicate ((dU n.op n.b).toNat-i) false
theorem tB(n:Nd):iO n 0=ds n:=by simp[iO,ds]
theorem wX(n:Nd){i:Nat}(h:dU n.op n.b ≤ i):iO n i=[]:=by
 simp only[iO];split
 . rename_i D
   have:n.b.toNat-i=0:=by simp[dU,D]at h;omega
   simp[this]
 have:(dU n.op n.b).toNat-i=0:=by omega
 simp[this]
theorem wY{n:Nd}{i:Nat}(h:n.op=12)(D:(i:Int)<n.b):iO n i=true::false::iO n (i+1):=by
 simp only[iO,h,if_true];rw[show n.b.toNat-i=(n.b.toNat-(i+1))+1 from by omega,List.replicate_succ];rfl
theorem wZ{n:Nd}{i:Nat}(h:n.op≠12)(D:(i:Int)<dU n.op n.b):iO n i=false::iO n (i+1):=by
 simp only[iO,h,if_false];rw[show (dU n.op n.b).toNat-i=((dU n.op n.b).toNat-(i+1))+1 from by omega,List.replicate_succ]
theorem oK{l:List Nd}{p m:Nat}{last:Int}(I:p<l.length)(F:(bC l p).op=3)(D:cD (bC l p).op (bC l p).a (bC l p).b=true)(G:last<(bC l p).a):
 bJ (m+1) last (l.drop p)=(bJ m (bC l p).a (l.drop (p+1))).map fun q=>(bC l p::q.1,q.2):=by
 rw[kL I];simp only[bJ,F,true_and];rw[if_pos ⟨by rw[← F];exact D,G⟩]
theorem gV{l:List Nd}{p m:Nat}{last:Int}(h:p<l.length → (bC l p).op=3 → cD (bC l p).op (bC l p).a (bC l p).b=true → last<(bC l p).a → False):
 bJ (m+1) last (l.drop p)=none:=by
 by_cases F:p<l.length
 . rw[kL F];simp only[bJ];rw[if_neg (fun D=>h F D.1 D.2.1 D.2.2)]
 rw[List.drop_eq_nil_of_le (by omega)];rfl
theorem KX{l:List Nd}(G:0<l.length)(D:eW (bC l 0)=true)(F:(bC l 0).op=2):
 pp [false] l=(bJ (bC l 0).b.toNat (-1) (l.drop 1)).map fun q=>(.cons [] (bC l 0) q.1 .nil .nil,q.2):=by
 cases l with
 | nil=>simp at G
 | cons n m =>
  have e:bC (n::m) 0=n:=rfl;rw[e]at D F ⊢;have hd:ds n=[]:=by simp[ds,F,dU]
  rw[fD];simp only[gL,Option.bind_some,D,if_true,iY,F,hd,List.drop_one,List.tail_cons,kU];cases bJ n.b.toNat (-1) m<;>rfl
theorem QC{l:List Nd}(d:List Bool)(h:0<l.length → eW (bC l 0)=false):pp (false::d) l=none:=by
 cases l with
 | nil=>simp[fD,gL]
 | cons n l =>
  have:eW n=false:=h (by simp);simp[fD,gL,this]
def dC(op b:Int):Int:=if op=4 then 2 else if op=5 then 2 else if op=6 then 2 else if op=7 then 3 else if op=11 then 2+b else if op=12 then 2*b else 0
theorem UW{n:Nd}(h:eW n=true):0 ≤ dC n.op n.b∧dC n.op n.b ≤ 18:=by
 simp only[eW,Bool.and_eq_true,decide_eq_true_eq]at h;have D:=h.1.1;rw[aV]at D;simp only[dC]
 repeat' split
 all_goals omega
theorem sF{n:Nd}(h:eW n=true):(ds n).length=(dC n.op n.b).toNat:=by
 simp only[eW,Bool.and_eq_true,decide_eq_true_eq]at h;have F:=iF h.1.1;simp only[ds];split
 . rename_i D
   simp[dC,D,List.length_flatten];omega
 rename_i D
 rw[List.length_replicate];simp only[dU,dC]
 repeat' split
 all_goals first|rfl|omega
theorem pP:∀(m i:Nat),i<2*m → ((List.replicate m [true,false]).flatten).drop i=decide (i % 2=0)::((List.replicate m [true,false]).flatten).drop (i+1)
 | 0,i,h=>absurd h (by omega)
 | m+1,0,_=>by simp[List.replicate_succ]
 | m+1,1,_=>by simp[List.replicate_succ]
 | m+1,i+2,h=>by
  have:=pP m i (by omega);simp only[List.replicate_succ,List.flatten_cons,List.cons_append,List.nil_append,List.drop_succ_cons];rw[this,show (i+2) % 2=i % 2 from by omega]
theorem SI{n:Nd}{i:Nat}(h:i<(ds n).length):(ds n).drop i=decide (n.op=12∧i % 2=0)::(ds n).drop (i+1):=by
 by_cases D:n.op=12
 . have e:ds n=(List.replicate n.b.toNat [true,false]).flatten:=by simp[ds,D]
   rw[e]at h ⊢;rw[pP _ _ (by simpa[List.length_flatten,Nat.mul_comm] using h)];simp[D]
 have e:ds n=List.replicate (dU n.op n.b).toNat false:=by simp[ds,D]
 rw[e]at h ⊢;rw[List.length_replicate]at h;simp only[List.drop_replicate,D,false_and,decide_false];rw[show (dU n.op n.b).toNat-i=((dU n.op n.b).toNat-(i+1))+1 from by omega,List.replicate_succ]
def Fo.setPre(p:List Nd):Fo → Fo
 | .nil=>.nil
 | .cons _ n a k x=>.cons p n a k x
theorem s6{l:List Nd}{x:Fo×List Nd}(h:pp [false] l=some x):∃n a k,x.1=.cons [] n a k .nil:=by
 rw[fD]at h;simp only[gL,Option.bind_some]at h;split at h
 . cases h
 split at h
 . simp only[Option.bind_eq_some_iff,kU,Option.some.injEq]at h;obtain⟨q,_,k,_,y,rfl,rfl⟩:=h;exact⟨_,_,_,rfl⟩
 cases h
theorem rJ(D:List Bool)(l:List Nd):pp (false::D) l=(pp [false] l).bind fun x=>(pp D x.2).map fun y=>(x.1.app y.1,y.2):=sZ [false] D l
theorem KY(D:List Bool)(f:Nd)(l:List Nd):pp (true::D) (f::l)=if yM f then (pp [false] l).bind fun x=>(pp D x.2).map fun y=>((x.1.setPre [f]).app y.1,y.2) else none:=by
 rw[fD,fD];simp only[gL];by_cases h:yM f=true
 . simp only[h,if_true,Option.bind_some];split
   . rfl
   split
   . simp only[Option.bind_assoc,kU,Option.bind_some,Fo.setPre];refine Option.bind_congr fun q G=>?_;refine Option.bind_congr fun k F=>?_;cases pp D k.2<;>rfl
   rfl
 simp[h]
theorem KW{l:List Nd}(G:0<l.length)(D:eW (bC l 0)=true)(F:(bC l 0).op≠2):
 pp [false] l=(pp (ds (bC l 0)) (l.drop 1)).map fun q=>(.cons [] (bC l 0) [] q.1 .nil,q.2):=by
 cases l with
 | nil=>simp at G
 | cons n m =>
  have e:bC (n::m) 0=n:=rfl;rw[e]at D F ⊢;rw[fD];simp only[gL,Option.bind_some,D,if_true,iY,if_neg F,List.drop_one,List.tail_cons,kU];cases pp (ds n) m<;>rfl
end
section
open Go.RowKit
def gP(n:Nd):List Value:=[.int .i64 n.op,.int .i64 n.a,.int .i64 n.b]
def jC(l:List Nd):List Value:=l.flatMap gP
theorem zT(n:Nd)(l:List Nd):jC (n::l)=gP n++jC l:=rfl
theorem EM(l m:List Nd):jC (l++m)=jC l++jC m:=by simp[jC]
theorem EN(l:List Nd):(jC l).length=l.length*3:=by
 induction l with
 | nil=>rfl
 | cons n l ih=>rw[zT,List.length_append,ih];simp[gP];omega
theorem mT:∀(l:List Nd)(k:Nat),k<l.length → (jC l)[k*3]? = some (.int .i64 (bC l k).op)∧(jC l)[k*3+1]? = some (.int .i64 (bC l k).a)∧(jC l)[k*3+2]? = some (.int .i64 (bC l k).b)
 | [],k,h=>absurd h (by simp)
 | n::l,0,_=>⟨rfl,rfl,rfl⟩
 | n::l,k+1,h=>by
  obtain⟨D,F,G⟩:=mT l k (by simpa using h);have e:bC (n::l) (k+1)=bC l k:=rfl;rw[e,zT];refine⟨?_,?_,?_⟩
  . rw[List.getElem?_append_right (by simp[gP];omega),← D];congr 1;simp[gP];omega
  . rw[List.getElem?_append_right (by simp[gP];omega),← F];congr 1;simp[gP];omega
  . rw[List.getElem?_append_right (by simp[gP];omega),← G];congr 1;simp[gP];omega
theorem PG(l:List Nd):∀u∈jC l,u.oneCell'=true:=by
 intro u D;simp only[jC,gP,List.mem_flatMap]at D;obtain⟨n,_,D⟩:=D;simp at D;rcases D with rfl|rfl|rfl<;>rfl
def gE(R:Nat → Prop)(w:World)(v:Value)(l:List Nd):Prop:=∃A n c,v=.slice A n c∧bF R w A n c l
theorem gE.keep{R R':Nat → Prop}{w w':World}{v:Value}{l:List Nd}(h:gE R w v l)(hR:∀b,R b → R' b∧∀o,w'.cell? ⟨b,o,none⟩=w.cell? ⟨b,o,none⟩):gE R' w' v l:=by
 obtain⟨A,n,c,e,h⟩:=h;exact⟨A,n,c,e,h.keep hR⟩
theorem gE.nil(R:Nat → Prop)(w:World):gE R w (.slice none 0 0) []:=⟨none,0,0,rfl,rfl,Nat.le_refl _,Nat.zero_le _,fun _=>rfl,fun h=>absurd h (by omega)⟩
def bK(w:World)(base:Nat)(v:Value)(l:List Nd):Prop:=w.ownsRow base 46 3 v l.length (jC l)
theorem bK.nil(w:World)(base:Nat):bK w base (.slice none 0 0) []:=World.ownsRow_nil w base _ _
theorem aS{w:World}{base:Nat}{e:TypeId}{size:Nat}{v:Value}{n:Nat}{O:List Value}(h:w.ownsRow base e size v n O){g:Nat}(G:v.ownBlock=some g):base ≤ g∧g<w.heap.size∧∃D,w.heap[g]? = some (.cells D e (0,0)):=by
 rcases h.2 with⟨rfl,_⟩|⟨U,cap,D,rfl,I,F,_⟩
 . simp[Value.ownBlock]at G
 simp only[Value.ownBlock,Option.some.injEq]at G;subst G;exact⟨I,(Array.getElem?_eq_some_iff.1 F).1,D,F⟩
theorem bK.termS{w:World}{base:Nat}{v:Value}{l:List Nd}(h:bK w base v l)(hl:l.length ≤ 5864062014805):gE (fun b=>v.ownBlock=some b) w v l:=by
 have O:=fun g o=>World.ownsRow.cells h (g:=g) o;rcases h.2 with⟨rfl,Z⟩|⟨g,cap,U,rfl,hb,s,D,_⟩
 . obtain rfl:=List.eq_nil_of_length_eq_zero Z;exact gE.nil _ _
 refine⟨_,_,_,rfl,rfl,D,hl,(fun e=>by cases e),fun _=>⟨g,0,rfl,rfl,fun k z=>?_⟩⟩;obtain⟨F,G,I⟩:=mT l k z;have F:=O g rfl _ _ F;have G:=O g rfl _ _ G;have I:=O g rfl _ _ I;have Y:∀j,(⟨g,0,none⟩:Addr).add j=⟨g,j,none⟩:=fun j=>by unfold Addr.add;split<;>simp_all
 rw[Y]at F G I;simp only[Nat.zero_add];exact⟨F,G,I⟩
def aT(w:World)(g:Nat)(t:TypeId)(cs:Array Value):Prop:=w.heap[g]? = some (.cells cs t (0,0))
section
variable {w w' : World}{g : Nat}{t : TypeId}{cs : Array Value}
theorem aT.lt(h:aT w g t cs):g<w.heap.size:=(Array.getElem?_eq_some_iff.1 h).1
theorem aT.cell(h:aT w g t cs)(i:Nat):w.cell? ⟨g,i,none⟩=cs[i]?:=by
 unfold aT at h;simp[World.cell?,h]
theorem aT.frozen(h:aT w g t cs)(i:Nat):w.frozen? ⟨g,i,none⟩=false:=by
 unfold aT at h;simp[World.frozen?,h]
theorem aT.new(w:World)(t:TypeId)(cs:Array Value):aT (w.alloc (.cells cs t)) w.heap.size t cs:=heap_alloc_new w _
theorem aT.drewN(h:aT w g t cs)(n:Nat):aT (w.drewN n) g t cs:=h
theorem aT.alloc(h:aT w g t cs)(o:Obj):aT (w.alloc o) g t cs:=(Below.heap_alloc w o g h.lt).trans h
theorem aT.set_(h:aT w g t cs)(i:Nat)(u:Value):aT (w.setCell ⟨g,i,none⟩ u) g t (cs.setIfInBounds i u):=by
 unfold aT at h ⊢;simp[World.setCell,Array.getElem?_modify,h]
theorem aT.far(h:aT w g t cs){p:Addr}(D:g≠p.block)(u:Value):aT (w.setCell p u) g t cs:=(Below.heap_setCell w p u g D).trans h
theorem aT.below{B:Nat}(h:aT w g t cs)(D:Below B w w')(F:g<B):aT w' g t cs:=(D.block g F).trans h
theorem aT.grown{row:Option Nat}(h:aT w g t cs)(D:w.grownBy w' row)(F:some g≠row):aT w' g t cs:=(D.block g h.lt F).trans h
end
structure fO (w w':World) (base:Nat) (e:TypeId) (size:Nat) (v:Value) (A:Option Addr) (n c:Nat) (xs:List Value):Prop where
 own:w'.ownsRow base e size (.slice A n c) n xs
 grown:w.grownBy w' v.ownBlock
 new:∀g,(Value.slice A n c).ownBlock=some g → v.ownBlock=some g∨w.heap.size ≤ g
theorem nD{P:Program}(w:World)(base:Nat)(t ty e:TypeId)(i:TypeInfo)(z:Value)(size U:Nat)(ht:P.underlying t=some (.slice e))(hi:P.info? e=some i)(hz:i.zero=some z)
 (Z:i.size=size) (a3:i.bytes=U) (a8:z.cells.size=size) (a6:0<size)
 (v:Value) (n:Nat) (xs:List Value) (G:w.ownsRow base e size v n xs)
 (A:Option Addr) (m c:Nat) (D:List Value) (hl:D.length=m*size) (a2:A=none → m=0∧c=0) (F:∀ad,A=some ad → ∀j u,D[j]? = some u → w.cell? (ad.add j)=some u) (h1:∀u∈D,u.oneCell'=true)
 (a1:n+m ≤ maxLen) (I:(n+m)*U ≤ 140737488355328) (hbase:base ≤ w.heap.size) :
 ∃h o w',(Builtin.append_ #[t,t] ty #[v,.slice A m c]).run P w=.ok (.slice h (n+m) o) w'∧fO w w' base e size v h (n+m) o (xs++D):=by
 cases A with
 | none =>
  obtain⟨rfl,rfl⟩:=a2 rfl;obtain rfl:D=[]:=List.eq_nil_of_length_eq_zero (by simpa using hl);have hr:=run_append_owned_none (P:=P) w base t ty e i size ht hi v n xs G;obtain⟨h,o,rfl⟩:∃h o,v=.slice h n o:=by
   rcases G.2 with⟨rfl,rfl⟩|⟨g,cap,a0,rfl,_⟩
   . exact⟨none,0,rfl⟩
   exact⟨_,_,rfl⟩
  exact⟨h,o,w,hr,by simpa using G,World.grownBy.refl _ _,fun g s=>.inl s⟩
 | some ad =>
  have F:=F ad rfl;obtain⟨v',w',hr,h2,h3,h4⟩:=run_append_own (P:=P) w base t ty e i z size U ht hi hz Z a3 a8 a6 v n xs G ad m c D hl F h1 a1 I hbase;obtain⟨h,o,rfl⟩:∃h o,v'=.slice h (n+m) o:=by
   rcases h2.2 with⟨rfl,h0⟩|⟨g,cap,a0,rfl,_⟩
   . rw[h0];exact⟨none,0,rfl⟩
   exact⟨_,_,rfl⟩
  refine⟨h,o,w',hr,h2,h3,fun g s=>?_⟩;subst Z;subst a3;rcases G.2 with⟨rfl,rfl⟩|⟨g0,cap,a0,rfl,hb,a5,b0,a9,a4,a7⟩
  . by_cases hm:m=0
    . have:=h4.2 ⟨rfl,hm⟩;rw[this]at s;exact .inl s
    have O:=run_append_nil (P:=P) w t ty e i z ht hi hz ad m c D hl F (by omega) (by unfold maxLen at a1;omega) (by simp only[Nat.zero_add]at I;omega);rw[hr]at O;injection O with hv _;rw[hv]at s;simp only[Value.ownBlock,Option.some.injEq]at s;exact .inr (by omega)
  . by_cases Y:n+m ≤ cap
    . have O:=run_append_room (P:=P) w t ty e i ht hi g0 n cap a0 a5 ad m c D hl F h1 Y (by rw[hl,a4,← Nat.add_mul];exact Nat.mul_le_mul_right _ Y);rw[hr]at O;injection O with hv _;rw[hv]at s;exact .inl s
    have O:=run_append_grow (P:=P) w t ty e i z ht hi hz ⟨g0,0,none⟩ n cap xs G.1 (G.cells (g:=g0) rfl) ad m c D hl F (by omega) (by unfold maxLen at a1;omega) (growslice_fits (by omega) I);rw[hr]at O;injection O with hv _;rw[hv]at s;simp only[Value.ownBlock,Option.some.injEq]at s;exact .inr (by omega)
theorem bW{P:Program}{o:Oper}{a:Act}{w:World}{K:Act → World → Prop}{Q:Exit → Act → World → Prop}
 (s x:Operand) (t:TypeId) (a0:o.op=Op.call { callee:=Callee.builtin Builtin.append,args:=#[s,x],argTypes:=#[t,t] })
 (base:Nat) (e:TypeId) (i:TypeInfo) (z:Value) (size F:Nat) (h1:P.underlying t=some (.slice e)) (h2:P.info? e=some i) (h3:i.zero=some z) (h4:i.size=size) (h5:i.bytes=F) (h6:z.cells.size=size) (h7:0<size)
 (v:Value) (n:Nat) (xs:List Value) (hs:a.eval s=v) (I:w.ownsRow base e size v n xs)
 (A:Option Addr) (m c:Nat) (D:List Value) (hx:a.eval x=.slice A m c) (hn:D.length=m*size) (G:A=none → m=0∧c=0) (hc:∀ad,A=some ad → ∀j u,D[j]? = some u → w.cell? (ad.add j)=some u) (Z:∀u∈D,u.oneCell'=true)
 (b1:n+m ≤ maxLen) (b2:(n+m)*F ≤ 140737488355328) (b3:base ≤ w.heap.size)
 (hK:∀U Y w',fO w w' base e size v U (n+m) Y (xs++D) → K (a.put o.dst (.slice U (n+m) Y)) w'):Oper.wp P o a w K Q:=by
 obtain⟨U,Y,w',O,h⟩:=nD (P:=P) w base t o.type e i z size F h1 h2 h3 h4 h5 h6 h7 v n xs I A m c D hn G hc Z b1 b2 b3;unfold Oper.wp;simp[execOp,a0,resolve,invoke,builtin,hs,hx,O,Result.andThen];exact hK U Y w' h
theorem eF{w:World}{base:Nat}{e:TypeId}{size:Nat}{v:Value}{n:Nat}{D:List Value}(h:w.ownsRow base e size v n D){g:Nat}(F:g<base):some g≠v.ownBlock:=by
 intro e;have:=(aS h e.symm).1;omega
theorem rF{w w':World}{base base':Nat}{e I:TypeId}{size D:Nat}{v O:Value}{n n':Nat}{U G:List Value}(h:w.ownsRow base e size v n U)(Y:w.ownsRow base' I D O n' G)(he:e≠I)(s:w.grownBy w' O.ownBlock):w'.ownsRow base e size v n U:=by
 refine h.kept s ?_;cases hv:v.ownBlock with
 | none=>exact .inl rfl
 | some g =>
  refine .inr fun z=>?_;obtain⟨_,_,c1,Z⟩:=aS h hv;obtain⟨_,_,c2,F⟩:=aS Y z.symm;rw[Z]at F;injection F with F;injection F with _ o;exact he o
theorem nT{w w':World}(D:Below w.heap.size w w')(row:Option Nat):w.grownBy w' row:=⟨D.os,D.tape,D.output,D.size,fun k F _=>D.block k F⟩
theorem bI{w w':World}{base:Nat}{e:TypeId}{size:Nat}{v:Value}{n:Nat}{D:List Value}(h:w.ownsRow base e size v n D)(F:Below w.heap.size w w'):w'.ownsRow base e size v n D :=
 h.kept (nT F none) (by cases v.ownBlock<;>simp)
theorem bK.below{w w':World}{base:Nat}{v:Value}{l:List Nd}(h:bK w base v l)(D:Below w.heap.size w w'):bK w' base v l:=bI h D
theorem bK.drewN{w:World}{base:Nat}{v:Value}{l:List Nd}(h:bK w base v l)(m:Nat):bK (w.drewN m) base v l:=h
theorem bK.alloc{w:World}{base:Nat}{v:Value}{l:List Nd}(h:bK w base v l)(o:Obj):bK (w.alloc o) base v l:=World.ownsRow.alloc h o
theorem bK.setCell{w:World}{base:Nat}{v:Value}{l:List Nd}(h:bK w base v l){a:Addr}(ha:a.block<base)(u:Value):bK (w.setCell a u) base v l:=ownsRow_setCell_below h ha u
theorem MC(w:World)(n:Nd):∀j u,(gP n)[j]? = some u → (w.alloc (.cells #[.int .i64 n.op,.int .i64 n.a,.int .i64 n.b] 46)).cell? ((⟨w.heap.size,0,none⟩:Addr).add j)=some u:=by
 intro j u F;have D:(⟨w.heap.size,0,none⟩:Addr).add j=⟨w.heap.size,j,none⟩:=by unfold Addr.add;split<;>simp_all
 rw[D,World.cell?_alloc_new,← F];simp[gP]
theorem fO.ownN{w w':World}{base:Nat}{v:Value}{A:Option Addr}{n c:Nat}{l m:List Nd}(h:fO w w' base 46 3 v A n c (jC l++jC m))(D:n=l.length+m.length):bK w' base (.slice A n c) (l++m):=by
 unfold bK;rw[List.length_append,EM,← D];exact h.own
theorem cM{P:Program}{o:Oper}{a:Act}{w:World}{K:Act → World → Prop}{Q:Exit → Act → World → Prop}
 (s x:Operand) (t:TypeId) (U:o.op=Op.call { callee:=Callee.builtin Builtin.append,args:=#[s,x],argTypes:=#[t,t] })
 (base:Nat) (i:TypeInfo) (Z:P.underlying t=some (.slice 46)) (z:P.info? 46=some i) (h3:i.zero=some (.agg #[.int .i64 0,.int .i64 0,.int .i64 0])) (h4:i.size=3) (h5:i.bytes=24)
 (v:Value) (l:List Nd) (n:Nd) (W:World) (hW:w=W.alloc (.cells #[.int .i64 n.op,.int .i64 n.a,.int .i64 n.b] 46)) (hs:a.eval s=v) (G:bK W base v l)
 (g:Nat) (hx:a.eval x=.slice (some ⟨g,0,none⟩) 1 1) (I:g=W.heap.size) (b1:l.length+1 ≤ 5864062014805) (b3:base ≤ W.heap.size)
 (hK:∀D F w',bK w' base (.slice D (l.length+1) F) (l++[n]) → fO W w' base 46 3 v D (l.length+1) F (jC l++gP n) → K (a.put o.dst (.slice D (l.length+1) F)) w'):Oper.wp P o a w K Q:=by
 subst hW;subst I;refine bW s x t U base _ i _ 3 24 Z z h3 h4 h5 rfl (by decide) v l.length (jC l) hs (World.ownsRow.alloc G _) _ 1 1 (gP n) hx rfl (fun e=>by cases e) (fun ad e=>by injection e with e;subst e;exact MC _ _) ?_ (by unfold maxLen;omega) (by omega) (by simp;omega) ?_
 . intro u Y;simp[gP]at Y;rcases Y with rfl|rfl|rfl<;>rfl
 intro D F w' h;refine hK D F w' ?_ ⟨h.own,?_,fun g hg=>(h.new g hg).imp id (fun hh=>by simp at hh;omega)⟩
 . exact fO.ownN (m:=[n]) (by simpa[jC] using h) rfl
 refine⟨h.grown.os,h.grown.tape,h.grown.output,Nat.le_trans (by simp) h.grown.size,fun k hk O=>?_⟩;rw[h.grown.block k (by simp;omega) O];exact Below.heap_alloc _ _ _ hk
theorem SS{l:List Nd}{j:Nat}{u:Value}(h:(jC l)[j]? = some u):∃k,k<l.length∧((j=k*3∧u=.int .i64 (bC l k).op)∨(j=k*3+1∧u=.int .i64 (bC l k).a)∨(j=k*3+2∧u=.int .i64 (bC l k).b)):=by
 have U:=(List.getElem?_eq_some_iff.1 h).1;rw[EN]at U;have O:j / 3<l.length:=by omega
 obtain⟨F,G,I⟩:=mT l (j / 3) O;have D:j=j / 3*3∨j=j / 3*3+1∨j=j / 3*3+2:=by omega
 refine⟨j / 3,O,?_⟩;rcases D with D|D|D
 . rw[← D]at F;rw[h]at F;exact .inl ⟨D,Option.some.inj F⟩
 . rw[← D]at G;rw[h]at G;exact .inr (.inl ⟨D,Option.some.inj G⟩)
 rw[← D]at I;rw[h]at I;exact .inr (.inr ⟨D,Option.some.inj I⟩)
theorem bF.flat_cells{R:Nat → Prop}{w:World}{A:Option Addr}{n c:Nat}{l:List Nd}(h:bF R w A n c l)(D:Addr)(G:A=some D):∀j u,(jC l)[j]? = some u → w.cell? (D.add j)=some u:=by
 intro j u Y;obtain⟨k,O,I⟩:=SS Y;obtain⟨b,off,e,_,U⟩:=h.mem (by rw[← h.len];omega);rw[G]at e;injection e with e;subst e;obtain⟨Z,o,s⟩:=U k O;have F:∀j,(⟨b,off,none⟩:Addr).add j=⟨b,off+j,none⟩:=fun j=>by unfold Addr.add;split<;>simp_all
 rw[F];rcases I with⟨rfl,rfl⟩|⟨rfl,rfl⟩|⟨rfl,rfl⟩
 . exact Z
 . exact o
 exact s
theorem BO{P:Program}{t u e:TypeId}(ht:P.underlying t=some (.slice e))(D:P.underlying u=some (.slice e))(ty:TypeId)(B:Option Addr)(m k:Nat)(x:Value)(w:World):
 (Builtin.append_ #[t,u] ty #[.slice B m k,x]).run P w=(Builtin.append_ #[t,t] ty #[.slice B m k,x]).run P w:=by
 simp[Builtin.append_,run_underlying ht,run_underlying D]
theorem bG{P:Program}{o:Oper}{a:Act}{w:World}{K:Act → World → Prop}{Q:Exit → Act → World → Prop}
 (s x:Operand) (t u:TypeId) (h:o.op=Op.call { callee:=Callee.builtin Builtin.append,args:=#[s,x],argTypes:=#[t,u] })
 (base:Nat) (i:TypeInfo) (h1:P.underlying t=some (.slice 46)) (Z:P.underlying u=some (.slice 46)) (h2:P.info? 46=some i) (h3:i.zero=some (.agg #[.int .i64 0,.int .i64 0,.int .i64 0])) (h4:i.size=3) (h5:i.bytes=24)
 (v:Value) (l m:List Nd) (hs:a.eval s=v) (D:bK w base v l) {R:Nat → Prop} {A:Option Addr} {n c:Nat} (hx:a.eval x=.slice A n c) (U:bF R w A n c m)
 (b1:l.length+n ≤ 5864062014805) (b3:base ≤ w.heap.size)
 (hK:∀G I w',bK w' base (.slice G (l.length+n) I) (l++m) → fO w w' base 46 3 v G (l.length+n) I (jC l++jC m) → K (a.put o.dst (.slice G (l.length+n) I)) w'):Oper.wp P o a w K Q:=by
 obtain⟨G,I,w',F,O⟩:=nD (P:=P) w base t o.type _ i _ 3 24 h1 h2 h3 h4 h5 rfl (by decide) v l.length (jC l) D A n c (jC m) (by rw[EN,U.len])
  (fun e=>⟨by
   by_cases Y:0<n
   . obtain⟨b,off,z,_⟩:=U.mem Y;rw[e]at z;cases z
   . omega,U.nul e⟩) (fun ad e=>U.flat_cells ad e) (PG m) (by unfold maxLen;omega) (by omega) b3
 obtain⟨B,k0,rfl⟩:∃B k0,v=.slice B l.length k0:=by
  rcases D.2 with⟨rfl,Y⟩|⟨g,cap,a0,rfl,_⟩
  . rw[Y];exact⟨none,0,rfl⟩
  exact⟨_,_,rfl⟩
 rw[← BO h1 Z]at F;unfold Oper.wp;simp[execOp,h,resolve,invoke,builtin,hs,hx,F,Result.andThen];exact hK G I w' (fO.ownN O (by rw[U.len])) O
theorem a8{P:Program}{ops:Array Oper}{rest:List Oper}{o:Oper}{a:Act}{w:World}{Q:Exit → Act → World → Prop}(D:o.guard=none)(h:Oper.wp P o a w (wpList P ops Q rest) Q):wpList P ops Q (o::rest) a w:=by
 unfold wpList;rw[if_pos (by simp[Region.wanted,D])];exact .inl h
theorem jO{P:Program}{ops:Array Oper}{o:Oper}{a:Act}{w:World}{K:Act → World → Prop}{Q:Exit → Act → World → Prop}{E:Prop}(D:o.guard=none)(h:Oper.wp P o a w K Q):
 if Region.wanted o (yielded ops a.tmps)=true then Oper.wp P o a w K Q else E:=by
 rw[if_pos (by simp[Region.wanted,D])];exact h
def bE:Fo → Nat
 | .nil=>0
 | .cons _ _ _ _ x=>bE x+1
def cG:Fo → List Nd
 | .nil=>[]
 | .cons p _ _ _ x=>p++cG x
def uD(R:Nat → Prop)(w:World):Fo → Nat → Nat → Prop
 | .nil,_,_=>True
 | .cons _ n atoms kids next,b,off =>
  (w.cell? ⟨b,off,none⟩=some (.int .i64 n.op)∧w.cell? ⟨b,off+1,none⟩=some (.int .i64 n.a)∧w.cell? ⟨b,off+2,none⟩=some (.int .i64 n.b)) ∧
  (∃A c,w.cell? ⟨b,off+3,none⟩=some (.slice A (bE kids) c)∧bE kids ≤ c∧(0<bE kids → ∃D off',A=some ⟨D,off',none⟩∧R D∧uD R w kids D off')) ∧
  (∃v,w.cell? ⟨b,off+4,none⟩=some v∧gE R w v atoms) ∧
  (∃v,w.cell? ⟨b,off+5,none⟩=some v∧gE R w v (cG kids)) ∧
  uD R w next b (off+6)
structure eX (R:Nat → Prop) (w:World) (A:Option Addr) (n c:Nat) (F:Fo):Prop where
 len:bE F=n
 cap:n ≤ c
 mem:0<n → ∃b off,A=some ⟨b,off,none⟩∧R b∧uD R w F b off
def tM(R:Nat → Prop)(w:World)(v:Value)(F:Fo):Prop:=∃A n c,v=.slice A n c∧eX R w A n c F
def cJ(R:Nat → Prop)(w:World)(I:List Value)(n:Nd)(atoms:List Nd)(kids:Fo):Prop :=
 ∃G D F,I=[.int .i64 n.op,.int .i64 n.a,.int .i64 n.b,G,D,F]∧tM R w G kids∧gE R w D atoms∧gE R w F (cG kids)
theorem uD.keep{R R':Nat → Prop}{w w':World}(hR:∀b,R b → R' b∧∀o,w'.cell? ⟨b,o,none⟩=w.cell? ⟨b,o,none⟩):∀(F:Fo)(b off:Nat),uD R w F b off → (∀o,w'.cell? ⟨b,o,none⟩=w.cell? ⟨b,o,none⟩) → uD R' w' F b off
 | .nil,_,_,_,_=>trivial
 | .cons p n atoms kids next,b,off,h,hb=>by
  obtain⟨I,⟨A,c,O,U,Y⟩,⟨v,Z,s⟩,⟨u,z,h7⟩,h8⟩:=h;refine⟨by rw[hb,hb,hb];exact I,⟨A,c,by rw[hb];exact O,U,fun hk=>?_⟩,⟨v,by rw[hb];exact Z,s.keep hR⟩,⟨u,by rw[hb];exact z,h7.keep hR⟩,uD.keep hR next b _ h8 hb⟩;obtain⟨D,off',e,G,hf⟩:=Y hk;exact⟨D,off',e,(hR D G).1,uD.keep hR kids D off' hf (hR D G).2⟩
theorem eX.keep{R R':Nat → Prop}{w w':World}{A:Option Addr}{n c:Nat}{F:Fo}(h:eX R w A n c F)(hR:∀b,R b → R' b∧∀o,w'.cell? ⟨b,o,none⟩=w.cell? ⟨b,o,none⟩):eX R' w' A n c F :=
 ⟨h.len,h.cap,fun I=>by
  obtain⟨b,off,e,D,G⟩:=h.mem I;exact⟨b,off,e,(hR b D).1,uD.keep hR F b off G (hR b D).2⟩⟩
theorem tM.keep{R R':Nat → Prop}{w w':World}{v:Value}{F:Fo}(h:tM R w v F)(hR:∀b,R b → R' b∧∀o,w'.cell? ⟨b,o,none⟩=w.cell? ⟨b,o,none⟩):tM R' w' v F:=by
 obtain⟨A,n,c,e,h⟩:=h;exact⟨A,n,c,e,h.keep hR⟩
theorem tM.nil(R:Nat → Prop)(w:World):tM R w (.slice none 0 0) .nil:=⟨none,0,0,rfl,rfl,Nat.le_refl _,fun h=>absurd h (by omega)⟩
theorem cJ.keep{R R':Nat → Prop}{w w':World}{D:List Value}{n:Nd}{atoms:List Nd}{kids:Fo}(h:cJ R w D n atoms kids)(hR:∀b,R b → R' b∧∀o,w'.cell? ⟨b,o,none⟩=w.cell? ⟨b,o,none⟩):cJ R' w' D n atoms kids:=by
 obtain⟨Y,O,U,e,F,G,I⟩:=h;exact⟨Y,O,U,e,F.keep hR,G.keep hR,I.keep hR⟩
def lO(R:Nat → Prop)(w:World):Fo → List Value → Prop
 | .nil,xs=>xs=[]
 | .cons _ n atoms kids next,xs=>∃ys D,xs=ys++D∧cJ R w ys n atoms kids∧lO R w next D
theorem lO.keep{R R':Nat → Prop}{w w':World}(hR:∀b,R b → R' b∧∀o,w'.cell? ⟨b,o,none⟩=w.cell? ⟨b,o,none⟩):∀(F:Fo)(D:List Value),lO R w F D → lO R' w' F D
 | .nil,_,h=>h
 | .cons _ n atoms kids next,D,h=>by
  obtain⟨ys,G,e,I,O⟩:=h;exact⟨ys,G,e,I.keep hR,lO.keep hR next G O⟩
theorem lO.app{R:Nat → Prop}{w:World}:∀(F G:Fo)(D ys:List Value),lO R w F D → lO R w G ys → lO R w (F.app G) (D++ys)
 | .nil,G,D,ys,h,hg=>by
  have:D=[]:=h;subst this;exact hg
 | .cons _ n atoms kids next,G,D,ys,h,hg=>by
  obtain⟨a,b,e,I,O⟩:=h;exact⟨a,b++ys,by rw[e,List.append_assoc],I,lO.app next G b ys O hg⟩
theorem lO.at_{R:Nat → Prop}{w:World}:∀(F:Fo)(G:List Value)(b off:Nat),lO R w F G → (∀j u,G[j]? = some u → w.cell? ⟨b,off+j,none⟩=some u) → uD R w F b off
 | .nil,_,_,_,_,_=>trivial
 | .cons _ n atoms kids next,G,b,off,h,hc=>by
  obtain⟨ys,zs,e,⟨sk,s,z,I,O,U,Y⟩,Z⟩:=h;subst I e;obtain⟨A,m,c,rfl,D⟩:=O;refine⟨⟨hc 0 _ rfl,hc 1 _ rfl,hc 2 _ rfl⟩,⟨A,c,?_,?_,?_⟩,⟨s,hc 4 _ rfl,U⟩,⟨z,hc 5 _ rfl,Y⟩,lO.at_ next zs b (off+6) Z fun j u o=>?_⟩
  . rw[D.len];exact hc 3 _ rfl
  . rw[D.len];exact D.cap
  . rw[D.len];exact D.mem
  . rw[Nat.add_assoc];refine hc (6+j) u ?_;rw[List.getElem?_append_right (by simp)];simpa using o
theorem iQ{R:Nat → Prop}{w:World}{base:Nat}{v:Value}{F:Fo}{I:List Value}(h:w.ownsRow base 85 6 v (bE F) I)(Z:lO R w F I)(hR:∀b,v.ownBlock=some b → R b):tM R w v F:=by
 have G:=fun g o=>World.ownsRow.cells h (g:=g) o;rcases h.2 with⟨rfl,Y⟩|⟨g,cap,O,rfl,hb,s,D,_⟩
 . refine⟨none,0,0,rfl,Y,Nat.le_refl _,fun z=>absurd z (by omega)⟩
 refine⟨_,_,_,rfl,rfl,D,fun _=>⟨g,0,rfl,hR g rfl,lO.at_ F I g 0 Z fun j u hu=>?_⟩⟩;have:=G g rfl j u hu;have U:(⟨g,0,none⟩:Addr).add j=⟨g,j,none⟩:=by unfold Addr.add;split<;>simp_all
 rw[U]at this
 rwa [Nat.zero_add]
theorem uD.app{R:Nat → Prop}{w:World}:∀(F G:Fo)(b off:Nat),uD R w (F.app G) b off ↔ uD R w F b off∧uD R w G b (off+bE F*6)
 | .nil,G,b,off=>by simp[Fo.app,uD,bE]
 | .cons p n atoms kids next,G,b,off=>by
  simp only[Fo.app,uD,bE];rw[uD.app next G b (off+6)];rw[show off+6+bE next*6=off+(bE next+1)*6 from by omega];simp only[and_assoc]
theorem fY{P:Program}{o:Oper}{a:Act}{w:World}{K:Act → World → Prop}{Q:Exit → Act → World → Prop}
 (s x:Operand) (t:TypeId) (Y:o.op=Op.call { callee:=Callee.builtin Builtin.append,args:=#[s,x],argTypes:=#[t,t] })
 (base:Nat) (i:TypeInfo) (z:Value) (h1:P.underlying t=some (.slice 85)) (h2:P.info? 85=some i) (h3:i.zero=some z) (h4:i.size=6) (h5:i.bytes=96) (h6:z.cells.size=6)
 (v:Value) (n:Nat) (Z ys:List Value) (hy:ys.length=6) (D:∀u∈ys,u.oneCell'=true) (W:World) (hW:w=W.alloc (.cells ys.toArray 85)) (hs:a.eval s=v) (F:W.ownsRow base 85 6 v n Z)
 (g:Nat) (hx:a.eval x=.slice (some ⟨g,0,none⟩) 1 1) (O:g=W.heap.size) (b1:n+1 ≤ 1000000000000) (b3:base ≤ W.heap.size)
 (hK:∀G I w',fO W w' base 85 6 v G (n+1) I (Z++ys) → K (a.put o.dst (.slice G (n+1) I)) w'):Oper.wp P o a w K Q:=by
 subst hW;subst O;refine bW s x t Y base _ i _ 6 96 h1 h2 h3 h4 h5 h6 (by decide) v n Z hs (World.ownsRow.alloc F _) _ 1 1 ys hx (by omega) (fun e=>by cases e) (fun ad e j u hu=>?_) D (by unfold maxLen;omega) (by omega) (by simp;omega) ?_
 . injection e with e;subst e;have ea:(⟨W.heap.size,0,none⟩:Addr).add j=⟨W.heap.size,j,none⟩:=by unfold Addr.add;split<;>simp_all
   rw[ea,World.cell?_alloc_new,← hu];simp
 intro G I w' h;refine hK G I w' ⟨h.own,?_,fun g hg=>(h.new g hg).imp id (fun hh=>by simp at hh;omega)⟩;refine⟨h.grown.os,h.grown.tape,h.grown.output,Nat.le_trans (by simp) h.grown.size,fun k hk U=>?_⟩;rw[h.grown.block k (by simp;omega) U];exact Below.heap_alloc _ _ _ hk
theorem bN:∀(F G:Fo),bE (F.app G)=bE F+bE G
 | .nil,G=>by simp[Fo.app,bE]
 | .cons p n a k x,G=>by simp only[Fo.app,bE,bN x G];omega
theorem iR:∀(F G:Fo),cG (F.app G)=cG F++cG G
 | .nil,G=>by simp[Fo.app,cG]
 | .cons p n a k x,G=>by simp only[Fo.app,cG,iR x G,List.append_assoc]
theorem iK:∀(F:Fo),F.app .nil=F
 | .nil=>rfl
 | .cons p n a k x=>by simp only[Fo.app,iK x]
theorem cV:∀(F G H:Fo),(F.app G).app H=F.app (G.app H)
 | .nil,G,H=>rfl
 | .cons p n a k x,G,H=>by simp only[Fo.app,cV x G H]
theorem S5{w:World}{base:Nat}(D:base ≤ w.heap.size)(n:Nd):bK (w.alloc (.cells #[.int .i64 n.op,.int .i64 n.a,.int .i64 n.b] 46)) base (.slice (some ⟨w.heap.size,0,none⟩) 1 1) [n] :=
 ⟨rfl,.inr ⟨w.heap.size,1,_,rfl,D,heap_alloc_new w _,Nat.le_refl _,by unfold maxLen;omega,rfl,rfl⟩⟩
def aY:Fo → Nat
 | .nil=>0
 | .cons _ _ _ k x=>aY k+aY x+1
def fU(p:Bool):Nat → Fo → Prop
 | _,.nil=>True
 | i,.cons pre n _ k x=>pre.length=(if p=true∧i % 2=0 then 1 else 0)∧fU (decide (n.op=12)) 0 k∧fU p (i+1) x
theorem dQ:∀(F G:Fo),aY (F.app G)=aY F+aY G
 | .nil,G=>by simp[Fo.app,aY]
 | .cons p n a k x,G=>by simp only[Fo.app,aY,dQ x G];omega
theorem fW:∀(F G:Fo),row (F.app G)=row F++row G
 | .nil,G=>by simp[Fo.app,row]
 | .cons p n a k x,G=>by simp only[Fo.app,row,fW x G,List.append_assoc,List.cons_append]
theorem fU.app{p:Bool}:∀(F G:Fo)(i:Nat),fU p i (F.app G) ↔ fU p i F∧fU p (i+bE F) G
 | .nil,G,i=>by simp[Fo.app,fU,bE]
 | .cons pre n a k x,G,i=>by
  simp only[Fo.app,fU,bE];rw[fU.app x G (i+1),show i+1+bE x=i+(bE x+1) from by omega];simp only[and_assoc]
theorem AH:∀(F:Fo)(i:Nat),fU true i F → (cG F).length=(bE F+1-i % 2) / 2
 | .nil,i,_=>by simp only[cG,bE,List.length_nil];omega
 | .cons pre n a k x,i,h=>by
  obtain⟨D,_,G⟩:=h;have:=AH x (i+1) G;simp only[cG,bE,List.length_append,D,this,true_and];split<;>omega
theorem eX.at_{R:Nat → Prop}{w:World}{A:Option Addr}{n c:Nat}{F1 F2:Fo}{pre:List Nd}{nd:Nd}{D:List Nd}{Y:Fo}(h:eX R w A n c (F1.app (.cons pre nd D Y F2))):
 ∃b off s Z o,A=some ⟨b,off,none⟩∧R b∧cJ R w [.int .i64 nd.op,.int .i64 nd.a,.int .i64 nd.b,s,Z,o] nd D Y ∧
  w.cell? ⟨b,off+bE F1*6,none⟩=some (.int .i64 nd.op)∧w.cell? ⟨b,off+bE F1*6+1,none⟩=some (.int .i64 nd.a)∧w.cell? ⟨b,off+bE F1*6+2,none⟩=some (.int .i64 nd.b) ∧
  w.cell? ⟨b,off+bE F1*6+3,none⟩=some s∧w.cell? ⟨b,off+bE F1*6+4,none⟩=some Z∧w.cell? ⟨b,off+bE F1*6+5,none⟩=some o:=by
 obtain⟨b,off,e,hr,U⟩:=h.mem (by rw[← h.len,bN];simp[bE];omega);rw[uD.app]at U;obtain⟨_,⟨h0,h1,h2⟩,⟨z,c',h3,F,G⟩,⟨v,h4,I⟩,⟨u,h5,O⟩,_⟩:=U;exact⟨b,off,_,_,_,e,hr,⟨_,_,_,rfl,⟨z,_,c',rfl,⟨rfl,F,G⟩⟩,I,O⟩,h0,h1,h2,h3,h4,h5⟩
end
section
open Go.RowKit
def eC(w w':World)(b:Nat):Prop:=w.heap.size ≤ b∧b<w'.heap.size
theorem oA{w:World}{base g:Nat}(F:g=w.heap.size)(D:base ≤ w.heap.size)(n:Nd):bK (w.alloc (.cells #[.int .i64 n.op,.int .i64 n.a,.int .i64 n.b] 46)) base (.slice (some ⟨g,0,none⟩) 1 1) [n]:=by
 subst F;exact S5 D n
theorem bK.cast{w:World}{base:Nat}{A:Option Addr}{n m c:Nat}{l D:List Nd}(h:bK w base (.slice A n c) l)(G:n=m)(F:l=D):bK w base (.slice A m c) D:=by
 subst G F;exact h
theorem uS:∀(F:Fo),bE F ≤ (row F).length
 | .nil=>Nat.le_refl _
 | .cons p n a k x=>by
  have:=uS x;simp only[bE,row,List.length_append,List.length_cons];omega
end
section
open Go.RowKit
theorem mO{B:Nat}{a W w':World}(D:Below B a W)(G:Below W.heap.size W w')(F:B ≤ a.heap.size):Below B a w':=D.trans (G.mono (Nat.le_trans F D.size))
end
section
def dI:Fo → Prop
 | .nil=>True
 | .cons _ n _ k x=>eW n=true∧dI k∧dI x
theorem dI.app:∀(F G:Fo),dI (F.app G) ↔ dI F∧dI G
 | .nil,G=>by simp[Fo.app,dI]
 | .cons p n a k x,G=>by simp only[Fo.app,dI,dI.app x G,and_assoc]
theorem dY{n:Nd}(h:eW n=true)(k:Int):0 ≤ aR n.op n.b k∧aR n.op n.b k ≤ 4:=by
 simp only[eW,Bool.and_eq_true]at h;have D:=h.1.1;rw[aV]at D;simp only[aR];split
 . omega
 split<;>omega
def MW(D F:Int):Nat → Int → Fo → Int
 | _,_,.nil => -1
 | j,u,.cons _ n _ k x=>max (if n.op=1 then max (n.a-(u+aR D F j)) (-1) else MW n.op n.b 0 (u+aR D F j) k) (MW D F (j+1) u x)
def sM(n:Nd)(k:Fo)(u:Int):Int:=if n.op=1 then max (n.a-u) (-1) else MW n.op n.b 0 u k
theorem vX(D F:Int)(j:Nat)(u:Int)(p:List Nd)(n:Nd)(a:List Nd)(k x:Fo):MW D F j u (.cons p n a k x)=max (sM n k (u+aR D F j)) (MW D F (j+1) u x):=rfl
def PN(D F:Int)(up:Int):Nat → Int → Fo → Int
 | _,_,.nil => -1
 | j,f,.cons _ n _ k x=>max (if n.op=1 then (if f+aR D F j ≤ n.a then n.a+up else -1) else PN n.op n.b up 0 (f+aR D F j) k) (PN D F up (j+1) f x)
def p8(up:Int)(n:Nd)(k:Fo)(f:Int):Int:=if n.op=1 then (if f ≤ n.a then n.a+up else -1) else PN n.op n.b up 0 f k
theorem vZ(D F up:Int)(j:Nat)(f:Int)(p:List Nd)(n:Nd)(a:List Nd)(k x:Fo):PN D F up j f (.cons p n a k x)=max (p8 up n k (f+aR D F j)) (PN D F up (j+1) f x):=rfl
def vF(D F:Int):Nat → Int → Fo → Int×Int
 | _,_,.nil=>(0,0)
 | j,v,.cons _ n _ k x =>
  let q:=if n.op=1 then (if n.a=v+aR D F j then ((1:Int),(0:Int)) else (0,0)) else vF n.op n.b 0 (v+aR D F j) k
  let r:=vF D F (j+1) v x
  (q.1+r.1,if 0<q.1 then max (q.2+aR D F j) r.2 else r.2)
def iI(n:Nd)(k:Fo)(v:Int):Int×Int:=if n.op=1 then (if n.a=v then ((1:Int),(0:Int)) else (0,0)) else vF n.op n.b 0 v k
theorem mI(D F:Int)(j:Nat)(v:Int)(p:List Nd)(n:Nd)(a:List Nd)(k x:Fo):vF D F j v (.cons p n a k x) =
 ((iI n k (v+aR D F j)).1+(vF D F (j+1) v x).1,if 0<(iI n k (v+aR D F j)).1 then max ((iI n k (v+aR D F j)).2+aR D F j) (vF D F (j+1) v x).2 else (vF D F (j+1) v x).2):=rfl
theorem eP:∀(F:Fo),bE F ≤ aY F
 | .nil=>Nat.le_refl _
 | .cons p n a k x=>by
  have:=eP x;simp only[bE,aY];omega
theorem KR(D G:Int)(j:Nat)(u:Int):∀(F:Fo),max (-1) (MW D G j u F)=MW D G j u F
 | .nil=>rfl
 | .cons p n a k x=>by
  have:=KR D G (j+1) u x;rw[vX];omega
theorem KS(D G up:Int)(j:Nat)(u:Int):∀(F:Fo),max (-1) (PN D G up j u F)=PN D G up j u F
 | .nil=>rfl
 | .cons p n a k x=>by
  have:=KS D G up (j+1) u x;rw[vZ];omega
end
section
open Go Go.RowKit
section
variable {P : Program}{ops : Array Oper}{Q : Exit → Act → World → Prop}{md : Region.Mode}{S : World → Prop}{l : Nat}
def hP(P:Program)(md:Region.Mode)(ops:Array Oper)(Q:Exit → Act → World → Prop)(S:World → Prop)(l:Nat):Nat → Array Bool → Act → World → Prop
 | 0,done,a,w=>Region.ready md ops done=[]∧Q .normal a w
 | fuel+1,done,a,w =>
  (Region.ready md ops done=[] → Q .normal a w) ∧
  ∀i∈Region.ready md ops done,wpOp P ops Q i (fun D w'=>(i≠l → S w')∧hP P md ops Q S l fuel (done.setIfInBounds i true) D w') a w
theorem yK:∀(fuel:Nat)(done:Array Bool)(a:Act)(w:World),hP P md ops Q S l fuel done a w → wpAny P md ops Q fuel done a w
 | 0,_,_,_,h=>h
 | fuel+1,_,_,_,h=>⟨h.1,fun i G=>wpOp_mono (fun D w' F=>yK fuel _ D w' F.2) (h.2 i G)⟩
theorem rN{i:Nat}{done:Array Bool}(h:i∈Region.ready md ops done){j:Nat}{Y:Oper}(o:j∈Region.ready md ops done)(O:ops[j]? = some Y):∀e∈Y.after,Region.binds md e=true → e.on≠i:=fun e he Z I=>by
 obtain⟨_,s,D,G⟩:=mem_ready.1 o;rw[O]at D;obtain rfl:=Option.some.inj D;have F:=G e he Z;have U:=(mem_ready.1 h).1;rw[I]at F;rcases Nat.lt_or_ge i done.size with h' | h'
 . simp[h']at U F;rw[U]at F;cases F
 simp[Array.getElem?_eq_none h']at F
theorem DN{i:Nat}{Z ol:Oper}{v:Value}(hi:ops[i]? = some Z)(hl:ops[l]? = some ol)(hw:∃e∈ol.after,Region.binds md e=true∧e.on=i)(U:∀(j:Nat) (o:Oper) cs b,ops[j]? = some o → o.op≠.select cs b)
 (hQ:∀c a w,Q (.panic c) (a.put Z.dst v) w → Q (.panic c) a w) :
 ∀(fuel:Nat)(done:Array Bool)(a:Act)(w:World),
  (∀j s,ops[j]? = some s → j≠i → done.getD j true=false → (∀e∈s.after,Region.binds md e=true → e.on≠i) → Z.apart ops s=true) →
  i∈Region.ready md ops done → YieldsIf P ops S Z v a → S w →
  hP P md ops Q S l fuel (done.setIfInBounds i true) (a.put Z.dst v) w → hP P md ops Q S l (fuel+1) done a w:=by
 intro fuel
 induction fuel with
 | zero =>
  intro done a w _ Y hy hS H;refine⟨fun h=>(by rw[h]at Y;cases Y),fun j hj=>?_⟩;by_cases D:j=i
  . subst D;exact hy.wpOp hi hS ⟨fun _=>hS,H⟩
  . have:=ready_mono hj D;rw[H.1]at this;cases this
 | succ fuel ih =>
  intro done a w G Y hy hS H;refine⟨fun h=>(by rw[h]at Y;cases Y),fun j hj=>?_⟩;by_cases D:j=i
  . subst D;exact hy.wpOp hi hS ⟨fun _=>hS,H⟩
  . have h1:=H.2 j (ready_mono hj D);obtain⟨I,s,F,_⟩:=mem_ready.1 hj;have O:=rN Y hj F;have a2:j≠l:=fun e=>by
     subst e;obtain⟨x,hx,hb,a5⟩:=hw;rw[hl]at F;obtain rfl:=Option.some.inj F;exact O x hx hb a5
    have h2:=wpOp_putIf F (G j s F D I O) (fun cs b=>U i Z cs b hi) (fun cs b=>U j s cs b F) hQ hy h1;refine wpOp_mono (fun a' w' h3=>?_) h2;have z:=h3.2.1 a2;refine⟨fun _=>z,ih (done.setIfInBounds j true) a' w' (fun k ok hk a3 a1 a4=>G k ok hk a3 ?_ a4) (ready_mono Y (Ne.symm D)) h3.1 z ?_⟩
    . by_cases a0:j=k
      . subst a0;exact I
      rw[getD_set_ne true a0]at a1;exact a1
    rw[Array.setIfInBounds_comm _ _ D];exact h3.2.2
theorem eD{i:Nat}{D G:Oper}{v:Value}{fuel:Nat}{done:Array Bool}{a:Act}{w:World}(F:ops[i]? = some D)(Y:ops[l]? = some G)(s:(G.after.any fun e=>Region.binds md e&&e.on==i)=true)
 (o:Region.noSelect ops=true) (O:Region.free md ops done i=true) (Z:(Region.ready md ops done).contains i=true)
 (I:∀c a w,Q (.panic c) (a.put D.dst v) w → Q (.panic c) a w) (z:YieldsIf P ops S D v a) (hS:S w)
 (h:hP P md ops Q S l fuel (done.setIfInBounds i true) (a.put D.dst v) w):hP P md ops Q S l (fuel+1) done a w:=by
 refine DN F Y ?_ (Region.noSelect_spec o) I fuel done a w (Region.free_spec F O) (by simpa using Z) z hS h;obtain⟨k,U,he⟩:=Array.any_eq_true.1 s;simp only[Bool.and_eq_true,beq_iff_eq]at he;exact⟨_,Array.getElem_mem U,he⟩
theorem bV{i:Nat}{o:Oper}{fuel:Nat}{done:Array Bool}{a:Act}{w:World}(I:Region.ready md ops done=[i])(Z:ops[i]? = some o)(Y:o.guard=none)
 (h:∀D:Act → World → Prop,Hid (∀a w,(i≠l → S w) → hP P md ops Q S l fuel (done.setIfInBounds i true) a w → D a w) → Oper.wp P o a w D Q):hP P md ops Q S l (fuel+1) done a w:=by
 refine⟨fun F=>(by rw[I]at F;cases F),fun j G=>?_⟩;rw[I,List.mem_singleton]at G;subst G;refine wpOp_step Z fun D hK=>?_;rw[if_pos (by simp[Region.wanted,Y])];exact h D fun a w O U=>hK a w ⟨O,U⟩
theorem gW{done:Array Bool}{a:Act}{w:World}(D:Region.ready md ops done=[])(h:Q .normal a w):
 ∀fuel,hP P md ops Q S l fuel done a w
 | 0=>⟨D,h⟩
 | _+1=>⟨fun _=>h,by rw[D];simp⟩
theorem gF(l:Nat)(S:World → Prop){F:Nat}{a:Act}{w:World}(D:P.follows .mixedOrders=true)(hS:S w.drew)
 (h:S w.drew → hP P .any ops Q S l ops.size (Array.replicate ops.size false) a w.drew):(Code.region F ops true).wp P Q a w :=
 wp_region_any D (yK _ _ _ _ (h hS))
end
end
section
open Go Go.RowKit
section
variable {P : Program}{ops : Array Oper}{Q : Exit → Act → World → Prop}{md : Region.Mode}{S : World → Prop}{l : Nat}
def yF(md:Region.Mode)(ops:Array Oper)(i:Nat):Nat → Nat → Bool
 | 0,_=>false
 | f+1,x=>match ops[x]? with
  | some o=>o.after.any fun e=>Region.binds md e&&(e.on==i||yF md ops i f e.on)
  | none=>false
def Shut(md:Region.Mode)(ops:Array Oper)(done:Array Bool):Prop :=
 ∀x o,ops[x]? = some o → done.getD x false=true → ∀e∈o.after,Region.binds md e=true → done.getD e.on false=true
def LK(md:Region.Mode)(ops:Array Oper)(done:Array Bool):Bool :=
 (List.range ops.size).all fun x => !done.getD x false||(match ops[x]? with|some o=>o.after.all fun e => !Region.binds md e||done.getD e.on false|none=>true)
theorem TM{done:Array Bool}(h:LK md ops done=true):Shut md ops done:=by
 intro x o O Z e he U;have F:x<ops.size:=(Array.getElem?_eq_some_iff.1 O).1;unfold LK at h;rw[List.all_eq_true]at h;have G:=h x (List.mem_range.2 F);simp only[Z,O,Bool.not_true,Bool.false_or,Array.all_eq_true]at G;obtain⟨k,Y,D⟩:=Array.mem_iff_getElem.1 he;have I:=G k Y;rw[D,U]at I;simpa using I
theorem Shut.step{done:Array Bool}(h:Shut md ops done){j:Nat}(z:j∈Region.ready md ops done):Shut md ops (done.setIfInBounds j true):=by
 obtain⟨Y,oj,O,D⟩:=mem_ready.1 z;have up:∀y,done.getD y false=true → (done.setIfInBounds j true).getD y false=true:=fun y s=>by
  by_cases G:j=y
  . subst G;rcases Nat.lt_or_ge j done.size with h' | h'
    . simp[h']
    simp[Array.getElem?_eq_none h']at s
  rw[getD_set_ne false G];exact s
 intro x o I Z e he U;by_cases F:j=x
 . subst F;rw[O]at I;obtain rfl:=Option.some.inj I;exact up _ (D e he U)
 rw[getD_set_ne false F]at Z;exact up _ (h x o I Z e he U)
theorem Shut.undone{done:Array Bool}(h:Shut md ops done){i:Nat}(U:done.getD i false=false):∀(f x:Nat),yF md ops i f x=true → ∃o,ops[x]? = some o∧∃e∈o.after,Region.binds md e=true∧done.getD e.on false=false
 | 0,x,hx=>by simp[yF]at hx
 | f+1,x,hx=>by
  simp only[yF]at hx;split at hx
  . rename_i o s
    obtain⟨k,Z,he⟩:=Array.any_eq_true.1 hx;simp only[Bool.and_eq_true,Bool.or_eq_true,beq_iff_eq]at he;refine⟨o,s,_,Array.getElem_mem Z,he.1,?_⟩;rcases he.2 with D|D
    . rw[D];exact U
    obtain⟨z,O,Y,I,F,G⟩:=Shut.undone h U f _ D;cases hd:done.getD (o.after[k]).on false
    . rfl
    have:=h _ z O hd Y I F;rw[G]at this;cases this
  . cases hx
theorem y9{i:Nat}{s:Oper}{v:Value}(hi:ops[i]? = some s){f:Nat}(hw:yF md ops i f l=true)(U:∀(j:Nat) (o:Oper) cs b,ops[j]? = some o → o.op≠.select cs b)
 (hQ:∀c a w,Q (.panic c) (a.put s.dst v) w → Q (.panic c) a w) :
 ∀(fuel:Nat)(done:Array Bool)(a:Act)(w:World),
  (∀j z,ops[j]? = some z → j≠i → done.getD j true=false → (∀e∈z.after,Region.binds md e=true → e.on≠i) → s.apart ops z=true) →
  Shut md ops done → i∈Region.ready md ops done → YieldsIf P ops S s v a → S w →
  hP P md ops Q S l fuel (done.setIfInBounds i true) (a.put s.dst v) w → hP P md ops Q S l (fuel+1) done a w:=by
 intro fuel
 induction fuel with
 | zero =>
  intro done a w _ _ O hy hS H;refine⟨fun h=>(by rw[h]at O;cases O),fun j Z=>?_⟩;by_cases D:j=i
  . subst D;exact hy.wpOp hi hS ⟨fun _=>hS,H⟩
  . have:=ready_mono Z D;rw[H.1]at this;cases this
 | succ fuel ih =>
  intro done a w F a4 O hy hS H;refine⟨fun h=>(by rw[h]at O;cases O),fun j Z=>?_⟩;by_cases D:j=i
  . subst D;exact hy.wpOp hi hS ⟨fun _=>hS,H⟩
  . have h1:=H.2 j (ready_mono Z D);obtain⟨I,z,G,Y⟩:=mem_ready.1 Z;have a2:=rN O Z G;have b0:j≠l:=fun e=>by
     subst e;have a9:done.getD i false=false:=by
      have h0:=(mem_ready.1 O).1;rcases Nat.lt_or_ge i done.size with h' | h'
      . simp[h']at h0 ⊢;exact h0
      simp[Array.getElem?_eq_none h']
     obtain⟨o2,a3,e2,a8,a6,a7⟩:=a4.undone a9 f j hw;rw[G]at a3;obtain rfl:=Option.some.inj a3;have:=Y e2 a8 a6;rw[a7]at this;cases this
    have h2:=wpOp_putIf G (F j z G D I a2) (fun cs b=>U i s cs b hi) (fun cs b=>U j z cs b G) hQ hy h1;refine wpOp_mono (fun a' w' h3=>?_) h2;have a0:=h3.2.1 b0;refine⟨fun _=>a0,ih (done.setIfInBounds j true) a' w' (fun k ok hk b1 a5 b2=>F k ok hk b1 ?_ b2) (a4.step Z) (ready_mono O (Ne.symm D)) h3.1 a0 ?_⟩
    . by_cases a1:j=k
      . subst a1;exact I
      rw[getD_set_ne true a1]at a5;exact a5
    rw[Array.setIfInBounds_comm _ _ D];exact h3.2.2
theorem bA{i:Nat}{D:Oper}{v:Value}{fuel:Nat}{done:Array Bool}{a:Act}{w:World}(G:ops[i]? = some D)(Z:yF md ops i 8 l=true)(F:LK md ops done=true)
 (Y:Region.noSelect ops=true) (O:Region.free md ops done i=true) (U:(Region.ready md ops done).contains i=true)
 (I:∀c a w,Q (.panic c) (a.put D.dst v) w → Q (.panic c) a w) (o:YieldsIf P ops S D v a) (hS:S w)
 (h:hP P md ops Q S l fuel (done.setIfInBounds i true) (a.put D.dst v) w):hP P md ops Q S l (fuel+1) done a w :=
 y9 G Z (Region.noSelect_spec Y) I fuel done a w (Region.free_spec G O) (TM F) (by simpa using U) o hS h
end
end
section
open Go.RowKit
structure qM (R:Nat → Prop) (w:World) (A:Option Addr) (n c:Nat) (zs:List Int):Prop where
 len:zs.length=n
 few:n ≤ 5864062014805
 mem:0<n → ∃b off,A=some ⟨b,off,none⟩∧R b∧∀k,k<n → w.cell? ⟨b,off+k,none⟩=some (.int .i64 (zs.getD k 0))
theorem qM.keep{R R':Nat → Prop}{w w':World}{A:Option Addr}{n c:Nat}{G:List Int}(h:qM R w A n c G)(hR:∀b,R b → R' b∧∀o,w'.cell? ⟨b,o,none⟩=w.cell? ⟨b,o,none⟩):qM R' w' A n c G:=by
 refine⟨h.len,h.few,fun O=>?_⟩;obtain⟨b,off,e,F,I⟩:=h.mem O;exact⟨b,off,e,(hR b F).1,fun k D=>by rw[(hR b F).2];exact I k D⟩
end
section
open Go.RowKit
section
variable {P : Program}{ops : Array Oper}{Q : Exit → Act → World → Prop}{md : Region.Mode}{S : World → Prop}
theorem tk(i:Nat)(v:Value){F:Oper}{fuel:Nat}{D:Array Bool}{a:Act}{w:World}(o:∀w,S w → (execOp a.eval F).run P w=.ok (.value v) w)(hS:S w)(h:wpAnyH P md ops Q S fuel (D.setIfInBounds i true) (a.put F.dst v) w)
 (O:ops[i]? = some F:=by exact rfl) (Y:Region.noSelect ops=true:=by kernel_rfl) (I:Region.free md ops D i=true:=by kernel_rfl) (U:(Region.ready md ops D).contains i=true:=by kernel_rfl)
 (G:∀c a w,Q (.panic c) (a.put F.dst v) w → Q (.panic c) a w:=by exact fun _ _ _ h=>h) (Z:Region.wanted F (yielded ops a.tmps)=true:=by rfl):wpAnyH P md ops Q S (fuel+1) D a w :=
 wpAnyH_take O Y I U G (.inl ⟨Z,o⟩) hS h
theorem tq(i:Nat){v:Value}{F:Oper}{fuel:Nat}{D:Array Bool}{a:Act}{w:World}(hS:S w)(h:wpAnyH P md ops Q S fuel (D.setIfInBounds i true) (a.put F.dst v) w)
 (O:ops[i]? = some F:=by exact rfl) (o:∀w,S w → (execOp a.eval F).run P w=.ok (.value v) w:=by (intro w hSw;(try dsimp only at hSw);go_simp;try with_reducible rfl)) (Y:Region.noSelect ops=true:=by kernel_rfl) (I:Region.free md ops D i=true:=by kernel_rfl) (U:(Region.ready md ops D).contains i=true:=by kernel_rfl)
 (G:∀c a w,Q (.panic c) (a.put F.dst v) w → Q (.panic c) a w:=by exact fun _ _ _ h=>h) (Z:Region.wanted F (yielded ops a.tmps)=true:=by rfl):wpAnyH P md ops Q S (fuel+1) D a w :=
 wpAnyH_take O Y I U G (.inl ⟨Z,o⟩) hS h
theorem dk(i:Nat){F:Oper}{fuel:Nat}{D:Array Bool}{a:Act}{w:World}(hS:S w)(h:wpAnyH P md ops Q S fuel (D.setIfInBounds i true) (a.put F.dst undef) w)
 (O:ops[i]? = some F:=by exact rfl) (Y:Region.noSelect ops=true:=by kernel_rfl) (I:Region.free md ops D i=true:=by kernel_rfl) (U:(Region.ready md ops D).contains i=true:=by kernel_rfl)
 (G:∀c a w,Q (.panic c) (a.put F.dst undef) w → Q (.panic c) a w:=by exact fun _ _ _ h=>h) (Z:Region.wanted F (yielded ops a.tmps)=false:=by rfl):wpAnyH P md ops Q S (fuel+1) D a w :=
 wpAnyH_take O Y I U G (.inr ⟨Z,rfl⟩) hS h
end
end
section
open Go.RowKit Go.Lib
variable {P : Program}{ops : Array Oper}{Q : Exit → Act → World → Prop}{md : Region.Mode}{S : World → Prop}
theorem r1(i:Nat){o:Oper}{fuel:Nat}{D:Array Bool}{a:Act}{w:World}
 (h:∀F:Act → World → Prop,Go.Shut (∀a w,S w → (S w → wpAnyH P md ops Q S fuel (D.setIfInBounds i true) a w) → F a w) → if Region.wanted o (yielded ops a.tmps)=true then Oper.wp P o a w F Q else F (a.put o.dst undef) w)
 (I:Region.ready md ops D=[i]:=by kernel_rfl) (G:ops[i]? = some o:=by exact rfl):wpAnyH P md ops Q S (fuel+1) D a w :=
 wpAnyH_ready I (by simp) (AllReadyH.cons G h AllReadyH.nil)
theorem r2(i j:Nat){o G:Oper}{fuel:Nat}{D:Array Bool}{a:Act}{w:World}
 (h:∀F:Act → World → Prop,Go.Shut (∀a w,S w → (S w → wpAnyH P md ops Q S fuel (D.setIfInBounds i true) a w) → F a w) → if Region.wanted o (yielded ops a.tmps)=true then Oper.wp P o a w F Q else F (a.put o.dst undef) w)
 (O : ∀F:Act → World → Prop,Go.Shut (∀a w,S w → (S w → wpAnyH P md ops Q S fuel (D.setIfInBounds j true) a w) → F a w) → if Region.wanted G (yielded ops a.tmps)=true then Oper.wp P G a w F Q else F (a.put G.dst undef) w)
 (Y:Region.ready md ops D=[i,j]:=by kernel_rfl) (U:ops[i]? = some o:=by exact rfl) (I:ops[j]? = some G:=by exact rfl):wpAnyH P md ops Q S (fuel+1) D a w :=
 wpAnyH_ready Y (by simp) (AllReadyH.cons U h (AllReadyH.cons I O AllReadyH.nil))
theorem bY{w D F:World}(h:RowKit.Hid (Below w.heap.size w D))(G:Below D.heap.size D F):RowKit.Hid (Below w.heap.size w F):=hid (h.out.trans (G.mono h.out.size))
theorem j8{w D:World}{g:Nat}{t:TypeId}{cs:Array Value}(h:RowKit.Hid (aT w g t cs))(F:Below w.heap.size w D):RowKit.Hid (aT D g t cs):=hid (aT.below h.out F h.out.lt)
end
section
open Go.RowKit
theorem aO : (∀(a : Act)(t : Tmp)(v : Value), a.put (some t) v = { a with tmps:=a.tmps.setIfInBounds t v })∧(∀(a : Act)(v : Value), a.put none v = a)∧(∀(α : Type)(l : List α)(i : Nat)(h : i < l.toArray.size), l.toArray[i] = l[i]'(by simpa using h))∧(∀(α : Type)(x : α)(l : List α)(h : 0 < (x :: l).length), (x :: l)[0] = x)∧(∀(α : Type)(x : α)(l : List α)(i : Nat)(h : i + 1 < (x :: l).length), (x :: l)[i + 1] = l[i]'(by simpa using h))∧(∀(α : Type)(l : List α)(i : Nat)(x : α), l.toArray.setIfInBounds i x = (l.set i x).toArray)∧(∀(α : Type)(x y : α)(l : List α), (x :: l).set 0 y = y :: l)∧(∀(α : Type)(x y : α)(l : List α)(i : Nat), (x :: l).set (i + 1) y = x :: l.set i y) :=
 ⟨fun _ _ _=>rfl, fun _ _=>rfl, fun _ _ _ _=>by simp, fun _ _ _ _=>rfl, fun _ _ _ _ _=>rfl, fun _ _ _ _=>by simp, fun _ _ _ _=>rfl, fun _ _ _ _ _=>rfl⟩
variable {P : Program}{ops : Array Oper}{Q : Exit → Act → World → Prop}{md : Region.Mode}{S : World → Prop}
theorem aL(i : Nat){v : Value}{F : Oper}{fuel : Nat}{D I : Array Bool}{a G : Act}{w : World}(hS : S w)(h : wpAnyH P md ops Q S fuel I G w)(o : ops[i]? = some F:=by exact rfl)(hy : ∀ w, S w → (execOp a.eval F).run P w = .ok (.value v) w:=by (intro w hSw; (try dsimp only at hSw); go_simp; try with_reducible rfl))(z : Region.noSelect ops = true:=by kernel_rfl)(Z : Region.free md ops D i = true:=by kernel_rfl)(s : (Region.ready md ops D).contains i = true:=by kernel_rfl)(Y : ∀ c a w, Q (.panic c) (a.put F.dst v) w → Q (.panic c) a w:=by exact fun _ _ _ h=>h)(hw : Region.wanted F (yielded ops a.tmps) = true:=by rfl)(U : D.setIfInBounds i true = I:=by ((try simp only [aO]); rfl))(O : a.put F.dst v = G:=by ((try simp only [aO]); rfl)):wpAnyH P md ops Q S (fuel + 1) D a w:=wpAnyH_take o z Z s Y (.inl ⟨hw, hy⟩) hS (by rw [U, O]; exact h)
theorem aM(i : Nat){F : Oper}{fuel : Nat}{D I : Array Bool}{a G : Act}{w : World}(hS : S w)(h : wpAnyH P md ops Q S fuel I G w)(o : ops[i]? = some F:=by exact rfl)(z : Region.noSelect ops = true:=by kernel_rfl)(Z : Region.free md ops D i = true:=by kernel_rfl)(s : (Region.ready md ops D).contains i = true:=by kernel_rfl)(Y : ∀ c a w, Q (.panic c) (a.put F.dst undef) w → Q (.panic c) a w:=by exact fun _ _ _ h=>h)(hw : Region.wanted F (yielded ops a.tmps) = false:=by rfl)(U : D.setIfInBounds i true = I:=by ((try simp only [aO]); rfl))(O : a.put F.dst undef = G:=by ((try simp only [aO]); rfl)):wpAnyH P md ops Q S (fuel + 1) D a w:=wpAnyH_take o z Z s Y (.inr ⟨hw, rfl⟩) hS (by rw [U, O]; exact h)
end
section
open Go.RowKit Go.Lib
theorem XN : type_of% @if_neg:=@if_neg
theorem XP : type_of% @if_pos:=@if_pos
theorem XQ : type_of% @decide_eq_false:=@decide_eq_false
theorem XR : type_of% @decide_eq_true:=@decide_eq_true
theorem XS : type_of% @Below.refl:=@Below.refl
theorem XT : type_of% @Nat.lt_of_lt_of_le:=@Nat.lt_of_lt_of_le
theorem XU : type_of% @Nat.le_refl:=@Nat.le_refl
theorem XV : type_of% @IntKind.wrap_i64:=@IntKind.wrap_i64
theorem XW : type_of% @bodyPost_ret:=@bodyPost_ret
theorem XX : type_of% @List.length_append:=@List.length_append
theorem XY : type_of% @beq_eq_false_iff_ne:=@beq_eq_false_iff_ne
theorem XZ : type_of% @Below.heap_setCell:=@Below.heap_setCell
theorem YA : type_of% @List.length_cons:=@List.length_cons
theorem YB : type_of% @List.getElem?_eq_getElem:=@List.getElem?_eq_getElem
theorem YC : type_of% @Bool.and_eq_true:=@Bool.and_eq_true
theorem YD : type_of% @List.getD_eq_getElem?_getD:=@List.getD_eq_getElem?_getD
theorem YE : type_of% @Nat.le_trans:=@Nat.le_trans
theorem YF : type_of% @Nat.add_zero:=@Nat.add_zero
theorem YG : type_of% @Int.toNat_natCast:=@Int.toNat_natCast
theorem YH : type_of% @Nat.zero_add:=@Nat.zero_add
theorem YI : type_of% @Int.le_refl:=@Int.le_refl
theorem YJ : type_of% @decide_eq_true_eq:=@decide_eq_true_eq
theorem YK : type_of% @Bool.eq_iff_iff:=@Bool.eq_iff_iff
theorem YL : type_of% @Nat.lt_succ_self:=@Nat.lt_succ_self
theorem YM : type_of% @decide_eq_false_iff_not:=@decide_eq_false_iff_not
theorem YN : type_of% @results_tmp2:=@results_tmp2
theorem YO : type_of% @List.nil_append:=@List.nil_append
theorem YP : type_of% @List.append_nil:=@List.append_nil
theorem YQ : type_of% @Int.add_zero:=@Int.add_zero
theorem YR : type_of% @List.length_map:=@List.length_map
theorem YS : type_of% @List.length_drop:=@List.length_drop
theorem YT : type_of% @Option.some.injEq:=@Option.some.injEq
theorem YU : type_of% @Nat.zero_mul:=@Nat.zero_mul
theorem YV : type_of% @List.mem_cons:=@List.mem_cons
theorem YW : type_of% @List.mem_append:=@List.mem_append
theorem YX : type_of% @List.drop_eq_getElem_cons:=@List.drop_eq_getElem_cons
theorem YY : type_of% @List.drop_of_length_le:=@List.drop_of_length_le
theorem YZ : type_of% @Bool.true_and:=@Bool.true_and
theorem ZA : type_of% @Nat.zero_le:=@Nat.zero_le
theorem ZB : type_of% @Prod.mk.injEq:=@Prod.mk.injEq
theorem ZC : type_of% @List.eq_nil_of_length_eq_zero:=@List.eq_nil_of_length_eq_zero
theorem ZD : type_of% @List.length_nil:=@List.length_nil
theorem ZE : type_of% @World.ownsRow_nil:=@World.ownsRow_nil
theorem ZF : type_of% @Bool.and_eq_false_iff:=@Bool.and_eq_false_iff
theorem ZG : type_of% @Bool.or_eq_false_iff:=@Bool.or_eq_false_iff
theorem ZH : type_of% @List.getElem?_eq_some_iff:=@List.getElem?_eq_some_iff
theorem ZI : type_of% @List.cons.injEq:=@List.cons.injEq
theorem ZJ : type_of% @Bool.or_eq_true:=@Bool.or_eq_true
theorem ZK : type_of% @List.mem_singleton:=@List.mem_singleton
theorem ZL : type_of% @List.getElem_of_mem:=@List.getElem_of_mem
theorem ZM : type_of% @List.cons_append:=@List.cons_append
theorem ZN : type_of% @List.take_of_length_le:=@List.take_of_length_le
theorem ZO : type_of% @Option.map_eq_some_iff:=@Option.map_eq_some_iff
theorem ZP : type_of% @Bool.false_or:=@Bool.false_or
theorem ZQ : type_of% @List.getElem_mem:=@List.getElem_mem
theorem ZR : type_of% @List.flatten_cons:=@List.flatten_cons
theorem ZS : type_of% @List.length_take:=@List.length_take
theorem ZT : type_of% @List.length_replicate:=@List.length_replicate
theorem ZU : type_of% @List.append_assoc:=@List.append_assoc
theorem ZV : type_of% @Option.bind_eq_some_iff:=@Option.bind_eq_some_iff
theorem ZW : type_of% @Option.bind_some:=@Option.bind_some
theorem ZX : type_of% @List.replicate_succ:=@List.replicate_succ
abbrev ZY(a b:World):Prop:=Below a.heap.size a b
abbrev ZZ:=Option Addr
abbrev aAA:=List (List Nd)
abbrev aAB:=World
theorem aAC{D F:Prop}(G:D)(I:F):RowKit.Hid D/\RowKit.Hid F:=⟨Go.Lib.hid G,Go.Lib.hid I⟩
theorem aAF{D F G:Prop}(I:D)(O:F)(U:G):RowKit.Hid D/\RowKit.Hid F/\RowKit.Hid G:=⟨Go.Lib.hid I,Go.Lib.hid O,Go.Lib.hid U⟩
theorem aAE{D F G I:Prop}(O:D)(U:F)(Y:G)(Z:I):RowKit.Hid D/\RowKit.Hid F/\RowKit.Hid G/\RowKit.Hid I:=⟨Go.Lib.hid O,Go.Lib.hid U,Go.Lib.hid Y,Go.Lib.hid Z⟩
theorem aAD{D F G I O:Prop}(U:D)(Y:F)(Z:G)(h:I)(o:O):RowKit.Hid D/\RowKit.Hid F/\RowKit.Hid G/\RowKit.Hid I/\RowKit.Hid O:=⟨Go.Lib.hid U,Go.Lib.hid Y,Go.Lib.hid Z,Go.Lib.hid h,Go.Lib.hid o⟩
theorem aAH{D F G I O U:Prop}(Y:D)(Z:F)(h:G)(o:I)(s:O)(z:U):RowKit.Hid D/\RowKit.Hid F/\RowKit.Hid G/\RowKit.Hid I/\RowKit.Hid O/\RowKit.Hid U:=⟨Go.Lib.hid Y,Go.Lib.hid Z,Go.Lib.hid h,Go.Lib.hid o,Go.Lib.hid s,Go.Lib.hid z⟩
theorem aAI{D F G I O U Y:Prop}(Z:D)(h:F)(o:G)(s:I)(z:O)(h5:U)(h6:Y):RowKit.Hid D/\RowKit.Hid F/\RowKit.Hid G/\RowKit.Hid I/\RowKit.Hid O/\RowKit.Hid U/\RowKit.Hid Y:=⟨Go.Lib.hid Z,Go.Lib.hid h,Go.Lib.hid o,Go.Lib.hid s,Go.Lib.hid z,Go.Lib.hid h5,Go.Lib.hid h6⟩
theorem aAG{D F G I O U Y p7:Prop}(Z:D)(h:F)(o:G)(s:I)(z:O)(h5:U)(h6:Y)(h7:p7):RowKit.Hid D/\RowKit.Hid F/\RowKit.Hid G/\RowKit.Hid I/\RowKit.Hid O/\RowKit.Hid U/\RowKit.Hid Y/\RowKit.Hid p7:=⟨Go.Lib.hid Z,Go.Lib.hid h,Go.Lib.hid o,Go.Lib.hid s,Go.Lib.hid z,Go.Lib.hid h5,Go.Lib.hid h6,Go.Lib.hid h7⟩
theorem aAJ{α:Sort _}(a:α):∃x,x=a:=⟨_,rfl⟩
end
end Go.Proofs.YtjoddliplahgkaaGreat
