/- Merged: LiftP, TermP, TermP2, TermP3, TermP4, Parts0, KidsD, Parts1, Clone, Count, Parts, Kids. -/
import Derived.Test.YtlahmbhimhmoaaaVRowsD
namespace Go.Proofs.Ytlahmbhimhmoaaa
set_option linter.unusedVariables false
set_option linter.unusedSimpArgs false
open Go.RowKit
open Go.Value renaming int → O, slice → X
open Go.IntKind renaming i64 → S
open Option renaming none → Y, some → Z
open Go.Obj renaming cells → I
open Go.Lib renaming hid->aB
set_option maxHeartbeats 4000000
set_option maxRecDepth 100000
def KP(up:Int)(n:Nd)(f:Int):Nd:=if n.op=1/\f<=n.a then ⟨1,n.a+up,0⟩ else n
def KO(n:Nd)(a:List Nd)(f:Int):List Nd:=if n.op=1/\f<=n.a then [] else a
def ID(D F up:Int):Nat->Int->Fo->Fo
 | _,_,.nil=>.nil
 | j,f,.cons p n a k x=>.cons p (KP up n (f+aR D F j)) (KO n a (f+aR D F j)) (if n.op=1/\f+aR D F j<=n.a then .nil else ID n.op n.b up 0 (f+aR D F j) k) (ID D F up (j+1) f x)
def LM(up:Int)(n:Nd)(k:Fo)(f:Int):Fo:=if n.op=1/\f<=n.a then .nil else ID n.op n.b up 0 f k
theorem vT(D F up:Int)(j:Nat)(f:Int)(p:List Nd)(n:Nd)(a:List Nd)(k x:Fo):ID D F up j f (.cons p n a k x)=.cons p (KP up n (f+aR D F j)) (KO n a (f+aR D F j)) (LM up n k (f+aR D F j)) (ID D F up (j+1) f x):=rfl
theorem IE(D U up:Int):∀(j:Nat)(f:Int)(F G:Fo),ID D U up j f (F.app G)=(ID D U up j f F).app (ID D U up (j+bQ F) f G)
 | _,_,.nil,G=>by simp[Fo.app,ID,bQ]
 | j,f,.cons p n a k x,G=>by
  have:=IE D U up (j+1) f x G;rw[show (Fo.cons p n a k x).app G=.cons p n a k (x.app G) from rfl,vT,vT,this];simp only[Fo.app,bQ];rw[show j+1+bQ x=j+(bQ x+1) from by omega]


def Vk:Fo->Prop
 | .nil=>True
 | .cons _ n ats k x=>eU n=true/\(n.op=1->ats=[]/\k=.nil)/\Vk k/\Vk x
theorem JM{n:Nd}(h:n.op=1):ds n=[]:=by simp[ds,cK,h]
theorem AP{n:Nd}{ats:List Nd}{k:Fo}(D:gI n ats)(F:Wf (ds n) k)(h:n.op=1):ats=[]/\k=.nil:=by
 rw[JM h]at F;constructor
 . unfold gI at D;rw[aN aA]at D;exact D
 cases k with
 | nil=>rfl
 | cons _ _ _ _ _=>exact F.elim
theorem qE:∀(F:Fo)(o:List Bool),Wf o F->Vk F
 | .nil,_,_=>trivial
 | .cons _ _ _ _ _,[],h=>h.elim
 | .cons p n ats k x,d::dr,h=>by
  obtain⟨_,G,D,U,s⟩:=h;exact⟨G,AP D U,qE k _ U,qE x _ s⟩
theorem tD:∀(F:Fo),(∀m i,i % 2=0->Wf ((List.replicate m [true,false]).flatten) F->nF true i F)/\(∀m i,i % 2=1->Wf (false::(List.replicate m [true,false]).flatten) F->nF true i F)/\(∀m i,Wf (List.replicate m false) F->nF false i F)
 | .nil=>⟨fun _ _ _ _=>trivial,fun _ _ _ _=>trivial,fun _ _ _=>trivial⟩
 | .cons p n ats k x=>by
  have hk:=tD k;have z:=tD x;have kid:Wf (ds n) k->nF (decide (n.op=12)) 0 k:=fun h=>by
   unfold ds at h;by_cases U:n.op=12
   . rw[LZ U]at h;rw[MB U];exact hk.1 _ 0 rfl h
   rw[aN U]at h;rw[MA U];exact hk.2.2 _ 0 h
  refine⟨fun m i s h=>?_,fun m i s h=>?_,fun m i h=>?_⟩
  . cases m with
    | zero=>exact h.elim
    | succ m =>
     simp only[List.replicate_succ,NS,NN,MY]at h;obtain⟨⟨f,o,_⟩,_,_,D,G⟩:=h;exact⟨by rw[o];simp[s],kid D,z.2.1 m (i+1) aA G⟩
  . obtain⟨o,_,_,D,G⟩:=h;simp only at o;exact⟨by rw[o];simp[s],kid D,z.1 m (i+1) aA G⟩
  . cases m with
    | zero=>exact h.elim
    | succ m =>
     rw[List.replicate_succ]at h;obtain⟨o,_,_,D,G⟩:=h;simp only at o;exact⟨by rw[o];simp,kid D,z.2.2 m (i+1) G⟩
theorem CW{n:Nd}{k:Fo}(h:Wf (ds n) k):nF (decide (n.op=12)) 0 k:=by
 have F:=tD k;unfold ds at h;by_cases D:n.op=12
 . rw[LZ D]at h;rw[MB D];exact F.1 _ 0 rfl h
 rw[aN D]at h;rw[MA D];exact F.2.2 _ 0 h
section
section
variable {l : List Nd}{n : Nd}{ats : List Nd}{k : Fo}
theorem C0(hs:aZ l=0)(F:pp [false] l=Z (.cons [] n ats k .nil,[])):eU n=true/\(n.op=1->ats=[]/\k=.nil)/\Vk k/\nD k/\nF (decide (n.op=12)) 0 k/\l=n::(ats++row k)/\l.length<=4096/\bS k<=4096:=by
 obtain⟨hl,n',ats',k',D,G,o⟩:=fE hs;rw[F]at D;injection D with e;injection e with e1 _;injection e1 with _ e2 e3 e4 _;subst e2 e3 e4;have hw:=jU F;have U:=pP F;obtain⟨_,z,h,s,_⟩:=hw;exact⟨z,AP h s,qE _ _ s,U.2.1,CW s,G,hl,o⟩
end
end
theorem pA{l:List Nd}{p:Nat}{d:Bool}{dr:List Bool}{D:List Nd}{nd:Nd}{a:List Nd}{F x:Fo}(hw:Wf (d::dr) (.cons D nd a F x))(hl:l.drop p=row (.cons D nd a F x))(hp:p<=l.length):
 ∃q,ends [false] l (p+D.length)=Z q/\l.drop q=row x/\p+D.length<=q/\q<=l.length/\(l.take q).drop (p+D.length)=row (.cons [] nd a F .nil):=by
 obtain⟨_,o,h,hk,hx⟩:=hw;have hd:l.drop (p+D.length)=row (.cons [] nd a F .nil)++row x:=by
  rw[<-List.drop_drop,hl];simp[row]
 have z:Wf [false] (.cons [] nd a F .nil):=⟨rfl,o,h,hk,trivial⟩;have s:=iM _ _ (row x) z;have G:=congrArg List.length hl;rw[NC]at G;have U:(row (.cons D nd a F x)).length=D.length+((row (.cons [] nd a F .nil)).length+(row x).length):=by
  simp[row];omega
 rw[U]at G;refine⟨p+D.length+(row (.cons [] nd a F .nil)).length,?_,?_,by omega,by omega,?_⟩
 . unfold ends;rw[hd,s];simp only[Option.map_some]
   congr 1
   omega
 . rw[<-List.drop_drop,hd];simp
 rw[List.drop_take,hd];have:p+D.length+(row (.cons [] nd a F .nil)).length-(p+D.length)=(row (.cons [] nd a F .nil)).length:=aA;rw[this];simp
def nQ(l:List Nd):Nd×Fo:=if aZ l=0 then (match pp [false] l with|some (.cons _ n _ k _,_)=>(n,k)|_=>(⟨0,0,0⟩,.nil)) else (⟨0,0,0⟩,.nil)
def F0(D F:Int):Nat->Fo->List Int
 | _,.nil=>[]
 | j,.cons _ _ _ _ x=>aR D F j::F0 D F (j+1) x
theorem zK(D U:Int):∀(j:Nat)(F G:Fo),F0 D U j (F.app G)=F0 D U j F++F0 D U (j+bQ F) G
 | _,.nil,G=>by simp[Fo.app,F0,bQ]
 | j,.cons p n a k x,G=>by
  simp only[Fo.app,F0,bQ,NN];rw[zK D U (j+1) x G,show j+1+bQ x=j+(bQ x+1) from by omega]
def fU:Fo->List (List Nd)
 | .nil=>[]
 | .cons _ n a k x=>row (.cons [] n a k .nil)::fU x
theorem r9:∀(F G:Fo),fU (F.app G)=fU F++fU G
 | .nil,G=>rfl
 | .cons p n a k x,G=>by simp only[Fo.app,fU,NN,r9 x G]
theorem sA:∀(F:Fo),(fU F).length=bQ F
 | .nil=>rfl
 | .cons p n a k x=>by simp only[fU,bQ,MN,sA x]
structure DJ (g:Nat) (A:OC) (n c p j:Nat) (A1:OC) (k1:Nat) (A2:OC) (k2:Nat) (xs1 xs2:List Value) (w:OE):Prop where
 bt:aW w g 29 #[X A n c]
 bo:aW w (g+2) 46 #[X A1 j k1]
 br:aW w (g+3) 116 #[X A2 j k2]
 ba:aW w (g+4) 3 #[O S (p:Int)]
 own1:w.ownsRow (g+5) 29 1 (X A1 j k1) j xs1
 own2:w.ownsRow (g+5) 3 1 (X A2 j k2) j xs2
 off:∀b,(Value.slice A1 j k1).ownBlock=Z b->(Value.slice A2 j k2).ownBlock≠Z b
theorem pJ{g:Nat}{A:OC}{n c p q j:Nat}{A1:OC}{k1:Nat}{A2:OC}{k2:Nat}{b5 b1:List Value}{w:OE}{l:List Nd}(h:DJ g A n c p j A1 k1 A2 k2 b5 b1 w)(ht:a6 (· < g) w A n c l)(hq:ends [false] l p=Z q)(g2:p<=q)(g3:q<=n)(hj:j<=10000)(b:Int):
 Calls Try.prog 83 #[O S b,.pointer (Z ⟨g,0,Y⟩),.pointer (Z ⟨g+4,0,Y⟩),.pointer (Z ⟨g+2,0,Y⟩),.pointer (Z ⟨g+3,0,Y⟩)] w fun e w'=>e=.returned (.tuple #[])/\Below g w w'/\w.heap.size<=w'.heap.size/\w'.heap[g+1]? = w.heap[g+1]? ∧
  ∃e3 g5 e5 b3 A',DJ g A n c q (j+1) e3 g5 e5 b3 (b5++[X A' (q-p) (c-p)]) (b1++[O S b]) w'/\∀(R:Nat->Prop)(w:OE),a6 R w A n c l->a6 R w A' (q-p) (c-p) ((l.take q).drop p):=by
 obtain⟨i0,hi,d5,d6,d7⟩:=info_parts vB;obtain⟨e9,f2,f3,f4⟩:=OI hi d5 d6 d7;obtain⟨i1,c9,d8,d9,e1⟩:=info_parts IW;obtain⟨f0,f5,f6,f7⟩:=OI c9 d8 d9 e1;clear hi d5 d6 d7 c9 d8 d9 e1;obtain⟨A',hcut,a3⟩:=sZ A n c p q g2 g3 ht.cap;have b8:=aB a3;have g7:=ht.few;have g6:=ht.cap;have h4:=h.ba.lt;have b6:∀G:World,aX G A n c l->Calls Try.prog 44 #[X A n c,O S (p:Int)] G (fN (q:Int) G):=fun G g4=>by
  have:=fD g4 (p:Int)
  rwa [kZ,hq]at this
 have c7:=aB (b6 w (ht.keep fun b z=>⟨by omega,fun _=>rfl⟩));have z0:=h.bt.cell;have z2:=h.bo.cell;have z3:=h.br.cell;have z4:=h.ba.cell;have H:=aB h;clear a3 b6 ht hq h;go_in;go_wp2_with fail;refine (c7.o).mono ?_;rintro e G ⟨rfl,a1⟩;have h2:DJ g A n c p j A1 k1 A2 k2 b5 b1 G:=⟨H.o.bt.below a1 H.o.bt.lt,H.o.bo.below a1 H.o.bo.lt,H.o.br.below a1 H.o.br.lt,H.o.ba.below a1 H.o.ba.lt,bY H.o.own1 a1,bY H.o.own2 a1,H.o.off⟩;have e0:=h2.bt.cell;have e2:=h2.bo.cell;have e4:=h2.ba.cell;have l0:=h2.bt.lt;have l2:=h2.bo.lt;have l3:=h2.br.lt;have l4:=h2.ba.lt;have d0:=e0 0;have d2:=e2 0;have d4:=e4 0;obtain⟨H2,b7⟩:=OF h2 a1;clear z0 z2 z3 z4 h2 a1 e0 e2 e4;go_wp2_with fail;refine wp_region_noPanic ?_;refine fW 7 (fun w'=>w'.cell? ⟨g,0,Y⟩=Z (X A n c)/\w'.cell? ⟨g+2,0,Y⟩=Z (X A1 j k1)/\w'.cell? ⟨g+4,0,Y⟩=Z (O S (p:Int))) aF ⟨d0,d2,d4⟩ (fun h3=>?_);refine a7 (i:=0) (v:=?_) rfl aC aC aC aC aC (fun _ _ _ h=>h) (Or.inl ⟨by rfl,?_⟩) aI ?_;rotate_left
 . (intro w hSw;(try dsimp only at hSw);go_simp);all_goals with_reducible rfl
 try simp only[Act.put,List.getElem_toArray,List.getElem_cons_zero,List.getElem_cons_succ,List.setIfInBounds_toArray,List.set_cons_zero,List.set_cons_succ]
 refine a7 (i:=1) (v:=?_) rfl aC aC aC aC aC (fun _ _ _ h=>h) (Or.inl ⟨by rfl,?_⟩) aI ?_;rotate_left
 . (intro w hSw;(try dsimp only at hSw);go_simp);all_goals with_reducible rfl
 try simp only[Act.put,List.getElem_toArray,List.getElem_cons_zero,List.getElem_cons_succ,List.setIfInBounds_toArray,List.set_cons_zero,List.set_cons_succ]
 refine a7 (i:=2) (v:=?_) rfl aC aC aC aC aC (fun _ _ _ h=>h) (Or.inl ⟨by rfl,?_⟩) aI ?_;rotate_left
 . (intro w hSw;(try dsimp only at hSw);go_simp);all_goals with_reducible rfl
 try simp only[Act.put,List.getElem_toArray,List.getElem_cons_zero,List.getElem_cons_succ,List.setIfInBounds_toArray,List.set_cons_zero,List.set_cons_succ]
 refine a7 (i:=3) (v:=?_) rfl aC aC aC aC aC (fun _ _ _ h=>h) (Or.inl ⟨by rfl,?_⟩) aI ?_;rotate_left
 . (intro w hSw;(try dsimp only at hSw);go_simp);all_goals with_reducible rfl
 try simp only[Act.put,List.getElem_toArray,List.getElem_cons_zero,List.getElem_cons_succ,List.setIfInBounds_toArray,List.set_cons_zero,List.set_cons_succ]
 refine a7 (i:=4) (v:=?_) rfl aC aC aC aC aC (fun _ _ _ h=>h) (Or.inl ⟨by rfl,?_⟩) aI ?_;rotate_left
 . (intro w hSw;(try dsimp only at hSw);go_simp);all_goals with_reducible rfl
 try simp only[Act.put,List.getElem_toArray,List.getElem_cons_zero,List.getElem_cons_succ,List.setIfInBounds_toArray,List.set_cons_zero,List.set_cons_succ]
 refine bW (i:=5) aC rfl rfl (fun K5 f8=>?_);go_simp;have g1:(G.drew.alloc (I #[X A' (q-p) (c-p)] 29)).cell? ⟨g,0,Y⟩=Z (X A n c)/\(G.drew.alloc (I #[X A' (q-p) (c-p)] 29)).cell? ⟨g+2,0,Y⟩=Z (X A1 j k1)/\(G.drew.alloc (I #[X A' (q-p) (c-p)] 29)).cell? ⟨g+4,0,Y⟩=Z (O S (p:Int)):=by
  have hc:∀b o,b<G.heap.size->(G.drew.alloc (I #[X A' (q-p) (c-p)] 29)).cell? ⟨b,o,Y⟩=G.cell? ⟨b,o,Y⟩:=fun b o z=>(World.cell?_alloc_lt _ _ _ z);rw[hc _ _ l0,hc _ _ l2,hc _ _ l4];exact⟨d0,d2,d4⟩
 refine f8.o _ _ (fun _=>g1) ?_;try simp only[Act.put,List.getElem_toArray,List.getElem_cons_zero,List.getElem_cons_succ,List.setIfInBounds_toArray,List.set_cons_zero,List.set_cons_succ]
 refine bW (i:=6) aC rfl rfl (fun K6 f9=>?_);refine eL (.tmp 10) (.tmp 15) 46 29 rfl (g+5) i0 _ 24 Try.underlying46 e9.o f2.o f3.o f4.o rfl aE (X A1 j k1) j b5 (X A' (q-p) (c-p)) rfl G.drew aF aF (bY H2.o.own1 (aU (MC _ _) 1)) _ aF aD aA aG ?_;intro A4 c4 w4 F;have U:∀b,b<G.heap.size->(Value.slice A1 j k1).ownBlock≠Z b->w4.heap[b]? = G.heap[b]?:=fun b z c0=>F.grown.block b z (fun e=>c0 e.symm);have s:∀b,b<g+5->(Value.slice A1 j k1).ownBlock≠Z b:=fun b z e=>by have:=(aV H2.o.own1 e).1;omega
 have zb:=H2.o.bo.same (U _ l2 (s _ aA));have zf:=zb.frozen;have zc:=zb.cell;have c8:w4.cell? ⟨g,0,Y⟩=Z (X A n c)/\w4.cell? ⟨g+2,0,Y⟩=Z (X A1 j k1)/\w4.cell? ⟨g+4,0,Y⟩=Z (O S (p:Int)):=by
  rw[aP (U g l0 (s _ aA)),aP (U (g+2) l2 (s _ aA)),aP (U (g+4) l4 (s _ aA))];exact⟨d0,d2,d4⟩
 refine f9.o _ _ (fun _=>c8) ?_;try simp only[Act.put,List.getElem_toArray,List.getElem_cons_zero,List.getElem_cons_succ,List.setIfInBounds_toArray,List.set_cons_zero,List.set_cons_succ]
 refine bW (i:=7) aC rfl rfl (fun K7 g0=>?_);go_simp;refine g0.o _ _ (fun h=>absurd rfl h) ?_;refine gV aC (NoPanic.normal ?_) _;have hh:=H2.o;have gr:G.grownBy w4 (Value.slice A1 j k1).ownBlock:=⟨F.grown.os,F.grown.tape,F.grown.output,F.grown.size,fun b z c0=>F.grown.block b z c0⟩;have a9:w4.ownsRow (g+5) 3 1 (X A2 j k2) j b1:=hh.own2.kept gr (by
  cases e2:(Value.slice A2 j k2).ownBlock with
  | none=>exact .inl rfl
  | some b2=>exact .inr fun e=>hh.off b2 e.symm e2)
 have h5:G.heap.size<=w4.heap.size:=F.grown.size;have k0:aW (w4.setCell ⟨g+2,0,Y⟩ (X A4 (j+1) c4)) g 29 #[X A n c]:=(hh.bt.same (U g l0 (s _ aA))).far aD _;have b3:aW (w4.setCell ⟨g+2,0,Y⟩ (X A4 (j+1) c4)) (g+2) 46 #[X A4 (j+1) c4]:=zb.set_ 0 _;have k3:aW (w4.setCell ⟨g+2,0,Y⟩ (X A4 (j+1) c4)) (g+3) 116 #[X A2 j k2]:=(hh.br.same (U (g+3) l3 (s _ aA))).far aD _;have k4:aW (w4.setCell ⟨g+2,0,Y⟩ (X A4 (j+1) c4)) (g+4) 3 #[O S (p:Int)]:=(hh.ba.same (U (g+4) l4 (s _ aA))).far aD _;have h7:=k3.cell;have b0:=ownsRow_setCell_below (a:=⟨g+2,0,Y⟩) a9 aD (X A4 (j+1) c4);have a8:(w4.setCell ⟨g+2,0,Y⟩ (X A4 (j+1) c4)).heap.size=w4.heap.size:=by simp[World.setCell]
 have a0:=aB a8;have e7:Hid (g+5<=(w4.setCell ⟨g+2,0,Y⟩ (X A4 (j+1) c4)).heap.size):=aB (by rw[a8];omega);have b9:=aB b0;have K0:=aB k0;have K2:=aB b3;have K3:=aB k3;have K4:=aB k4;have a2:=aB F;have e8:=aB U;have f1:=aB s;have d1:Z (g+3)≠(Value.slice A2 j k2).ownBlock:=yM hh.own2 aA;have d3:Z (g+4)≠(Value.slice A2 j k2).ownBlock:=yM hh.own2 aA;clear k0 b3 k3 k4 a9 b0 F U s gr hh zb zf zc c8 a8;go_wp2_with (at_builtin;go_loud (refine bL rfl (eL (.tmp 17) (.tmp 19) 116 3 rfl (g+5) i1 _ 8 Try.underlying116 f0.o f5.o f6.o f7.o rfl aE (X A2 j k2) j b1 (O S b) rfl (w4.setCell ⟨g+2,0,Y⟩ (X A4 (j+1) c4)) rfl rfl b9.o _ rfl a0.o.symm aA e7.o ?_));intro A6 c6 w6 D;have y3:=K3.o.grown D.grown d1;have h9:=y3.frozen;have y4:=(K4.o.grown D.grown d3).far (p:=⟨g+3,0,Y⟩) aD (X A6 (j+1) c6);have i3:=y4.frozen;have h8:=y3.cell;have i2:=y4.cell)
 have a5:∀b,(Value.slice A4 (j+1) c4).ownBlock=Z b->(Value.slice A2 j k2).ownBlock≠Z b:=fun b z e2=>by
  rcases a2.o.new b z with h1|h1
  . exact H2.o.off b h1 e2
  have:=(aV H2.o.own2 e2).2.1;have h0:G.heap.size<=b:=h1;omega
 have c1:=ownsRow_setCell_below (a:=⟨g+2,0,Y⟩) a2.o.own aD (X A4 (j+1) c4);have c2:=c1.kept D.grown (by
  cases e4:(Value.slice A4 (j+1) c4).ownBlock with
  | none=>exact .inl rfl
  | some b4=>exact .inr fun e=>a5 b4 e4 e.symm)
 have c3:=ownsRow_setCell_below (a:=⟨g+4,0,Y⟩) (ownsRow_setCell_below (a:=⟨g+3,0,Y⟩) c2 aD (X A6 (j+1) c6)) aD (O S (q:Int));have c5:=ownsRow_setCell_below (a:=⟨g+4,0,Y⟩) (ownsRow_setCell_below (a:=⟨g+3,0,Y⟩) D.own aD (X A6 (j+1) c6)) aD (O S (q:Int));have a4:∀b,b<g+5->Z b≠(Value.slice A2 j k2).ownBlock:=fun b z=>yM H2.o.own2 z;have q0:=((K0.o.grown D.grown (a4 g aA)).far (p:=⟨g+3,0,Y⟩) aD (X A6 (j+1) c6)).far (p:=⟨g+4,0,Y⟩) aD (O S (q:Int));have q2:=((K2.o.grown D.grown (a4 (g+2) aA)).far (p:=⟨g+3,0,Y⟩) aD (X A6 (j+1) c6)).far (p:=⟨g+4,0,Y⟩) aD (O S (q:Int));have q3:=(y3.set_ 0 (X A6 (j+1) c6)).far (p:=⟨g+4,0,Y⟩) aD (O S (q:Int));have q4:=y4.set_ 0 (O S (q:Int));have h6:=D.grown.size;have g9:w4.heap.size<=w6.heap.size:=by have:=a0.o;omega
 have g8:=b7.o.size;refine bodyPost_end (results_none rfl _ _ _) rfl ⟨rfl,?_,?_,?_,A4,c4,A6,c6,A',⟨q0,q2,q3,q4,c3,c5,fun b z e6=>?_⟩,fun R w h=>b8.o R w l h⟩
 . refine Below.setCell (Below.setCell (Below.grown (Below.setCell (Below.grown (w:=G.drew) (aU (b7.o.mono aA) 1) a2.o.grown (by show g<=G.heap.size;omega) (fun b z=>?_)) (p:=⟨g+2,0,Y⟩) aD _) D.grown (by rw[a0.o];omega) (fun b z=>?_)) (p:=⟨g+3,0,Y⟩) aD _) (p:=⟨g+4,0,Y⟩) aD _
   . have:=(aV H2.o.own1 z).1;omega
   have:=(aV H2.o.own2 z).1;omega
 . have e:((w6.setCell ⟨g+3,0,Y⟩ (X A6 (j+1) c6)).setCell ⟨g+4,0,Y⟩ (O S (q:Int))).heap.size=w6.heap.size:=by simp[World.setCell]
   rw[e];omega
 . rw[MH _ _ _ _ aD,MH _ _ _ _ aD,D.grown.block (g+1) (by rw[a0.o];omega) (a4 (g+1) aA),MH _ _ _ _ aD,e8.o (g+1) aA (f1.o (g+1) aA),b7.o.block (g+1) aA]
 rcases D.new b e6 with h1|h1
 . exact a5 b z h1
 have:=(aV a2.o.own z).2.1;have:=a0.o;omega
theorem gH{w w':OE}{A:OC}{n c:Nat}{l:List Nd}(h:bG w' w.heap.size (X A n c) l)(o:l.length<=5864062014805):a6 (zX w w') w' A n c l:=by
 obtain⟨s,n',z,e,ht⟩:=bG.termS h o;injection e with F G U;subst F G U;exact ht.keep fun b D=>⟨⟨(aV h D).1,(aV h D).2.1⟩,fun _=>rfl⟩
theorem BM{A:OC}{n c:Nat}{l:List Nd}{w:OE}(h:aX w A n c l):
 Calls Try.prog 45 #[X A n c] w (fun e w'=>OB w w'/\∃A n c,e=.returned (X A n c)/\bG w' w.heap.size (X A n c) l/\l.length<=5864062014805):=by
 have a7:∀(w:OE)(a:OC)(n c n' c':Nat),(binOp .eql 29 (X a n c) (X Y n' c')).run Try.prog w=.ok (.bool a.isNone) w:=fun w a n c n' c'=>Lib.run_eql_slice_nil w _ _ a n c n' c' Try.underlying29;cases A with
 | none =>
  obtain rfl:=h.nul rfl;obtain rfl:n=0:=by have:=h.cap;omega
  have hl:l=[]:=ND h.len;subst hl;go_in;go_wp2_with fail;go_ret;exact⟨MC _ _,Y,0,0,rfl,bG.nil _ _,NH _⟩
 | some a =>
  obtain⟨i0,hi,a0,a1,a2⟩:=info_parts mK;have a3:=aB hi;have a4:=aB a0;have a5:=aB a1;have a6:=aB a2;clear hi a0 a1 a2;have z:=h.few;have s:=aQ w (I #[] 42);have hm:aX (w.alloc (I #[] 42)) (Z a) n c l:=h.below s;have G:bG (w.alloc (I #[] 42)) w.heap.size (X (Z ⟨w.heap.size,0,Y⟩) 0 0) []:=World.ownsRow_made w #[] 0 (MF _) (NH _) rfl;have HM:=aB hm;have F:=aB G;have HB:=aB s;clear hm G s h;go_in;go_wp2_with (at_builtin;go_loud (refine bL rfl (cT (.tmp 5) (.tmp 6) 29 29 rfl w.heap.size i0 Try.underlying29 Try.underlying29 a3.o a4.o a5.o a6.o (X (Z ⟨w.heap.size,0,Y⟩) 0 0) [] l rfl F.o rfl HM.o (by simpa using z) aD ?_));intro A4 c4 w4 D U)
  go_ret;refine⟨HB.o.grown U.grown HB.o.size (fun g hg=>(aV F.o hg).1),A4,_,c4,rfl,?_⟩;simp only[NJ,ML,MY]at D;exact⟨D,by have:=HM.o.len;omega⟩
theorem l8{A:OC}{n c:Nat}{l:List Nd}{w:OE}(h:aX w A n c l):
 Calls Try.prog 45 #[X A n c] w (zH l w) :=
 (BM h).mono fun _ _ ⟨D,A,n,c,e,G,F⟩=>⟨D,A,n,c,e,gH G F⟩
theorem AD(n:Nd):eU n=true ↔ bR n.op n.a n.b=true/\n.op≠3/\n.op≠13:=by
 simp only[eU,ME,MJ,and_assoc]
theorem wW(n:Nd)(D:Fo)(F:List Nd)(nd:Nd)(a:List Nd)(G:Fo):F0 n.op n.b 0 (D.app (.cons F nd a G .nil))=F0 n.op n.b 0 D++[aR n.op n.b (bQ D)]:=by
 rw[zK,ML];rfl
theorem j7(F:Fo)(D:List Nd)(nd:Nd)(a:List Nd)(G:Fo):fU (F.app (.cons D nd a G .nil))=fU F++[row (.cons [] nd a G .nil)]:=by
 rw[r9];rfl
theorem oL{op b k:Int}(h:op≠12):aR op b k=cO op k:=by
 simp[aR,cO,h]
theorem DJ.setAt{g:Nat}{A:OC}{n c p j:Nat}{G:OC}{k1:Nat}{U:OC}{k2:Nat}{D F:List Value}{w:OE}(h:DJ g A n c p j G k1 U k2 D F w)(o:Nat):
 DJ g A n c o j G k1 U k2 D F (w.setCell ⟨g+4,0,Y⟩ (O S (o:Int))) :=
 ⟨h.bt.far aD _,h.bo.far aD _,h.br.far aD _,h.ba.set_ 0 _,ownsRow_setCell_below (a:=⟨g+4,0,Y⟩) h.own1 aD _,ownsRow_setCell_below (a:=⟨g+4,0,Y⟩) h.own2 aD _,h.off⟩
theorem DJ.alloc{g:Nat}{A:OC}{n c p j:Nat}{G:OC}{k1:Nat}{U:OC}{k2:Nat}{D F:List Value}{w:OE}(h:DJ g A n c p j G k1 U k2 D F w)(o:Obj):
 DJ g A n c p j G k1 U k2 D F (w.alloc o) :=
 ⟨h.bt.alloc _,h.bo.alloc _,h.br.alloc _,h.ba.alloc _,h.own1.alloc _,h.own2.alloc _,h.off⟩
def rA(A:Nd)(k:Fo)(w:OE)(e:Ending)(w':OE):Prop:=OB w w'/\∃F k1 G k2 D,e=.returned (.tuple #[X F (bQ k) k1,X G (bQ k) k2]) ∧
 w'.ownsRow (w.heap.size+5) 29 1 (X F (bQ k) k1) (bQ k) D/\w'.ownsRow (w.heap.size+5) 3 1 (X G (bQ k) k2) (bQ k) ((F0 A.op A.b 0 k).map (Value.int .i64))/\a8 (· < w.heap.size) w D (fU k)
theorem CU{A:OC}{nn c:Nat}{l:List Nd}{w:OE}{n:Nd}{ats:List Nd}{k:Fo}(h:aX w A nn c l)(hs:aZ l=0)(f5:pp [false] l=Z (.cons [] n ats k .nil,[])):
 Calls Try.prog 63 #[X A nn c] w (rA n k w):=by
 obtain⟨h8,l2,l3,k3,k4,d1,k8,k5⟩:=C0 hs f5;have k9:∀(fn:Fn)(first cap:Array Value)(w:OE),(Instr.makeFunc fn first cap).run Try.prog w=.ok (.func fn first cap) w:=fun _ _ _ _=>rfl;have h7:=h.len;have h9:0<nn:=by rw[<-h7,d1];simp
 have j5:bB l 0=n:=by rw[d1];rfl
 obtain⟨tb,toff,rfl,l1,g0,g1,g2⟩:=h.at_ h9;simp only[NE,MQ]at g0 g1 g2;rw[j5]at g0 g1 g2;have H:=aB h;clear h;go_in;go_wp2_with fail;have j2 : -1000<=n.b/\n.b<=1000:=by
  have h1:=(AD n).1 h8;have h2:=bI.1 h1.1;omega
 refine (lG n.op n.a n.b _ j2).mono ?_;rintro e w6 ⟨rfl,e0⟩;have b9:OB w (((((w.alloc (I #[X (Z ⟨tb,toff,Y⟩) nn c] 29)).alloc (I #[O S n.op,O S n.a,O S n.b] 42)).alloc (I #[X Y 0 0] 46)).alloc (I #[X Y 0 0] 116)).alloc (I #[O S 1] 3)) :=
  ((((aQ w _).alloc aD _).alloc aH _).alloc aH _).alloc aH _
 have h0:=b9.alloc b9.size (I #[O S n.op,O S n.a,O S n.b] 42);rw[e0]at h0;have F:DJ w.heap.size (Z ⟨tb,toff,Y⟩) nn c 1 0 Y 0 Y 0 [] [] w6:=by
  subst e0;refine⟨?_,?_,?_,?_,NR _ _ _ _,NR _ _ _ _,fun b h=>by simp[Value.ownBlock]at h⟩
  . exact (((((aW.new _ _ _).alloc _).alloc _).alloc _).alloc _).alloc _
  . exact (((aW.new' aD).alloc _).alloc _).alloc _
  . exact ((aW.new' aD).alloc _).alloc _
  exact (aW.new' aD).alloc _
 have d0:aW w6 (w.heap.size+1) 42 #[O S n.op,O S n.a,O S n.b]:=by
  subst e0;exact ((((aW.new' aD).alloc _).alloc _).alloc _).alloc _
 clear e0 b9;go_wp2_with fail;have f3:Wf (ds n) k:=(jU f5).2.2.2.1;have g9:n.op≠2->ats=[]:=fun h2=>by
  have h3:=(jU f5).2.2.1;unfold gI at h3;rw[aN h2]at h3;exact h3
 go_loopw [16] (fun i wr=>∃(G F2:Fo)(j p:Nat)(A1:OC)(k1:Nat)(A2:OC)(k2:Nat)(c0 d3:List Value),Hid (k=G.app F2)/\Hid (bQ G=if n.op=12 then 2*j else j)/\(j:Int)<=cK n.op n.b/\i=O S (j:Int) ∧
  Hid (F2=.nil\/l.drop p=row F2)/\p<=l.length/\Hid (Wf (eQ n j) F2)/\Hid (DJ w.heap.size (Z ⟨tb,toff,Y⟩) nn c p (bQ G) A1 k1 A2 k2 c0 d3 wr) ∧
  Hid (aW wr (w.heap.size+1) 42 #[O S n.op,O S n.a,O S n.b])/\Hid (OB w wr)/\Hid (a8 (· < w.heap.size) w c0 (fU G))/\Hid (d3=(F0 n.op n.b 0 G).map (Value.int .i64))) (fun i _=>(cK n.op n.b).toNat-(intOf i).toNat)
 case atStart =>
  refine⟨.nil,k,0,1,Y,0,Y,0,[],[],aB rfl,aB (by simp[bQ]),?_,by go_num,aB ?_,by omega,aB (by rw[mT];exact f3),aB F,aB d0,aB h0,aB trivial,aB rfl⟩
  . have h1:=(AD n).1 h8;have h2:=bI.1 h1.1;simp only[cK]
    repeat' split
    all_goals omega
  by_cases h2:n.op=2
  . left;have h3:ds n=[]:=by simp[ds,cK,h2]
    rw[h3]at f3;cases k with
    | nil=>rfl
    | cons _ _ _ _ _=>exact f3.elim
  right;rw[d1,g9 h2];rfl
 case round =>
  obtain⟨G,F2,j,p,A1,k1,A2,k2,c0,d3,hk,d7,k7,rfl,a3,hp,d2,F,d0,d6,b4,b3⟩:=hrel;have zn:=(d0.o).cell;have z2:wr.cell? ⟨w.heap.size+1+1,0,Y⟩=Z (X A1 (bQ G) k1):=F.o.bo.cell 0;have z3:wr.cell? ⟨w.heap.size+1+1+1,0,Y⟩=Z (X A2 (bQ G) k2):=F.o.br.cell 0;have k6:(j:Int)<=1002:=by
   have h1:cK n.op n.b<=1002:=by
    simp only[cK]
    repeat' split
    all_goals omega
   omega
  by_cases j4:(j:Int)<cK n.op n.b;rotate_left
  . have d8:Hid (k=G):=by
     have s:=d2.o;rw[pV n aA]at s
     match F2,s,hk with
     | .nil,_,hk=>exact aB (hk.o.trans (nW G))
    go_wp2_with fail;go_quiet (fail)
    go_wp2_with fail;go_ret2;refine⟨aU d6.o _,A1,k1,A2,k2,c0,by rw[d8.o];rfl,?_,?_,?_⟩
    . rw[d8.o];exact F.o.own1
    . rw[d8.o,<-b3.o];exact F.o.own2
    rw[d8.o];exact b4.o
  by_cases b7:n.op=12
  . have j1:(n.op==12)=true:=beq_iff_eq.2 b7;have U:=aB b7;have z4:wr.cell? ⟨w.heap.size+1+1+1+1,0,Y⟩=Z (O S (p:Int)):=F.o.ba.cell 0;have j8:wr.frozen? ⟨w.heap.size+1+1+1+1,0,Y⟩=false:=F.o.ba.frozen 0;have j9:w.heap.size+1+1+1+1<wr.heap.size:=F.o.ba.lt;clear b7;have h6:cK n.op n.b=n.b:=by simp[cK,U.o]
    have s:=d2.o;rw[pW U.o aA]at s
    match F2,s,hk,a3 with
    | .cons pre nd a ks F3,hw3,hk,a3 =>
    obtain⟨f,rfl,_⟩:=hw3.1
    match F3,hw3,hk,a3 with
    | .cons pre2 nd2 a2 ks2 F4,hw3,hk,a3 =>
    have d9:=hw3.2.2.2.2;have f4:pre2=[]:=d9.1;subst f4;have c9:=a3.o.resolve_left aD;obtain⟨q1,b2,c7,a7,f6,b5⟩:=pA hw3 c9 hp;obtain⟨q2,f2,h4,e5,j6,f8⟩:=pA d9 c7 f6;simp only[MN,NJ,ML,MQ]at b2 a7 b5 f2 e5 f8;have e9:=aB b2;have f0:=aB b5;have i8:=aB f2;have j0:=aB f8;have i7:=aB h4;have f1:=aB d9.2.2.2.2;have i9:=aB h6;have d5:Hid (∀w1,OB w w1->a6 (· < w.heap.size) w1 (Z ⟨tb,toff,Y⟩) nn c l):=aB fun w1 hb=>H.o.keep fun b c4=>⟨c4,fun o=>aP (hb.block b c4) o⟩;have a9:=F.o.setAt (p+1);have b1:OB w (wr.setCell ⟨w.heap.size+4,0,Y⟩ (O S ((p+1:Nat):Int))):=d6.o.setCell aD _;have a1:Hid (bQ G=2*j):=aB (by have:=d7.o;rwa [LZ U.o]at this);have j3:bQ G<=2004:=by have:=a1.o;omega
    have a4:aW (wr.setCell ⟨w.heap.size+4,0,Y⟩ (O S ((p+1:Nat):Int))) (w.heap.size+1) 42 #[O S n.op,O S n.a,O S n.b]:=d0.o.far aD _;have D:=pJ a9 (d5.o _ b1) e9.o a7 aA aA 0;obtain⟨b0,e7,c1⟩:=OK D b1 a4;clear h6 s hw3 d9 c9 b2 c7 b5 f2 h4 f8 a9 b1 D d2 d7 a4;go_wp2_with fail;have c6:((p:Int)+1)=((p+1:Nat):Int):=aA;rw[c6];refine (b0.o).mono ?_;rintro e w3 ⟨rfl,c5,f7,c8,f9,i0,g4,i2,A',a0,a5⟩;have z:aW w3 (w.heap.size+1) 42 #[O S n.op,O S n.a,O S n.b]:=c8.trans c1.o;have b8:=e7.o.trans c5;have b6:=pJ a0 (d5.o _ b8) i8.o e5 aA aA n.b;have d4:=aB b6;have k0:=z.cell;obtain⟨c2,e8,e1,c3⟩:=OI z b8 a0 a5;clear b6 a0 c8 c5 b8 z z2 z3 z4 j8 j9 zn f7 c6 a5;go_wp2_with fail;refine (d4.o).mono ?_;rintro e w5 ⟨rfl,b9,l0,h5,g3,i1,g5,i3,i4,e6,e4⟩;have e3:=h5.trans c2.o;have e2:=e8.o.trans b9;obtain⟨g6,i5,g8,g7⟩:=OI e3 e2 e6 e4;clear e3 e2 e6 e4 h5 b9 k0;go_wp2_with fail;go_roundw
    case rel =>
     refine⟨(G.app (.cons [f] nd a ks .nil)).app (.cons [] nd2 a2 ks2 .nil),F4,j+1,q2,g3,i1,g5,i3,(c0++[X A' (q1-(p+1)) (c-(p+1))])++[X i4 (q2-q1) (c-q1)],(d3++[O S 0])++[O S n.b],aB ?_,aB ?_,by omega,by go_num,aB (.inr i7.o),j6,f1,?_,g6,i5,aB ?_,aB ?_⟩;rotate_left 2
     . have e:bQ ((G.app (.cons [f] nd a ks .nil)).app (.cons [] nd2 a2 ks2 .nil))=bQ G+1+1:=by simp[eF,bQ]
       rw[e];exact g8
     . rw[j7,j7];refine a8.add ?_ (a8.add ?_ b4.o)
       . rw[<-j0.o];exact g7.o _ _ H.o
       rw[<-f0.o];exact c3.o _ _ H.o
     . rw[wW,wW,b3.o];have e:bQ (G.app (.cons [f] nd a ks .nil))=2*j+1:=by have:=a1.o;simp[eF,bQ,this]
       rw[e,a1.o];simp[aR,U.o]
     . rw[hk.o,fH,fH];rfl
     rw[LZ U.o];have:=a1.o;simp[eF,bQ];omega
    case measure =>
     have:=i9.o;simp[intOf];omega
  have j1:(n.op==12)=false:=MM.2 b7;have U:=aB b7;clear b7;have s:=d2.o;rw[pX U.o j4]at s
  match F2,s,hk,a3 with
  | .cons pre nd a ks F3,hw3,hk,a3 =>
  have f4:pre=[]:=hw3.1;subst f4;have c9:=a3.o.resolve_left aD;obtain⟨q1,b2,c7,a7,f6,b5⟩:=pA hw3 c9 hp;simp only[NJ,MQ]at b2 a7 b5;have e9:=aB b2;have f0:=aB b5;have i6:=aB c7;have f1:=aB hw3.2.2.2.2;have d5:Hid (∀w1,OB w w1->a6 (· < w.heap.size) w1 (Z ⟨tb,toff,Y⟩) nn c l):=aB fun w1 hb=>H.o.keep fun b c4=>⟨c4,fun o=>aP (hb.block b c4) o⟩;have a9:=F.o.alloc (I #[O S n.op,O S n.a,O S n.b] 42);have b1:OB w (wr.alloc (I #[O S n.op,O S n.a,O S n.b] 42)):=d6.o.alloc d6.o.size _;have a1:Hid (bQ G=j):=aB (by have:=d7.o;rwa [aN U.o]at this);have j3:bQ G<=2004:=by have:=a1.o;omega
  have a4:aW (wr.alloc (I #[O S n.op,O S n.a,O S n.b] 42)) (w.heap.size+1) 42 #[O S n.op,O S n.a,O S n.b]:=d0.o.alloc _;have D:=pJ a9 (d5.o _ b1) e9.o a7 aA aA (cO n.op (j:Int));have b0:=aB D;have e7:=aB b1;have c1:=aB a4;clear s hw3 c9 b2 c7 b5 a9 b1 D d2 d7 a4;go_wp2_with (go_at_call 84;refine (nH _ _ _ _ _).mono ?_;rintro e w3 ⟨rfl,rfl⟩)
  refine (b0.o).mono ?_;rintro e w3 ⟨rfl,c5,f7,c8,f9,i0,g4,i2,A',a0,a5⟩;have z:aW w3 (w.heap.size+1) 42 #[O S n.op,O S n.a,O S n.b]:=c8.trans c1.o;have b8:=e7.o.trans c5;obtain⟨c2,e8,e1,c3⟩:=OI z b8 a0 a5;clear a0 c8 c5 b8 z z2 z3 zn f7 a5;go_wp2_with fail;go_roundw
  case rel =>
   refine⟨G.app (.cons [] nd a ks .nil),F3,j+1,q1,f9,i0,g4,i2,c0++[X A' (q1-p) (c-p)],d3++[O S (cO n.op (j:Int))],aB ?_,aB ?_,by omega,by go_num,aB (.inr i6.o),f6,f1,?_,c2,e8,aB ?_,aB ?_⟩;rotate_left 2
   . have e:bQ (G.app (.cons [] nd a ks .nil))=bQ G+1:=by simp[eF,bQ]
     rw[e];exact e1
   . rw[j7];refine a8.add ?_ b4.o;rw[<-f0.o];exact c3.o _ _ H.o
   . rw[wW,b3.o,a1.o,oL U.o];simp
   . rw[hk.o,fH];rfl
   rw[aN U.o];have:=a1.o;simp[eF,bQ];omega
  case measure=>simp[intOf];omega
theorem G8{w:OE}{base g n c:Nat}{e:TypeId}{U:List Value}(h:w.ownsRow base e 1 (X (Z ⟨g,0,Y⟩) n c) n U)(i:Nat)(u:Value):(w.setCell ⟨g,i,Y⟩ u).ownsRow base e 1 (X (Z ⟨g,0,Y⟩) n c) n (U.set i u):=by
 obtain⟨hl,hc⟩:=h;refine⟨by simpa using hl,.inr ?_⟩;rcases hc with⟨G,_⟩|⟨g',cap,D,hv,hg,hh,G,s,z,h4⟩
 . cases G
 injection hv with F e2 o;injection F with F;injection F with F;subst F o;refine⟨g,c,D.setIfInBounds i u,rfl,hg,?_,G,s,by simpa using z,?_⟩
 . have hb:aW w g e D:=hh;exact hb.set_ i u
 rw[Array.toList_setIfInBounds,List.take_set,h4]
end Go.Proofs.Ytlahmbhimhmoaaa
