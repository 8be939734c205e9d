/- Merged: Leaf, Leaf2, Atoms, Row, Cut, Rev, AppOne, Marks, AppZ, WalkP. -/
import Derived.Test.YtplecfbdchmogaaGreatProg
import Derived.Test.YtplecfbdchmogaaGreatDBase
import Derived.WalkKit
import Derived.WalkLawsBesides
import Derived.WalkSpells
import Derived.Lib.Hide
import Derived.Deep.QuietTactic
import Derived.BigQuiet
import Derived.Lib.SliceRun
namespace Go.Proofs.YtplecfbdchmogaaGreat
open Go.Value renaming int → O
open Go.IntKind renaming i64 → X
open Option renaming some → Y, none → Z
open Go.Lib (hid)
set_option maxHeartbeats 2000000
set_option maxRecDepth 100000
section
open Go.RowKit
theorem DG (op a b:Int) (w:World) :
 Calls Tryz.prog 145 #[.agg #[O X op,O X a,O X b]] w fun e w'=>e=.returned (.bool (decide (0<=a)&&decide (a<64)))/\w.alloc (.cells #[O X op,O X a,O X b] 53)=w':=by
 go_in;go_wp2
 all_goals
  go_ret;exact ⟨fX (by simp<;>omega),rfl⟩
def CP (op a b:Int) (w:World) (e:Ending) (w':World):Prop:=e=.returned (.bool (bQ op a b))/\Below w.heap.size w w'
theorem fN (op a b:Int) (w:World) :
 Calls Tryz.prog 135 #[.agg #[O X op,O X a,O X b]] w (CP op a b w):=by
 by_cases h:1<=op/\op<=13
 · obtain ⟨h0,h13⟩:=h;obtain ⟨k,rfl⟩:=Int.eq_ofNat_of_zero_le (by omega:0<=op);have:k=1\/k=2\/k=3\/k=4\/k=5\/k=6\/k=7\/k=8\/k=9\/k=10\/k=11\/k=12\/k=13:=aA;clear h0 h13;rcases this with rfl | rfl | rfl | rfl | rfl | rfl | rfl | rfl | rfl | rfl | rfl | rfl | rfl;all_goals
    go_in;go_wp2_with (go_at_call 145;refine (DG _ _ _ _).mono ?_;rintro e w' ⟨rfl,rfl⟩)
    all_goals
     go_ret;refine ⟨fX ?_,by first | exact aB _ _ | exact dS _ _ _⟩;rw [Bool.eq_iff_iff];simp [bQ];try omega
 have b1:(op==1)=false:=beq_eq_false_iff_ne.2 aA;have b2:(op==2)=false:=beq_eq_false_iff_ne.2 aA;have b3:(op==3)=false:=beq_eq_false_iff_ne.2 aA;have b4:(op==4)=false:=beq_eq_false_iff_ne.2 aA;have b5:(op==5)=false:=beq_eq_false_iff_ne.2 aA;have b6:(op==6)=false:=beq_eq_false_iff_ne.2 aA;have b7:(op==7)=false:=beq_eq_false_iff_ne.2 aA;have b8:(op==8)=false:=beq_eq_false_iff_ne.2 aA;have b9:(op==9)=false:=beq_eq_false_iff_ne.2 aA;have b10:(op==10)=false:=beq_eq_false_iff_ne.2 aA;have b11:(op==11)=false:=beq_eq_false_iff_ne.2 aA;have b12:(op==12)=false:=beq_eq_false_iff_ne.2 aA;have b13:(op==13)=false:=beq_eq_false_iff_ne.2 aA;have hp:bQ op a b=false:=by
  simp only [bQ];repeat rw [if_neg aA]
 have HP:=hid hp;clear hp h;go_in;go_wp2
 go_ret;exact ⟨fX HP.o.symm,aB _ _⟩
theorem dO (n lo hi:Int) (w:World) :
 Calls Tryz.prog 141 #[O X n,O X lo,O X hi] w fun e w'=>e=.returned (.bool (decide (lo<=n)&&decide (n<=hi)))/\w=w':=by
 go_in;go_wp2
 all_goals
  go_ret;exact ⟨fX (by simp<;>omega),rfl⟩
end
section
open Go.RowKit
theorem rJ (op a b:Int) (w:World) (hb : -1000<=b/\b<=1000) :
 Calls Tryz.prog 137 #[.agg #[O X op,O X a,O X b]] w fun e w'=>e=.returned (O X (eI op b))/\w.alloc (.cells #[O X op,O X a,O X b] 53)=w':=by
 obtain ⟨hb1,hb2⟩:=hb;by_cases h:op=4\/op=5\/op=6\/op=7\/op=11\/op=12\/op=13
 · rcases h with rfl | rfl | rfl | rfl | rfl | rfl | rfl;all_goals
    go_in;go_wp2
    all_goals
     go_ret;refine ⟨cH ?_,rfl⟩;simp [eI]
 ·
  have b4:(op==4)=false:=beq_eq_false_iff_ne.2 aA;have b5:(op==5)=false:=beq_eq_false_iff_ne.2 aA;have b6:(op==6)=false:=beq_eq_false_iff_ne.2 aA;have b7:(op==7)=false:=beq_eq_false_iff_ne.2 aA;have b11:(op==11)=false:=beq_eq_false_iff_ne.2 aA;have b12:(op==12)=false:=beq_eq_false_iff_ne.2 aA;have b13:(op==13)=false:=beq_eq_false_iff_ne.2 aA;have hp:eI op b=0:=by
   simp only [eI];repeat rw [if_neg aA]
  have HP:=hid hp;clear hp h;go_in;go_wp2
  go_ret;exact ⟨cH HP.o.symm,rfl⟩
theorem vU (op a b k:Int) (w:World) :
 Calls Tryz.prog 148 #[.agg #[O X op,O X a,O X b],O X k] w fun e w'=>e=.returned (O X (eR op k))/\w.alloc (.cells #[O X op,O X a,O X b] 53)=w':=by
 by_cases h:op=4\/op=5\/op=7
 · rcases h with rfl | rfl | rfl;all_goals
    by_cases k1:k=1
    · subst k1;go_in;go_wp2
      all_goals
       go_ret;refine ⟨cH ?_,rfl⟩;simp [eR]
    by_cases k2:k=2
    · subst k2;go_in;go_wp2
      all_goals
       go_ret;refine ⟨cH ?_,rfl⟩;simp [eR]
    have c1:(k==1)=false:=beq_eq_false_iff_ne.2 k1;have c2:(k==2)=false:=beq_eq_false_iff_ne.2 k2;have K1:=hid k1;have K2:=hid k2;clear k1 k2;go_in;go_wp2
    all_goals
     go_ret;refine ⟨cH ?_,rfl⟩;simp [eR,K1.o,K2.o]
 ·
  have b4:(op==4)=false:=beq_eq_false_iff_ne.2 aA;have b5:(op==5)=false:=beq_eq_false_iff_ne.2 aA;have b7:(op==7)=false:=beq_eq_false_iff_ne.2 aA;have hp:eR op k=0:=by
   simp only [eR];rw [if_neg aA]
  have HP:=hid hp;clear hp h;go_in;go_wp2
  go_ret;exact ⟨cH HP.o.symm,rfl⟩
theorem yR (op a b k:Int) (w:World) (hk:0<=k) :
 Calls Tryz.prog 142 #[.agg #[O X op,O X a,O X b],O X k] w fun e w'=>e=.returned (O X (aS op b k))/\w.alloc (.cells #[O X op,O X a,O X b] 53)=w':=by
 by_cases h:op=4\/op=5\/op=7\/op=12
 · rcases h with rfl | rfl | rfl | rfl;iterate 3
    by_cases k1:k=1
    · subst k1;go_in;go_wp2
      all_goals
       go_ret;refine ⟨cH ?_,rfl⟩;simp [aS]
    · by_cases k2:k=2
      · subst k2;go_in;go_wp2
        all_goals
         go_ret;refine ⟨cH ?_,rfl⟩;simp [aS]
      have c1:(k==1)=false:=beq_eq_false_iff_ne.2 k1;have c2:(k==2)=false:=beq_eq_false_iff_ne.2 k2;have K1:=hid k1;have K2:=hid k2;clear k1 k2;go_in;go_wp2
      all_goals
       go_ret;refine ⟨cH ?_,rfl⟩;simp [aS,K1.o,K2.o]
   by_cases k1:k % 2=1
   · have c1:(k % 2==1)=true:=beq_iff_eq.2 k1;have K1:=hid k1;clear k1;go_in;go_wp2
     all_goals
      go_ret;refine ⟨cH ?_,rfl⟩;simp [aS,K1.o]
   have c1:(k % 2==1)=false:=beq_eq_false_iff_ne.2 k1;have K1:=hid k1;clear k1;go_in;go_wp2
   all_goals
    go_ret;refine ⟨cH ?_,rfl⟩;simp [aS,K1.o]
 ·
  have b4:(op==4)=false:=beq_eq_false_iff_ne.2 aA;have b5:(op==5)=false:=beq_eq_false_iff_ne.2 aA;have b7:(op==7)=false:=beq_eq_false_iff_ne.2 aA;have b12:(op==12)=false:=beq_eq_false_iff_ne.2 aA;have hp:aS op b k=0:=by
   simp only [aS];rw [if_neg aA,if_neg aA]
  have HP:=hid hp;clear hp h;go_in;go_wp2
  go_ret;exact ⟨cH HP.o.symm,rfl⟩
end
section
open Go.RowKit
def fH (n:Int) (w:World) (e:Ending) (w':World):Prop:=e=.returned (O X n)/\Below w.heap.size w w'
theorem CQ {A:Option Addr} {n c:Nat} {l:List Nd} {w:World} (h:aQ w A n c l) (a0 b0:Int) (p0 k:Nat) (ha0:a0=p0) (hb0:b0=k) (hp0:p0<=n) (hk:k<=1000) :
 Calls Tryz.prog 136 #[.slice A n c,O X a0,O X b0] w (fH (rN (jD k (-1) l p0)) w):=by
 have hfew:=h.few;subst ha0 hb0;go_in;go_wp2
 go_loopw [1,7,9] (fun a t i wr=>∃ (p j:Nat) (last:Int),p<=n/\j<=k/\a=O X p/\t=O X last/\i=O X j/\jD (k-j) last l p=jD k (-1) l p0/\Below w.heap.size w wr) (fun _ _ i _=>k-(intOf i).toNat)
 case atStart=>exact ⟨p0,0,-1,hp0,Nat.zero_le _,rfl,rfl,rfl,by rw [Nat.sub_zero],Below.refl _ _⟩
 case round =>
  obtain ⟨p,j,last,hp,hj,rfl,rfl,rfl,he,hbw⟩:=hrel;have HE:=hid he;clear he;have h':=h.below hbw;by_cases hlt:j<k;rotate_left
  · go_wp2
    go_ret;refine ⟨cH ?_,hbw⟩;rw [<-HE.o,show k-j=0 from by omega];rfl
  have hstep:jD (k-j) last l p=if p<l.length/\(aL l p).op=3/\bQ (aL l p).op (aL l p).a (aL l p).b=true/\last<(aL l p).a then jD (k-(j+1)) (aL l p).a l (p+1) else Z:=by
   rw [show k-j=(k-(j+1))+1 from by omega];rfl
  have HS:=hid hstep;clear hstep;by_cases hpn:p<n;rotate_left
  · go_wp2
    go_ret;refine ⟨cH ?_,hbw⟩;rw [<-HE.o,HS.o,if_neg (fun hh=>hpn (by rw [<-h.len];exact hh.1))];rfl
  obtain ⟨b,off,rfl,hb,c0,c1,c2⟩:=h'.at_ hpn;by_cases hop:(aL l p).op=3;rotate_left
  · have hob:((aL l p).op != 3)=true:=by simp [hop]
    have HOP:=hid hop;clear hop;go_wp2
    go_ret;refine ⟨cH ?_,hbw⟩;rw [<-HE.o,HS.o,if_neg (fun hh=>HOP.o hh.2.1)];rfl
  have hob:((aL l p).op != 3)=false:=by simp [hop]
  have HOP:=hid hop;clear hop;cases hpl:bQ (aL l p).op (aL l p).a (aL l p).b
  · go_wp2_with (go_at_call 135;refine (fN _ _ _ _).mono ?_;rintro e w1 ⟨rfl,hb1⟩;obtain ⟨hc1,hf1⟩:=lI hb1)
    go_ret;refine ⟨cH ?_,hbw.trans (hb1.mono hbw.size)⟩;rw [<-HE.o,HS.o,if_neg (fun hh=>by rw [hpl] at hh;cases hh.2.2.1)];rfl
  by_cases hla:last<(aL l p).a
  · have hla2:decide ((aL l p).a<=last)=false:=by simp;omega
    go_wp2_with (go_at_call 135;refine (fN _ _ _ _).mono ?_;rintro e w1 ⟨rfl,hb1⟩;obtain ⟨hc1,hf1⟩:=lI hb1)
    go_roundw
    case rel=>exact ⟨p+1,j+1,(aL l p).a,hpn,hlt,by go_num,rfl,by go_num,by rw [<-HE.o,HS.o,if_pos ⟨by rw [h.len];exact hpn,HOP.o,hpl,hla⟩],hbw.trans (hb1.mono hbw.size)⟩
    case measure=>simp [intOf];omega
  have hla2:decide ((aL l p).a<=last)=true:=by simp;omega
  go_wp2_with (go_at_call 135;refine (fN _ _ _ _).mono ?_;rintro e w1 ⟨rfl,hb1⟩;obtain ⟨hc1,hf1⟩:=lI hb1)
  go_ret;refine ⟨cH ?_,hbw.trans (hb1.mono hbw.size)⟩;rw [<-HE.o,HS.o,if_neg (fun hh=>by have:=hh.2.2.2;omega)];rfl
end
section
open Go.RowKit
theorem nI:(Tryz.prog.info? 53).map (fun i=>(i.zero,i.size,i.bytes))=Y (Y (.agg #[O X 0,O X 0,O X 0]),3,24):=by kernel_rfl
def IM (l:List Nd) (w:World) (e:Ending) (w':World):Prop:=Below w.heap.size w w'/\∃ A n c,e=.returned (.slice A n c)/\bJ (fresh w w') w' A n c l
end
section
open Go.RowKit
theorem bJ.cutAt {R:Nat->Prop} {w:World} {A:Option Addr} {n c:Nat} {l:List Nd} (h:bJ R w A n c l) {k:Nat} (hk:k<=n) :
 bJ R w (if c=k then A else A.map (·.add (k*3))) (n-k) (c-k) (l.drop k):=by
 refine ⟨by rw [List.length_drop,h.len],by have:=h.cap;omega,by have:=h.few;omega,fun e => ?_,fun hn => ?_⟩
 · split at e
   · omega
   have:=h.nul (by simpa using e);omega
 obtain ⟨b,off,rfl,hb,hc⟩:=h.mem aA;have:=h.cap;rw [if_neg aA];refine ⟨b,off+k*3,?_,hb,?_⟩
 · simp only [Option.map_some,Addr.add];split
   · rename_i h0;rw [h0,Nat.add_zero]
   rfl
 intro j hj;rw [List.length_drop,h.len] at hj;rw [oL];have:=hc (k+j) (by rw [h.len];omega)
 rwa [Nat.add_mul,<-Nat.add_assoc] at this
theorem EZ (w:World):(sizeOf 53).run Tryz.prog w=.ok 3 w:=by kernel_rfl
theorem qY (A:Option Addr) (n c k:Nat) (hk:k<=n) : ∃ A',(∀ w:World,(Instr.slice 28 (.slice A n c) (Y (O X (k:Int))) Z Z).run Tryz.prog w=.ok (.slice A' (n-k) (c-k)) w) ∧
 ∀ (R:Nat->Prop) (w:World) (l:List Nd),bJ R w A n c l->bJ R w A' (n-k) (c-k) (l.drop k):=by
 refine ⟨if c=k then A else A.map (·.add (k*3)),fun w => ?_,fun R w l h=>h.cutAt hk⟩;rw [run_slice_l w 28 A n c (by kernel_rfl) .i64 (k:Int) aA aA];have e:Tryz.prog.elem 28=53:=by kernel_rfl
 rw [e,EZ];rfl
end
section
open Go.RowKit
end
section
open Go.RowKit
theorem lK {P:Program} {o:Oper} {a:Act} {w:World} {K:Act->World->Prop} {Q:Exit->Act->World->Prop}
 (s x:Operand) (t e:TypeId) (hop:o.op=Op.call { callee:=Callee.builtin Builtin.append,args:=#[s,x],argTypes:=#[t,t] })
 (base:Nat) (i:TypeInfo) (z:Value) (bytes:Nat) (h1:P.underlying t=Y (.slice e)) (h2:P.info? e=Y i) (h3:i.zero=Y z) (h4:i.size=1) (h5:i.bytes=bytes) (h6:z.cells.size=1) (hby:bytes<=24)
 (v:Value) (n:Nat) (xs:List Value) (u:Value) (hone:u.oneCell'=true) (W:World) (hW:w=W.alloc (.cells #[u] e)) (hs:a.eval s=v) (hown:W.ownsRow base e 1 v n xs)
 (g:Nat) (hx:a.eval x=.slice (Y ⟨g,0,Z⟩) 1 1) (hgW:g=W.heap.size) (b1:n+1<=1000000000) (b3:base<=W.heap.size)
 (hK:∀ A' c' w',dQ W w' base e 1 v A' (n+1) c' (xs++[u])->K (a.put o.dst (.slice A' (n+1) c')) w'):Oper.wp P o a w K Q:=by
 subst hW;subst hgW;refine cR s x t hop base _ i _ 1 bytes h1 h2 h3 h4 h5 h6 (by decide) v n xs hs (World.ownsRow.alloc hown _) _ 1 1 [u] hx (by simp) (fun e=>by cases e) (fun ad e j u' hu => ?_) (fun q hq=>by simp at hq;subst hq;exact hone) (by unfold maxLen;omega) ?_ (by simp;omega) ?_
 · injection e with e;subst e;have ea:(⟨W.heap.size,0,Z⟩:Addr).add j=⟨W.heap.size,j,Z⟩:=by unfold Addr.add;split<;>simp_all
   rw [ea,World.cell?_alloc_new,<-hu];simp
 · exact Nat.le_trans (Nat.mul_le_mul b1 hby) (by decide)
 intro A' c' w' h;refine hK A' c' w' ⟨h.own,?_,fun g hg=>(h.new g hg).imp id (fun hh=>by simp at hh;omega)⟩;refine ⟨h.grown.os,h.grown.tape,h.grown.output,Nat.le_trans (by simp) h.grown.size,fun k hk hne => ?_⟩;rw [h.grown.block k (by simp;omega) hne];exact Below.heap_alloc _ _ _ hk
end
section
open Go.RowKit
end
section
open Go.RowKit
end
section
open Go.RowKit
structure dK (σ:Type) where
 em:σ->Nd->Int->List Nd
 nx:σ->Nd->Int->σ
 ok:σ->Nd->Int->Bool
 dm:σ->Nd->Int->Prop
section
variable {σ : Type} (V : dK σ)
def dK.S (pop pb:Int):Nat->Int->σ->Fo->σ
 | _,_,s,.nil=>s
 | j,a,s,.cons _ n _ k x=>dK.S pop pb (j+1) a (dK.S n.op n.b 0 (a+aS pop pb j) (V.nx s n (a+aS pop pb j)) k) x
def dK.E (pop pb:Int):Nat->Int->σ->Fo->List Nd
 | _,_,_,.nil=>[]
 | j,a,s,.cons p n at' k x=>p++(V.em s n (a+aS pop pb j)++(at'++(dK.E n.op n.b 0 (a+aS pop pb j) (V.nx s n (a+aS pop pb j)) k++dK.E pop pb (j+1) a (V.S n.op n.b 0 (a+aS pop pb j) (V.nx s n (a+aS pop pb j)) k) x)))
def dK.G (pop pb:Int):Nat->Int->σ->Fo->Bool
 | _,_,_,.nil=>true
 | j,a,s,.cons _ n _ k x=>V.ok s n (a+aS pop pb j)&&(dK.G n.op n.b 0 (a+aS pop pb j) (V.nx s n (a+aS pop pb j)) k&&dK.G pop pb (j+1) a (V.S n.op n.b 0 (a+aS pop pb j) (V.nx s n (a+aS pop pb j)) k) x)
def dK.D (pop pb:Int):Nat->Int->σ->Fo->Prop
 | _,_,_,.nil=>True
 | j,a,s,.cons _ n _ k x=>V.dm s n (a+aS pop pb j)/\dK.D n.op n.b 0 (a+aS pop pb j) (V.nx s n (a+aS pop pb j)) k/\dK.D pop pb (j+1) a (V.S n.op n.b 0 (a+aS pop pb j) (V.nx s n (a+aS pop pb j)) k) x
theorem dK.S_app (pop pb:Int) : ∀ (j:Nat) (a:Int) (s:σ) (F G:Fo),V.S pop pb j a s (F.app G)=V.S pop pb (j+dL F) a (V.S pop pb j a s F) G
 | _,_,_,.nil,G=>by simp [Fo.app,dK.S,dL]
 | j,a,s,.cons p n at' k x,G=>by
  simp only [Fo.app,dK.S,dL];rw [dK.S_app pop pb (j+1) a _ x G,show j+1+dL x=j+(dL x+1) from by omega]
theorem dK.E_app (pop pb:Int) : ∀ (j:Nat) (a:Int) (s:σ) (F G:Fo),V.E pop pb j a s (F.app G)=V.E pop pb j a s F++V.E pop pb (j+dL F) a (V.S pop pb j a s F) G
 | _,_,_,.nil,G=>by simp [Fo.app,dK.E,dK.S,dL]
 | j,a,s,.cons p n at' k x,G=>by
  simp only [Fo.app,dK.E,dK.S,dL];rw [dK.E_app pop pb (j+1) a _ x G,show j+1+dL x=j+(dL x+1) from by omega];simp only [List.append_assoc]
theorem dK.G_app (pop pb:Int) : ∀ (j:Nat) (a:Int) (s:σ) (F G:Fo),V.G pop pb j a s (F.app G)=(V.G pop pb j a s F&&V.G pop pb (j+dL F) a (V.S pop pb j a s F) G)
 | _,_,_,.nil,G=>by simp [Fo.app,dK.G,dK.S,dL]
 | j,a,s,.cons p n at' k x,G=>by
  simp only [Fo.app,dK.G,dK.S,dL];rw [dK.G_app pop pb (j+1) a _ x G,show j+1+dL x=j+(dL x+1) from by omega];simp only [Bool.and_assoc]
theorem dK.D_app (pop pb:Int) : ∀ (j:Nat) (a:Int) (s:σ) (F G:Fo),V.D pop pb j a s (F.app G) ↔ V.D pop pb j a s F/\V.D pop pb (j+dL F) a (V.S pop pb j a s F) G
 | _,_,_,.nil,G=>by simp [Fo.app,dK.D,dK.S,dL]
 | j,a,s,.cons p n at' k x,G=>by
  simp only [Fo.app,dK.D,dK.S,dL];rw [dK.D_app pop pb (j+1) a _ x G,show j+1+dL x=j+(dL x+1) from by omega];simp only [and_assoc]
def dK.S1 (a:Int) (s:σ) (n:Nd) (k:Fo):σ:=V.S n.op n.b 0 a (V.nx s n a) k
def dK.E1 (a:Int) (s:σ) (n:Nd) (at':List Nd) (k:Fo):List Nd:=V.em s n a++(at'++V.E n.op n.b 0 a (V.nx s n a) k)
def dK.G1 (a:Int) (s:σ) (n:Nd) (k:Fo):Bool:=V.ok s n a&&V.G n.op n.b 0 a (V.nx s n a) k
def dK.D1 (a:Int) (s:σ) (n:Nd) (k:Fo):Prop:=V.dm s n a/\V.D n.op n.b 0 a (V.nx s n a) k
theorem dK.S_cons (pop pb:Int) (j:Nat) (a:Int) (s:σ) (p:List Nd) (n:Nd) (at':List Nd) (k x:Fo):V.S pop pb j a s (.cons p n at' k x)=V.S pop pb (j+1) a (V.S1 (a+aS pop pb j) s n k) x:=rfl
theorem dK.E_cons (pop pb:Int) (j:Nat) (a:Int) (s:σ) (p:List Nd) (n:Nd) (at':List Nd) (k x:Fo):V.E pop pb j a s (.cons p n at' k x)=p++(V.E1 (a+aS pop pb j) s n at' k++V.E pop pb (j+1) a (V.S1 (a+aS pop pb j) s n k) x):=by
 simp only [dK.E,dK.E1,dK.S1,List.append_assoc]
theorem dK.G_cons (pop pb:Int) (j:Nat) (a:Int) (s:σ) (p:List Nd) (n:Nd) (at':List Nd) (k x:Fo):V.G pop pb j a s (.cons p n at' k x)=(V.G1 (a+aS pop pb j) s n k&&V.G pop pb (j+1) a (V.S1 (a+aS pop pb j) s n k) x):=by
 simp only [dK.G,dK.G1,dK.S1,Bool.and_assoc]
theorem dK.D_cons (pop pb:Int) (j:Nat) (a:Int) (s:σ) (p:List Nd) (n:Nd) (at':List Nd) (k x:Fo):V.D pop pb j a s (.cons p n at' k x) ↔ V.D1 (a+aS pop pb j) s n k/\V.D pop pb (j+1) a (V.S1 (a+aS pop pb j) s n k) x:=by
 simp only [dK.D,dK.D1,dK.S1,and_assoc]
end
structure aG (S:Nat->Prop) (row:Option Nat) (w w':World):Prop where
 os:w'.os=w.os
 tape:w'.tape=w.tape
 output:w'.output=w.output
 size:w.heap.size<=w'.heap.size
 block:∀ k,k<w.heap.size->¬ S k->Y k ≠ row->w'.heap[k]? = w.heap[k]?
section
variable {S S' : Nat->Prop} {row row' : Option Nat} {w w' w'' : World}
theorem aG.refl (S:Nat->Prop) (row:Option Nat) (w:World):aG S row w w:=⟨rfl,rfl,rfl,Nat.le_refl _,fun _ _ _ _=>rfl⟩
theorem aG.mono (h:aG S row w w') (hS:∀ k,S k->S' k):aG S' row w w':=⟨h.os,h.tape,h.output,h.size,fun k hk hs hr=>h.block k hk (fun x=>hs (hS k x)) hr⟩
theorem aG.trans (h:aG S row w w') (h':aG S row' w' w'') (hr:∀ g,row'=Y g->row=Y g\/w.heap.size<=g):aG S row w w'' :=
 ⟨h'.os.trans h.os,h'.tape.trans h.tape,h'.output.trans h.output,Nat.le_trans h.size h'.size,fun k hk hs hn =>
  (h'.block k (Nat.lt_of_lt_of_le hk h.size) hs (fun e=>by
   rcases hr k e.symm with h1 | h1
   · exact hn h1.symm
   · omega)).trans (h.block k hk hs hn)⟩
theorem aG.of_below (h:Below w.heap.size w w'):aG S row w w':=⟨h.os,h.tape,h.output,h.size,fun k hk _ _=>h.block k hk⟩
theorem aG.of_grown (h:w.grownBy w' row):aG S row w w':=⟨h.os,h.tape,h.output,h.size,fun k hk _ hn=>h.block k hk hn⟩
theorem aG.to_below {B:Nat} (h:aG S row w w') (hB:B<=w.heap.size) (hS:∀ k,S k->B<=k) (hr:∀ g,row=Y g->B<=g):Below B w w' :=
 ⟨h.os,h.tape,h.output,h.size,fun k hk=>h.block k aA (fun x=>by have:=hS k x;omega) (fun e=>by have:=hr k e.symm;omega)⟩
theorem aG.alloc (h:aG S row w w') (o:Obj):aG S row w (w'.alloc o):=h.trans (row':=Z) (aG.of_below (aB _ _)) (fun _ e=>by cases e)
theorem aG.setCell (h:aG S row w w') {p:Addr} (hp:S p.block) (u:Value):aG S row w (w'.setCell p u) :=
 h.trans (row':=Z) ⟨rfl,rfl,rfl,by simp [World.setCell],fun k _ hs _=>Below.heap_setCell _ _ _ _ (fun e=>hs (e ▸ hp))⟩ (fun _ e=>by cases e)
theorem aG.setNew (h:aG S row w w') {p:Addr} (hp:w.heap.size<=p.block) (u:Value):aG S row w (w'.setCell p u) :=
 ⟨h.os,h.tape,h.output,by simpa [World.setCell] using h.size,fun k hk hs hn=>(Below.heap_setCell _ _ _ _ aA).trans (h.block k hk hs hn)⟩
theorem aG.over (hb:Below w.heap.size w w') (h:aG S' row w' w'') (hS:∀ k,k<w.heap.size->S' k->S k):aG S row w w'' :=
 ⟨h.os.trans hb.os,h.tape.trans hb.tape,h.output.trans hb.output,Nat.le_trans hb.size h.size,fun k hk hs hn=>(h.block k (Nat.lt_of_lt_of_le hk hb.size) (fun x=>hs (hS k hk x)) hn).trans (hb.block k hk)⟩
theorem aG.drew (h:aG S row w w'):aG S row w w'.drew:=⟨h.os,h.tape,h.output,h.size,h.block⟩
theorem aG.from_drew (h:aG S row w.drew w'):aG S row w w':=⟨h.os,h.tape,h.output,h.size,h.block⟩
theorem aE.moved {g:Nat} {t:TypeId} {cs:Array Value} (h:aE w g t cs) (hm:aG S row w w') (hs:¬ S g) (hr:row ≠ Y g):aE w' g t cs:=(hm.block g h.lt hs (fun e=>hr e.symm)).trans h
theorem aE.same {g:Nat} {t:TypeId} {cs:Array Value} (h:aE w g t cs) (e:w'.heap[g]? = w.heap[g]?):aE w' g t cs:=e.trans h
theorem aE.new' {g:Nat} {t:TypeId} {cs:Array Value} (hg:g=w.heap.size):aE (w.alloc (.cells cs t)) g t cs:=by subst hg;exact aE.new _ _ _
theorem aF {b:Nat} (h:w'.heap[b]? = w.heap[b]?) (o:Nat):w'.cell? ⟨b,o,Z⟩=w.cell? ⟨b,o,Z⟩:=World.cell?_of_block (a:=⟨b,o,Z⟩) h
end
theorem bJ.mid {R:Nat->Prop} {w:World} {b off n c p m:Nat} {l x rest:List Nd} (h:bJ R w (Y ⟨b,off,Z⟩) n c l) (e:l.drop p=x++rest) (hm:x.length=m) (hp:p<=n) (hm0:0<m):bJ R w (Y ⟨b,off+p*3,Z⟩) m (c-p) x:=by
 have hl:l.length=p+m+rest.length:=by
  have h1:=congrArg List.length e;rw [List.length_drop,List.length_append] at h1;have:=h.len;omega
 have hc:=h.cap;have hf:=h.few;have hn:=h.len;refine ⟨hm,by omega,by omega,(fun e=>by cases e),fun _ => ?_⟩;obtain ⟨b',off',e',hR,hmem⟩:=h.mem aA;injection e' with e';injection e' with e1 e2;subst e1 e2;refine ⟨b,off+p*3,rfl,hR,fun k hk => ?_⟩;have hx:aL x k=aL l (p+k):=by
  rw [<-oL,e];simp [aL,hk,List.getElem?_append_left]
 have:=hmem (p+k) aA;rw [hx]
 rwa [Nat.add_mul,<-Nat.add_assoc] at this
theorem G5 {l:List Nd} {q:Nat} {n:Nd} {ats:List Nd} {k x:Fo} {rest:List Nd} (h:pp [false] (l.drop q)=Y (.cons [] n ats k x,rest)) (h2:n.op=2):k=.nil/\x=.nil/\ats.length=n.b.toNat/\l.drop (q+1)=ats++rest/\1<=n.b/\n.b<=4:=by
 have hr:=nN h;cases hd:l.drop q with
 | nil=>rw [hd] at hr;simp [row] at hr
 | cons y t =>
  rw [hd] at h hr;simp only [row,List.nil_append,List.cons_append,List.cons.injEq] at hr;obtain ⟨rfl,hr⟩:=hr;have hok:iC y=true:=by
   rw [eG] at h;simp only [fW,Option.bind_some] at h;split at h
   · assumption
   cases h
  rw [CD (l:=y::t) (Nat.succ_pos _) hok h2] at h;simp only [aL,List.getD_cons_zero,List.drop_one,List.tail_cons,Option.map_eq_some_iff,Prod.mk.injEq,Fo.cons.injEq] at h;obtain ⟨z,hz,⟨_,_,rfl,rfl,rfl⟩,rfl⟩:=h;obtain ⟨h5,h6⟩:=kI _ _ _ _ hz;have hdd:l.drop (q+1)=t:=by rw [<-List.drop_drop,hd];rfl
  have hpl:bQ y.op y.a y.b=true:=by simp only [iC,Bool.and_eq_true] at hok;exact hok.1.1
  rw [aD] at hpl;exact ⟨rfl,rfl,h6,by rw [hdd];exact h5,by omega,by omega⟩
theorem JP {l:List Nd} {q:Nat} {n:Nd} {ats:List Nd} {k x:Fo} {rest:List Nd} (h:pp [false] (l.drop q)=Y (.cons [] n ats k x,rest)) (h2:n.op ≠ 2):x=.nil/\ats=[]/\pp (ds n) (l.drop (q+1))=Y (k,rest):=by
 have hr:=nN h;cases hd:l.drop q with
 | nil=>rw [hd] at hr;simp [row] at hr
 | cons y t =>
  rw [hd] at h hr;simp only [row,List.nil_append,List.cons_append,List.cons.injEq] at hr;obtain ⟨rfl,hr⟩:=hr;have hok:iC y=true:=by
   rw [eG] at h;simp only [fW,Option.bind_some] at h;split at h
   · assumption
   cases h
  rw [CC (l:=y::t) (Nat.succ_pos _) hok h2] at h;simp only [aL,List.getD_cons_zero,List.drop_one,List.tail_cons,Option.map_eq_some_iff,Prod.mk.injEq,Fo.cons.injEq] at h;obtain ⟨z,hz,⟨_,_,rfl,rfl,rfl⟩,rfl⟩:=h;have hdd:l.drop (q+1)=t:=by rw [<-List.drop_drop,hd];rfl
  exact ⟨rfl,rfl,by rw [hdd];exact hz⟩
theorem rR {l:List Nd} {q:Nat} {dr:List Bool} {F:Fo} {rest:List Nd} (h:pp (false::dr) (l.drop q)=Y (F,rest)) (hq:q<=l.length) :
 ∃ n ats k F' q2,F=.cons [] n ats k F'/\q<q2/\q2<=l.length/\pp [false] (l.drop q)=Y (.cons [] n ats k .nil,l.drop q2)/\pp dr (l.drop q2)=Y (F',rest):=by
 rw [oP] at h;simp only [Option.bind_eq_some_iff,Option.map_eq_some_iff,Prod.mk.injEq] at h;obtain ⟨x,hx,y,hy,e1,e2⟩:=h;obtain ⟨n,ats,k,hn⟩:=pH hx;obtain ⟨h1,h2,h3⟩:=mQ hx hq;have h4:=tR hx (by simp);rw [List.length_drop] at h4;obtain ⟨x1,x2⟩:=x;obtain ⟨y1,y2⟩:=y;simp only at hn h1 h2 h3 h4 hy e1 e2;subst hn e1 e2;refine ⟨n,ats,k,y1,l.length-x2.length,rfl,by omega,by omega,?_,?_⟩
 · rw [<-h1];exact hx
 rw [<-h1];exact hy
theorem JQ {l:List Nd} {q:Nat} {dr:List Bool} {F:Fo} {rest:List Nd} (h:pp (true::dr) (l.drop q)=Y (F,rest)) :
 q<l.length/\tN (aL l q)=true/\∃ F',pp (false::dr) (l.drop (q+1))=Y (F',rest)/\F=F'.setPre [aL l q]:=by
 by_cases hq:q<l.length
 · rw [jR hq,CE] at h;split at h
   · rename_i hf
     refine ⟨hq,hf,?_⟩;simp only [Option.bind_eq_some_iff,Option.map_eq_some_iff,Prod.mk.injEq] at h;obtain ⟨x,hx,y,hy,e1,e2⟩:=h;obtain ⟨n,ats,k,hn⟩:=pH hx;refine ⟨x.1.app y.1,?_,?_⟩
     · rw [oP];simp only [Option.bind_eq_some_iff,Option.map_eq_some_iff,Prod.mk.injEq];exact ⟨x,hx,y,hy,rfl,e2⟩
     rw [<-e1,hn];rfl
   cases h
 rw [List.drop_eq_nil_of_le aA,eG] at h;simp [fW] at h
theorem cI.moved {S:Nat->Prop} {row:Option Nat} {w w':World} {base:Nat} {v:Value} {l:List Nd} (h:cI w base v l) (hm:aG S row w w') (hs:∀ g,v.ownBlock=Y g->¬ S g/\row ≠ Y g):cI w' base v l:=by
 unfold cI at h ⊢;obtain ⟨h1,h2⟩:=h;refine ⟨h1,?_⟩;rcases h2 with h2 | ⟨g,cap,cur,hv,hg,hh,r⟩
 · exact Or.inl h2
 subst hv;have hb:=hs g rfl;exact Or.inr ⟨g,cap,cur,rfl,hg,(hm.block g (Array.getElem?_eq_some_iff.1 hh).1 hb.1 (fun e=>hb.2 e.symm)).trans hh,r⟩
theorem cI.slice {w:World} {base:Nat} {v:Value} {l:List Nd} (h:cI w base v l) : ∃ A c,v=.slice A l.length c:=by
 rcases h.2 with ⟨rfl,h0⟩ | ⟨g,cap,cur,rfl,_⟩
 · rw [h0];exact ⟨Z,0,rfl⟩
 exact ⟨_,_,rfl⟩
def fS (v v':Value) (w:World):Prop:=∀ g,v'.ownBlock=Y g->v.ownBlock=Y g\/w.heap.size<=g
theorem fS.refl (v:Value) (w:World):fS v v w:=fun _ h=>.inl h
theorem fS.trans {v v' v'':Value} {w w':World} (h:fS v v' w) (h':fS v' v'' w') (hs:w.heap.size<=w'.heap.size):fS v v'' w:=fun g hg=>by
 rcases h' g hg with h1 | h1
 · exact h g h1
 exact .inr (Nat.le_trans hs h1)
def uF {σ:Type} (V:dK σ) (J:World->σ->Prop) (S:Nat->Prop) (base:Nat) (pan:List PanicEntry) (w:World) (s:σ) (v:Value) (o:List Nd) (n:Nd) (a:Int) (e:Ending) (w':World):Prop :=
 (V.ok s n a=true/\aG S v.ownBlock w w'/\J w' (V.nx s n a)/\∃ v',e=.returned v'/\cI w' base v' (o++V.em s n a)/\fS v v' w) ∨
 (V.ok s n a=false/\e=.panicked pan/\aG S v.ownBlock w w')
def FF (P:Program) (K:FuncId) (caps:Array Value) {σ:Type} (V:dK σ) (J:World->σ->Prop) (KK S:Nat->Prop) (base H:Nat) (pan:List PanicEntry) (M:Nat):Prop :=
 ∀ (w:World) (s:σ) (v:Value) (o:List Nd) (n:Nd) (a:Int),H<=w.heap.size->J w s->cI w base v o->(∀ k,v.ownBlock=Y k->¬ KK k)->iC n=true->V.dm s n a->0<=a->a<=1000000000000->o.length+(V.em s n a).length<=M →
  Calls P K (#[v,.agg #[O X n.op,O X n.a,O X n.b],O X a]++caps) w (uF V J S base pan w s v o n a)
structure m4 (σ:Type) where
 H:Nat
 base:Nat
 A:Option Addr
 nn:Nat
 c:Nat
 l:List Nd
 R:Nat->Prop
 KK:Nat->Prop
 S:Nat->Prop
 fn:FuncId
 caps:Array Value
 J:World->σ->Prop
 V:dK σ
 pan:List PanicEntry
 M:Nat
section
variable {σ : Type} (C : m4 σ)
structure m4.Good:Prop where
 hbase:C.base<=C.H
 hR:∀ b,C.R b->b<C.H/\¬ C.S b
 hK:∀ b,C.KK b->b<C.H
 hS:∀ b,C.S b->C.KK b
 hJ:∀ w w' s,C.J w s->(∀ k,C.KK k->w'.heap[k]? = w.heap[k]?)->C.J w' s
 hM:C.M<=1000000000000
 en:∀ args w,(callFunc C.fn args).run Tryz.prog w=.ok (.enter C.fn args) w
 one:FF Tryz.prog C.fn C.caps C.V C.J C.KK C.S C.base C.H C.pan C.M
def m4.tv:Value:=.func (.func 147) #[] #[.pointer (Y ⟨C.H,0,Z⟩),.pointer (Y ⟨C.H+5,0,Z⟩),.pointer (Y ⟨C.H+2,0,Z⟩),.pointer (Y ⟨C.H+1,0,Z⟩),.pointer (Y ⟨C.H+6,0,Z⟩)]
structure m4.St (w:World) (v:Value) (q:Nat) (s:σ) (o:List Nd):Prop where
 bt:aE w C.H 28 #[.slice C.A C.nn C.c]
 bo:aE w (C.H+1) 28 #[v]
 bf:aE w (C.H+2) 181 #[.func (.func C.fn) #[] C.caps]
 ba:aE w (C.H+5) 3 #[O X q]
 br:aE w (C.H+6) 190 #[C.tv]
 tm:bJ C.R w C.A C.nn C.c C.l
 own:cI w C.base v o
 j:C.J w s
 hv:∀ g,v.ownBlock=Y g->¬ C.KK g/\¬ C.R g/\(g<C.H\/C.H+7<=g)
def m4.S' (k:Nat):Prop:=C.S k\/k=C.H+1\/k=C.H+5
variable {C} {w w' : World} {v v' : Value} {q : Nat} {s s' : σ} {o o' : List Nd}
theorem m4.St.size (h:C.St w v q s o):C.H+7<=w.heap.size:=h.br.lt
theorem m4.St.row (h:C.St w v q s o) (g:Nat) (hg:v.ownBlock=Y g):g<w.heap.size:=(aC h.own hg).2.1
theorem m4.St.below (hG:C.Good) (h:C.St w v q s o) (hb:Below w.heap.size w w'):C.St w' v q s o:=by
 have hsz:=h.size;exact ⟨h.bt.below hb h.bt.lt,h.bo.below hb h.bo.lt,h.bf.below hb h.bf.lt,h.ba.below hb h.ba.lt,h.br.below hb h.br.lt,
  h.tm.keep fun b hR=>⟨hR,fun o=>aF (hb.block _ (by have:=(hG.hR b hR).1;omega)) o⟩,h.own.below hb,hG.hJ _ _ _ h.j (fun k hk=>hb.block k (by have:=hG.hK k hk;omega)),h.hv⟩
theorem m4.St.drew (hG:C.Good) (h:C.St w v q s o):C.St w.drew v q s o :=
 ⟨h.bt,h.bo,h.bf,h.ba,h.br,h.tm.keep fun _ hR=>⟨hR,fun _=>rfl⟩,h.own,hG.hJ _ _ _ h.j (fun _ _=>rfl),h.hv⟩
theorem m4.St.goOn (hG:C.Good) (h:C.St w v q s o) (x:Int) (p:Nat) (hx:x=p):C.St (w.setCell ⟨C.H+5,0,Z⟩ (O X x)) v p s o:=by
 subst hx;have hsz:=h.size;have hne:∀ g,v.ownBlock=Y g->g ≠ C.H+5:=fun g hg=>by have:=(h.hv g hg).2.2;omega
 refine ⟨h.bt.far (by simp) _,h.bo.far (by simp) _,h.bf.far (by simp) _,?_,h.br.far (by simp) _,?_,?_,?_,h.hv⟩
 · have:=h.ba.set_ 0 (O X p);simpa using this
 · exact h.tm.keep fun b hR=>⟨hR,fun o=>aF (Below.heap_setCell _ _ _ _ (by have:=(hG.hR b hR).1;simp;omega)) o⟩
 · exact ownsRow_setCell_other h.own (fun e=>hne _ e rfl) _
 exact hG.hJ _ _ _ h.j fun k hk=>Below.heap_setCell _ _ _ _ (by have:=hG.hK k hk;simp;omega)
theorem m4.St.laid (hG:C.Good) (h:C.St w v q s o) (hg:w.grownBy w' v.ownBlock) (hown:cI w' C.base v' o') (hn:fS v v' w):C.St (w'.setCell ⟨C.H+1,0,Z⟩ v') v' q s o':=by
 have hsz:=h.size;have hrow:∀ k,(C.KK k\/C.R k\/(C.H<=k/\k<C.H+7))->Y k ≠ v.ownBlock:=fun k hk e=>by
  have:=h.hv k e.symm;rcases hk with hk | hk | hk
  · exact this.1 hk
  · exact this.2.1 hk
  omega
 have hnew:∀ g,v'.ownBlock=Y g->¬ C.KK g/\¬ C.R g/\(g<C.H\/C.H+7<=g):=fun g hg=>by
  rcases hn g hg with h1 | h1
  · exact h.hv g h1
  exact ⟨fun x=>by have:=hG.hK g x;omega,fun x=>by have:=(hG.hR g x).1;omega,.inr aA⟩
 have hne:∀ g,v'.ownBlock=Y g->g ≠ C.H+1:=fun g hg=>by have:=(hnew g hg).2.2;omega
 refine ⟨(h.bt.grown hg (hrow _ aA)).far (by simp) _,?_,(h.bf.grown hg (hrow _ aA)).far (by simp) _,(h.ba.grown hg (hrow _ aA)).far (by simp) _,(h.br.grown hg (hrow _ aA)).far (by simp) _,?_,?_,?_,hnew⟩
 · have:=(h.bo.grown hg (hrow _ aA)).set_ 0 v';simpa using this
 · refine h.tm.keep fun b hR=>⟨hR,fun o => ?_⟩;have:=(hG.hR b hR).1;exact aF ((Below.heap_setCell _ _ _ _ (by simp;omega)).trans (hg.block b aA (hrow b (by simp [hR])))) o
 · exact ownsRow_setCell_other hown (fun e=>hne _ e rfl) _
 refine hG.hJ _ _ _ h.j fun k hk => ?_;have:=hG.hK k hk;exact (Below.heap_setCell _ _ _ _ (by simp;omega)).trans (hg.block k aA (hrow k (by simp [hk])))
theorem m4.St.called (hG:C.Good) (h:C.St w v q s o) (hm:aG C.S v.ownBlock w w') (hown:cI w' C.base v' o') (hn:fS v v' w) (hj:C.J w' s'):C.St (w'.setCell ⟨C.H+1,0,Z⟩ v') v' q s' o':=by
 have hsz:=h.size;have hrow:∀ k,(C.KK k\/C.R k\/(C.H<=k/\k<C.H+7))->Y k ≠ v.ownBlock:=fun k hk e=>by
  have:=h.hv k e.symm;rcases hk with hk | hk | hk
  · exact this.1 hk
  · exact this.2.1 hk
  omega
 have hS:∀ k,C.H<=k->¬ C.S k:=fun k hk hs=>by have:=hG.hK k (hG.hS k hs);omega
 have hnew:∀ g,v'.ownBlock=Y g->¬ C.KK g/\¬ C.R g/\(g<C.H\/C.H+7<=g):=fun g hg=>by
  rcases hn g hg with h1 | h1
  · exact h.hv g h1
  exact ⟨fun x=>by have:=hG.hK g x;omega,fun x=>by have:=(hG.hR g x).1;omega,.inr aA⟩
 have hne:∀ g,v'.ownBlock=Y g->g ≠ C.H+1:=fun g hg=>by have:=(hnew g hg).2.2;omega
 have hk:∀ k,(C.H<=k/\k<C.H+7)->w'.heap[k]? = w.heap[k]?:=fun k hk=>hm.block k aA (hS k hk.1) (hrow k (by simp [hk]));refine ⟨(h.bt.same (hk _ aA)).far (by simp) _,?_,(h.bf.same (hk _ aA)).far (by simp) _,(h.ba.same (hk _ aA)).far (by simp) _,(h.br.same (hk _ aA)).far (by simp) _,?_,?_,?_,hnew⟩
 · have:=(h.bo.same (hk _ aA)).set_ 0 v';simpa using this
 · refine h.tm.keep fun b hR=>⟨hR,fun o => ?_⟩;have h1:=hG.hR b hR;exact aF ((Below.heap_setCell _ _ _ _ (by simp;omega)).trans (hm.block b aA h1.2 (hrow b (by simp [hR])))) o
 · exact ownsRow_setCell_other hown (fun e=>hne _ e rfl) _
 refine hG.hJ _ _ _ hj fun k hk => ?_;have:=hG.hK k hk;exact Below.heap_setCell _ _ _ _ (by simp;omega)
theorem m4.S_lt (hG:C.Good) {k:Nat} (hk:C.H<=k) : ¬ C.S k:=fun hs=>by have:=hG.hK k (hG.hS k hs);omega
theorem m4.St.keep (hG:C.Good) (h:C.St w v q s o) (hm:aG C.S v.ownBlock w w') {k:Nat} (hk:C.H<=k) (hk':k<C.H+7):w'.heap[k]? = w.heap[k]?:=by
 have hsz:=h.size;exact hm.block k aA (m4.S_lt hG hk) (fun e=>by have:=(h.hv k e.symm).2.2;omega)
theorem m4.St.rowKeep (_hG:C.Good) (h:C.St w v q s o) (hg:w.grownBy w' v.ownBlock) {k:Nat} (hk:(C.H<=k/\k<C.H+7)\/(v.ownBlock ≠ Y k/\k<w.heap.size)):w'.heap[k]? = w.heap[k]?:=by
 have hsz:=h.size;rcases hk with hk | hk
 · exact hg.block k aA (fun e=>by have:=(h.hv k e.symm).2.2;omega)
 exact hg.block k hk.2 (fun e=>hk.1 e.symm)
theorem m4.S'_new (hG:C.Good) {k:Nat} (hk:C.H+7<=k) : ¬ C.S' k:=fun hs=>by
 rcases hs with h | h | h
 · have:=hG.hK k (hG.hS k h);omega
 · omega
 omega
theorem m4.S_S' (k:Nat) (h:C.S k):C.S' k:=.inl h
def m4.Post (C:m4 σ) (w:World) (v:Value) (o:List Nd) (q':Nat) (E:List Nd) (s':σ) (g:Bool) (e:Ending) (w':World):Prop :=
 (g=true/\e=.returned (.tuple #[])/\aG C.S' v.ownBlock w w'/\∃ v',C.St w' v' q' s' (o++E)/\fS v v' w)\/(g=false/\e=.panicked C.pan/\aG C.S' v.ownBlock w w')
end
end
end Go.Proofs.YtplecfbdchmogaaGreat
