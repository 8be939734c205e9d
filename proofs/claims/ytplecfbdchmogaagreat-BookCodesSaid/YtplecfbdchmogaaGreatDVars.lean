/- Merged: Deeps, Vars. -/
import Derived.Test.YtplecfbdchmogaaGreatDProgW
import Derived.Test.YtplecfbdchmogaaGreatDRights
import Derived.Test.YtplecfbdchmogaaGreatDLeafs
import Derived.Test.YtplecfbdchmogaaGreatDBApp
import Derived.Test.YtplecfbdchmogaaGreatDRdC
namespace Go.Proofs.YtplecfbdchmogaaGreat
open Go.Value renaming int → O, slice → Y
open Go.IntKind renaming i64 → S
open Option renaming none → X
section
section
open Go.RowKit
def tM:Bk:=⟨0,[],[⟨1,[⟨2,1,1⟩,⟨3,0,0⟩],[],[],[⟨[],[]⟩,⟨[[⟨9,0,0⟩]],[]⟩],[],[]⟩],0,[]⟩
end
section
open Go.RowKit
def LU (l:List Nd):Array Value:=(gK l).toArray
theorem i8 {w:World} {g:Nat} {l:List Nd} {n c:Nat} (h:aE w g 53 (LU l)) (hl:l.length=n) (hc:n<=c) (hf:n<=5864062014805):aQ w (some ⟨g,0,X⟩) n c l:=by
 refine ⟨hl,hc,hf,(fun e=>by cases e),fun hn=>⟨g,0,rfl,h.lt,fun k hk => ?_⟩⟩;obtain ⟨h1,h2,h3⟩:=oC l k hk;have hcell:=h.cell;rw [Nat.zero_add,hcell,hcell,hcell];simp only [LU,List.getElem?_toArray];exact ⟨h1,h2,h3⟩
theorem nX {w:World} {g:Nat} {t:TypeId} {cs:Array Value} (h:g=w.heap.size):aE (w.alloc (.cells cs t)) g t cs:=by
 subst h;exact aE.new _ _ _
theorem cE.nil (w:World):cE w X 0 0 []:=⟨rfl,by decide,fun h=>absurd h (by decide)⟩
theorem D4 {w:World} {g1 g2 g3 g4 g5:Nat} (h1:aE w g1 53 #[O S 2,O S 1,O S 1,O S 3,O S 0,O S 0]) (h2:aE w g2 53 #[O S 9,O S 0,O S 0]) (h3:aE w g3 28 #[Y (some ⟨g2,0,X⟩) 1 1])
 (h4:aE w g4 66 #[Y X 0 0,Y X 0 0,Y (some ⟨g3,0,X⟩) 1 1,Y X 0 0])
 (h5:aE w g5 57 #[O S 1,Y (some ⟨g1,0,X⟩) 2 2,Y X 0 0,Y X 0 0,Y (some ⟨g4,0,X⟩) 2 2,Y X 0 0,Y X 0 0]):bY w ⟨X,0,0,some ⟨g5,0,X⟩,1,1,X,0,0⟩ tM:=by
 have e2:aQ w (some ⟨g1,0,X⟩) 2 2 [⟨2,1,1⟩,⟨3,0,0⟩]:=i8 (l:=[⟨2,1,1⟩,⟨3,0,0⟩]) h1 rfl (by decide) (by decide);have e3:aQ w (some ⟨g2,0,X⟩) 1 1 [⟨9,0,0⟩]:=i8 (l:=[⟨9,0,0⟩]) h2 rfl (by decide) (by decide);have e4:cE w (some ⟨g3,0,X⟩) 1 1 [[⟨9,0,0⟩]]:=⟨rfl,by decide,fun _=>⟨g3,0,rfl,h3.lt,fun k hk=>by
  obtain rfl:k=0:=aA;exact ⟨some ⟨g2,0,X⟩,1,1,h3.cell 0,e3⟩⟩⟩
 have e5:nW w (some ⟨g4,0,X⟩) 2 2 [⟨[],[]⟩,⟨[[⟨9,0,0⟩]],[]⟩]:=⟨rfl,by decide,fun _=>⟨g4,0,rfl,h4.lt,fun k hk=>by
  have hk2:k=0\/k=1:=aA;rcases hk2 with rfl | rfl
  · exact ⟨X,0,0,X,0,0,h4.cell 0,h4.cell 1,cE.nil w,cE.nil w⟩
  exact ⟨some ⟨g3,0,X⟩,1,1,X,0,0,h4.cell 2,h4.cell 3,e4,cE.nil w⟩⟩⟩
 have e6:qB w (some ⟨g5,0,X⟩) 1 1 tM.entries:=⟨rfl,by decide,fun _=>⟨g5,0,rfl,h5.lt,fun k hk=>by
  obtain rfl:k=0:=aA;exact ⟨⟨some ⟨g1,0,X⟩,2,2,X,0,0,X,0,0,some ⟨g4,0,X⟩,2,2,X,0,0,X,0,0⟩,h5.cell 0,h5.cell 1,h5.cell 2,h5.cell 3,h5.cell 4,h5.cell 5,h5.cell 6,⟨e2,cE.nil w,cE.nil w,e5,aQ.nil w,aQ.nil w⟩⟩⟩⟩
 have e7:sM w X 0 0 tM.prims:=⟨rfl,by decide,fun h=>absurd h (by decide)⟩;exact ⟨aQ.nil w,e6,e7,by decide,by decide,by decide,by decide⟩
end
section
open Go.RowKit
end
end
section
open Go.Lib (hid)
open Go.RowKit
def mI (n fr:Nat):List (List Nd):=(List.range n).map fun j=>[(⟨1,((fr+(n-1-j):Nat):Int),0⟩:Nd)]
theorem jO (n fr:Nat):(mI n fr).length=n:=by simp [mI]
theorem BF {n fr k:Nat} (h:k<n):(mI n fr).take (k+1)=(mI n fr).take k++[[⟨1,((fr+(n-1-k):Nat):Int),0⟩]]:=by
 rw [List.take_succ_eq_append_getElem (by rw [jO];exact h)];simp [mI]
def KA (ls:List (List Nd)) (w:World) (e:Ending) (w':World):Prop:=Below w.heap.size w w'/\∃ B d vs,e=.returned (Y B ls.length d)/\w'.ownsRow w.heap.size 28 1 (Y B ls.length d) ls.length vs/\cV (dR w.heap.size w' (Y B ls.length d)) w' vs ls
set_option maxRecDepth 100000 in
set_option maxHeartbeats 4000000 in
theorem IC {w:World} (n fr:Nat) (hn:n<=1000) (hf:fr<=1000) :
 Calls Tryz.prog 116 #[O S (n:Int),O S (fr:Int)] w (KA (mI n fr) w):=by
 obtain ⟨i0,hi,hy0,hy1,hy2⟩:=info_parts wQ;have HI0:=hid hi;have HY0:=hid hy0;have HY1:=hid hy1;have HY2:=hid hy2;clear hi hy0 hy1 hy2;go_in;go_wp2_with fail
 go_loopw [5,6] (fun ov iv wr=>∃ (k d:Nat) (B:Option Addr) (vs:List Value) (z:Int),ov=Y B k d/\iv=O S z/\k<=n/\-1<=z/\z<=1000/\Hid (z=(n:Int)-1-k)/\Hid (wr.ownsRow w.heap.size 28 1 (Y B k d) k vs)/\Hid (cV (dR w.heap.size wr (Y B k d)) wr vs ((mI n fr).take k))/\Hid (Below w.heap.size w wr)) (fun _ iv _=>(intOf iv+1).toNat)
 case atStart=>exact ⟨0,0,X,[],(n:Int)-1,rfl,rfl,by omega,by omega,by omega,hid aA,hid (World.ownsRow_nil _ _ _ _),hid trivial,hid (Below.refl _ _)⟩
 case round =>
  obtain ⟨k,d,B,vs,z,rfl,rfl,hk,hz1,hz2,HZ,HO,HR,HB⟩:=hrel;have HSZ:=hid HB.o.size;by_cases hlt:0<=z;rotate_left
  · have d1:decide (z ≥ 0)=false:=decide_eq_false hlt;have d2:decide (0<=z)=false:=decide_eq_false hlt;obtain rfl:k=n:=by have:=HZ.o;omega
    have HR2:Hid (cV (dR w.heap.size wr (Y B k d)) wr vs (mI k fr)):=hid (by
     have h:=HR.o
     rwa [List.take_of_length_le (by rw [jO];exact Nat.le_refl _)] at h)
    clear hlt;go_wp2_with fail
    go_ret;refine ⟨HB.o,B,d,vs,?_,?_,?_⟩
    · rw [jO];rfl
    · rw [jO];exact HO.o
    rw [jO];exact HR2.o
  have d1:decide (z ≥ 0)=true:=decide_eq_true hlt;have d2:decide (0<=z)=true:=decide_eq_true hlt;have hkn:k<n:=by have:=HZ.o;omega
  have hba:=aB wr (.cells #[O S 1,O S ((fr:Int)+z),O S 0] 53);have HBA:=hid hba;have HBK:=hid (aE.new wr 53 #[O S 1,O S ((fr:Int)+z),O S 0]);have HO2:=hid (World.ownsRow.alloc HO.o (.cells #[O S 1,O S ((fr:Int)+z),O S 0] 53));have HTK:=hid (BF (fr:=fr) hkn);have HZE:Hid (((fr+(n-1-k):Nat):Int)=(fr:Int)+z):=hid (by have:=HZ.o;omega);have HSZ2:Hid (w.heap.size<=(wr.alloc (.cells #[O S 1,O S ((fr:Int)+z),O S 0] 53)).heap.size):=hid (Nat.le_trans HSZ.o hba.size);clear hba;go_wp2_with (at_builtin;go_loud (refine aN rfl (lK (.tmp 13) (.tmp 19) 54 28 rfl w.heap.size i0 _ 24 Tryz.underlying54 HI0.o HY0.o HY1.o HY2.o rfl (by decide) (Y B k d) k vs (Y (some ⟨wr.heap.size,0,X⟩) 1 1) rfl (wr.alloc (.cells #[O S 1,O S ((fr:Int)+z),O S 0] 53)) rfl rfl HO2.o _ rfl (by simp) aA HSZ2.o ?_));intro A8 c8 w8 happ;have HAPP:=hid happ;clear happ)
  go_roundw
  case rel =>
   have hcell:=HBK.o.cell;have ht:bJ (fun q=>q=wr.heap.size) (wr.alloc (.cells #[O S 1,O S ((fr:Int)+z),O S 0] 53)) (some ⟨wr.heap.size,0,X⟩) 1 1 [⟨1,(fr:Int)+z,0⟩]:=⟨rfl,Nat.le_refl _,by decide,(fun e=>by cases e),fun _=>⟨wr.heap.size,0,rfl,rfl,fun j hj=>by
    obtain rfl:j=0:=by simp at hj;omega
    exact ⟨hcell 0,hcell 1,hcell 2⟩⟩⟩
   have hnx:=fU (w5:=wr) HBA.o HAPP.o;have hne:(Value.slice B k d).ownBlock ≠ some wr.heap.size:=fun e=>by have:=(aC HO.o e).2.1;omega
   refine ⟨k+1,c8,A8,vs++[Y (some ⟨wr.heap.size,0,X⟩) 1 1],z-1,rfl,rfl,by omega,by omega,by omega,hid (by have:=HZ.o;omega),hid HAPP.o.own,hid ?_,hid ((HB.o.trans (HBA.o.mono HB.o.size)).grown HAPP.o.grown HSZ2.o (fun g hg=>(aC HO2.o hg).1))⟩;rw [HTK.o,HZE.o];refine cV.add (ht.keep fun q hq => ?_) (cV.keep hnx HR.o);subst hq;have hgr:=HAPP.o.grown;refine ⟨⟨HSZ.o,Nat.lt_of_lt_of_le HBK.o.lt hgr.size,fun e => ?_⟩,fun o=>aF (hgr.block _ HBK.o.lt (fun e=>hne e.symm)) o⟩;rcases HAPP.o.new _ e with h | h
   · exact hne h
   simp at h;omega
  case measure=>simp [intOf];omega
end
end Go.Proofs.YtplecfbdchmogaaGreat
