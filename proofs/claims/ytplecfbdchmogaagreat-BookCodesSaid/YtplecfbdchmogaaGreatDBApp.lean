/- slices.Grow, slices.Concat, Apply and Bind of the program (as in the term seat). -/
import Derived.Test.YtplecfbdchmogaaGreatDLeafs
import Derived.Test.YtplecfbdchmogaaGreatDKidss
import Derived.Test.YtplecfbdchmogaaGreatDEnds
import Derived.Test.YtplecfbdchmogaaGreatDCopyD
namespace Go.Proofs.YtplecfbdchmogaaGreat
open Go.Value renaming int → O, slice → Y
open Go.IntKind renaming i64 → X
open Option renaming none → Z
open Go.Lib (hid)
set_option maxHeartbeats 4000000
set_option maxRecDepth 100000
set_option linter.unusedSimpArgs false
open Go.RowKit
theorem KU:Tryz.t53.bytes=24:=by kernel_rfl
theorem GH {n:Nat} {w:World} (hn:n<=1000000) (h0:0<n) :
 Calls Tryz.prog 144 #[Y Z 0 0,O X (n:Int)] w fun e w'=>Below w.heap.size w w'/\∃ g c,e=.returned (Y (some ⟨g,0,Z⟩) 0 c)/\cI w' w.heap.size (Y (some ⟨g,0,Z⟩) 0 c) []:=by
 have hb:=KU;have h1:(n:Int)*(Tryz.t53.bytes:Int)<=281474976710656:=by rw [hb];omega
 have h2:Builtin.nextslicecap n 0*Tryz.t53.bytes<=281474976710656:=by rw [hb];exact growslice_fits aA aA
 have h3:(n:Int)<=9223372036854775807:=aA;have hc1:=grownCap_ge w n 0 53;have hc2:=grownCap_le_maxLen w n 0 53 (by unfold maxLen;omega);have HC:=hid (And.intro hc1 hc2);clear hb hc1 hc2;go_in;go_wp2_with fail
 go_ret;obtain ⟨hc1,hc2⟩:=HC.o;refine ⟨aK (aB w _) 1,w.heap.size,grownCap w n 0 53,rfl,?_⟩;refine World.ownsRow_made w _ _ (Nat.le_refl _) hc2 ?_;rw [Array.size_append,size_zeroCells,size_zeroCells];show n*3+(grownCap w n 0 53-n)*3=grownCap w n 0 53*3;omega
theorem o7 {α:Type} (ls:List (List α)) {k:Nat} (h:k<ls.length) (d:List α):(ls.take (k+1)).flatten=(ls.take k).flatten++ls.getD k d:=by
 rw [List.take_succ_eq_append_getElem h,List.flatten_append];simp [List.getD_eq_getElem?_getD,List.getElem?_eq_getElem h]
theorem oD {α:Type} (ls:List (List α)) (k:Nat):(ls.take k).flatten.length<=ls.flatten.length:=by
 conv=>rhs;rw [<-List.take_append_drop k ls,List.flatten_append,List.length_append]
 omega
theorem zD {A:Option Addr} {n c:Nat} {ls:List (List Nd)} {w:World} (h:cW (· < w.heap.size) w A n c ls) (h0:0<ls.flatten.length) (hf:ls.flatten.length<=1000000) :
 Calls Tryz.prog 134 #[Y A n c] w (IM ls.flatten w):=by
 obtain ⟨i0,hi,hy0,hy1,hy2⟩:=info_parts nI;have HI0:=hid hi;have HY0:=hid hy0;have HY1:=hid hy1;have HY2:=hid hy2;have hfew:=h.few;have H:=hid h;clear hi hy0 hy1 hy2 h;go_in;go_wp2_with fail
 go_loop [3,11] (fun sv iv=>∃ i:Nat,i<=n/\iv=O X (i:Int)/\sv=O X (((ls.take i).flatten.length:Nat):Int)) (fun _ i=>n-(intOf i).toNat)
 case atStart=>exact ⟨0,by omega,rfl,by simp⟩
 case round =>
  obtain ⟨i,hi,rfl,rfl⟩:=hrel;by_cases hlt:i<n
  · obtain ⟨b,off,rfl,_,hm⟩:=H.o.mem aA;obtain ⟨A',n',c',hc,ht⟩:=hm i hlt;have hsum:(ls.take (i+1)).flatten.length=(ls.take i).flatten.length+n':=by
     rw [o7 ls (by rw [H.o.len];exact hlt) [],List.length_append,ht.len]
    have hle:=oD ls (i+1);have hcap:=ht.cap;have hfw:=ht.few;clear hm ht;have HSUM:=hid hsum;obtain ⟨sz,hsz⟩ : ∃ sz,sz=(ls.take i).flatten.length:=⟨_,rfl⟩;rw [<-hsz] at hsum;rw [<-hsz];have HSZ:=hid hsz;have hszl:sz+n'<=1000000:=aA;clear hsum hle hsz;go_wp2_with fail
    go_round
    case rel=>exact ⟨i+1,by omega,by go_num,by rw [HSUM.o,<-HSZ.o];go_num⟩
    case measure=>simp [intOf];omega
  have hie:i=n:=aA;have HF:Hid ((ls.take i).flatten=ls.flatten):=hid (by rw [List.take_of_length_le (by rw [H.o.len];omega)]);rw [HF.o];obtain ⟨N,hN⟩ : ∃ N,N=ls.flatten.length:=⟨_,rfl⟩;rw [<-hN] at h0 hf;rw [<-hN];have HN:=hid hN;have HGROW:=hid (fun w=>GH (w:=w) hf h0);clear hN;go_wp2_with fail
  refine (HGROW.o _).mono ?_;rintro e w2 ⟨hb2,g,c2,rfl,hown2⟩;have HB2:=hid hb2;have HO2:=hid hown2;clear hb2 hown2;go_wp2_with fail
  go_loopw [6,27] (fun sv iv wr=>∃ (i:Nat) (A1:Option Addr) (k1:Nat),i<=n/\iv=O X (i:Int)/\sv=Y A1 (ls.take i).flatten.length k1/\Hid (cI wr w.heap.size (Y A1 (ls.take i).flatten.length k1) (ls.take i).flatten)/\Hid (Below w.heap.size w wr)) (fun _ i _=>n-(intOf i).toNat)
  case atStart=>exact ⟨0,some ⟨g,0,Z⟩,c2,by omega,rfl,rfl,by simpa using HO2,HB2⟩
  case round =>
   obtain ⟨i,A1,k1,hi,rfl,rfl,hown,hbw⟩:=hrel;by_cases hlt:i<n
   · obtain ⟨b,off,rfl,hb,hm⟩:=H.o.mem aA;obtain ⟨A',n',c',hc,ht⟩:=hm i hlt;have hc2:wr.cell? ⟨b,off+i,Z⟩=some (Y A' n' c'):=(hbw.o.cell (p:=⟨b,off+i,Z⟩) hb).trans hc;have HT:=hid (aQ.below ht hbw.o);have hft:=o7 ls (by rw [H.o.len];exact hlt) [];have hle:=oD ls (i+1);rw [hft,List.length_append,ht.len,<-HN.o] at hle;have HFT:=hid hft;have HTL:=hid ht.len;generalize (ls.take i).flatten=l at *;clear hm hc ht hft;have hbs:=hbw.o.size;go_wp2_with (at_builtin;refine aN rfl (fL (.tmp 31) (.tmp 32) 28 28 rfl w.heap.size i0 Tryz.underlying28 Tryz.underlying28 HI0.o HY0.o HY1.o HY2.o (Y A1 l.length k1) l (ls.getD i []) rfl hown.o rfl HT.o aA hbs ?_);intro A4 c4 w4 hown4 happ4)
     have HO4:=hid hown4;have HB4:=hid (hbw.o.grown happ4.grown hbs (fun g hg=>(aC hown.o hg).1));clear hown4 happ4;go_roundw
     case rel=>exact ⟨i+1,A4,c4,by omega,by go_num,by rw [HFT.o,List.length_append,HTL.o],hid (by rw [HFT.o,List.length_append,HTL.o];exact HO4.o),HB4⟩
     case measure=>simp [intOf];omega
   have hie:i=n:=aA;have HF2:Hid ((ls.take i).flatten=ls.flatten):=hid (by rw [List.take_of_length_le (by rw [H.o.len];omega)]);rw [HF2.o] at hown;rw [HF2.o];go_wp2_with fail
   go_ret;exact ⟨hbw.o,A1,_,k1,rfl,pE hown.o (by have:=HN.o;omega)⟩
def dM:List (List Nd)->Int
 | []=>0
 | a::r=>if aO a=0 then dM r else aO a
def jQ (f:List Nd) (args:List (List Nd)):List Nd×Int :=
 if aO f ≠ 0 then ([],aO f) else if dM args ≠ 0 then ([],dM args)
 else if 4096<f.length+(args.flatten.length+args.length) then ([],9) else (List.replicate args.length ⟨6,0,0⟩++(f++args.flatten),0)
theorem oB (l r:List (List Nd)):dM (l++r)=if dM l=0 then dM r else dM l:=by
 induction l with
 | nil=>simp [dM]
 | cons a l ih =>
  by_cases h:aO a=0
  · simp [dM,h,ih]
  · simp [dM,h]
theorem yI {α:Type} (ls:List (List α)) {k:Nat} (h:k<ls.length):ls.take (k+1)=ls.take k++[ls.getD k []]:=by
 rw [List.take_succ_eq_append_getElem h];simp [List.getD_eq_getElem?_getD,List.getElem?_eq_getElem h]
theorem nB {args:List (List Nd)} {k:Nat} (h:k<args.length) (h0:dM (args.take k)=0):(aO (args.getD k [])=0->dM (args.take (k+1))=0)/\(aO (args.getD k []) ≠ 0->dM args=aO (args.getD k [])):=by
 have h1:dM (args.take (k+1))=aO (args.getD k []):=by
  rw [yI args h,oB,if_pos h0];simp only [dM];split<;>omega
 refine ⟨fun h2=>by rw [h1,h2],fun h2 => ?_⟩
 conv=>lhs;rw [<-List.take_append_drop (k+1) args]
 rw [oB,if_neg (by rw [h1];exact h2),h1]
theorem cV.of_at {S:Nat->Prop} {w:World} : ∀ {xs:List Value} {ls:List (List Nd)},xs.length=ls.length->(∀ k,k<ls.length->∃ A n c,xs[k]? = some (Y A n c)/\bJ S w A n c (ls.getD k []))->cV S w xs ls
 | [],[],_,_=>trivial
 | [],_::_,h,_=>by simp at h
 | _::_,[],h,_=>by simp at h
 | x::xs,l::ls,h,hk=>by
  refine ⟨?_,cV.of_at (by simpa using h) fun k hkl => ?_⟩
  · obtain ⟨A,n,c,e,ht⟩:=hk 0 (by simp);exact ⟨A,n,c,by simpa using e,by simpa using ht⟩
  · obtain ⟨A,n,c,e,ht⟩:=hk (k+1) (by simpa using hkl);exact ⟨A,n,c,by simpa using e,by simpa using ht⟩
theorem cW.values {R:Nat->Prop} {w:World} {A:Option Addr} {n c:Nat} {ls:List (List Nd)} (h:cW R w A n c ls) : ∃ xs:List Value,xs.length=n/\(∀ ad,A=some ad->∀ j u,xs[j]? = some u->w.cell? (ad.add j)=some u)/\cV R w xs ls/\∀ u ∈ xs,u.oneCell'=true:=by
 by_cases hn:0<n;rotate_left
 · obtain rfl:n=0:=aA;have hl:ls=[]:=List.eq_nil_of_length_eq_zero h.len;subst hl;exact ⟨[],rfl,fun _ _ j u hu=>by simp at hu,trivial,fun u hu=>by simp at hu⟩
 obtain ⟨b,off,e,_,hm⟩:=h.mem hn;have hm2:∀ k:Nat,∃ v:Value,k<n->∃ A' n' c',v=Y A' n' c'/\w.cell? ⟨b,off+k,Z⟩=some v/\bJ R w A' n' c' (ls.getD k []):=fun k=>by
  by_cases hk:k<n
  · obtain ⟨A',n',c',h1,h2⟩:=hm k hk;exact ⟨_,fun _=>⟨A',n',c',rfl,h1,h2⟩⟩
  exact ⟨undef,fun h=>absurd h hk⟩
 obtain ⟨V,hV⟩ : ∃ V:Nat->Value,∀ k,k<n->∃ A' n' c',V k=Y A' n' c'/\w.cell? ⟨b,off+k,Z⟩=some (V k)/\bJ R w A' n' c' (ls.getD k []):=⟨fun k=>(hm2 k).choose,fun k=>(hm2 k).choose_spec⟩;refine ⟨(List.range n).map V,by simp,fun ad ha j u hu => ?_,cV.of_at (by simp [h.len]) fun k hk => ?_,fun u hu => ?_⟩
 · rw [e] at ha;injection ha with ha;subst ha;have ea:(⟨b,off,Z⟩:Addr).add j=⟨b,off+j,Z⟩:=by unfold Addr.add;split<;>simp_all
   have hj:j<n:=by have:=(List.getElem?_eq_some_iff.1 hu).1;simpa using this
   obtain ⟨_,_,_,_,h2,_⟩:=hV j hj;rw [ea,h2];simp [hj] at hu;rw [hu]
 · have hk2:k<n:=by rw [<-h.len];exact hk
   obtain ⟨A',n',c',h1,_,h3⟩:=hV k hk2;exact ⟨A',n',c',by simp [hk2,h1],h3⟩
 rw [List.mem_map] at hu;obtain ⟨k,hk,rfl⟩:=hu;obtain ⟨_,_,_,h1,_,_⟩:=hV k (by simpa using hk);rw [h1];rfl
theorem GP (n:Nat) (hn:n<=1000000) (w:World) : ∃ cur:Array Value,cur.size=n*3/\(Instr.makeSlice 28 (O X 0) (O X (n:Int))).run Tryz.prog w=.ok (Y (some ⟨w.heap.size,0,Z⟩) 0 n) (w.alloc (.cells cur 53)):=by
 obtain ⟨i,hi,h1,h2,h3⟩:=info_parts nI;refine ⟨madeCells (Value.agg #[Value.int .i64 0,Value.int .i64 0,Value.int .i64 0]).cells (n*3),by simp [madeCells],?_⟩;rw [run_make (P:=Tryz.prog) w 28 53 i _ Tryz.underlying28 hi h1 .i64 .i64 0 n aA aA (by rw [h3];omega) aA,h2];rfl
theorem AW {w w':World} {A:Option Addr} {n c:Nat} {ls:List (List Nd)} (h:cW (· < w.heap.size) w A n c ls) (hb:Below w.heap.size w w'):cW (· < w.heap.size) w' A n c ls :=
 h.keep fun b hb'=>⟨hb',fun o=>hb.cell (p:=⟨b,o,Z⟩) hb'⟩
theorem JL {w w5:World} {base:Nat} {v:Value} {l:List Nd} {o:Obj} (h:cI w base v l) (hg:(w.alloc o).grownBy w5 (some w.heap.size)):cI w5 base v l :=
 World.ownsRow.kept (cI.alloc h o) hg (.inr fun e=>by have:=(aC h e).2.1;omega)
def jP (q:List Nd×Int) (w:World) (e:Ending) (w':World):Prop:=Below w.heap.size w w'/\∃ A n c,e=.returned (.tuple #[Y A n c,O X q.2])/\bJ (fresh w w') w' A n c q.1
theorem dN {q:List Nd×Int} {w w':World} {z:Int} (hq:q=([],z)) (hb:Below w.heap.size w w'):jP q w (.returned (.tuple #[Y Z 0 0,O X z])) w':=by
 subst hq;exact ⟨hb,Z,0,0,rfl,rfl,Nat.le_refl _,by decide,fun _=>rfl,fun h=>absurd h (by decide)⟩
theorem oY {A B:Option Addr} {n c m d:Nat} {f:List Nd} {args:List (List Nd)} {w:World} (hf:aQ w A n c f) (ha:cW (· < w.heap.size) w B m d args) (hnul:B=Z->d=0) :
 Calls Tryz.prog 115 #[Y A n c,Y B m d] w (jP (jQ f args) w):=by
 obtain ⟨i0,hi,hy0,hy1,hy2⟩:=info_parts nI;have HI0:=hid hi;have HY0:=hid hy0;have HY1:=hid hy1;have HY2:=hid hy2;obtain ⟨i1,hi',hy0',hy1',hy2'⟩:=info_parts wQ;have HI1:=hid hi';have HZ0:=hid hy0';have HZ1:=hid hy1';have HZ2:=hid hy2';clear hi hy0 hy1 hy2 hi' hy0' hy1' hy2';have HF:=hid hf;have HA:=hid ha;have HN:=hid hnul;have hfm:=ha.few;have hfn:=hf.few;have HSH:=hid (iY hf);clear hf ha hnul;by_cases hsf:aO f=0;rotate_left
 · have HQ:Hid (jQ f args=([],aO f)):=hid (by unfold jQ;rw [if_pos hsf]);have hz:(aO f != 0)=true:=by simpa using hsf
   generalize aO f=z at *;clear hsf;go_in;go_wp2_with fail
   refine (HSH.o).mono ?_;rintro e w2 ⟨rfl,hb2⟩;have HB2:=hid hb2;clear hb2;go_wp2_with fail
   go_ret2;exact dN HQ.o HB2.o
 have hn4:n<=4096/\0<n:=by
  obtain ⟨h1,_,_,_,_,h2,_⟩:=f6 hsf;rw [HF.o.len] at h1;have:=HF.o.len;rw [h2] at this;simp at this;omega
 obtain ⟨hn4,hn0⟩:=hn4;rw [hsf] at HSH;have HSF:=hid hsf;clear hsf;go_in;go_wp2_with fail
 refine (HSH.o).mono ?_;rintro e w2 ⟨rfl,hb2⟩;have HB2:=hid hb2;clear hb2;go_wp2_with fail
 go_loopw [7,21] (fun av iv wr=>∃ (i T:Nat),i<=m/\iv=O X (i:Int)/\av=O X (T:Int)/\T<=4097/\Hid (T=min (n+((args.take i).flatten.length+i)) 4097)/\Hid (dM (args.take i)=0)/\Hid (Below w.heap.size w wr)) (fun _ i _=>m-(intOf i).toNat)
 case atStart=>exact ⟨0,n,by omega,rfl,rfl,by omega,hid (by simp;omega),hid rfl,HB2⟩
 case round =>
  obtain ⟨i,T,hi,rfl,rfl,hT,hTT,hbad,hbw⟩:=hrel;by_cases hlt:i<m
  · obtain ⟨b,off,rfl,hb,hm⟩:=HA.o.mem aA;obtain ⟨A',n',c',hc,ht⟩:=hm i hlt;have hc2:wr.cell? ⟨b,off+i,Z⟩=some (Y A' n' c'):=(hbw.o.cell (p:=⟨b,off+i,Z⟩) hb).trans hc;have HS:=hid (iY (aQ.below ht hbw.o));have HNX:=hid (nB (args:=args) (by rw [HA.o.len];exact hlt) hbad.o);have HFL:=hid (o7 args (by rw [HA.o.len];exact hlt) []);have HTL:=hid ht.len;have hfw:=ht.few;generalize args.getD i []=a at *;clear hm hc ht;by_cases hsa:aO a=0
    · rw [hsa] at HS;have HB1:=hid (HNX.o.1 hsa);obtain ⟨T',hT'⟩ : ∃ T',T'=min (T+1+n') 4097:=⟨_,rfl⟩;have hTi:min ((T:Int)+1+(n':Int)) 4097=(T':Int):=aA;have HT':Hid (T'=min (n+((args.take (i+1)).flatten.length+(i+1))) 4097):=hid (by
       rw [HFL.o,List.length_append,HTL.o,hT',hTT.o];omega)
      have hT'l:T'<=4097:=aA;clear hsa hT';go_wp2_with fail
      refine (HS.o).mono ?_;rintro e w3 ⟨rfl,hb3⟩;have HB3:=cN hbw hb3;clear hb3;go_wp2_with fail
      go_roundw
      case rel=>exact ⟨i+1,T',by omega,by go_num,by first | rw [<-hTi];rfl | go_num,hT'l,HT',HB1,HB3⟩
      case measure=>simp [intOf];omega
    have HQ:Hid (jQ f args=([],aO a)):=hid (by
     have h1:=HNX.o.2 hsa;unfold jQ;rw [if_neg (by rw [HSF.o];decide),if_pos (by rw [h1];exact hsa),h1])
    generalize aO a=z at *;have hz:(z != 0)=true:=by simpa using hsa
    clear hsa;go_wp2_with fail
    refine (HS.o).mono ?_;rintro e w3 ⟨rfl,hb3⟩;have HB3:=cN hbw hb3;clear hb3;go_wp2_with fail
    go_ret2;exact dN HQ.o HB3.o
  have hie:i=m:=aA;have HFA:Hid (args.take i=args):=hid (List.take_of_length_le (by rw [HA.o.len];omega));have hbad2:=hbad.o;have hTT2:=hTT.o;rw [HFA.o] at hbad2 hTT2;rw [hie] at hTT2;clear hie;by_cases hbig:4096<T
  · have HQ:Hid (jQ f args=([],9)):=hid (by
     unfold jQ;rw [if_neg (by rw [HSF.o];decide),if_neg (by rw [hbad2];decide),if_pos (by rw [HF.o.len,HA.o.len];omega)])
    clear hbad2 hTT2;go_wp2_with fail
    go_ret2;exact dN HQ.o hbw.o
  have HQ:Hid (jQ f args=(List.replicate m ⟨6,0,0⟩++(f++args.flatten),0)):=hid (by
   unfold jQ;rw [if_neg (by rw [HSF.o];decide),if_neg (by rw [hbad2];decide),if_neg (by rw [HF.o.len,HA.o.len];omega),HA.o.len])
  have hml:m<=4096:=aA;have hfl:args.flatten.length+n<=4096:=aA;obtain ⟨cur,hcur,hmk⟩:=GP T aA wr;have HO1:Hid (cI (wr.alloc (.cells cur 53)) w.heap.size (Y (some ⟨wr.heap.size,0,Z⟩) 0 T) []):=hid (World.ownsRow_made wr cur T hbw.o.size (by unfold maxLen;omega) hcur);have HB1:=hid (hbw.o.alloc hbw.o.size (.cells cur 53));clear hbad2 hTT2 hcur;go_wp2_with fail
  go_loopw [11,43] (fun ov iv wr=>∃ (k k1:Nat) (A1:Option Addr),k<=m/\iv=O X (k:Int)/\ov=Y A1 k k1/\Hid (cI wr w.heap.size (Y A1 k k1) (List.replicate k ⟨6,0,0⟩))/\Hid (Below w.heap.size w wr)) (fun _ i _=>m-(intOf i).toNat)
  case atStart=>exact ⟨0,T,_,by omega,rfl,rfl,HO1,HB1⟩
  case round =>
   clear hmk;obtain ⟨k,k1,A1,hk,rfl,rfl,hown,hbw⟩:=hrel;have hbs:=hbw.o.size;by_cases hlt2:k<m
   · have HOW:Hid (cI wr w.heap.size (Y A1 (List.replicate k (⟨6,0,0⟩:Nd)).length k1) (List.replicate k ⟨6,0,0⟩)):=hid (by rw [List.length_replicate];exact hown.o);go_wp2_with (at_builtin;refine aN rfl (cS (.tmp 45) (.tmp 47) 28 rfl w.heap.size i0 Tryz.underlying28 HI0.o HY0.o HY1.o HY2.o (Y A1 (List.replicate k (⟨6,0,0⟩:Nd)).length k1) (List.replicate k ⟨6,0,0⟩) ⟨6,0,0⟩ wr (by rfl) (by rw [List.length_replicate];rfl) HOW.o _ (by rfl) (by simp) (by simp;omega) aA ?_);intro A4 c4 w4 hown4 happ4)
     have HO4:Hid (cI w4 w.heap.size (Y A4 (k+1) c4) (List.replicate (k+1) ⟨6,0,0⟩)):=hid (by
      have:=hown4;rw [List.length_replicate,<-List.replicate_succ'] at this;exact this)
     have HB4:=hid (hbw.o.grown happ4.grown hbs (fun g hg=>(aC HOW.o hg).1));clear hown4 happ4;go_roundw
     case rel=>exact ⟨k+1,c4,A4,by omega,by go_num,rfl,HO4,HB4⟩
     case measure=>simp [intOf];omega
   have hkm:k=m:=aA;rw [hkm] at hown;rw [hkm];clear hkm hlt2;obtain ⟨xs,hxl,hxc,hxr,hx1⟩:=cW.values (AW HA.o (hbw.o.alloc hbs (.cells #[Y A n c] 28)));have HLIT:Hid ((wr.alloc (.cells #[Y A n c] 28)).ownsRow w.heap.size 28 1 (Y (some ⟨wr.heap.size,0,Z⟩) 1 1) 1 [Y A n c]):=hid ⟨by simp,.inr ⟨wr.heap.size,1,#[Y A n c],rfl,hbs,heap_alloc_new wr _,by omega,by unfold maxLen;omega,rfl,rfl⟩⟩;have HXC:=hid hxc;have HXR:=hid hxr;have HX1:=hid hx1;have hnone:B=Z->m=0/\d=0:=fun e=>⟨by
    by_cases h0:0<m
    · obtain ⟨b,off,e2,_⟩:=HA.o.mem h0;rw [e] at e2;cases e2
    omega,HN.o e⟩
   have HNO:=hid hnone;have HCL:Hid (0<(f::args).flatten.length/\(f::args).flatten.length<=1000000):=hid (by
    have:=HF.o.len;rw [List.flatten_cons,List.length_append];omega)
   clear hxc hxr hx1 hnone;go_wp2_with (first
    | (at_builtin;refine aN rfl (cR (.tmp 52) (.tmp 53) 54 rfl w.heap.size 28 i1 _ 1 24 Tryz.underlying54 HI1.o HZ0.o HZ1.o HZ2.o rfl (by decide) (Y (some ⟨wr.heap.size,0,Z⟩) 1 1) 1 [Y A n c] rfl HLIT.o B m d xs rfl aA HNO.o HXC.o HX1.o (by unfold maxLen;omega) aA (Nat.le_trans hbs (by simp)) ?_);intro A5 c5 w5 happ5;go_loud (have HB5:Hid (Below w.heap.size w w5):=hid ((hbw.o.alloc hbs (.cells #[Y A n c] 28)).grown happ5.grown (Nat.le_trans hbs (by simp)) (fun g hg=>(aC HLIT.o hg).1)));go_loud (have HO5:Hid (cI w5 w.heap.size (Y A1 m k1) (List.replicate m ⟨6,0,0⟩)):=hid (JL hown.o happ5.grown));go_loud (have HR5:=hid (G4 (ls:=f::args) happ5.own (by simp;have:=HA.o.len;omega) aA (show cV (· < w.heap.size) w5 ([Y A n c]++xs) (f::args) from ⟨⟨A,n,c,rfl,HF.o.keep fun b hb=>⟨hb,fun o=>HB5.o.cell (p:=⟨b,o,Z⟩) hb⟩⟩,HXR.o.keep fun b hb=>⟨hb,fun o=>(HB5.o.cell (p:=⟨b,o,Z⟩) hb).trans ((hbw.o.alloc hbs (.cells #[Y A n c] 28)).cell (p:=⟨b,o,Z⟩) hb).symm⟩⟩) (fun b hb=>Nat.lt_of_lt_of_le hb HB5.o.size))))
    | (go_at_call 134;refine (zD HR5.o HCL.o.1 HCL.o.2).mono ?_;rintro e w6 ⟨hb6,A6,n6,c6,rfl,ht6⟩;have HB6:=cN HB5 hb6;have HO6:=hid (cI.below HO5.o hb6);have HT6:=hid ht6;have HL6:=hid ht6.len)
    | (at_builtin;refine aN rfl (fL (.tmp 50) (.tmp 55) 28 28 rfl w.heap.size i0 Tryz.underlying28 Tryz.underlying28 HI0.o HY0.o HY1.o HY2.o (Y A1 m k1) (List.replicate m ⟨6,0,0⟩) (f::args).flatten rfl HO6.o rfl HT6.o (by have:=HL6.o;have:=HCL.o.2;rw [List.length_replicate];omega) HB6.o.size ?_);intro A7 c7 w7 hown7 happ7))
   go_ret2;rw [HQ.o];refine ⟨HB6.o.grown happ7.grown HB6.o.size (fun g hg=>(aC HO6.o hg).1),A7,_,c7,rfl,?_⟩;have h7:=pE hown7 (by rw [List.length_append,List.length_replicate];have:=HCL.o.2;omega);rw [List.flatten_cons,List.length_replicate] at h7;exact h7
def i5 (op:Int) (ls:List (List Nd)):List Nd:=(ls.map fun d=>(⟨op,0,0⟩:Nd)::d).flatten
def eZ (op:Int) (doms:List (List Nd)) (t:List Nd):List Nd×Int :=
 if op ≠ 4/\op ≠ 5 then ([],1) else if dM doms ≠ 0 then ([],dM doms) else if aO t ≠ 0 then ([],aO t)
 else if 4096<(i5 op doms).length+t.length then ([],9) else (i5 op doms++t,0)
theorem yZ (op:Int) (ls:List (List Nd)) {k:Nat} (h:k<ls.length):i5 op (ls.take (k+1))=(i5 op (ls.take k)++[⟨op,0,0⟩])++ls.getD k []:=by
 unfold i5;rw [yI ls h];simp
set_option linter.unusedVariables false in
theorem i6 {A B:Option Addr} {n c m d:Nat} {t:List Nd} {doms:List (List Nd)} {op:Int} {w:World} (ht:aQ w A n c t) (hd:cW (· < w.heap.size) w B m d doms) :
 Calls Tryz.prog 114 #[O X op,Y B m d,Y A n c] w (jP (eZ op doms t) w):=by
 obtain ⟨i0,hi,hy0,hy1,hy2⟩:=info_parts nI;have HI0:=hid hi;have HY0:=hid hy0;have HY1:=hid hy1;have HY2:=hid hy2;have HT:=hid ht;have HA:=hid hd;have hfm:=hd.few;have hfn:=ht.few;clear hi hy0 hy1 hy2 ht hd;by_cases hop:op=4\/op=5;rotate_left
 · have HQ:Hid (eZ op doms t=([],1)):=hid (by unfold eZ;rw [if_pos aA]);have h4:(op != 4)=true:=by simp;omega
   have h5:(op != 5)=true:=by simp;omega
   clear hop;go_in;go_wp2_with fail
   go_ret2;exact dN HQ.o (Below.refl _ _)
 have HOP:Hid (¬ (op ≠ 4/\op ≠ 5)):=hid aA;rcases hop with hop | hop
 case' inl =>
  have h4:(op != 4)=false:=by simp [hop]
 case' inr =>
  have h4:(op != 4)=true:=by simp [hop]
  have h5:(op != 5)=false:=by simp [hop]
 all_goals
  clear hop;go_in;go_wp2_with fail
  go_loopw [8,9,22] (fun ov bv iv wr=>∃ (i L k1:Nat) (A1:Option Addr) (bg:Bool),i<=m/\iv=O X (i:Int)/\bv=.bool bg/\ov=Y A1 L k1/\L<=4096/\Hid (dM (doms.take i)=0)/\Hid (bg=decide (4096<(i5 op (doms.take i)).length))/\Hid (bg=false->L=(i5 op (doms.take i)).length/\cI wr w.heap.size (Y A1 L k1) (i5 op (doms.take i)))/\Hid (Below w.heap.size w wr)) (fun _ _ i _=>m-(intOf i).toNat)
  case atStart=>exact ⟨0,0,0,Z,false,by omega,rfl,rfl,rfl,by omega,hid rfl,hid (by simp [i5]),hid (fun _=>⟨by simp [i5],cI.nil _ _⟩),hid (Below.refl _ _)⟩
  case round =>
   obtain ⟨i,L,k1,A1,bg,hi,rfl,rfl,rfl,hL,hbad,hbg,hown,hbw⟩:=hrel;have hbs:=hbw.o.size;by_cases hlt:i<m;rotate_left
   · have hie:i=m:=aA;have HFA:Hid (doms.take i=doms):=hid (List.take_of_length_le (by rw [HA.o.len];omega));rw [HFA.o] at hbad hbg hown;clear hie;have HS:=hid (iY (aQ.below HT.o hbw.o));by_cases hst:aO t=0;rotate_left
     · have HQ:Hid (eZ op doms t=([],aO t)):=hid (by
        unfold eZ;rw [if_neg HOP.o,if_neg (by rw [hbad.o];decide),if_pos hst])
       generalize aO t=z at *;have hz:(z != 0)=true:=by simpa using hst
       clear hst;go_wp2_with fail
       refine (HS.o).mono ?_;rintro e w3 ⟨rfl,hb3⟩;have HB3:=cN hbw hb3;clear hb3;go_wp2_with fail
       go_ret2;exact dN HQ.o HB3.o
     rw [hst] at HS;have HST:=hid hst;clear hst;have HBIG:Hid (4096<(i5 op doms).length+t.length->eZ op doms t=([],9)):=hid fun h=>by
      unfold eZ;rw [if_neg HOP.o,if_neg (by rw [hbad.o];decide),if_neg (by rw [HST.o];decide),if_pos h]
     cases bg with
     | true =>
      have HQ:Hid (eZ op doms t=([],9)):=hid (HBIG.o (by
       have h1:=hbg.o.symm;rw [decide_eq_true_eq] at h1;omega))
      go_wp2_with fail
      refine (HS.o).mono ?_;rintro e w3 ⟨rfl,hb3⟩;have HB3:=cN hbw hb3;clear hb3;go_wp2_with fail
      go_ret2;exact dN HQ.o HB3.o
     | false =>
      obtain ⟨hLe,ho⟩:=hown.o rfl;have HLE:=hid hLe;have HO:=hid ho;clear hLe ho;by_cases hbig:4096<L+n
      · have hb4:decide ((L:Int)+(n:Int)>4096)=true:=decide_eq_true aA;have HQ:Hid (eZ op doms t=([],9)):=hid (HBIG.o (by rw [<-HLE.o,HT.o.len];exact hbig));go_wp2_with fail
        refine (HS.o).mono ?_;rintro e w3 ⟨rfl,hb3⟩;have HB3:=cN hbw hb3;clear hb3;go_wp2_with fail
        go_ret2;exact dN HQ.o HB3.o
      · have hb4:decide ((L:Int)+(n:Int)>4096)=false:=decide_eq_false aA;have HQ:Hid (eZ op doms t=(i5 op doms++t,0)):=hid (by
         unfold eZ;rw [if_neg HOP.o,if_neg (by rw [hbad.o];decide),if_neg (by rw [HST.o];decide),if_neg (by rw [<-HLE.o,HT.o.len];exact hbig)])
        generalize i5 op doms=o at *;obtain rfl:L=o.length:=HLE.o;go_wp2_with fail
        refine (HS.o).mono ?_;rintro e w3 ⟨rfl,hb3⟩;have HO3:=hid (cI.below HO.o hb3);have HB3:=cN hbw hb3;have HT3:=hid (aQ.below HT.o HB3.o);have hbs3:=HB3.o.size;clear hb3;go_wp2_with (at_builtin;go_loud (refine aN rfl (fL (.tmp 65) (.tmp 66) 28 28 rfl w.heap.size i0 Tryz.underlying28 Tryz.underlying28 HI0.o HY0.o HY1.o HY2.o (Y A1 o.length k1) o t rfl HO3.o rfl HT3.o aA hbs3 ?_));intro A5 c5 w5 hown5 happ5)
        go_ret2;rw [HQ.o];exact ⟨HB3.o.grown happ5.grown hbs3 (fun g hg=>(aC HO3.o hg).1),A5,_,c5,rfl,pE hown5 (by rw [List.length_append,HT.o.len];omega)⟩
   obtain ⟨b,off,rfl,hb,hm⟩:=HA.o.mem aA;obtain ⟨A',n',c',hc,ht⟩:=hm i hlt;have hc2:wr.cell? ⟨b,off+i,Z⟩=some (Y A' n' c'):=(hbw.o.cell (p:=⟨b,off+i,Z⟩) hb).trans hc;have HS:=hid (iY (aQ.below ht hbw.o));have HTA:Hid (∀ w',Below w.heap.size w w'->aQ w' A' n' c' (doms.getD i [])):=hid fun w' h=>aQ.below ht h;have HNX:=hid (nB (args:=doms) (by rw [HA.o.len];exact hlt) hbad.o);have HBL:=hid (yZ op doms (by rw [HA.o.len];exact hlt));have HTL:=hid ht.len;have hfw:=ht.few;generalize doms.getD i []=a at *;clear hm hc ht;by_cases hsa:aO a=0;rotate_left
   · have HQ:Hid (eZ op doms t=([],aO a)):=hid (by
      have h1:=HNX.o.2 hsa;unfold eZ;rw [if_neg HOP.o,if_pos (by rw [h1];exact hsa),h1])
     generalize aO a=z at *;have hz:(z != 0)=true:=by simpa using hsa
     clear hsa;go_wp2_with fail
     refine (HS.o).mono ?_;rintro e w3 ⟨rfl,hb3⟩;have HB3:=cN hbw hb3;clear hb3;go_wp2_with fail
     go_ret2;exact dN HQ.o HB3.o
   rw [hsa] at HS;have HB1:=hid (HNX.o.1 hsa);clear hsa;cases bg with
   | true =>
    have HBG:Hid (true=decide (4096<(i5 op (doms.take (i+1))).length)):=hid (by
     have h1:=hbg.o.symm;rw [decide_eq_true_eq] at h1;symm;rw [decide_eq_true_eq,HBL.o,List.length_append,List.length_append];omega)
    go_wp2_with fail
    refine (HS.o).mono ?_;rintro e w3 ⟨rfl,hb3⟩;have HB3:=cN hbw hb3;clear hb3;go_wp2_with fail
    go_roundw
    case rel=>exact ⟨i+1,L,k1,A1,true,by omega,by go_num,rfl,rfl,hL,HB1,HBG,hid (fun h=>by cases h),HB3⟩
    case measure=>simp [intOf];omega
   | false =>
    obtain ⟨hLe,ho⟩:=hown.o rfl;have HLE:=hid hLe;have HO:=hid ho;clear hLe ho;by_cases hbig:4096<L+1+n'
    · have hb4:decide ((L:Int)+1+(n':Int)>4096)=true:=decide_eq_true aA;have HBG:Hid (true=decide (4096<(i5 op (doms.take (i+1))).length)):=hid (by
       symm;rw [decide_eq_true_eq,HBL.o,List.length_append,List.length_append,<-HLE.o,HTL.o];simp;omega)
      go_wp2_with fail
      refine (HS.o).mono ?_;rintro e w3 ⟨rfl,hb3⟩;have HB3:=cN hbw hb3;clear hb3;go_wp2_with fail
      go_roundw
      case rel=>exact ⟨i+1,L,k1,A1,true,by omega,by go_num,rfl,rfl,hL,HB1,HBG,hid (fun h=>by cases h),HB3⟩
      case measure=>simp [intOf];omega
    · have hb4:decide ((L:Int)+1+(n':Int)>4096)=false:=decide_eq_false aA;have HBG:Hid (false=decide (4096<(i5 op (doms.take (i+1))).length)):=hid (by
       symm;rw [decide_eq_false_iff_not,HBL.o,List.length_append,List.length_append,<-HLE.o,HTL.o];simp;omega)
      generalize i5 op (doms.take i)=o at *;obtain rfl:L=o.length:=HLE.o;go_wp2_with fail
      refine (HS.o).mono ?_;rintro e w3 ⟨rfl,hb3⟩;have HO3:=hid (cI.below HO.o hb3);have HB3:=cN hbw hb3;have hbs3:=HB3.o.size;clear hb3;go_wp2_with (at_builtin;first
       | (refine aN rfl (cS (.tmp 43) (.tmp 46) 28 rfl w.heap.size i0 Tryz.underlying28 HI0.o HY0.o HY1.o HY2.o (Y A1 o.length k1) o ⟨op,0,0⟩ w3 (by rfl) (by rfl) HO3.o _ (by rfl) (by simp) aA hbs3 ?_);intro A4 c4 w4 hown4 happ4;have HO4:=hid hown4;have HB4:=hid (HB3.o.grown happ4.grown hbs3 (fun g hg=>(aC HO3.o hg).1));have hbs4:=HB4.o.size;clear hown4 happ4)
       | (refine aN rfl (fL (.tmp 47) (.tmp 48) 28 28 rfl w.heap.size i0 Tryz.underlying28 Tryz.underlying28 HI0.o HY0.o HY1.o HY2.o (Y A4 (o.length+1) c4) (o++[⟨op,0,0⟩]) a rfl (cI.cast HO4.o (by simp) rfl) rfl (HTA.o _ HB4.o) (by simp;omega) hbs4 ?_);intro A5 c5 w5 hown5 happ5))
      have HO5:=hid hown5;have HB5:=hid (HB4.o.grown happ5.grown hbs4 (fun g hg=>(aC HO4.o hg).1));clear hown5 happ5;go_roundw
      case rel=>exact ⟨i+1,_,c5,A5,false,by omega,by go_num,rfl,rfl,by omega,HB1,HBG,hid (fun _=>⟨by rw [HBL.o,List.length_append,HTL.o];simp,by rw [HBL.o];exact cI.cast HO5.o (by simp) rfl⟩),HB5⟩
      case measure=>simp [intOf];omega
end Go.Proofs.YtplecfbdchmogaaGreat
