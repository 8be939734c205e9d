/- sense: term.Apply, and slices.Clone at rows of terms. -/
import Derived.Test.YtjllmblbbgojbaaGreatXKidss
namespace Go.Proofs.YtjllmblbbgojbaaGreat
set_option linter.unusedVariables false
set_option linter.unusedSimpArgs false
open Go.RowKit
open Go.Value renaming slice → O
open Option renaming none → X, some → Y
open Go.Lib renaming hid->aB
set_option maxHeartbeats 4000000
set_option maxRecDepth 100000
theorem OB:Tryz.t40.bytes=24:=by kernel_rfl
theorem J7 {n:Nat} {w:World} (hn:n<=1000000) (h0:0<n) :
 Calls Tryz.prog 114 #[O X 0 0,.int .i64 (n:Int)] w fun e w'=>Below w.heap.size w w'/\∃g c,e=.returned (O (Y ⟨g,0,X⟩) 0 c)/\bR w' w.heap.size (O (Y ⟨g,0,X⟩) 0 c) []:=by
 have hb:=OB;have h1:(n:Int)*(Tryz.t40.bytes:Int)<=281474976710656:=by rw[hb];omega
 have h2:Builtin.nextslicecap n 0*Tryz.t40.bytes<=281474976710656:=by rw[hb];exact growslice_fits aA aA
 have hc1:=grownCap_ge w n 0 40;have hc2:=grownCap_le_maxLen w n 0 40 aJ;have HC:=aB (And.intro hc1 hc2);clear hb hc1 hc2;go_in;go_wp2_with fail;go_ret;obtain⟨hc1,hc2⟩:=HC.o;refine⟨aV (aP w _) 1,w.heap.size,grownCap w n 0 40,rfl,?_⟩;refine World.ownsRow_made w _ _ (Nat.le_refl _) hc2 ?_;rw[Array.size_append,size_zeroCells,size_zeroCells];show n*3+(grownCap w n 0 40-n)*3=grownCap w n 0 40*3;omega
theorem pL {α:Type} (ls:List (List α)) {k:Nat} (h:k<ls.length) (d:List α):(ls.take (k+1)).flatten=(ls.take k).flatten++ls.getD k d:=by
 rw[List.take_succ_eq_append_getElem h,List.flatten_append];simp[List.getD_eq_getElem?_getD,List.getElem?_eq_getElem h]
theorem oH {α:Type} (ls:List (List α)) (k:Nat):(ls.take k).flatten.length<=ls.flatten.length:=by
 conv=>rhs;rw[<-List.take_append_drop k ls,List.flatten_append,List.length_append]
 omega
theorem CG {A:Option Addr} {n c:Nat} {ls:List (List Nd)} {w:World} (h:dG (· < w.heap.size) w A n c ls) (h0:0<ls.flatten.length) (hf:ls.flatten.length<=1000000) :
 Calls Tryz.prog 104 #[O A n c] w (kR ls.flatten w):=by
 obtain⟨i0,hi,hy0,hy1,hy2⟩:=info_parts kW;have HI0:=aB hi;have HY0:=aB hy0;have HY1:=aB hy1;have HY2:=aB hy2;have hfew:=h.few;have H:=aB h;clear hi hy0 hy1 hy2 h;go_in;go_wp2_with fail;go_loop [3,11] (fun sv iv=>∃i:Nat,i<=n/\iv=.int .i64 (i:Int)/\sv=.int .i64 (((ls.take i).flatten.length:Nat):Int)) (fun _ i=>n-(intOf i).toNat)
 case atStart=>exact⟨0,by omega,rfl,by simp⟩
 case round =>
  obtain⟨i,hi,rfl,rfl⟩:=hrel;by_cases hlt:i<n
  · obtain⟨b,off,rfl,_,hm⟩:=H.o.mem aA;obtain⟨A',n',c',hc,ht⟩:=hm i hlt;have hsum:(ls.take (i+1)).flatten.length=(ls.take i).flatten.length+n':=by
     rw[pL ls (by rw[H.o.len];exact hlt) [],List.length_append,ht.len]
    have hle:=oH ls (i+1);have hfw:=ht.few;clear hm ht;have HSUM:=aB hsum;obtain⟨sz,hsz⟩ : ∃sz,sz=(ls.take i).flatten.length:=⟨_,rfl⟩;rw[<-hsz] at hsum;rw[<-hsz];have HSZ:=aB hsz;have hszl:sz+n'<=1000000:=aA;clear hsum hle hsz;go_wp2_with fail;go_round
    case rel=>exact⟨i+1,by omega,by go_num,by rw[HSUM.o,<-HSZ.o];go_num⟩
    case measure=>simp[intOf];omega
  have hie:i=n:=aA;have HF:Hid ((ls.take i).flatten=ls.flatten):=aB (by rw[List.take_of_length_le (by rw[H.o.len];omega)]);rw[HF.o];obtain⟨N,hN⟩ : ∃N,N=ls.flatten.length:=⟨_,rfl⟩;rw[<-hN] at h0 hf;rw[<-hN];have HN:=aB hN;have HGROW:=aB (fun w=>J7 (w:=w) hf h0);clear hN;go_wp2_with fail;refine (HGROW.o _).mono ?_;rintro e w2 ⟨hb2,g,c2,rfl,hown2⟩;have HB2:=aB hb2;have HO2:=aB hown2;clear hb2 hown2;go_wp2_with fail;go_loopw [6,27] (fun sv iv wr=>∃(i:Nat) (A1:Option Addr) (k1:Nat),i<=n/\iv=.int .i64 (i:Int)/\sv=O A1 (ls.take i).flatten.length k1/\Hid (bR wr w.heap.size (O A1 (ls.take i).flatten.length k1) (ls.take i).flatten)/\Hid (Below w.heap.size w wr)) (fun _ i _=>n-(intOf i).toNat)
  case atStart=>exact⟨0,Y ⟨g,0,X⟩,c2,by omega,rfl,rfl,by simpa using HO2,HB2⟩
  case round =>
   obtain⟨i,A1,k1,hi,rfl,rfl,hown,hbw⟩:=hrel;by_cases hlt:i<n
   · obtain⟨b,off,rfl,hb,hm⟩:=H.o.mem aA;obtain⟨A',n',c',hc,ht⟩:=hm i hlt;have hc2:wr.cell? ⟨b,off+i,X⟩=Y (O A' n' c'):=(hbw.o.cell (p:=⟨b,off+i,X⟩) hb).trans hc;have HT:=aB (bB.below ht hbw.o);have hft:=pL ls (by rw[H.o.len];exact hlt) [];have hle:=oH ls (i+1);rw[hft,List.length_append,ht.len,<-HN.o] at hle;have HFT:=aB hft;have HTL:=aB ht.len;generalize (ls.take i).flatten=l at *;clear hm hc ht hft;have hbs:=hbw.o.size;go_wp2_with (at_builtin;refine bM rfl (cQ (.tmp 31) (.tmp 32) 28 28 rfl w.heap.size i0 Tryz.underlying28 Tryz.underlying28 HI0.o HY0.o HY1.o HY2.o (O A1 l.length k1) l (ls.getD i []) rfl hown.o rfl HT.o aA hbs ?_);intro A4 c4 w4 hown4 happ4)
     have HO4:=aB hown4;have HB4:=aB (hbw.o.grown happ4.grown hbs (fun g hg=>(aR hown.o hg).1));clear hown4 happ4;go_roundw
     case rel=>exact⟨i+1,A4,c4,by omega,by go_num,by rw[HFT.o,List.length_append,HTL.o],aB (by rw[HFT.o,List.length_append,HTL.o];exact HO4.o),HB4⟩
     case measure=>simp[intOf];omega
   have hie:i=n:=aA;have HF2:Hid ((ls.take i).flatten=ls.flatten):=aB (by rw[List.take_of_length_le (by rw[H.o.len];omega)]);rw[HF2.o] at hown;rw[HF2.o];go_wp2_with fail;go_ret;exact⟨hbw.o,A1,_,k1,rfl,kI hown.o (by have:=HN.o;omega)⟩
def eP:List (List Nd)->Int
 | []=>0
 | a::r=>if bC a=0 then eP r else bC a
def jH (f:List Nd) (args:List (List Nd)):List Nd×Int :=
 if bC f ≠ 0 then ([],bC f) else if eP args ≠ 0 then ([],eP args)
 else if 4096<f.length+(args.flatten.length+args.length) then ([],9) else (List.replicate args.length ⟨6,0,0⟩++(f++args.flatten),0)
theorem oG (l r:List (List Nd)):eP (l++r)=if eP l=0 then eP r else eP l:=by
 induction l with
 | nil=>simp[eP]
 | cons a l ih =>
  by_cases h:bC a=0
  · simp[eP,h,ih]
  · simp[eP,h]
theorem LW {α:Type} (ls:List (List α)) {k:Nat} (h:k<ls.length):ls.take (k+1)=ls.take k++[ls.getD k []]:=by
 rw[List.take_succ_eq_append_getElem h];simp[List.getD_eq_getElem?_getD,List.getElem?_eq_getElem h]
theorem uF {args:List (List Nd)} {k:Nat} (h:k<args.length) (h0:eP (args.take k)=0):(bC (args.getD k [])=0->eP (args.take (k+1))=0)/\(bC (args.getD k []) ≠ 0->eP args=bC (args.getD k [])):=by
 have h1:eP (args.take (k+1))=bC (args.getD k []):=by
  rw[LW args h,oG,if_pos h0];simp only[eP];split<;>omega
 refine⟨fun h2=>by rw[h1,h2],fun h2 => ?_⟩
 conv=>lhs;rw[<-List.take_append_drop (k+1) args]
 rw[oG,if_neg (by rw[h1];exact h2),h1]
theorem eL.of_at {S:Nat->Prop} {w:World} : ∀{xs:List Value} {ls:List (List Nd)},xs.length=ls.length->(∀k,k<ls.length->∃A n c,xs[k]? = Y (O A n c)/\bP S w A n c (ls.getD k []))->eL S w xs ls
 | [],[],_,_=>trivial
 | [],_::_,h,_=>by simp at h
 | _::_,[],h,_=>by simp at h
 | x::xs,l::ls,h,hk=>by
  refine⟨?_,eL.of_at (by simpa using h) fun k hkl => ?_⟩
  · obtain⟨A,n,c,e,ht⟩:=hk 0 aD;exact⟨A,n,c,by simpa using e,by simpa using ht⟩
  · obtain⟨A,n,c,e,ht⟩:=hk (k+1) (by simpa using hkl);exact⟨A,n,c,by simpa using e,by simpa using ht⟩
theorem dG.values {R:Nat->Prop} {w:World} {A:Option Addr} {n c:Nat} {ls:List (List Nd)} (h:dG R w A n c ls) : ∃xs:List Value,xs.length=n/\(∀ad,A=Y ad->∀j u,xs[j]? = Y u->w.cell? (ad.add j)=Y u)/\eL R w xs ls/\∀u ∈ xs,u.oneCell'=true:=by
 by_cases hn:0<n;rotate_left
 · obtain rfl:n=0:=aA;have hl:ls=[]:=List.eq_nil_of_length_eq_zero h.len;subst hl;exact⟨[],rfl,fun _ _ j u hu=>by simp at hu,trivial,fun u hu=>by simp at hu⟩
 obtain⟨b,off,e,_,hm⟩:=h.mem hn;have hm2:∀k:Nat,∃v:Value,k<n->∃A' n' c',v=O A' n' c'/\w.cell? ⟨b,off+k,X⟩=Y v/\bP R w A' n' c' (ls.getD k []):=fun k=>by
  by_cases hk:k<n
  · obtain⟨A',n',c',h1,h2⟩:=hm k hk;exact⟨_,fun _=>⟨A',n',c',rfl,h1,h2⟩⟩
  exact⟨undef,fun h=>absurd h hk⟩
 obtain⟨V,hV⟩ : ∃V:Nat->Value,∀k,k<n->∃A' n' c',V k=O A' n' c'/\w.cell? ⟨b,off+k,X⟩=Y (V k)/\bP R w A' n' c' (ls.getD k []):=⟨fun k=>(hm2 k).choose,fun k=>(hm2 k).choose_spec⟩;refine⟨(List.range n).map V,by simp,fun ad ha j u hu => ?_,eL.of_at (by simp[h.len]) fun k hk => ?_,fun u hu => ?_⟩
 · rw[e] at ha;injection ha with ha;subst ha;have ea:(⟨b,off,X⟩:Addr).add j=⟨b,off+j,X⟩:=by unfold Addr.add;split<;>simp_all
   have hj:j<n:=by have:=(List.getElem?_eq_some_iff.1 hu).1;simpa using this
   obtain⟨_,_,_,_,h2,_⟩:=hV j hj;rw[ea,h2];simp[hj] at hu;rw[hu]
 · have hk2:k<n:=by rw[<-h.len];exact hk
   obtain⟨A',n',c',h1,_,h3⟩:=hV k hk2;exact⟨A',n',c',by simp[hk2,h1],h3⟩
 rw[List.mem_map] at hu;obtain⟨k,hk,rfl⟩:=hu;obtain⟨_,_,_,h1,_,_⟩:=hV k (by simpa using hk);rw[h1];rfl
theorem KI (n:Nat) (hn:n<=1000000) (w:World) : ∃cur:Array Value,cur.size=n*3/\(Instr.makeSlice 28 (.int .i64 0) (.int .i64 (n:Int))).run Tryz.prog w=.ok (O (Y ⟨w.heap.size,0,X⟩) 0 n) (w.alloc (.cells cur 40)):=by
 obtain⟨i,hi,h1,h2,h3⟩:=info_parts kW;refine⟨madeCells (Value.agg #[Value.int .i64 0,Value.int .i64 0,Value.int .i64 0]).cells (n*3),by simp[madeCells],?_⟩;rw[run_make (P:=Tryz.prog) w 28 40 i _ Tryz.underlying28 hi h1 .i64 .i64 0 n aA aA (by rw[h3];omega) aA,h2];rfl
theorem DU {w w':World} {A:Option Addr} {n c:Nat} {ls:List (List Nd)} (h:dG (· < w.heap.size) w A n c ls) (hb:Below w.heap.size w w'):dG (· < w.heap.size) w' A n c ls :=
 h.keep fun b hb'=>⟨hb',fun o=>hb.cell (p:=⟨b,o,X⟩) hb'⟩
theorem M8 {w w5:World} {base:Nat} {v:Value} {l:List Nd} {o:Obj} (h:bR w base v l) (hg:(w.alloc o).grownBy w5 (Y w.heap.size)):bR w5 base v l :=
 World.ownsRow.kept (bR.alloc h o) hg (.inr fun e=>by have:=(aR h e).2.1;omega)
def yT (q:List Nd×Int) (w:World) (e:Ending) (w':World):Prop:=Below w.heap.size w w'/\∃A n c,e=.returned (.tuple #[O A n c,.int .i64 q.2])/\bP (kD w w') w' A n c q.1
theorem tB {q:List Nd×Int} {w w':World} {z:Int} (hq:q=([],z)) (hb:Below w.heap.size w w'):yT q w (.returned (.tuple #[O X 0 0,.int .i64 z])) w':=by
 subst hq;exact⟨hb,X,0,0,rfl,rfl,Nat.le_refl _,by decide,fun _=>rfl,fun h=>absurd h aE⟩
theorem F9 {A B:Option Addr} {n c m d:Nat} {f:List Nd} {args:List (List Nd)} {w:World} (hf:bB w A n c f) (ha:dG (· < w.heap.size) w B m d args) (hnul:B=X->d=0) :
 Calls Tryz.prog 75 #[O A n c,O B m d] w (yT (jH f args) w):=by
 obtain⟨i0,hi,hy0,hy1,hy2⟩:=info_parts kW;have HI0:=aB hi;have HY0:=aB hy0;have HY1:=aB hy1;have HY2:=aB hy2;obtain⟨i1,hi',hy0',hy1',hy2'⟩:=info_parts vK;have HI1:=aB hi';have HZ0:=aB hy0';have HZ1:=aB hy1';have HZ2:=aB hy2';clear hi hy0 hy1 hy2 hi' hy0' hy1' hy2';have HF:=aB hf;have HA:=aB ha;have HN:=aB hnul;have hfm:=ha.few;have hfn:=hf.few;have HSH:=aB (dM hf);clear hf ha hnul;by_cases hsf:bC f=0;rotate_left
 · have HQ:Hid (jH f args=([],bC f)):=aB (by unfold jH;rw[if_pos hsf]);have hz:(bC f != 0)=true:=by simpa using hsf
   generalize bC f=z at *;clear hsf;go_in;go_wp2_with fail;refine (HSH.o).mono ?_;rintro e w2 ⟨rfl,hb2⟩;have HB2:=aB hb2;clear hb2;go_wp2_with fail;go_ret2;exact tB HQ.o HB2.o
 have hn4:n<=4096/\0<n:=by
  obtain⟨h1,_,_,_,_,h2,_⟩:=fL hsf;rw[HF.o.len] at h1;have:=HF.o.len;rw[h2] at this;simp at this;omega
 obtain⟨hn4,hn0⟩:=hn4;rw[hsf] at HSH;have HSF:=aB hsf;clear hsf;go_in;go_wp2_with fail;refine (HSH.o).mono ?_;rintro e w2 ⟨rfl,hb2⟩;have HB2:=aB hb2;clear hb2;go_wp2_with fail;go_loopw [7,21] (fun av iv wr=>∃(i T:Nat),i<=m/\iv=.int .i64 (i:Int)/\av=.int .i64 (T:Int)/\T<=4097/\Hid (T=min (n+((args.take i).flatten.length+i)) 4097)/\Hid (eP (args.take i)=0)/\Hid (Below w.heap.size w wr)) (fun _ i _=>m-(intOf i).toNat)
 case atStart=>exact⟨0,n,by omega,rfl,rfl,by omega,aB aG,aB rfl,HB2⟩
 case round =>
  obtain⟨i,T,hi,rfl,rfl,hT,hTT,hbad,hbw⟩:=hrel;by_cases hlt:i<m
  · obtain⟨b,off,rfl,hb,hm⟩:=HA.o.mem aA;obtain⟨A',n',c',hc,ht⟩:=hm i hlt;have hc2:wr.cell? ⟨b,off+i,X⟩=Y (O A' n' c'):=(hbw.o.cell (p:=⟨b,off+i,X⟩) hb).trans hc;have HS:=aB (dM (bB.below ht hbw.o));have HNX:=aB (uF (args:=args) (by rw[HA.o.len];exact hlt) hbad.o);have HFL:=aB (pL args (by rw[HA.o.len];exact hlt) []);have HTL:=aB ht.len;have hfw:=ht.few;generalize args.getD i []=a at *;clear hm hc ht;by_cases hsa:bC a=0
    · rw[hsa] at HS;have HB1:=aB (HNX.o.1 hsa);obtain⟨T',hT'⟩ : ∃T',T'=min (T+1+n') 4097:=⟨_,rfl⟩;have hTi:min ((T:Int)+1+(n':Int)) 4097=(T':Int):=aA;have HT':Hid (T'=min (n+((args.take (i+1)).flatten.length+(i+1))) 4097):=aB (by
       rw[HFL.o,List.length_append,HTL.o,hT',hTT.o];omega)
      have hT'l:T'<=4097:=aA;clear hsa hT';go_wp2_with fail;refine (HS.o).mono ?_;rintro e w3 ⟨rfl,hb3⟩;have HB3:=dA hbw hb3;clear hb3;go_wp2_with fail;go_roundw
      case rel=>exact⟨i+1,T',by omega,by go_num,by first | rw[<-hTi];rfl | go_num,hT'l,HT',HB1,HB3⟩
      case measure=>simp[intOf];omega
    have HQ:Hid (jH f args=([],bC a)):=aB (by
     have h1:=HNX.o.2 hsa;unfold jH;rw[if_neg (by rw[HSF.o];decide),if_pos (by rw[h1];exact hsa),h1])
    generalize bC a=z at *;have hz:(z != 0)=true:=by simpa using hsa
    clear hsa;go_wp2_with fail;refine (HS.o).mono ?_;rintro e w3 ⟨rfl,hb3⟩;have HB3:=dA hbw hb3;clear hb3;go_wp2_with fail;go_ret2;exact tB HQ.o HB3.o
  have hie:i=m:=aA;have HFA:Hid (args.take i=args):=aB (List.take_of_length_le (by rw[HA.o.len];omega));have hbad2:=hbad.o;have hTT2:=hTT.o;rw[HFA.o] at hbad2 hTT2;rw[hie] at hTT2;clear hie;by_cases hbig:4096<T
  · have HQ:Hid (jH f args=([],9)):=aB (by
     unfold jH;rw[if_neg (by rw[HSF.o];decide),if_neg (by rw[hbad2];decide),if_pos (by rw[HF.o.len,HA.o.len];omega)])
    clear hbad2 hTT2;go_wp2_with fail;go_ret2;exact tB HQ.o hbw.o
  have HQ:Hid (jH f args=(List.replicate m ⟨6,0,0⟩++(f++args.flatten),0)):=aB (by
   unfold jH;rw[if_neg (by rw[HSF.o];decide),if_neg (by rw[hbad2];decide),if_neg (by rw[HF.o.len,HA.o.len];omega),HA.o.len])
  have hml:m<=4096:=aA;have hfl:args.flatten.length+n<=4096:=aA;obtain⟨cur,hcur,hmk⟩:=KI T aA wr;have HO1:Hid (bR (wr.alloc (.cells cur 40)) w.heap.size (O (Y ⟨wr.heap.size,0,X⟩) 0 T) []):=aB (World.ownsRow_made wr cur T hbw.o.size aJ hcur);have HB1:=aB (hbw.o.alloc hbw.o.size (.cells cur 40));clear hbad2 hTT2 hcur;go_wp2_with fail;go_loopw [11,43] (fun ov iv wr=>∃(k k1:Nat) (A1:Option Addr),k<=m/\iv=.int .i64 (k:Int)/\ov=O A1 k k1/\Hid (bR wr w.heap.size (O A1 k k1) (List.replicate k ⟨6,0,0⟩))/\Hid (Below w.heap.size w wr)) (fun _ i _=>m-(intOf i).toNat)
  case atStart=>exact⟨0,T,_,by omega,rfl,rfl,HO1,HB1⟩
  case round =>
   clear hmk;obtain⟨k,k1,A1,hk,rfl,rfl,hown,hbw⟩:=hrel;have hbs:=hbw.o.size;by_cases hlt2:k<m
   · have HOW:Hid (bR wr w.heap.size (O A1 (List.replicate k (⟨6,0,0⟩:Nd)).length k1) (List.replicate k ⟨6,0,0⟩)):=aB (by rw[List.length_replicate];exact hown.o);go_wp2_with (at_builtin;refine bM rfl (cK (.tmp 45) (.tmp 47) 28 rfl w.heap.size i0 Tryz.underlying28 HI0.o HY0.o HY1.o HY2.o (O A1 (List.replicate k (⟨6,0,0⟩:Nd)).length k1) (List.replicate k ⟨6,0,0⟩) ⟨6,0,0⟩ wr aF (by rw[List.length_replicate];rfl) HOW.o _ aF aD aG aA ?_);intro A4 c4 w4 hown4 happ4)
     have HO4:Hid (bR w4 w.heap.size (O A4 (k+1) c4) (List.replicate (k+1) ⟨6,0,0⟩)):=aB (by
      have:=hown4;rw[List.length_replicate,<-List.replicate_succ'] at this;exact this)
     have HB4:=aB (hbw.o.grown happ4.grown hbs (fun g hg=>(aR HOW.o hg).1));clear hown4 happ4;go_roundw
     case rel=>exact⟨k+1,c4,A4,by omega,by go_num,rfl,HO4,HB4⟩
     case measure=>simp[intOf];omega
   have hkm:k=m:=aA;rw[hkm] at hown;rw[hkm];clear hkm hlt2;obtain⟨xs,hxl,hxc,hxr,hx1⟩:=dG.values (DU HA.o (hbw.o.alloc hbs (.cells #[O A n c] 28)));have HLIT:Hid ((wr.alloc (.cells #[O A n c] 28)).ownsRow w.heap.size 28 1 (O (Y ⟨wr.heap.size,0,X⟩) 1 1) 1 [O A n c]):=aB ⟨by simp,.inr ⟨wr.heap.size,1,#[O A n c],rfl,hbs,heap_alloc_new wr _,by omega,by unfold maxLen;omega,rfl,rfl⟩⟩;have HXC:=aB hxc;have HXR:=aB hxr;have HX1:=aB hx1;have hnone:B=X->m=0/\d=0:=fun e=>⟨by
    by_cases h0:0<m
    · obtain⟨b,off,e2,_⟩:=HA.o.mem h0;rw[e] at e2;cases e2
    omega,HN.o e⟩
   have HNO:=aB hnone;have HCL:Hid (0<(f::args).flatten.length/\(f::args).flatten.length<=1000000):=aB (by
    have:=HF.o.len;rw[List.flatten_cons,List.length_append];omega)
   clear hxc hxr hx1 hnone;go_wp2_with (first
    | (at_builtin;refine bM rfl (aX (.tmp 52) (.tmp 53) 65 rfl w.heap.size 28 i1 _ 1 24 Tryz.underlying65 HI1.o HZ0.o HZ1.o HZ2.o rfl aE (O (Y ⟨wr.heap.size,0,X⟩) 1 1) 1 [O A n c] rfl HLIT.o B m d xs rfl aA HNO.o HXC.o HX1.o aJ aA (Nat.le_trans hbs aD) ?_);intro A5 c5 w5 happ5;go_loud (have HB5:Hid (Below w.heap.size w w5):=aB ((hbw.o.alloc hbs (.cells #[O A n c] 28)).grown happ5.grown (Nat.le_trans hbs aD) (fun g hg=>(aR HLIT.o hg).1)));go_loud (have HO5:Hid (bR w5 w.heap.size (O A1 m k1) (List.replicate m ⟨6,0,0⟩)):=aB (M8 hown.o happ5.grown));go_loud (have HR5:=aB (KU (ls:=f::args) happ5.own (by simp;have:=HA.o.len;omega) aA (show eL (· < w.heap.size) w5 ([O A n c]++xs) (f::args) from⟨⟨A,n,c,rfl,HF.o.keep fun b hb=>⟨hb,fun o=>HB5.o.cell (p:=⟨b,o,X⟩) hb⟩⟩,HXR.o.keep fun b hb=>⟨hb,fun o=>(HB5.o.cell (p:=⟨b,o,X⟩) hb).trans ((hbw.o.alloc hbs (.cells #[O A n c] 28)).cell (p:=⟨b,o,X⟩) hb).symm⟩⟩) (fun b hb=>Nat.lt_of_lt_of_le hb HB5.o.size))))
    | (go_at_call 104;refine (CG HR5.o HCL.o.1 HCL.o.2).mono ?_;rintro e w6 ⟨hb6,A6,n6,c6,rfl,ht6⟩;have HB6:=dA HB5 hb6;have HO6:=aB (bR.below HO5.o hb6);have HT6:=aB ht6;have HL6:=aB ht6.len)
    | (at_builtin;refine bM rfl (cQ (.tmp 50) (.tmp 55) 28 28 rfl w.heap.size i0 Tryz.underlying28 Tryz.underlying28 HI0.o HY0.o HY1.o HY2.o (O A1 m k1) (List.replicate m ⟨6,0,0⟩) (f::args).flatten rfl HO6.o rfl HT6.o (by have:=HL6.o;have:=HCL.o.2;rw[List.length_replicate];omega) HB6.o.size ?_);intro A7 c7 w7 hown7 happ7))
   go_ret2;rw[HQ.o];refine⟨HB6.o.grown happ7.grown HB6.o.size (fun g hg=>(aR HO6.o hg).1),A7,_,c7,rfl,?_⟩;have h7:=kI hown7 (by rw[List.length_append,List.length_replicate];have:=HCL.o.2;omega);rw[List.flatten_cons,List.length_replicate] at h7;exact h7
def MB (vs:List Value) (w:World) (e:Ending) (w':World):Prop:=Below w.heap.size w w'/\∃A c,e=.returned (O A vs.length c)/\w'.ownsRow w.heap.size 28 1 (O A vs.length c) vs.length vs
theorem CD {A:Option Addr} {base n c:Nat} {vs:List Value} {w:World} (h:w.ownsRow base 28 1 (O A n c) n vs) (h1:∀u ∈ vs,u.oneCell'=true) (hn:n<=1000000) :
 Calls Tryz.prog 76 #[O A n c] w (MB vs w):=by
 have q22:∀(w:World) (a:Option Addr) (n c n' c':Nat),(binOp .eql 65 (O a n c) (O X n' c')).run Tryz.prog w=.ok (.bool a.isNone) w:=fun w a n c n' c'=>Lib.run_eql_slice_nil w _ _ a n c n' c' Tryz.underlying65;have hl:vs.length=n:=by have:=h.1;omega
 cases A with
 | none =>
  have hn0:n=0:=by
   rcases h.2 with⟨_,h2⟩ | ⟨g,cap',cur,hv,_⟩
   · exact h2
   cases hv
  subst hn0;have hvs:vs=[]:=List.eq_nil_of_length_eq_zero hl;subst hvs;clear h h1 hl hn;go_in;go_wp2_with fail;go_ret;exact⟨Below.refl _ _,X,0,rfl,World.ownsRow_nil _ _ _ _⟩
 | some a =>
  obtain⟨i0,hi,hy0,hy1,hy2⟩:=info_parts vK;have HI0:=aB hi;have HY0:=aB hy0;have HY1:=aB hy1;have HY2:=aB hy2;clear hi hy0 hy1 hy2;have HB:=aB (aP w (.cells #[] 28));have HM:=aB (bL h HB.o);have HOWN:Hid ((w.alloc (.cells #[] 28)).ownsRow w.heap.size 28 1 (O (Y ⟨w.heap.size,0,X⟩) 0 0) 0 []):=aB (World.ownsRow_made w #[] 0 (Nat.le_refl _) (Nat.zero_le _) rfl);have HL:=aB hl;have HX:Hid (∀ad,Y a=Y ad->∀j u,vs[j]? = Y u->(w.alloc (.cells #[] 28)).cell? (ad.add j)=Y u):=aB fun ad e j u hu=>by
   injection e with e;subst e;rcases HM.o.2 with⟨hv,_⟩ | ⟨g,cap',cur,hv,_⟩
   · cases hv
   injection hv with e1 e2 e3;injection e1 with e1;subst e1;exact World.ownsRow.cells HM.o (g:=g) rfl j u hu
  have H1:=aB h1;clear h hl h1;go_in;go_wp2_with (at_builtin;go_loud (refine bM rfl (aX (.tmp 5) (.tmp 6) 65 rfl w.heap.size 28 i0 _ 1 24 Tryz.underlying65 HI0.o HY0.o HY1.o HY2.o rfl aE (O (Y ⟨w.heap.size,0,X⟩) 0 0) 0 [] rfl HOWN.o (Y a) n c vs rfl (by rw[HL.o,Nat.mul_one]) (fun e=>by cases e) HX.o H1.o aJ aA aD ?_));intro A4 c4 w4 happ4)
  go_ret;refine⟨HB.o.grown happ4.grown HB.o.size (fun g hg=>(aR HOWN.o hg).1),A4,c4,?_,?_⟩
  · rw[HL.o];first | rfl | (rw[Nat.zero_add];rfl)
  have:=happ4.own;rw[List.nil_append,Nat.zero_add] at this;rw[HL.o];exact this
end Go.Proofs.YtjllmblbbgojbaaGreat
