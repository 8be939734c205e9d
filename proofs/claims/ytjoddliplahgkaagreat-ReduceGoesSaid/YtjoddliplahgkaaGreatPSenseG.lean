/- sense: term.Apply, and slices.Clone at rows of terms. -/
import Derived.Test.YtjoddliplahgkaaGreatPSenseA
namespace Go.Proofs.YtjoddliplahgkaaGreat
set_option linter.unusedVariables false
set_option linter.unusedSimpArgs false
open Go.RowKit
open Go.Value renaming slice → O
open Option renaming none → X, some → Y
open Go.Lib renaming hid->aB
set_option maxHeartbeats 4000000
set_option maxRecDepth 100000
theorem QS:Tryz.t46.bytes=24:=by kernel_rfl
theorem MA {n:Nat} {w:World} (hn:n<=1000000) (h0:0<n) :
 Calls Tryz.prog 140 #[O X 0 0,.int .i64 (n:Int)] w fun e w'=>Below w.heap.size w w'/\∃g c,e=.returned (O (Y ⟨g,0,X⟩) 0 c)/\bN w' w.heap.size (O (Y ⟨g,0,X⟩) 0 c) []:=by
 have hb:=QS;have h1:(n:Int)*(Tryz.t46.bytes:Int)<=281474976710656:=by rw[hb];omega
 have h2:Builtin.nextslicecap n 0*Tryz.t46.bytes<=281474976710656:=by rw[hb];exact growslice_fits aA aA
 have a1:=grownCap_ge w n 0 46;have a0:=grownCap_le_maxLen w n 0 46 aJ;have HC:=aB (And.intro a1 a0);clear hb a1 a0;go_in;go_wp2_with fail;go_ret;obtain⟨a1,a0⟩:=HC.o;refine⟨aT (aP w _) 1,w.heap.size,grownCap w n 0 46,rfl,?_⟩;refine World.ownsRow_made w _ _ (Nat.le_refl _) a0 ?_;rw[Array.size_append,size_zeroCells,size_zeroCells];show n*3+(grownCap w n 0 46-n)*3=grownCap w n 0 46*3;omega
theorem kW {α:Type} (ls:List (List α)) {k:Nat} (h:k<ls.length) (d:List α):(ls.take (k+1)).flatten=(ls.take k).flatten++ls.getD k d:=by
 rw[List.take_succ_eq_append_getElem h,List.flatten_append];simp[List.getD_eq_getElem?_getD,List.getElem?_eq_getElem h]
theorem jN {α:Type} (ls:List (List α)) (k:Nat):(ls.take k).flatten.length<=ls.flatten.length:=by
 conv=>rhs;rw[<-List.take_append_drop k ls,List.flatten_append,List.length_append]
 omega
theorem oS {A:Option Addr} {n c:Nat} {ls:List (List Nd)} {w:World} (h:gI (· < w.heap.size) w A n c ls) (h0:0<ls.flatten.length) (hf:ls.flatten.length<=1000000) :
 Calls Tryz.prog 117 #[O A n c] w (lL ls.flatten w):=by
 obtain⟨i0,hi,b3,b2,b1⟩:=info_parts mN;have d0:=aB hi;have c6:=aB b3;have c5:=aB b2;have c3:=aB b1;have c1:=h.few;have H:=aB h;clear hi b3 b2 b1 h;go_in;go_wp2_with fail;go_loop [3,11] (fun sv iv=>∃i:Nat,i<=n/\iv=.int .i64 (i:Int)/\sv=.int .i64 (((ls.take i).flatten.length:Nat):Int)) (fun _ i=>n-(intOf i).toNat)
 case atStart=>exact⟨0,by omega,rfl,by simp⟩
 case round =>
  obtain⟨i,hi,rfl,rfl⟩:=hrel;by_cases hlt:i<n
  · obtain⟨b,off,rfl,_,hm⟩:=H.o.mem aA;obtain⟨A',n',c',hc,ht⟩:=hm i hlt;have a4:(ls.take (i+1)).flatten.length=(ls.take i).flatten.length+n':=by
     rw[kW ls (by rw[H.o.len];exact hlt) [],List.length_append,ht.len]
    have a8:=jN ls (i+1);have d3:=ht.few;clear hm ht;have b0:=aB a4;obtain⟨sz,a7⟩ : ∃sz,sz=(ls.take i).flatten.length:=⟨_,rfl⟩;rw[<-a7] at a4;rw[<-a7];have c7:=aB a7;have b9:sz+n'<=1000000:=aA;clear a4 a8 a7;go_wp2_with fail;go_round
    case rel=>exact⟨i+1,by omega,by go_num,by rw[b0.o,<-c7.o];go_num⟩
    case measure=>simp[intOf];omega
  have c0:i=n:=aA;have HF:Hid ((ls.take i).flatten=ls.flatten):=aB (by rw[List.take_of_length_le (by rw[H.o.len];omega)]);rw[HF.o];obtain⟨N,hN⟩ : ∃N,N=ls.flatten.length:=⟨_,rfl⟩;rw[<-hN] at h0 hf;rw[<-hN];have HN:=aB hN;have a6:=aB (fun w=>MA (w:=w) hf h0);clear hN;go_wp2_with fail;refine (a6.o _).mono ?_;rintro e w2 ⟨b5,g,c2,rfl,a2⟩;have d2:=aB b5;have c9:=aB a2;clear b5 a2;go_wp2_with fail;go_loopw [6,27] (fun sv iv wr=>∃(i:Nat) (A1:Option Addr) (k1:Nat),i<=n/\iv=.int .i64 (i:Int)/\sv=O A1 (ls.take i).flatten.length k1/\Hid (bN wr w.heap.size (O A1 (ls.take i).flatten.length k1) (ls.take i).flatten)/\Hid (Below w.heap.size w wr)) (fun _ i _=>n-(intOf i).toNat)
  case atStart=>exact⟨0,Y ⟨g,0,X⟩,c2,by omega,rfl,rfl,by simpa using c9,d2⟩
  case round =>
   obtain⟨i,A1,k1,hi,rfl,rfl,a0,a5⟩:=hrel;by_cases hlt:i<n
   · obtain⟨b,off,rfl,hb,hm⟩:=H.o.mem aA;obtain⟨A',n',c',hc,ht⟩:=hm i hlt;have d4:wr.cell? ⟨b,off+i,X⟩=Y (O A' n' c'):=(a5.o.cell (p:=⟨b,off+i,X⟩) hb).trans hc;have HT:=aB (aY.below ht a5.o);have a9:=kW ls (by rw[H.o.len];exact hlt) [];have a8:=jN ls (i+1);rw[a9,List.length_append,ht.len,<-HN.o] at a8;have b7:=aB a9;have b6:=aB ht.len;generalize (ls.take i).flatten=l at *;clear hm hc ht a9;have b4:=a5.o.size;go_wp2_with (at_builtin;refine bL rfl (cE (.tmp 31) (.tmp 32) 29 29 rfl w.heap.size i0 Tryz.underlying29 Tryz.underlying29 d0.o c6.o c5.o c3.o (O A1 l.length k1) l (ls.getD i []) rfl a0.o rfl HT.o aA b4 ?_);intro A4 c4 w4 a1 a3)
     have c8:=aB a1;have d1:=aB (a5.o.grown a3.grown b4 (fun g hg=>(aU a0.o hg).1));clear a1 a3;go_roundw
     case rel=>exact⟨i+1,A4,c4,by omega,by go_num,by rw[b7.o,List.length_append,b6.o],aB (by rw[b7.o,List.length_append,b6.o];exact c8.o),d1⟩
     case measure=>simp[intOf];omega
   have c0:i=n:=aA;have b8:Hid ((ls.take i).flatten=ls.flatten):=aB (by rw[List.take_of_length_le (by rw[H.o.len];omega)]);rw[b8.o] at a0;rw[b8.o];go_wp2_with fail;go_ret;exact⟨a5.o,A1,_,k1,rfl,nM a0.o (by have:=HN.o;omega)⟩
def eP:List (List Nd)->Int
 | []=>0
 | a::r=>if a8 a=0 then eP r else a8 a
def iJ (f:List Nd) (args:List (List Nd)):List Nd×Int :=
 if a8 f ≠ 0 then ([],a8 f) else if eP args ≠ 0 then ([],eP args)
 else if 4096<f.length+(args.flatten.length+args.length) then ([],9) else (List.replicate args.length ⟨6,0,0⟩++(f++args.flatten),0)
theorem pL (l r:List (List Nd)):eP (l++r)=if eP l=0 then eP r else eP l:=by
 induction l with
 | nil=>simp[eP]
 | cons a l ih =>
  by_cases h:a8 a=0
  · simp[eP,h,ih]
  · simp[eP,h]
theorem NS {α:Type} (ls:List (List α)) {k:Nat} (h:k<ls.length):ls.take (k+1)=ls.take k++[ls.getD k []]:=by
 rw[List.take_succ_eq_append_getElem h];simp[List.getD_eq_getElem?_getD,List.getElem?_eq_getElem h]
theorem vN {args:List (List Nd)} {k:Nat} (h:k<args.length) (h0:eP (args.take k)=0):(a8 (args.getD k [])=0->eP (args.take (k+1))=0)/\(a8 (args.getD k []) ≠ 0->eP args=a8 (args.getD k [])):=by
 have h1:eP (args.take (k+1))=a8 (args.getD k []):=by
  rw[NS args h,pL,if_pos h0];simp only[eP];split<;>omega
 refine⟨fun h2=>by rw[h1,h2],fun h2 => ?_⟩
 conv=>lhs;rw[<-List.take_append_drop (k+1) args]
 rw[pL,if_neg (by rw[h1];exact h2),h1]
theorem bS.of_at {S:Nat->Prop} {w:World} : ∀{xs:List Value} {ls:List (List Nd)},xs.length=ls.length->(∀k,k<ls.length->∃A n c,xs[k]? = Y (O A n c)/\bJ S w A n c (ls.getD k []))->bS S w xs ls
 | [],[],_,_=>trivial
 | [],_::_,h,_=>by simp at h
 | _::_,[],h,_=>by simp at h
 | x::xs,l::ls,h,hk=>by
  refine⟨?_,bS.of_at (by simpa using h) fun k hkl => ?_⟩
  · obtain⟨A,n,c,e,ht⟩:=hk 0 aD;exact⟨A,n,c,by simpa using e,by simpa using ht⟩
  · obtain⟨A,n,c,e,ht⟩:=hk (k+1) (by simpa using hkl);exact⟨A,n,c,by simpa using e,by simpa using ht⟩
theorem gI.values {R:Nat->Prop} {w:World} {A:Option Addr} {n c:Nat} {ls:List (List Nd)} (h:gI R w A n c ls) : ∃xs:List Value,xs.length=n/\(∀ad,A=Y ad->∀j u,xs[j]? = Y u->w.cell? (ad.add j)=Y u)/\bS R w xs ls/\∀u ∈ xs,u.oneCell'=true:=by
 by_cases hn:0<n;rotate_left
 · obtain rfl:n=0:=aA;have hl:ls=[]:=List.eq_nil_of_length_eq_zero h.len;subst hl;exact⟨[],rfl,fun _ _ j u hu=>by simp at hu,trivial,fun u hu=>by simp at hu⟩
 obtain⟨b,off,e,_,hm⟩:=h.mem hn;have a0:∀k:Nat,∃v:Value,k<n->∃A' n' c',v=O A' n' c'/\w.cell? ⟨b,off+k,X⟩=Y v/\bJ R w A' n' c' (ls.getD k []):=fun k=>by
  by_cases hk:k<n
  · obtain⟨A',n',c',h1,h2⟩:=hm k hk;exact⟨_,fun _=>⟨A',n',c',rfl,h1,h2⟩⟩
  exact⟨undef,fun h=>absurd h hk⟩
 obtain⟨V,hV⟩ : ∃V:Nat->Value,∀k,k<n->∃A' n' c',V k=O A' n' c'/\w.cell? ⟨b,off+k,X⟩=Y (V k)/\bJ R w A' n' c' (ls.getD k []):=⟨fun k=>(a0 k).choose,fun k=>(a0 k).choose_spec⟩;refine⟨(List.range n).map V,by simp,fun ad ha j u hu => ?_,bS.of_at (by simp[h.len]) fun k hk => ?_,fun u hu => ?_⟩
 · rw[e] at ha;injection ha with ha;subst ha;have ea:(⟨b,off,X⟩:Addr).add j=⟨b,off+j,X⟩:=by unfold Addr.add;split<;>simp_all
   have hj:j<n:=by have:=(List.getElem?_eq_some_iff.1 hu).1;simpa using this
   obtain⟨_,_,_,_,h2,_⟩:=hV j hj;rw[ea,h2];simp[hj] at hu;rw[hu]
 · have a1:k<n:=by rw[<-h.len];exact hk
   obtain⟨A',n',c',h1,_,h3⟩:=hV k a1;exact⟨A',n',c',by simp[a1,h1],h3⟩
 rw[List.mem_map] at hu;obtain⟨k,hk,rfl⟩:=hu;obtain⟨_,_,_,h1,_,_⟩:=hV k (by simpa using hk);rw[h1];rfl
theorem MH (n:Nat) (hn:n<=1000000) (w:World) : ∃cur:Array Value,cur.size=n*3/\(Instr.makeSlice 29 (.int .i64 0) (.int .i64 (n:Int))).run Tryz.prog w=.ok (O (Y ⟨w.heap.size,0,X⟩) 0 n) (w.alloc (.cells cur 46)):=by
 obtain⟨i,hi,h1,h2,h3⟩:=info_parts mN;refine⟨madeCells (Value.agg #[Value.int .i64 0,Value.int .i64 0,Value.int .i64 0]).cells (n*3),by simp[madeCells],?_⟩;rw[run_make (P:=Tryz.prog) w 29 46 i _ Tryz.underlying29 hi h1 .i64 .i64 0 n aA aA (by rw[h3];omega) aA,h2];rfl
theorem FQ {w w':World} {A:Option Addr} {n c:Nat} {ls:List (List Nd)} (h:gI (· < w.heap.size) w A n c ls) (hb:Below w.heap.size w w'):gI (· < w.heap.size) w' A n c ls :=
 h.keep fun b hb'=>⟨hb',fun o=>hb.cell (p:=⟨b,o,X⟩) hb'⟩
theorem PA {w w5:World} {base:Nat} {v:Value} {l:List Nd} {o:Obj} (h:bN w base v l) (hg:(w.alloc o).grownBy w5 (Y w.heap.size)):bN w5 base v l :=
 World.ownsRow.kept (bN.alloc h o) hg (.inr fun e=>by have:=(aU h e).2.1;omega)
def KZ (q:List Nd×Int) (w:World) (e:Ending) (w':World):Prop:=Below w.heap.size w w'/\∃A n c,e=.returned (.tuple #[O A n c,.int .i64 q.2])/\bJ (fJ w w') w' A n c q.1
def P5 (q:List Nd×Int) (w:World) (e:Ending) (w':World):Prop:=Below w.heap.size w w'/\∃A n c,e=.returned (.tuple #[O A n c,.int .i64 q.2])/\bN w' w.heap.size (O A n c) q.1
theorem rL {q:List Nd×Int} {w w':World} {z:Int} (hq:q=([],z)) (hb:Below w.heap.size w w'):P5 q w (.returned (.tuple #[O X 0 0,.int .i64 z])) w':=by
 subst hq;exact⟨hb,X,0,0,rfl,bN.nil _ _⟩
theorem DV (f:List Nd) (args:List (List Nd)):(iJ f args).1.length<=4096:=by
 unfold iJ;split
 · simp
 split
 · simp
 split
 · simp
 rw[List.length_append,List.length_append,List.length_replicate];omega
theorem wB {A B:Option Addr} {n c m d:Nat} {f:List Nd} {args:List (List Nd)} {w:World} (hf:aY w A n c f) (ha:gI (· < w.heap.size) w B m d args) (hnul:B=X->d=0) :
 Calls Tryz.prog 77 #[O A n c,O B m d] w (P5 (iJ f args) w):=by
 obtain⟨i0,hi,d6,d5,d4⟩:=info_parts mN;have f4:=aB hi;have f0:=aB d6;have e9:=aB d5;have e8:=aB d4;obtain⟨i1,e4,b2,b1,b0⟩:=info_parts BX;have h5:=aB e4;have f9:=aB b2;have f8:=aB b1;have f7:=aB b0;clear hi d6 d5 d4 e4 b2 b1 b0;have HF:=aB hf;have HA:=aB ha;have HN:=aB hnul;have i7:=ha.few;have i6:=hf.few;have c3:=aB (dP hf);clear hf ha hnul;by_cases hsf:a8 f=0;rotate_left
 · have HQ:Hid (iJ f args=([],a8 f)):=aB (by unfold iJ;rw[if_pos hsf]);have hz:(a8 f != 0)=true:=by simpa using hsf
   generalize a8 f=z at *;clear hsf;go_in;go_wp2_with fail;refine (c3.o).mono ?_;rintro e w2 ⟨rfl,b7⟩;have d2:=aB b7;clear b7;go_wp2_with fail;go_ret2;exact rL HQ.o d2.o
 have e1:n<=4096/\0<n:=by
  obtain⟨h1,_,_,_,_,h2,_⟩:=fB hsf;rw[HF.o.len] at h1;have:=HF.o.len;rw[h2] at this;simp at this;omega
 obtain⟨e1,i3⟩:=e1;rw[hsf] at c3;have c8:=aB hsf;clear hsf;go_in;go_wp2_with fail;refine (c3.o).mono ?_;rintro e w2 ⟨rfl,b7⟩;have d2:=aB b7;clear b7;go_wp2_with fail;go_loopw [7,21] (fun av iv wr=>∃(i T:Nat),i<=m/\iv=.int .i64 (i:Int)/\av=.int .i64 (T:Int)/\T<=4097/\Hid (T=min (n+((args.take i).flatten.length+i)) 4097)/\Hid (eP (args.take i)=0)/\Hid (Below w.heap.size w wr)) (fun _ i _=>m-(intOf i).toNat)
 case atStart=>exact⟨0,n,by omega,rfl,rfl,by omega,aB aG,aB rfl,d2⟩
 case round =>
  obtain⟨i,T,hi,rfl,rfl,hT,e6,b5,a1⟩:=hrel;by_cases hlt:i<m
  · obtain⟨b,off,rfl,hb,hm⟩:=HA.o.mem aA;obtain⟨A',n',c',hc,ht⟩:=hm i hlt;have i9:wr.cell? ⟨b,off+i,X⟩=Y (O A' n' c'):=(a1.o.cell (p:=⟨b,off+i,X⟩) hb).trans hc;have HS:=aB (dP (aY.below ht a1.o));have f3:=aB (vN (args:=args) (by rw[HA.o.len];exact hlt) b5.o);have h6:=aB (kW args (by rw[HA.o.len];exact hlt) []);have g3:=aB ht.len;have i5:=ht.few;generalize args.getD i []=a at *;clear hm hc ht;by_cases hsa:a8 a=0
    · rw[hsa] at HS;have d3:=aB (f3.o.1 hsa);obtain⟨T',e7⟩ : ∃T',T'=min (T+1+n') 4097:=⟨_,rfl⟩;have f6:min ((T:Int)+1+(n':Int)) 4097=(T':Int):=aA;have g5:Hid (T'=min (n+((args.take (i+1)).flatten.length+(i+1))) 4097):=aB (by
       rw[h6.o,List.length_append,g3.o,e7,e6.o];omega)
      have c2:T'<=4097:=aA;clear hsa e7;go_wp2_with fail;refine (HS.o).mono ?_;rintro e w3 ⟨rfl,b6⟩;have d1:=bZ a1 b6;clear b6;go_wp2_with fail;go_roundw
      case rel=>exact⟨i+1,T',by omega,by go_num,by first | rw[<-f6];rfl | go_num,c2,g5,d3,d1⟩
      case measure=>simp[intOf];omega
    have HQ:Hid (iJ f args=([],a8 a)):=aB (by
     have h1:=f3.o.2 hsa;unfold iJ;rw[if_neg (by rw[c8.o];decide),if_pos (by rw[h1];exact hsa),h1])
    generalize a8 a=z at *;have hz:(z != 0)=true:=by simpa using hsa
    clear hsa;go_wp2_with fail;refine (HS.o).mono ?_;rintro e w3 ⟨rfl,b6⟩;have d1:=bZ a1 b6;clear b6;go_wp2_with fail;go_ret2;exact rL HQ.o d1.o
  have e3:i=m:=aA;have h8:Hid (args.take i=args):=aB (List.take_of_length_le (by rw[HA.o.len];omega));have a0:=b5.o;have a3:=e6.o;rw[h8.o] at a0 a3;rw[e3] at a3;clear e3;by_cases hbig:4096<T
  · have HQ:Hid (iJ f args=([],9)):=aB (by
     unfold iJ;rw[if_neg (by rw[c8.o];decide),if_neg (by rw[a0];decide),if_pos (by rw[HF.o.len,HA.o.len];omega)])
    clear a0 a3;go_wp2_with fail;go_ret2;exact rL HQ.o a1.o
  have HQ:Hid (iJ f args=(List.replicate m ⟨6,0,0⟩++(f++args.flatten),0)):=aB (by
   unfold iJ;rw[if_neg (by rw[c8.o];decide),if_neg (by rw[a0];decide),if_neg (by rw[HF.o.len,HA.o.len];omega),HA.o.len])
  have i4:m<=4096:=aA;have i8:args.flatten.length+n<=4096:=aA;obtain⟨cur,b4,f5⟩:=MH T aA wr;have g9:Hid (bN (wr.alloc (.cells cur 46)) w.heap.size (O (Y ⟨wr.heap.size,0,X⟩) 0 T) []):=aB (World.ownsRow_made wr cur T a1.o.size aJ b4);have d3:=aB (a1.o.alloc a1.o.size (.cells cur 46));clear a0 a3 b4;go_wp2_with fail;go_loopw [11,43] (fun ov iv wr=>∃(k k1:Nat) (A1:Option Addr),k<=m/\iv=.int .i64 (k:Int)/\ov=O A1 k k1/\Hid (bN wr w.heap.size (O A1 k k1) (List.replicate k ⟨6,0,0⟩))/\Hid (Below w.heap.size w wr)) (fun _ i _=>m-(intOf i).toNat)
  case atStart=>exact⟨0,T,_,by omega,rfl,rfl,g9,d3⟩
  case round =>
   clear f5;obtain⟨k,k1,A1,hk,rfl,rfl,a7,a1⟩:=hrel;have a9:=a1.o.size;by_cases hlt2:k<m
   · have f1:Hid (bN wr w.heap.size (O A1 (List.replicate k (⟨6,0,0⟩:Nd)).length k1) (List.replicate k ⟨6,0,0⟩)):=aB (by rw[List.length_replicate];exact a7.o);go_wp2_with (at_builtin;refine bL rfl (cQ (.tmp 45) (.tmp 47) 29 rfl w.heap.size i0 Tryz.underlying29 f4.o f0.o e9.o e8.o (O A1 (List.replicate k (⟨6,0,0⟩:Nd)).length k1) (List.replicate k ⟨6,0,0⟩) ⟨6,0,0⟩ wr aF (by rw[List.length_replicate];rfl) f1.o _ aF aD aG aA ?_);intro A4 c4 w4 a4 a6)
     have g8:Hid (bN w4 w.heap.size (O A4 (k+1) c4) (List.replicate (k+1) ⟨6,0,0⟩)):=aB (by
      have:=a4;rw[List.length_replicate,<-List.replicate_succ'] at this;exact this)
     have h9:=aB (a1.o.grown a6.grown a9 (fun g hg=>(aU f1.o hg).1));clear a4 a6;go_roundw
     case rel=>exact⟨k+1,c4,A4,by omega,by go_num,rfl,g8,h9⟩
     case measure=>simp[intOf];omega
   have c1:k=m:=aA;rw[c1] at a7;rw[c1];clear c1 hlt2;obtain⟨xs,i2,d8,d7,d9⟩:=gI.values (FQ HA.o (a1.o.alloc a9 (.cells #[O A n c] 29)));have b9:Hid ((wr.alloc (.cells #[O A n c] 29)).ownsRow w.heap.size 29 1 (O (Y ⟨wr.heap.size,0,X⟩) 1 1) 1 [O A n c]):=aB ⟨by simp,.inr ⟨wr.heap.size,1,#[O A n c],rfl,a9,heap_alloc_new wr _,by omega,by unfold maxLen;omega,rfl,rfl⟩⟩;have g1:=aB d8;have g0:=aB d7;have g2:=aB d9;have a5:B=X->m=0/\d=0:=fun e=>⟨by
    by_cases h0:0<m
    · obtain⟨b,off,e2,_⟩:=HA.o.mem h0;rw[e] at e2;cases e2
    omega,HN.o e⟩
   have h3:=aB a5;have c9:Hid (0<(f::args).flatten.length/\(f::args).flatten.length<=1000000):=aB (by
    have:=HF.o.len;rw[List.flatten_cons,List.length_append];omega)
   clear d8 d7 d9 a5;go_wp2_with (first
    | (at_builtin;refine bL rfl (eE (.tmp 52) (.tmp 53) 47 rfl w.heap.size 29 i1 _ 1 24 Tryz.underlying47 h5.o f9.o f8.o f7.o rfl aE (O (Y ⟨wr.heap.size,0,X⟩) 1 1) 1 [O A n c] rfl b9.o B m d xs rfl aA h3.o g1.o g2.o aJ aA (Nat.le_trans a9 aD) ?_);intro A5 c5 w5 a2;go_loud (have c0:Hid (Below w.heap.size w w5):=aB ((a1.o.alloc a9 (.cells #[O A n c] 29)).grown a2.grown (Nat.le_trans a9 aD) (fun g hg=>(aU b9.o hg).1)));go_loud (have g7:Hid (bN w5 w.heap.size (O A1 m k1) (List.replicate m ⟨6,0,0⟩)):=aB (PA a7.o a2.grown));go_loud (have g6:=aB (MS (ls:=f::args) a2.own (by simp;have:=HA.o.len;omega) aA (show bS (· < w.heap.size) w5 ([O A n c]++xs) (f::args) from⟨⟨A,n,c,rfl,HF.o.keep fun b hb=>⟨hb,fun o=>c0.o.cell (p:=⟨b,o,X⟩) hb⟩⟩,g0.o.keep fun b hb=>⟨hb,fun o=>(c0.o.cell (p:=⟨b,o,X⟩) hb).trans ((a1.o.alloc a9 (.cells #[O A n c] 29)).cell (p:=⟨b,o,X⟩) hb).symm⟩⟩) (fun b hb=>Nat.lt_of_lt_of_le hb c0.o.size))))
    | (go_at_call 117;refine (oS g6.o c9.o.1 c9.o.2).mono ?_;rintro e w6 ⟨e5,A6,n6,c6,rfl,e0⟩;have d0:=bZ c0 e5;have f2:=aB (bN.below g7.o e5);have g4:=aB e0;have h4:=aB e0.len)
    | (at_builtin;refine bL rfl (cE (.tmp 50) (.tmp 55) 29 29 rfl w.heap.size i0 Tryz.underlying29 Tryz.underlying29 f4.o f0.o e9.o e8.o (O A1 m k1) (List.replicate m ⟨6,0,0⟩) (f::args).flatten rfl f2.o rfl g4.o (by have:=h4.o;have:=c9.o.2;rw[List.length_replicate];omega) d0.o.size ?_);intro A7 c7 w7 b3 b8))
   go_ret2;rw[HQ.o];refine⟨d0.o.grown b8.grown d0.o.size (fun g hg=>(aU f2.o hg).1),A7,_,c7,rfl,?_⟩;have h7:=b3;rw[List.flatten_cons,List.length_replicate] at h7;exact h7
theorem IK {A B:Option Addr} {n c m d:Nat} {f:List Nd} {args:List (List Nd)} {w:World} (hf:aY w A n c f) (ha:gI (· < w.heap.size) w B m d args) (hnul:B=X->d=0) :
 Calls Tryz.prog 77 #[O A n c,O B m d] w (KZ (iJ f args) w):=by
 refine (wB hf ha hnul).mono ?_;rintro e w' ⟨hb,A',n',c',rfl,ho⟩;have:=DV f args;exact⟨hb,A',n',c',rfl,nM ho aA⟩
def OA (vs:List Value) (w:World) (e:Ending) (w':World):Prop:=Below w.heap.size w w'/\∃A c,e=.returned (O A vs.length c)/\w'.ownsRow w.heap.size 29 1 (O A vs.length c) vs.length vs
theorem D8 {A:Option Addr} {base n c:Nat} {vs:List Value} {w:World} (h:w.ownsRow base 29 1 (O A n c) n vs) (h1:∀u ∈ vs,u.oneCell'=true) (hn:n<=1000000) :
 Calls Tryz.prog 118 #[O A n c] w (OA vs w):=by
 have q22:∀(w:World) (a:Option Addr) (n c n' c':Nat),(binOp .eql 47 (O a n c) (O X n' c')).run Tryz.prog w=.ok (.bool a.isNone) w:=fun w a n c n' c'=>Lib.run_eql_slice_nil w _ _ a n c n' c' Tryz.underlying47;have hl:vs.length=n:=by have:=h.1;omega
 cases A with
 | none =>
  have a6:n=0:=by
   rcases h.2 with⟨_,h2⟩ | ⟨g,cap',cur,hv,_⟩
   · exact h2
   cases hv
  subst a6;have a5:vs=[]:=List.eq_nil_of_length_eq_zero hl;subst a5;clear h h1 hl hn;go_in;go_wp2_with fail;go_ret;exact⟨Below.refl _ _,X,0,rfl,World.ownsRow_nil _ _ _ _⟩
 | some a =>
  obtain⟨i0,hi,a4,a3,a2⟩:=info_parts BX;have b0:=aB hi;have a9:=aB a4;have a8:=aB a3;have a7:=aB a2;clear hi a4 a3 a2;have HB:=aB (aP w (.cells #[] 29));have HM:=aB (cB h HB.o);have a1:Hid ((w.alloc (.cells #[] 29)).ownsRow w.heap.size 29 1 (O (Y ⟨w.heap.size,0,X⟩) 0 0) 0 []):=aB (World.ownsRow_made w #[] 0 (Nat.le_refl _) (Nat.zero_le _) rfl);have HL:=aB hl;have HX:Hid (∀ad,Y a=Y ad->∀j u,vs[j]? = Y u->(w.alloc (.cells #[] 29)).cell? (ad.add j)=Y u):=aB fun ad e j u hu=>by
   injection e with e;subst e;rcases HM.o.2 with⟨hv,_⟩ | ⟨g,cap',cur,hv,_⟩
   · cases hv
   injection hv with e1 e2 e3;injection e1 with e1;subst e1;exact World.ownsRow.cells HM.o (g:=g) rfl j u hu
  have H1:=aB h1;clear h hl h1;go_in;go_wp2_with (at_builtin;go_loud (refine bL rfl (eE (.tmp 5) (.tmp 6) 47 rfl w.heap.size 29 i0 _ 1 24 Tryz.underlying47 b0.o a9.o a8.o a7.o rfl aE (O (Y ⟨w.heap.size,0,X⟩) 0 0) 0 [] rfl a1.o (Y a) n c vs rfl (by rw[HL.o,Nat.mul_one]) (fun e=>by cases e) HX.o H1.o aJ aA aD ?_));intro A4 c4 w4 a0)
  go_ret;refine⟨HB.o.grown a0.grown HB.o.size (fun g hg=>(aU a1.o hg).1),A4,c4,?_,?_⟩
  · rw[HL.o];first | rfl | (rw[Nat.zero_add];rfl)
  have:=a0.own;rw[List.nil_append,Nat.zero_add] at this;rw[HL.o];exact this
end Go.Proofs.YtjoddliplahgkaaGreat
