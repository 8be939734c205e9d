/- sense: term.Apply, and slices.Clone at rows of terms. -/
import Derived.Test.YtlahmbhimhmoaaaVSenseA
namespace Go.Proofs.Ytlahmbhimhmoaaa
set_option linter.unusedVariables false
set_option linter.unusedSimpArgs false
open Go.RowKit
open Go.Value renaming slice → O
open Option renaming none → X, some → Y
open Go.Lib renaming hid->aB
set_option maxHeartbeats 4000000
set_option maxRecDepth 100000
variable {c n:Nat}{A:OC}{w:OE}
theorem JI:Try.t42.bytes=24:=by kernel_rfl
theorem EO(z:n<=1000000)(U:0<n):
 Calls Try.prog 101 #[O X 0 0,.int .i64 (n:Int)] w fun e w'=>OB w w'/\∃g c,e=.returned (O (Y ⟨g,0,X⟩) 0 c)/\bG w' w.heap.size (O (Y ⟨g,0,X⟩) 0 c) []:=by
 have G:=JI;have Z:(n:Int)*(Try.t42.bytes:Int)<=281474976710656:=by rw[G];omega
 have h:Builtin.nextslicecap n 0*Try.t42.bytes<=281474976710656:=by rw[G];exact growslice_fits aA aA
 have s:(n:Int)<=9223372036854775807:=aA;have F:=grownCap_ge w n 0 42;have D:=grownCap_le_maxLen w n 0 42 aJ;have I:=aB (And.intro F D);clear G F D;go_in;go_wp2_with fail;go_ret;obtain⟨F,D⟩:=I.o;refine⟨aU (aQ w _) 1,w.heap.size,grownCap w n 0 42,rfl,?_⟩;refine World.ownsRow_made w _ _ (MF _) D ?_;rw[Array.size_append,size_zeroCells,size_zeroCells];show n*3+(grownCap w n 0 42-n)*3=grownCap w n 0 42*3;omega
theorem iE{α:Type}(ls:List (List α)){k:Nat}(h:k<ls.length)(d:List α):(ls.take (k+1)).flatten=(ls.take k).flatten++ls.getD k d:=by
 rw[List.take_succ_eq_append_getElem h,List.flatten_append];simp[MK,MI h]
theorem gE{α:Type}(ls:List (List α))(k:Nat):(ls.take k).flatten.length<=ls.flatten.length:=by
 conv=>rhs;rw[<-List.take_append_drop k ls,List.flatten_append,MG]
 omega
theorem kK{ls:OD}(h:dN (· < w.heap.size) w A n c ls)(h0:0<ls.flatten.length)(hf:ls.flatten.length<=1000000):
 Calls Try.prog 92 #[O A n c] w (zH ls.flatten w):=by
 obtain⟨i0,hi,a9,b0,b1⟩:=info_parts mK;obtain⟨b4,b8,b9,c0⟩:=OI hi a9 b0 b1;have c5:=h.few;have H:=aB h;clear hi a9 b0 b1 h;go_in;go_wp2_with fail;go_loop [3,11] (fun sv iv=>∃i:Nat,i<=n/\iv=.int .i64 (i:Int)/\sv=.int .i64 (((ls.take i).flatten.length:Nat):Int)) (fun _ i=>n-(intOf i).toNat)
 case atStart=>exact⟨0,by omega,rfl,by simp⟩
 case round =>
  obtain⟨i,hi,rfl,rfl⟩:=hrel;by_cases I:i<n
  . obtain⟨b,off,rfl,_,hm⟩:=H.o.mem aA;obtain⟨A',n',c',hc,ht⟩:=hm i I;have s:(ls.take (i+1)).flatten.length=(ls.take i).flatten.length+n':=by
     rw[iE ls (by rw[H.o.len];exact I) [],MG,ht.len]
    have a2:=gE ls (i+1);have c3:=ht.cap;have c8:=ht.few;clear hm ht;have a5:=aB s;obtain⟨sz,z⟩:=OM (ls.take i).flatten.length;rw[<-z]at s;rw[<-z];have b7:=aB z;have c6:sz+n'<=1000000:=aA;clear s a2 z;go_wp2_with fail;go_round
    case rel=>exact⟨i+1,by omega,by go_num,by rw[a5.o,<-b7.o];go_num⟩
    case measure=>simp[intOf];omega
  have c1:i=n:=aA;have HF:Hid ((ls.take i).flatten=ls.flatten):=aB (by rw[OA (by rw[H.o.len];omega)]);rw[HF.o];obtain⟨N,hN⟩:=OM ls.flatten.length;rw[<-hN]at h0 hf;rw[<-hN];have HN:=aB hN;have a0:=aB (fun w=>EO (w:=w) hf h0);clear hN;go_wp2_with fail;refine (a0.o _).mono ?_;rintro e w2 ⟨a7,g,c2,rfl,U⟩;have b2:=aB a7;have b5:=aB U;clear a7 U;go_wp2_with fail;go_loopw [6,27] (fun sv iv wr=>∃(i:Nat)(A1:OC)(k1:Nat),i<=n/\iv=.int .i64 (i:Int)/\sv=O A1 (ls.take i).flatten.length k1/\Hid (bG wr w.heap.size (O A1 (ls.take i).flatten.length k1) (ls.take i).flatten)/\Hid (OB w wr)) (fun _ i _=>n-(intOf i).toNat)
  case atStart=>exact⟨0,Y ⟨g,0,X⟩,c2,by omega,rfl,rfl,by simpa using b5,b2⟩
  case round =>
   obtain⟨i,A1,k1,hi,rfl,rfl,D,G⟩:=hrel;by_cases I:i<n
   . obtain⟨b,off,rfl,hb,hm⟩:=H.o.mem aA;obtain⟨A',n',c',hc,ht⟩:=hm i I;have c7:wr.cell? ⟨b,off+i,X⟩=Y (O A' n' c'):=(G.o.cell (p:=⟨b,off+i,X⟩) hb).trans hc;have HT:=aB (aX.below ht G.o);have a1:=iE ls (by rw[H.o.len];exact I) [];have a2:=gE ls (i+1);rw[a1,MG,ht.len,<-HN.o]at a2;have a4:=aB a1;have a6:=aB ht.len;generalize (ls.take i).flatten=l at *;clear hm hc ht a1;have a8:=G.o.size;go_wp2_with (at_builtin;refine bL rfl (cT (.tmp 31) (.tmp 32) 29 29 rfl w.heap.size i0 Try.underlying29 Try.underlying29 b4.o b8.o b9.o c0.o (O A1 l.length k1) l (ls.getD i []) rfl D.o rfl HT.o aA a8 ?_);intro A4 c4 w4 Z F)
     obtain⟨b6,b3⟩:=OF Z (G.o.grown F.grown a8 (fun g hg=>(aV D.o hg).1));clear Z F;go_roundw
     case rel=>exact⟨i+1,A4,c4,by omega,by go_num,by rw[a4.o,MG,a6.o],aB (by rw[a4.o,MG,a6.o];exact b6.o),b3⟩
     case measure=>simp[intOf];omega
   have c1:i=n:=aA;have a3:Hid ((ls.take i).flatten=ls.flatten):=aB (by rw[OA (by rw[H.o.len];omega)]);rw[a3.o]at D;rw[a3.o];go_wp2_with fail;go_ret;exact⟨G.o,A1,_,k1,rfl,gH D.o (by have:=HN.o;omega)⟩
def cP:List (List Nd)->Int
 | []=>0
 | a::r=>if aZ a=0 then cP r else aZ a
def fB(f:List Nd)(args:OD):List Nd×Int :=
 if aZ f≠0 then ([],aZ f) else if cP args≠0 then ([],cP args)
 else if 4096<f.length+(args.flatten.length+args.length) then ([],9) else (List.replicate args.length ⟨6,0,0⟩++(f++args.flatten),0)
theorem lB(l r:OD):cP (l++r)=if cP l=0 then cP r else cP l:=by
 induction l with
 | nil=>simp[cP]
 | cons a l D =>
  by_cases h:aZ a=0
  . simp[cP,h,D]
  . simp[cP,h]
theorem FP{α:Type}(ls:List (List α)){k:Nat}(h:k<ls.length):ls.take (k+1)=ls.take k++[ls.getD k []]:=by
 rw[List.take_succ_eq_append_getElem h];simp[MK,MI h]
theorem qV{args:OD}{k:Nat}(h:k<args.length)(G:cP (args.take k)=0):(aZ (args.getD k [])=0->cP (args.take (k+1))=0)/\(aZ (args.getD k [])≠0->cP args=aZ (args.getD k [])):=by
 have D:cP (args.take (k+1))=aZ (args.getD k []):=by
  rw[FP args h,lB,LZ G];simp only[cP];split<;>omega
 refine⟨fun F=>by rw[D,F],fun F=>?_⟩
 conv=>lhs;rw[<-List.take_append_drop (k+1) args]
 rw[lB,aN (by rw[D];exact F),D]
theorem a8.of_at{S:Nat->Prop}{w:OE}:∀{D:List Value} {ls:OD},D.length=ls.length->(∀k,k<ls.length->∃A n c,D[k]? = Y (O A n c)/\a6 S w A n c (ls.getD k []))->a8 S w D ls
 | [],[],_,_=>trivial
 | [],_::_,h,_=>by simp at h
 | _::_,[],h,_=>by simp at h
 | x::D,l::ls,h,hk=>by
  refine⟨?_,a8.of_at (by simpa using h) fun k F=>?_⟩
  . obtain⟨A,n,c,e,ht⟩:=hk 0 aD;exact⟨A,n,c,by simpa using e,by simpa using ht⟩
  . obtain⟨A,n,c,e,ht⟩:=hk (k+1) (by simpa using F);exact⟨A,n,c,by simpa using e,by simpa using ht⟩
theorem dN.values{R:Nat->Prop}{ls:OD}(h:dN R w A n c ls):∃z:List Value,z.length=n/\(∀ad,A=Y ad->∀j u,z[j]? = Y u->w.cell? (ad.add j)=Y u)/\a8 R w z ls/\∀u∈z,u.oneCell'=true:=by
 by_cases hn:0<n;rotate_left
 . obtain rfl:n=0:=aA;have hl:ls=[]:=ND h.len;subst hl;exact⟨[],rfl,fun _ _ j u D=>by simp at D,trivial,fun u D=>by simp at D⟩
 obtain⟨b,off,e,_,hm⟩:=h.mem hn;have s:∀k:Nat,∃v:Value,k<n->∃F I G,v=O F I G/\w.cell? ⟨b,off+k,X⟩=Y v/\a6 R w F I G (ls.getD k []):=fun k=>by
  by_cases U:k<n
  . obtain⟨F,I,G,Z,h2⟩:=hm k U;exact⟨_,fun _=>⟨F,I,G,rfl,Z,h2⟩⟩
  exact⟨undef,fun h=>absurd h U⟩
 obtain⟨V,hV⟩:∃V:Nat->Value,∀k,k<n->∃F I G,V k=O F I G/\w.cell? ⟨b,off+k,X⟩=Y (V k)/\a6 R w F I G (ls.getD k []):=⟨fun k=>(s k).choose,fun k=>(s k).choose_spec⟩;refine⟨(List.range n).map V,by simp,fun ad ha j u D=>?_,a8.of_at (by simp[h.len]) fun k U=>?_,fun u D=>?_⟩
 . rw[e]at ha;injection ha with ha;subst ha;have ea:(⟨b,off,X⟩:Addr).add j=⟨b,off+j,X⟩:=by unfold Addr.add;split<;>simp_all
   have hj:j<n:=by have:=(NP.1 D).1;simpa using this
   obtain⟨_,_,_,_,h2,_⟩:=hV j hj;rw[ea,h2];simp[hj]at D;rw[D]
 . have o:k<n:=by rw[<-h.len];exact U
   obtain⟨F,I,G,Z,_,h3⟩:=hV k o;exact⟨F,I,G,by simp[o,Z],h3⟩
 rw[List.mem_map]at D;obtain⟨k,U,rfl⟩:=D;obtain⟨_,_,_,Z,_,_⟩:=hV k (by simpa using U);rw[Z];rfl
theorem EW(n:Nat)(Z:n<=1000000)(w:OE):∃D:Array Value,D.size=n*3/\(Instr.makeSlice 29 (.int .i64 0) (.int .i64 (n:Int))).run Try.prog w=.ok (O (Y ⟨w.heap.size,0,X⟩) 0 n) (w.alloc (.cells D 42)):=by
 obtain⟨i,U,F,G,I⟩:=info_parts mK;refine⟨madeCells (Value.agg #[Value.int .i64 0,Value.int .i64 0,Value.int .i64 0]).cells (n*3),by simp[madeCells],?_⟩;rw[run_make (P:=Try.prog) w 29 42 i _ Try.underlying29 U F .i64 .i64 0 n aA aA (by rw[I];omega) aA,G];rfl
theorem yT{w':OE}{ls:OD}(h:dN (· < w.heap.size) w A n c ls)(F:OB w w'):dN (· < w.heap.size) w' A n c ls :=
 h.keep fun b D=>⟨D,fun o=>F.cell (p:=⟨b,o,X⟩) D⟩
theorem G5{D:OE}{base:Nat}{v:Value}{l:List Nd}{o:Obj}(h:bG w base v l)(F:(w.alloc o).grownBy D (Y w.heap.size)):bG D base v l :=
 World.ownsRow.kept (bG.alloc h o) F (.inr fun e=>by have:=(aV h e).2.1;omega)
def DL(q:List Nd×Int)(w:OE)(e:Ending)(w':OE):Prop:=OB w w'/\∃A n c,e=.returned (.tuple #[O A n c,.int .i64 q.2])/\a6 (zX w w') w' A n c q.1
def IP(q:List Nd×Int)(w:OE)(e:Ending)(w':OE):Prop:=OB w w'/\∃A n c,e=.returned (.tuple #[O A n c,.int .i64 q.2])/\bG w' w.heap.size (O A n c) q.1
theorem mU{q:List Nd×Int}{w':OE}{z:Int}(F:q=([],z))(D:OB w w'):IP q w (.returned (.tuple #[O X 0 0,.int .i64 z])) w':=by
 subst F;exact⟨D,X,0,0,rfl,bG.nil _ _⟩
theorem wV(f:List Nd)(args:OD):(fB f args).1.length<=4096:=by
 unfold fB;split
 . simp
 split
 . simp
 split
 . simp
 rw[MG,MG,NX];omega
theorem rB{B:OC}{m d:Nat}{f:List Nd}{args:OD}(hf:aX w A n c f)(ha:dN (· < w.heap.size) w B m d args)(b0:B=X->d=0):
 Calls Try.prog 81 #[O A n c,O B m d] w (IP (fB f args) w):=by
 obtain⟨i0,hi,f0,f1,f2⟩:=info_parts mK;obtain⟨d0,d4,d5,d6⟩:=OI hi f0 f1 f2;obtain⟨i1,e1,b1,b2,b3⟩:=info_parts vB;obtain⟨f6,g9,h3,h4⟩:=OI e1 b1 b2 b3;clear hi f0 f1 f2 e1 b1 b2 b3;obtain⟨HF,HA,HN⟩:=OK hf ha b0;have i3:=ha.few;have i4:=hf.few;have c0:=aB (bM hf);clear hf ha b0;by_cases Z:aZ f=0;rotate_left
 . have HQ:Hid (fB f args=([],aZ f)):=aB (by unfold fB;rw[LZ Z]);have hz:(aZ f != 0)=true:=by simpa using Z
   generalize aZ f=z at *;clear Z;go_in;go_wp2_with fail;refine (c0.o).mono ?_;rintro e w2 ⟨rfl,a0⟩;have b5:=aB a0;clear a0;go_wp2_with fail;go_ret2;exact mU HQ.o b5.o
 have e5:n<=4096/\0<n:=by
  obtain⟨h1,_,_,_,_,h2,_⟩:=fE Z;rw[HF.o.len]at h1;have:=HF.o.len;rw[h2]at this;simp at this;omega
 obtain⟨e5,i7⟩:=e5;rw[Z]at c0;have b9:=aB Z;clear Z;go_in;go_wp2_with fail;refine (c0.o).mono ?_;rintro e w2 ⟨rfl,a0⟩;have b5:=aB a0;clear a0;go_wp2_with fail;go_loopw [7,21] (fun av iv wr=>∃(i T:Nat),i<=m/\iv=.int .i64 (i:Int)/\av=.int .i64 (T:Int)/\T<=4097/\Hid (T=min (n+((args.take i).flatten.length+i)) 4097)/\Hid (cP (args.take i)=0)/\Hid (OB w wr)) (fun _ i _=>m-(intOf i).toNat)
 case atStart=>exact⟨0,n,by omega,rfl,rfl,by omega,aB aG,aB rfl,b5⟩
 case round =>
  obtain⟨i,T,hi,rfl,rfl,hT,d9,a7,D⟩:=hrel;by_cases c8:i<m
  . obtain⟨b,off,rfl,hb,hm⟩:=HA.o.mem aA;obtain⟨A',n',c',hc,ht⟩:=hm i c8;have h9:wr.cell? ⟨b,off+i,X⟩=Y (O A' n' c'):=(D.o.cell (p:=⟨b,off+i,X⟩) hb).trans hc;have HS:=aB (bM (aX.below ht D.o));have d1:=aB (qV (args:=args) (by rw[HA.o.len];exact c8) a7.o);have f5:=aB (iE args (by rw[HA.o.len];exact c8) []);have g5:=aB ht.len;have i5:=ht.few;generalize args.getD i []=a at *;clear hm hc ht;by_cases U:aZ a=0
    . rw[U]at HS;have b4:=aB (d1.o.1 U);obtain⟨T',d7⟩:=OM (min (T+1+n') 4097);have h5:min ((T:Int)+1+(n':Int)) 4097=(T':Int):=aA;have g3:Hid (T'=min (n+((args.take (i+1)).flatten.length+(i+1))) 4097):=aB (by
       rw[f5.o,MG,g5.o,d7,d9.o];omega)
      have d8:T'<=4097:=aA;clear U d7;go_wp2_with fail;refine (HS.o).mono ?_;rintro e w3 ⟨rfl,a1⟩;have b6:=bK D a1;clear a1;go_wp2_with fail;go_roundw
      case rel=>exact⟨i+1,T',by omega,by go_num,by first|rw[<-h5];rfl|go_num,d8,g3,b4,b6⟩
      case measure=>simp[intOf];omega
    have HQ:Hid (fB f args=([],aZ a)):=aB (by
     have h1:=d1.o.2 U;unfold fB;rw[aN (by rw[b9.o];decide),LZ (by rw[h1];exact U),h1])
    generalize aZ a=z at *;have hz:(z != 0)=true:=by simpa using U
    clear U;go_wp2_with fail;refine (HS.o).mono ?_;rintro e w3 ⟨rfl,a1⟩;have b6:=bK D a1;clear a1;go_wp2_with fail;go_ret2;exact mU HQ.o b6.o
  have e3:i=m:=aA;have f4:Hid (args.take i=args):=aB (OA (by rw[HA.o.len];omega));have F:=a7.o;have h:=d9.o;rw[f4.o]at F h;rw[e3]at h;clear e3;by_cases h8:4096<T
  . have HQ:Hid (fB f args=([],9)):=aB (by
     unfold fB;rw[aN (by rw[b9.o];decide),aN (by rw[F];decide),LZ (by rw[HF.o.len,HA.o.len];omega)])
    clear F h;go_wp2_with fail;go_ret2;exact mU HQ.o D.o
  have HQ:Hid (fB f args=(List.replicate m ⟨6,0,0⟩++(f++args.flatten),0)):=aB (by
   unfold fB;rw[aN (by rw[b9.o];decide),aN (by rw[F];decide),aN (by rw[HF.o.len,HA.o.len];omega),HA.o.len])
  have i6:m<=4096:=aA;have i2:args.flatten.length+n<=4096:=aA;obtain⟨c1,a9,h6⟩:=EW T aA wr;have f9:Hid (bG (wr.alloc (.cells c1 42)) w.heap.size (O (Y ⟨wr.heap.size,0,X⟩) 0 T) []):=aB (World.ownsRow_made wr c1 T D.o.size aJ a9);have b4:=aB (D.o.alloc D.o.size (.cells c1 42));clear F h a9;go_wp2_with fail;go_loopw [11,43] (fun ov iv wr=>∃(k k1:Nat)(A1:OC),k<=m/\iv=.int .i64 (k:Int)/\ov=O A1 k k1/\Hid (bG wr w.heap.size (O A1 k k1) (List.replicate k ⟨6,0,0⟩))/\Hid (OB w wr)) (fun _ i _=>m-(intOf i).toNat)
  case atStart=>exact⟨0,T,_,by omega,rfl,rfl,f9,b4⟩
  case round =>
   clear h6;obtain⟨k,k1,A1,hk,rfl,rfl,a3,D⟩:=hrel;have I:=D.o.size;by_cases e4:k<m
   . have d3:Hid (bG wr w.heap.size (O A1 (List.replicate k (⟨6,0,0⟩:Nd)).length k1) (List.replicate k ⟨6,0,0⟩)):=aB (by rw[NX];exact a3.o);go_wp2_with (at_builtin;refine bL rfl (cH (.tmp 45) (.tmp 47) 29 rfl w.heap.size i0 Try.underlying29 d0.o d4.o d5.o d6.o (O A1 (List.replicate k (⟨6,0,0⟩:Nd)).length k1) (List.replicate k ⟨6,0,0⟩) ⟨6,0,0⟩ wr aF (by rw[NX];rfl) d3.o _ aF aD aG aA ?_);intro A4 c4 w4 a4 s)
     have g0:Hid (bG w4 w.heap.size (O A4 (k+1) c4) (List.replicate (k+1) ⟨6,0,0⟩)):=aB (by
      have:=a4;rw[NX,<-List.replicate_succ']at this;exact this)
     have f3:=aB (D.o.grown s.grown I (fun g hg=>(aV d3.o hg).1));clear a4 s;go_roundw
     case rel=>exact⟨k+1,c4,A4,by omega,by go_num,rfl,g0,f3⟩
     case measure=>simp[intOf];omega
   have c3:k=m:=aA;rw[c3]at a3;rw[c3];clear c3 e4;obtain⟨xs,i8,e8,e9,e7⟩:=dN.values (yT HA.o (D.o.alloc I (.cells #[O A n c] 29)));have a6:Hid ((wr.alloc (.cells #[O A n c] 29)).ownsRow w.heap.size 29 1 (O (Y ⟨wr.heap.size,0,X⟩) 1 1) 1 [O A n c]):=aB ⟨by simp,.inr ⟨wr.heap.size,1,#[O A n c],rfl,I,heap_alloc_new wr _,by omega,by unfold maxLen;omega,rfl,rfl⟩⟩;have g7:=aB e8;have g8:=aB e9;have g6:=aB e7;have a2:B=X->m=0/\d=0:=fun e=>⟨by
    by_cases h0:0<m
    . obtain⟨b,off,e2,_⟩:=HA.o.mem h0;rw[e]at e2;cases e2
    omega,HN.o e⟩
   have f8:=aB a2;have b8:Hid (0<(f::args).flatten.length/\(f::args).flatten.length<=1000000):=aB (by
    have:=HF.o.len;rw[NS,MG];omega)
   clear e8 e9 e7 a2;go_wp2_with (first
    | (at_builtin;refine bL rfl (cQ (.tmp 52) (.tmp 53) 46 rfl w.heap.size 29 i1 _ 1 24 Try.underlying46 f6.o g9.o h3.o h4.o rfl aE (O (Y ⟨wr.heap.size,0,X⟩) 1 1) 1 [O A n c] rfl a6.o B m d xs rfl aA f8.o g7.o g6.o aJ aA (MO I aD) ?_);intro A5 c5 w5 G;go_loud (have a5:Hid (OB w w5):=aB ((D.o.alloc I (.cells #[O A n c] 29)).grown G.grown (MO I aD) (fun g hg=>(aV a6.o hg).1)));go_loud (have g1:Hid (bG w5 w.heap.size (O A1 m k1) (List.replicate m ⟨6,0,0⟩)):=aB (G5 a3.o G.grown));go_loud (have g2:=aB (E4 (ls:=f::args) G.own (by simp;have:=HA.o.len;omega) aA (show a8 (· < w.heap.size) w5 ([O A n c]++xs) (f::args) from⟨⟨A,n,c,rfl,HF.o.keep fun b hb=>⟨hb,fun o=>a5.o.cell (p:=⟨b,o,X⟩) hb⟩⟩,g8.o.keep fun b hb=>⟨hb,fun o=>(a5.o.cell (p:=⟨b,o,X⟩) hb).trans ((D.o.alloc I (.cells #[O A n c] 29)).cell (p:=⟨b,o,X⟩) hb).symm⟩⟩) (fun b hb=>MD hb a5.o.size))))
    | (go_at_call 92;refine (kK g2.o b8.o.1 b8.o.2).mono ?_;rintro e w6 ⟨e0,A6,n6,c6,rfl,e6⟩;have b7:=bK a5 e0;have d2:=aB (bG.below g1.o e0);have g4:=aB e6;have f7:=aB e6.len)
    | (at_builtin;refine bL rfl (cT (.tmp 50) (.tmp 55) 29 29 rfl w.heap.size i0 Try.underlying29 Try.underlying29 d0.o d4.o d5.o d6.o (O A1 m k1) (List.replicate m ⟨6,0,0⟩) (f::args).flatten rfl d2.o rfl g4.o (by have:=f7.o;have:=b8.o.2;rw[NX];omega) b7.o.size ?_);intro A7 c7 w7 c9 c2))
   go_ret2;rw[HQ.o];refine⟨b7.o.grown c2.grown b7.o.size (fun g hg=>(aV d2.o hg).1),A7,_,c7,rfl,?_⟩;have h7:=c9;rw[NS,NX]at h7;exact h7
theorem AW{B:OC}{m d:Nat}{f:List Nd}{args:OD}(U:aX w A n c f)(ha:dN (· < w.heap.size) w B m d args)(D:B=X->d=0):
 Calls Try.prog 81 #[O A n c,O B m d] w (DL (fB f args) w):=by
 refine (rB U ha D).mono ?_;rintro e w' ⟨I,F,h,G,rfl,Z⟩;have:=wV f args;exact⟨I,F,h,G,rfl,gH Z aA⟩
def F9(D:List Value)(w:OE)(e:Ending)(w':OE):Prop:=OB w w'/\∃A c,e=.returned (O A D.length c)/\w'.ownsRow w.heap.size 29 1 (O A D.length c) D.length D
theorem xH{base:Nat}{G:List Value}(h:w.ownsRow base 29 1 (O A n c) n G)(h1:∀u∈G,u.oneCell'=true)(hn:n<=1000000):
 Calls Try.prog 93 #[O A n c] w (F9 G w):=by
 have a7:∀(w:OE)(a:OC)(n c n' c':Nat),(binOp .eql 46 (O a n c) (O X n' c')).run Try.prog w=.ok (.bool a.isNone) w:=fun w a n c n' c'=>Lib.run_eql_slice_nil w _ _ a n c n' c' Try.underlying46;have s:G.length=n:=by have:=h.1;omega
 cases A with
 | none =>
  have a5:n=0:=by
   rcases h.2 with⟨_,h2⟩|⟨g,cap',a4,hv,_⟩
   . exact h2
   cases hv
  subst a5;have a6:G=[]:=ND s;subst a6;clear h h1 s hn;go_in;go_wp2_with fail;go_ret;exact⟨MC _ _,X,0,rfl,NR _ _ _ _⟩
 | some a =>
  obtain⟨i0,hi,I,U,Z⟩:=info_parts vB;obtain⟨a0,a1,a2,a3⟩:=OI hi I U Z;clear hi I U Z;have z:=aB (aQ w (.cells #[] 29));have HM:=aB (bY h z.o);have F:Hid ((w.alloc (.cells #[] 29)).ownsRow w.heap.size 29 1 (O (Y ⟨w.heap.size,0,X⟩) 0 0) 0 []):=aB (World.ownsRow_made w #[] 0 (MF _) (NH _) rfl);have HL:=aB s;have HX:Hid (∀ad,Y a=Y ad->∀j u,G[j]? = Y u->(w.alloc (.cells #[] 29)).cell? (ad.add j)=Y u):=aB fun ad e j u hu=>by
   injection e with e;subst e;rcases HM.o.2 with⟨hv,_⟩|⟨g,cap',a4,hv,_⟩
   . cases hv
   injection hv with e1 e2 e3;injection e1 with e1;subst e1;exact World.ownsRow.cells HM.o (g:=g) rfl j u hu
  have H1:=aB h1;clear h s h1;go_in;go_wp2_with (at_builtin;go_loud (refine bL rfl (cQ (.tmp 5) (.tmp 6) 46 rfl w.heap.size 29 i0 _ 1 24 Try.underlying46 a0.o a1.o a2.o a3.o rfl aE (O (Y ⟨w.heap.size,0,X⟩) 0 0) 0 [] rfl F.o (Y a) n c G rfl (by rw[HL.o,Nat.mul_one]) (fun e=>by cases e) HX.o H1.o aJ aA aD ?_));intro A4 c4 w4 D)
  go_ret;refine⟨z.o.grown D.grown z.o.size (fun g hg=>(aV F.o hg).1),A4,c4,?_,?_⟩
  . rw[HL.o];first|rfl|(rw[ML];rfl)
  have:=D.own;rw[MY,ML]at this;rw[HL.o];exact this
end Go.Proofs.Ytlahmbhimhmoaaa
