/- sense: term.Apply, and slices.Clone at rows of terms. -/
import Derived.Test.YtjoddliplahgkaaGreatTSenseA
namespace Go.Proofs.YtjoddliplahgkaaGreat
set_option linter.unusedVariables false
set_option linter.unusedSimpArgs false
open Go.RowKit
open Go.Value renaming int → O, slice → Y
open Go.IntKind renaming i64 → X
open Option renaming none → Z, some → I
open Go.Lib renaming hid->aB
set_option maxHeartbeats 4000000
set_option maxRecDepth 100000
variable {c n:Nat}{A:ZZ}{w:aAB}
theorem UN:Tryz.t46.bytes=24:=by kernel_rfl
theorem PL(hn:n<=1000000)(h:0<n):
 Calls Tryz.prog 140 #[Y Z 0 0,O X (n:Int)] w fun e w'=>ZY w w'/\∃g c,e=.returned (Y (I ⟨g,0,Z⟩) 0 c)/\bK w' w.heap.size (Y (I ⟨g,0,Z⟩) 0 c) []:=by
 have G:=UN;have s:(n:Int)*(Tryz.t46.bytes:Int)<=281474976710656:=by rw[G];omega
 have z:Builtin.nextslicecap n 0*Tryz.t46.bytes<=281474976710656:=by rw[G];exact growslice_fits aA aA
 have F:=grownCap_ge w n 0 46;have D:=grownCap_le_maxLen w n 0 46 aJ;have U:=aB (And.intro F D);clear G F D;go_in;go_wp2_with fail;go_ret;obtain⟨F,D⟩:=U.o;refine⟨aU (aQ w _) 1,w.heap.size,grownCap w n 0 46,rfl,?_⟩;refine World.ownsRow_made w _ _ (XU _) D ?_;rw[Array.size_append,size_zeroCells,size_zeroCells];show n*3+(grownCap w n 0 46-n)*3=grownCap w n 0 46*3;omega
theorem kD{α:Type}(ls:List (List α)){k:Nat}(h:k<ls.length)(d:List α):(ls.take (k+1)).flatten=(ls.take k).flatten++ls.getD k d:=by
 rw[List.take_succ_eq_append_getElem h,List.flatten_append];simp[YD,YB h]
theorem j9{α:Type}(ls:List (List α))(k:Nat):(ls.take k).flatten.length<=ls.flatten.length:=by
 conv=>rhs;rw[<-List.take_append_drop k ls,List.flatten_append,XX]
 omega
theorem pZ{ls:aAA}(h:fG (· < w.heap.size) w A n c ls)(h0:0<ls.flatten.length)(hf:ls.flatten.length<=1000000):
 Calls Tryz.prog 117 #[Y A n c] w (mL ls.flatten w):=by
 obtain⟨i0,hi,b2,b3,b4⟩:=info_parts kP;obtain⟨b7,c1,c3,c5⟩:=aAE hi b2 b3 b4;have c7:=h.few;have H:=aB h;clear hi b2 b3 b4 h;go_in;go_wp2_with fail;go_loop [3,11] (fun sv iv=>∃i:Nat,i<=n/\iv=O X (i:Int)/\sv=O X (((ls.take i).flatten.length:Nat):Int)) (fun _ i=>n-(intOf i).toNat)
 case atStart=>exact⟨0,by omega,rfl,by simp⟩
 case round =>
  obtain⟨i,hi,rfl,rfl⟩:=hrel;by_cases U:i<n
  . obtain⟨b,off,rfl,_,hm⟩:=H.o.mem aA;obtain⟨A',n',c',hc,ht⟩:=hm i U;have a0:(ls.take (i+1)).flatten.length=(ls.take i).flatten.length+n':=by
     rw[kD ls (by rw[H.o.len];exact U) [],XX,ht.len]
    have a4:=j9 ls (i+1);have d0:=ht.few;clear hm ht;have a7:=aB a0;obtain⟨sz,a1⟩:=aAJ (ls.take i).flatten.length;rw[<-a1]at a0;rw[<-a1];have c0:=aB a1;have c8:sz+n'<=1000000:=aA;clear a0 a4 a1;go_wp2_with fail;go_round
    case rel=>exact⟨i+1,by omega,by go_num,by rw[a7.o,<-c0.o];go_num⟩
    case measure=>simp[intOf];omega
  have c6:i=n:=aA;have HF:Hid ((ls.take i).flatten=ls.flatten):=aB (by rw[ZN (by rw[H.o.len];omega)]);rw[HF.o];obtain⟨N,hN⟩:=aAJ ls.flatten.length;rw[<-hN]at h0 hf;rw[<-hN];have HN:=aB hN;have a2:=aB (fun w=>PL (w:=w) hf h0);clear hN;go_wp2_with fail;refine (a2.o _).mono ?_;rintro e w2 ⟨b0,g,c2,rfl,s⟩;have b5:=aB b0;have b8:=aB s;clear b0 s;go_wp2_with fail;go_loopw [6,27] (fun sv iv wr=>∃(i:Nat)(A1:ZZ)(k1:Nat),i<=n/\iv=O X (i:Int)/\sv=Y A1 (ls.take i).flatten.length k1/\Hid (bK wr w.heap.size (Y A1 (ls.take i).flatten.length k1) (ls.take i).flatten)/\Hid (ZY w wr)) (fun _ i _=>n-(intOf i).toNat)
  case atStart=>exact⟨0,I ⟨g,0,Z⟩,c2,by omega,rfl,rfl,by simpa using b8,b5⟩
  case round =>
   obtain⟨i,A1,k1,hi,rfl,rfl,D,G⟩:=hrel;by_cases U:i<n
   . obtain⟨b,off,rfl,hb,hm⟩:=H.o.mem aA;obtain⟨A',n',c',hc,ht⟩:=hm i U;have c9:wr.cell? ⟨b,off+i,Z⟩=I (Y A' n' c'):=(G.o.cell (p:=⟨b,off+i,Z⟩) hb).trans hc;have HT:=aB (aX.below ht G.o);have a3:=kD ls (by rw[H.o.len];exact U) [];have a4:=j9 ls (i+1);rw[a3,XX,ht.len,<-HN.o]at a4;have a6:=aB a3;have a9:=aB ht.len;generalize (ls.take i).flatten=l at *;clear hm hc ht a3;have b1:=G.o.size;go_wp2_with (at_builtin;refine a8 rfl (bG (.tmp 31) (.tmp 32) 29 29 rfl w.heap.size i0 Tryz.underlying29 Tryz.underlying29 b7.o c1.o c3.o c5.o (Y A1 l.length k1) l (ls.getD i []) rfl D.o rfl HT.o aA b1 ?_);intro A4 c4 w4 z F)
     obtain⟨b9,b6⟩:=aAC z (G.o.grown F.grown b1 (fun g hg=>(aS D.o hg).1));clear z F;go_roundw
     case rel=>exact⟨i+1,A4,c4,by omega,by go_num,by rw[a6.o,XX,a9.o],aB (by rw[a6.o,XX,a9.o];exact b9.o),b6⟩
     case measure=>simp[intOf];omega
   have c6:i=n:=aA;have a5:Hid ((ls.take i).flatten=ls.flatten):=aB (by rw[ZN (by rw[H.o.len];omega)]);rw[a5.o]at D;rw[a5.o];go_wp2_with fail;go_ret;exact⟨G.o,A1,_,k1,rfl,jK D.o (by have:=HN.o;omega)⟩
def eS:List (List Nd)->Int
 | []=>0
 | a::r=>if a6 a=0 then eS r else a6 a
def fJ(f:List Nd)(args:aAA):List Nd×Int :=
 if a6 f≠0 then ([],a6 f) else if eS args≠0 then ([],eS args)
 else if 4096<f.length+(args.flatten.length+args.length) then ([],9) else (List.replicate args.length ⟨6,0,0⟩++(f++args.flatten),0)
theorem qT(l r:aAA):eS (l++r)=if eS l=0 then eS r else eS l:=by
 induction l with
 | nil=>simp[eS]
 | cons a l ih =>
  by_cases h:a6 a=0
  . simp[eS,h,ih]
  . simp[eS,h]
theorem Q5{α:Type}(ls:List (List α)){k:Nat}(h:k<ls.length):ls.take (k+1)=ls.take k++[ls.getD k []]:=by
 rw[List.take_succ_eq_append_getElem h];simp[YD,YB h]
theorem pO{args:aAA}{k:Nat}(h:k<args.length)(G:eS (args.take k)=0):(a6 (args.getD k [])=0->eS (args.take (k+1))=0)/\(a6 (args.getD k [])≠0->eS args=a6 (args.getD k [])):=by
 have D:eS (args.take (k+1))=a6 (args.getD k []):=by
  rw[Q5 args h,qT,XP G];simp only[eS];split<;>omega
 refine⟨fun F=>by rw[D,F],fun F=>?_⟩
 conv=>lhs;rw[<-List.take_append_drop (k+1) args]
 rw[qT,XN (by rw[D];exact F),D]
theorem bD.of_at{S:Nat->Prop}{w:aAB}:∀{D:List Value} {ls:aAA},D.length=ls.length->(∀k,k<ls.length->∃A n c,D[k]? = I (Y A n c)/\bF S w A n c (ls.getD k []))->bD S w D ls
 | [],[],_,_=>trivial
 | [],_::_,h,_=>by simp at h
 | _::_,[],h,_=>by simp at h
 | x::D,l::ls,h,hk=>by
  refine⟨?_,bD.of_at (by simpa using h) fun k F=>?_⟩
  . obtain⟨A,n,c,e,ht⟩:=hk 0 aD;exact⟨A,n,c,by simpa using e,by simpa using ht⟩
  . obtain⟨A,n,c,e,ht⟩:=hk (k+1) (by simpa using F);exact⟨A,n,c,by simpa using e,by simpa using ht⟩
theorem fG.values{R:Nat->Prop}{ls:aAA}(h:fG R w A n c ls):∃xs:List Value,xs.length=n/\(∀ad,A=I ad->∀j u,xs[j]? = I u->w.cell? (ad.add j)=I u)/\bD R w xs ls/\∀u∈xs,u.oneCell'=true:=by
 by_cases hn:0<n;rotate_left
 . obtain rfl:n=0:=aA;have hl:ls=[]:=ZC h.len;subst hl;exact⟨[],rfl,fun _ _ j u D=>by simp at D,trivial,fun u D=>by simp at D⟩
 obtain⟨b,off,e,_,hm⟩:=h.mem hn;have a0:∀k:Nat,∃v:Value,k<n->∃F U G,v=Y F U G/\w.cell? ⟨b,off+k,Z⟩=I v/\bF R w F U G (ls.getD k []):=fun k=>by
  by_cases o:k<n
  . obtain⟨F,U,G,s,h2⟩:=hm k o;exact⟨_,fun _=>⟨F,U,G,rfl,s,h2⟩⟩
  exact⟨undef,fun h=>absurd h o⟩
 obtain⟨V,hV⟩:∃V:Nat->Value,∀k,k<n->∃F U G,V k=Y F U G/\w.cell? ⟨b,off+k,Z⟩=I (V k)/\bF R w F U G (ls.getD k []):=⟨fun k=>(a0 k).choose,fun k=>(a0 k).choose_spec⟩;refine⟨(List.range n).map V,by simp,fun ad ha j u D=>?_,bD.of_at (by simp[h.len]) fun k o=>?_,fun u D=>?_⟩
 . rw[e]at ha;injection ha with ha;subst ha;have ea:(⟨b,off,Z⟩:Addr).add j=⟨b,off+j,Z⟩:=by unfold Addr.add;split<;>simp_all
   have hj:j<n:=by have:=(ZH.1 D).1;simpa using this
   obtain⟨_,_,_,_,h2,_⟩:=hV j hj;rw[ea,h2];simp[hj]at D;rw[D]
 . have z:k<n:=by rw[<-h.len];exact o
   obtain⟨F,U,G,s,_,h3⟩:=hV k z;exact⟨F,U,G,by simp[z,s],h3⟩
 rw[List.mem_map]at D;obtain⟨k,o,rfl⟩:=D;obtain⟨_,_,_,s,_,_⟩:=hV k (by simpa using o);rw[s];rfl
theorem PV(n:Nat)(o:n<=1000000)(w:aAB):∃D:Array Value,D.size=n*3/\(Instr.makeSlice 29 (O X 0) (O X (n:Int))).run Tryz.prog w=.ok (Y (I ⟨w.heap.size,0,Z⟩) 0 n) (w.alloc (.cells D 46)):=by
 obtain⟨i,h,F,G,U⟩:=info_parts kP;refine⟨madeCells (Value.agg #[Value.int .i64 0,Value.int .i64 0,Value.int .i64 0]).cells (n*3),by simp[madeCells],?_⟩;rw[run_make (P:=Tryz.prog) w 29 46 i _ Tryz.underlying29 h F .i64 .i64 0 n aA aA (by rw[U];omega) aA,G];rfl
theorem xN{w':aAB}{ls:aAA}(h:fG (· < w.heap.size) w A n c ls)(F:ZY w w'):fG (· < w.heap.size) w' A n c ls :=
 h.keep fun b D=>⟨D,fun o=>F.cell (p:=⟨b,o,Z⟩) D⟩
theorem S4{D:aAB}{base:Nat}{v:Value}{l:List Nd}{o:Obj}(h:bK w base v l)(F:(w.alloc o).grownBy D (I w.heap.size)):bK D base v l :=
 World.ownsRow.kept (bK.alloc h o) F (.inr fun e=>by have:=(aS h e).2.1;omega)
def vM(q:List Nd×Int)(w:aAB)(e:Ending)(w':aAB):Prop:=ZY w w'/\∃A n c,e=.returned (.tuple #[Y A n c,O X q.2])/\bF (eC w w') w' A n c q.1
theorem xI{q:List Nd×Int}{w':aAB}{z:Int}(F:q=([],z))(D:ZY w w'):vM q w (.returned (.tuple #[Y Z 0 0,O X z])) w':=by
 subst F;exact⟨D,Z,0,0,rfl,rfl,XU _,by decide,fun _=>rfl,fun h=>absurd h aE⟩
def TZ(q:List Nd×Int)(w:aAB)(e:Ending)(w':aAB):Prop:=ZY w w'/\∃A n c,e=.returned (.tuple #[Y A n c,O X q.2])/\bK w' w.heap.size (Y A n c) q.1
theorem tC{q:List Nd×Int}{w':aAB}{z:Int}(F:q=([],z))(D:ZY w w'):TZ q w (.returned (.tuple #[Y Z 0 0,O X z])) w':=by
 subst F;exact⟨D,Z,0,0,rfl,bK.nil _ _⟩
theorem GN(f:List Nd)(args:aAA):(fJ f args).1.length<=4096:=by
 unfold fJ;split
 . simp
 split
 . simp
 split
 . simp
 rw[XX,XX,ZT];omega
theorem zF{B:ZZ}{m d:Nat}{f:List Nd}{args:aAA}(hf:aX w A n c f)(ha:fG (· < w.heap.size) w B m d args)(b3:B=Z->d=0):
 Calls Tryz.prog 77 #[Y A n c,Y B m d] w (TZ (fJ f args) w):=by
 obtain⟨i0,hi,f3,f4,f5⟩:=info_parts kP;obtain⟨d3,d7,d8,d9⟩:=aAE hi f3 f4 f5;obtain⟨i1,e5,b4,b5,b6⟩:=info_parts v5;obtain⟨f9,h5,h6,h8⟩:=aAE e5 b4 b5 b6;clear hi f3 f4 f5 e5 b4 b5 b6;obtain⟨HF,HA,HN⟩:=aAF hf ha b3;have i6:=ha.few;have i7:=hf.few;have c3:=aB (cR hf);clear hf ha b3;by_cases s:a6 f=0;rotate_left
 . have HQ:Hid (fJ f args=([],a6 f)):=aB (by unfold fJ;rw[XP s]);have hz:(a6 f != 0)=true:=by simpa using s
   generalize a6 f=z at *;clear s;go_in;go_wp2_with fail;refine (c3.o).mono ?_;rintro e w2 ⟨rfl,a2⟩;have b8:=aB a2;clear a2;go_wp2_with fail;go_ret2;exact tC HQ.o b8.o
 have e8:n<=4096/\0<n:=by
  obtain⟨h1,_,_,_,_,h2,_⟩:=eN s;rw[HF.o.len]at h1;have:=HF.o.len;rw[h2]at this;simp at this;omega
 obtain⟨e8,j0⟩:=e8;rw[s]at c3;have c2:=aB s;clear s;go_in;go_wp2_with fail;refine (c3.o).mono ?_;rintro e w2 ⟨rfl,a2⟩;have b8:=aB a2;clear a2;go_wp2_with fail;go_loopw [7,21] (fun av iv wr=>∃(i T:Nat),i<=m/\iv=O X (i:Int)/\av=O X (T:Int)/\T<=4097/\Hid (T=min (n+((args.take i).flatten.length+i)) 4097)/\Hid (eS (args.take i)=0)/\Hid (ZY w wr)) (fun _ i _=>m-(intOf i).toNat)
 case atStart=>exact⟨0,n,by omega,rfl,rfl,by omega,aB aG,aB rfl,b8⟩
 case round =>
  obtain⟨i,T,hi,rfl,rfl,hT,e3,b1,D⟩:=hrel;by_cases d1:i<m
  . obtain⟨b,off,rfl,hb,hm⟩:=HA.o.mem aA;obtain⟨A',n',c',hc,ht⟩:=hm i d1;have i4:wr.cell? ⟨b,off+i,Z⟩=I (Y A' n' c'):=(D.o.cell (p:=⟨b,off+i,Z⟩) hb).trans hc;have HS:=aB (cR (aX.below ht D.o));have d4:=aB (pO (args:=args) (by rw[HA.o.len];exact d1) b1.o);have f8:=aB (kD args (by rw[HA.o.len];exact d1) []);have g8:=aB ht.len;have i8:=ht.few;generalize args.getD i []=a at *;clear hm hc ht;by_cases h:a6 a=0
    . rw[h]at HS;have b7:=aB (d4.o.1 h);obtain⟨T',e0⟩:=aAJ (min (T+1+n') 4097);have h9:min ((T:Int)+1+(n':Int)) 4097=(T':Int):=aA;have g6:Hid (T'=min (n+((args.take (i+1)).flatten.length+(i+1))) 4097):=aB (by
       rw[f8.o,XX,g8.o,e0,e3.o];omega)
      have e1:T'<=4097:=aA;clear h e0;go_wp2_with fail;refine (HS.o).mono ?_;rintro e w3 ⟨rfl,a3⟩;have b9:=bY D a3;clear a3;go_wp2_with fail;go_roundw
      case rel=>exact⟨i+1,T',by omega,by go_num,by first|rw[<-h9];rfl|go_num,e1,g6,b7,b9⟩
      case measure=>simp[intOf];omega
    have HQ:Hid (fJ f args=([],a6 a)):=aB (by
     have h1:=d4.o.2 h;unfold fJ;rw[XN (by rw[c2.o];decide),XP (by rw[h1];exact h),h1])
    generalize a6 a=z at *;have hz:(z != 0)=true:=by simpa using h
    clear h;go_wp2_with fail;refine (HS.o).mono ?_;rintro e w3 ⟨rfl,a3⟩;have b9:=bY D a3;clear a3;go_wp2_with fail;go_ret2;exact tC HQ.o b9.o
  have e6:i=m:=aA;have f7:Hid (args.take i=args):=aB (ZN (by rw[HA.o.len];omega));have F:=b1.o;have a0:=e3.o;rw[f7.o]at F a0;rw[e6]at a0;clear e6;by_cases i3:4096<T
  . have HQ:Hid (fJ f args=([],9)):=aB (by
     unfold fJ;rw[XN (by rw[c2.o];decide),XN (by rw[F];decide),XP (by rw[HF.o.len,HA.o.len];omega)])
    clear F a0;go_wp2_with fail;go_ret2;exact tC HQ.o D.o
  have HQ:Hid (fJ f args=(List.replicate m ⟨6,0,0⟩++(f++args.flatten),0)):=aB (by
   unfold fJ;rw[XN (by rw[c2.o];decide),XN (by rw[F];decide),XN (by rw[HF.o.len,HA.o.len];omega),HA.o.len])
  have i9:m<=4096:=aA;have i5:args.flatten.length+n<=4096:=aA;obtain⟨c8,b2,i2⟩:=PV T aA wr;have g2:Hid (bK (wr.alloc (.cells c8 46)) w.heap.size (Y (I ⟨wr.heap.size,0,Z⟩) 0 T) []):=aB (World.ownsRow_made wr c8 T D.o.size aJ b2);have b7:=aB (D.o.alloc D.o.size (.cells c8 46));clear F a0 b2;go_wp2_with fail;go_loopw [11,43] (fun ov iv wr=>∃(k k1:Nat)(A1:ZZ),k<=m/\iv=O X (k:Int)/\ov=Y A1 k k1/\Hid (bK wr w.heap.size (Y A1 k k1) (List.replicate k ⟨6,0,0⟩))/\Hid (ZY w wr)) (fun _ i _=>m-(intOf i).toNat)
  case atStart=>exact⟨0,T,_,by omega,rfl,rfl,g2,b7⟩
  case round =>
   clear i2;obtain⟨k,k1,A1,hk,rfl,rfl,a5,D⟩:=hrel;have U:=D.o.size;by_cases e7:k<m
   . have d6:Hid (bK wr w.heap.size (Y A1 (List.replicate k (⟨6,0,0⟩:Nd)).length k1) (List.replicate k ⟨6,0,0⟩)):=aB (by rw[ZT];exact a5.o);go_wp2_with (at_builtin;refine a8 rfl (cM (.tmp 45) (.tmp 47) 29 rfl w.heap.size i0 Tryz.underlying29 d3.o d7.o d8.o d9.o (Y A1 (List.replicate k (⟨6,0,0⟩:Nd)).length k1) (List.replicate k ⟨6,0,0⟩) ⟨6,0,0⟩ wr aF (by rw[ZT];rfl) d6.o _ aF aD aG aA ?_);intro A4 c4 w4 a7 a1)
     have g3:Hid (bK w4 w.heap.size (Y A4 (k+1) c4) (List.replicate (k+1) ⟨6,0,0⟩)):=aB (by
      have:=a7;rw[ZT,<-List.replicate_succ']at this;exact this)
     have f6:=aB (D.o.grown a1.grown U (fun g hg=>(aS d6.o hg).1));clear a7 a1;go_roundw
     case rel=>exact⟨k+1,c4,A4,by omega,by go_num,rfl,g3,f6⟩
     case measure=>simp[intOf];omega
   have d0:k=m:=aA;rw[d0]at a5;rw[d0];clear d0 e7;obtain⟨xs,j1,f1,f2,f0⟩:=fG.values (xN HA.o (D.o.alloc U (.cells #[Y A n c] 29)));have b0:Hid ((wr.alloc (.cells #[Y A n c] 29)).ownsRow w.heap.size 29 1 (Y (I ⟨wr.heap.size,0,Z⟩) 1 1) 1 [Y A n c]):=aB ⟨by simp,.inr ⟨wr.heap.size,1,#[Y A n c],rfl,U,heap_alloc_new wr _,by omega,by unfold maxLen;omega,rfl,rfl⟩⟩;have h3:=aB f1;have h4:=aB f2;have g9:=aB f0;have a4:B=Z->m=0/\d=0:=fun e=>⟨by
    by_cases h0:0<m
    . obtain⟨b,off,e2,_⟩:=HA.o.mem h0;rw[e]at e2;cases e2
    omega,HN.o e⟩
   have g1:=aB a4;have c1:Hid (0<(f::args).flatten.length/\(f::args).flatten.length<=1000000):=aB (by
    have:=HF.o.len;rw[ZR,XX];omega)
   clear f1 f2 f0 a4;go_wp2_with (first
    | (at_builtin;refine a8 rfl (bW (.tmp 52) (.tmp 53) 47 rfl w.heap.size 29 i1 _ 1 24 Tryz.underlying47 f9.o h5.o h6.o h8.o rfl aE (Y (I ⟨wr.heap.size,0,Z⟩) 1 1) 1 [Y A n c] rfl b0.o B m d xs rfl aA g1.o h3.o g9.o aJ aA (YE U aD) ?_);intro A5 c5 w5 G;go_loud (have a9:Hid (ZY w w5):=aB ((D.o.alloc U (.cells #[Y A n c] 29)).grown G.grown (YE U aD) (fun g hg=>(aS b0.o hg).1)));go_loud (have g4:Hid (bK w5 w.heap.size (Y A1 m k1) (List.replicate m ⟨6,0,0⟩)):=aB (S4 a5.o G.grown));go_loud (have g5:=aB (rH (ls:=f::args) G.own (by simp;have:=HA.o.len;omega) aA (show bD (· < w.heap.size) w5 ([Y A n c]++xs) (f::args) from⟨⟨A,n,c,rfl,HF.o.keep fun b hb=>⟨hb,fun o=>a9.o.cell (p:=⟨b,o,Z⟩) hb⟩⟩,h4.o.keep fun b hb=>⟨hb,fun o=>(a9.o.cell (p:=⟨b,o,Z⟩) hb).trans ((D.o.alloc U (.cells #[Y A n c] 29)).cell (p:=⟨b,o,Z⟩) hb).symm⟩⟩) (fun b hb=>XT hb a9.o.size))))
    | (go_at_call 117;refine (pZ g5.o c1.o.1 c1.o.2).mono ?_;rintro e w6 ⟨e4,A6,n6,c6,rfl,e9⟩;have c0:=bY a9 e4;have d5:=aB (bK.below g4.o e4);have g7:=aB e9;have g0:=aB e9.len)
    | (at_builtin;refine a8 rfl (bG (.tmp 50) (.tmp 55) 29 29 rfl w.heap.size i0 Tryz.underlying29 Tryz.underlying29 d3.o d7.o d8.o d9.o (Y A1 m k1) (List.replicate m ⟨6,0,0⟩) (f::args).flatten rfl d5.o rfl g7.o (by have:=g0.o;have:=c1.o.2;rw[ZT];omega) c0.o.size ?_);intro A7 c7 w7 d2 c9))
   go_ret2;rw[HQ.o];refine⟨c0.o.grown c9.grown c0.o.size (fun g hg=>(aS d5.o hg).1),A7,_,c7,rfl,?_⟩;have h7:=d2;rw[ZR,ZT]at h7;exact h7
theorem LY{B:ZZ}{m d:Nat}{f:List Nd}{args:aAA}(h:aX w A n c f)(ha:fG (· < w.heap.size) w B m d args)(D:B=Z->d=0):
 Calls Tryz.prog 77 #[Y A n c,Y B m d] w (vM (fJ f args) w):=by
 refine (zF h ha D).mono ?_;rintro e w' ⟨U,F,s,G,rfl,o⟩;have:=GN f args;exact⟨U,F,s,G,rfl,jK o aA⟩
def RS(D:List Value)(w:aAB)(e:Ending)(w':aAB):Prop:=ZY w w'/\∃A c,e=.returned (Y A D.length c)/\w'.ownsRow w.heap.size 29 1 (Y A D.length c) D.length D
theorem G0{base:Nat}{G:List Value}(h:w.ownsRow base 29 1 (Y A n c) n G)(h1:∀u∈G,u.oneCell'=true)(hn:n<=1000000):
 Calls Tryz.prog 118 #[Y A n c] w (RS G w):=by
 have a7:∀(w:aAB)(a:ZZ)(n c n' c':Nat),(binOp .eql 47 (Y a n c) (Y Z n' c')).run Tryz.prog w=.ok (.bool a.isNone) w:=fun w a n c n' c'=>Lib.run_eql_slice_nil w _ _ a n c n' c' Tryz.underlying47;have hl:G.length=n:=by have:=h.1;omega
 cases A with
 | none =>
  have a5:n=0:=by
   rcases h.2 with⟨_,h2⟩|⟨g,cap',a4,hv,_⟩
   . exact h2
   cases hv
  subst a5;have a6:G=[]:=ZC hl;subst a6;clear h h1 hl hn;go_in;go_wp2_with fail;go_ret;exact⟨XS _ _,Z,0,rfl,ZE _ _ _ _⟩
 | some a =>
  obtain⟨i0,hi,U,s,z⟩:=info_parts v5;obtain⟨a0,a1,a2,a3⟩:=aAE hi U s z;clear hi U s z;have HB:=aB (aQ w (.cells #[] 29));have HM:=aB (bI h HB.o);have F:Hid ((w.alloc (.cells #[] 29)).ownsRow w.heap.size 29 1 (Y (I ⟨w.heap.size,0,Z⟩) 0 0) 0 []):=aB (World.ownsRow_made w #[] 0 (XU _) (ZA _) rfl);have HL:=aB hl;have HX:Hid (∀ad,I a=I ad->∀j u,G[j]? = I u->(w.alloc (.cells #[] 29)).cell? (ad.add j)=I u):=aB fun ad e j u hu=>by
   injection e with e;subst e;rcases HM.o.2 with⟨hv,_⟩|⟨g,cap',a4,hv,_⟩
   . cases hv
   injection hv with e1 e2 e3;injection e1 with e1;subst e1;exact World.ownsRow.cells HM.o (g:=g) rfl j u hu
  have H1:=aB h1;clear h hl h1;go_in;go_wp2_with (at_builtin;go_loud (refine a8 rfl (bW (.tmp 5) (.tmp 6) 47 rfl w.heap.size 29 i0 _ 1 24 Tryz.underlying47 a0.o a1.o a2.o a3.o rfl aE (Y (I ⟨w.heap.size,0,Z⟩) 0 0) 0 [] rfl F.o (I a) n c G rfl (by rw[HL.o,Nat.mul_one]) (fun e=>by cases e) HX.o H1.o aJ aA aD ?_));intro A4 c4 w4 D)
  go_ret;refine⟨HB.o.grown D.grown HB.o.size (fun g hg=>(aS F.o hg).1),A4,c4,?_,?_⟩
  . rw[HL.o];first|rfl|(rw[YH];rfl)
  have:=D.own;rw[YO,YH]at this;rw[HL.o];exact this
end Go.Proofs.YtjoddliplahgkaaGreat
