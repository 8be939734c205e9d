/- Merged: WhV, WhT, SenseE. -/
import Derived.Test.YtlahmbhimhmoaaaVWhU
namespace Go.Proofs.Ytlahmbhimhmoaaa
set_option linter.unusedVariables false
set_option linter.unusedSimpArgs false
open Go.RowKit
open Go.Value renaming slice → O
open Option renaming none → X
variable {c n:Nat}{A:OC}{w:OE}
section
open Go.Lib renaming hid->aB
def DK(D:Nat)(r:Option Fc)(w:OE)(e:Ending)(w':OE):Prop:=OB w w'/\((∃f,r=some f/\∃A n c B m d,e=.returned (.agg #[O A n c,O B m d])/\dM D w' f A n c B m d)\/(r=X/\e=.panicked (nE 9)))
theorem tG{g:Nat}{G I:Value}{D:Array Value}(h:aW w g 109 #[G,I])(ht:D.getD 4 undef=.pointer (some ⟨g,0,X⟩)):
 (results Try.f95 D).run Try.prog w=.ok (.agg #[G,I]) w:=by
 have U:=h.cell;have F:D[4]?.getD undef=.pointer (some ⟨g,0,X⟩):=by rw[<-ht];simp
 simp[results,Try.results95,go_sem,F,U]
set_option maxRecDepth 100000 in
set_option maxHeartbeats 4000000 in
theorem mA{b:Bk}{free:Int}{x:TT}{L:List TT}{B:OC}{m d:Nat}(h:aX w A n c (aT x))(hx:bJ b free x)(ha:dN (· < w.heap.size) w B m d (L.map aT))(hL:∀a∈L,bJ b free a)(a7:B=X->d=0):
 Calls Try.prog 95 #[O A n c,O B m d] w (DK w.heap.size (eH x L) w):=by
 obtain⟨w1,D⟩:=OM (w.alloc (.cells #[O X 0 0,O X 0 0] 109));have U:OB w w1:=by rw[D];exact aQ _ _
 have a4:Hid (aW w1 w.heap.size 109 #[O X 0 0,O X 0 0]):=aB (by rw[D];exact aW.new _ _ _);have a2:=aB U;have G:=AW (w:=w1) (h.below U) (ha.keep fun q hq=>⟨MD hq U.size,fun o=>U.cell (p:=⟨q,o,X⟩) hq⟩) a7;rw[t7 hx hL]at G;have b2:w1.heap.size=w.heap.size+1:=by rw[D];simp
 by_cases F:4096<bZ x+cF L
 . rw[LZ F]at G;have s:=aB G;have HR:Hid (eH x L=X):=aB (by unfold eH;rw[LZ F]);clear G U h ha hL hx F;go_in;go_upto_region 1 with fail
   rw[<-D];clear D;go_wp2_with fail;refine (s.o).mono ?_;rintro e w2 ⟨I,A2,n2,c2,rfl,Z⟩;have z:=bK a2 I;clear I Z;go_wp2_with fail;refine (jF aE).mono ?_;rintro e w3 ⟨rfl,rfl⟩;go_wp2_with fail;exact⟨rfl,z.o,.inr ⟨HR.o,rfl⟩⟩
 rw[aN F]at G;have s:=aB G;have HR:Hid (eH x L=some ((cV x).1,(cV x).2++L)):=aB (by unfold eH;rw[aN F]);have a3:=aB (lY L x hx hL aA);have b0:Hid (cV (hI x L)=((cV x).1,(cV x).2++L)):=aB (lE L x);clear G U h ha hL hx F;go_in;go_upto_region 1 with fail
 rw[<-D];clear D;go_wp2_with fail;refine (s.o).mono ?_;rintro e w2 ⟨I,A2,n2,c2,rfl,Z⟩;have z:=bK a2 I;have a6:Hid (aX w2 A2 n2 c2 (aT (hI x L))):=aB (Z.keep (R':=(· < w2.heap.size)) fun q hq=>⟨hq.2,fun _=>rfl⟩);have a5:=aB (a4.o.below I a4.o.lt);have b3:=I.size;clear I Z;simp only at a6 ⊢;go_wp2_with fail;refine gK.mono ?_;rintro e w3 ⟨rfl,rfl⟩;go_wp2_with fail;refine (eT a6.o a3.o).mono ?_;rintro e w4 ⟨a0,A4,n4,c4,B4,m4,d4,rfl,a1⟩;rw[b0.o]at a1;have a8:=bK z a0;have Y:=aB (a5.o.below a0 a5.o.lt);have a9:=aB a1;have z4:=Y.o.cell;have b4:=Y.o.frozen;have b1:w.heap.size<w4.heap.size:=Y.o.lt;clear a0 a1;go_wp2_with fail;refine NG (v:=.agg #[O A4 n4 c4,O B4 m4 d4]) (tG (g:=w.heap.size) (by have:=(Y.o.set_ 0 (O A4 n4 c4)).set_ 1 (O B4 m4 d4);simpa using this) aD) rfl ⟨?_,.inl ⟨_,HR.o,A4,n4,c4,B4,m4,d4,rfl,?_⟩⟩
 . exact (a8.o.setCell (p:=⟨w.heap.size,0,X⟩) (MF _) _).setCell (p:=⟨w.heap.size,1,X⟩) (MF _) _
 exact (((a9.o.set (b:=w.heap.size) aA 0 _).set (b:=w.heap.size) aA 1 _)).base aA
end
section
open Go.Lib renaming hid->aB
set_option maxHeartbeats 4000000
set_option maxRecDepth 100000
theorem JJ:Try.t29.bytes=24:=by kernel_rfl
def J7(w:OE)(e:Ending)(w':OE):Prop:=OB w w'/\∃A c,e=.returned (O A 0 c)/\w'.ownsRow w.heap.size 29 1 (O A 0 c) 0 []
theorem CD(z:n<=1000000):
 Calls Try.prog 105 #[O X 0 0,.int .i64 (n:Int)] w (J7 w):=by
 by_cases Y:0<n
 . have G:=JJ;have Z:(n:Int)*(Try.t29.bytes:Int)<=281474976710656:=by rw[G];omega
   have h:Builtin.nextslicecap n 0*Try.t29.bytes<=281474976710656:=by rw[G];exact growslice_fits aA aA
   have s:(n:Int)<=9223372036854775807:=aA;have F:=grownCap_ge w n 0 29;have D:=grownCap_le_maxLen w n 0 29 aJ;have I:=aB (And.intro F D);clear G F D;go_in;go_wp2_with fail;go_ret;obtain⟨F,D⟩:=I.o;refine⟨aU (aQ w _) 1,some ⟨w.heap.size,0,X⟩,grownCap w n 0 29,rfl,?_⟩;refine World.ownsRow_made w _ _ (MF _) D ?_;rw[Array.size_append,size_zeroCells,size_zeroCells];show n*1+(grownCap w n 0 29-n)*1=grownCap w n 0 29*1;omega
 have U:n=0:=aA;subst U;go_in;go_wp2_with fail;go_ret;exact⟨MC _ _,X,0,rfl,NR _ _ _ _⟩
structure LR (w:OE) (A:OC) (n:Nat) (vss:List (List Value)):Prop where
 len:vss.length=n
 few:n<=1000
 mem:0<n->∃b off,A=some ⟨b,off,X⟩/\b<w.heap.size/\∀k,k<n->∃A' n' c',w.cell? ⟨b,off+k,X⟩=some (O A' n' c')/\(vss.getD k []).length=n'/\(A'=X->n'=0/\c'=0)/\(∀u∈vss.getD k [],u.oneCell'=true)/\∀W,OB w W->∀ad,A'=some ad->∀j u,(vss.getD k [])[j]? = some u->W.cell? (ad.add j)=some u
def LA(D:List Value)(w:OE)(e:Ending)(w':OE):Prop:=OB w w'/\∃A c,e=.returned (O A D.length c)/\w'.ownsRow w.heap.size 29 1 (O A D.length c) D.length D
theorem uL{ls:List (List Value)}(h:LR w A n ls)(hf:ls.flatten.length<=1000000):
 Calls Try.prog 97 #[O A n c] w (LA ls.flatten w):=by
 obtain⟨i0,hi,a8,a9,b0⟩:=info_parts vB;obtain⟨b3,b8,b9,c0⟩:=OI hi a8 a9 b0;have c3:=h.few;have H:=aB h;clear hi a8 a9 b0 h;go_in;go_wp2_with fail;go_loop [3,11] (fun sv iv=>∃i:Nat,i<=n/\iv=.int .i64 (i:Int)/\sv=.int .i64 (((ls.take i).flatten.length:Nat):Int)) (fun _ i=>n-(intOf i).toNat)
 case atStart=>exact⟨0,by omega,rfl,by simp⟩
 case round =>
  obtain⟨i,hi,rfl,rfl⟩:=hrel;by_cases I:i<n
  . obtain⟨b,off,rfl,_,hm⟩:=H.o.mem aA;obtain⟨A',n',c',hc,ht,_,_,_⟩:=hm i I;have Y:(ls.take (i+1)).flatten.length=(ls.take i).flatten.length+n':=by
     rw[iE ls (by rw[H.o.len];exact I) [],MG,ht]
    have a1:=gE ls (i+1);clear hm ht;have a4:=aB Y;obtain⟨sz,Z⟩:=OM (ls.take i).flatten.length;rw[<-Z]at Y;rw[<-Z];have b7:=aB Z;have c5:sz+n'<=1000000:=aA;clear Y a1 Z;go_wp2_with fail;go_round
    case rel=>exact⟨i+1,by omega,by go_num,by rw[a4.o,<-b7.o];go_num⟩
    case measure=>simp[intOf];omega
  have c1:i=n:=aA;have HF:Hid ((ls.take i).flatten=ls.flatten):=aB (by rw[OA (by rw[H.o.len];omega)]);rw[HF.o];obtain⟨N,hN⟩:=OM ls.flatten.length;rw[<-hN]at hf;rw[<-hN];have HN:=aB hN;have s:=aB (fun w=>CD (w:=w) hf);clear hN;go_wp2_with fail;refine (s.o _).mono ?_;rintro e w2 ⟨a5,g,c2,rfl,U⟩;have b1:=aB a5;have b5:=aB U;clear a5 U;go_wp2_with fail;go_loopw [6,27] (fun sv iv wr=>∃(i:Nat)(A1:OC)(k1:Nat),i<=n/\iv=.int .i64 (i:Int)/\sv=O A1 (ls.take i).flatten.length k1/\Hid (wr.ownsRow w.heap.size 29 1 (O A1 (ls.take i).flatten.length k1) (ls.take i).flatten.length (ls.take i).flatten)/\Hid (OB w wr)) (fun _ i _=>n-(intOf i).toNat)
  case atStart=>exact⟨0,g,c2,by omega,rfl,rfl,by simpa using b5,b1⟩
  case round =>
   obtain⟨i,A1,k1,hi,rfl,rfl,F,G⟩:=hrel;by_cases I:i<n;rotate_left
   . have c1:i=n:=aA;have a2:Hid ((ls.take i).flatten=ls.flatten):=aB (by rw[OA (by rw[H.o.len];omega)]);rw[a2.o]at F;rw[a2.o];go_wp2_with fail;go_ret;exact⟨G.o,A1,k1,rfl,F.o⟩
   obtain⟨b,off,rfl,hb,hm⟩:=H.o.mem aA;obtain⟨A',n',c',hc,ht,a7,h1,hx⟩:=hm i I;have c6:wr.cell? ⟨b,off+i,X⟩=some (O A' n' c'):=(G.o.cell (p:=⟨b,off+i,X⟩) hb).trans hc;have HX:=aB (hx wr G.o);have b4:=aB a7;have H1:=aB h1;have a0:=iE ls (by rw[H.o.len];exact I) [];have a1:=gE ls (i+1);rw[a0,MG,ht,<-HN.o]at a1;have a3:=aB a0;have z:=aB ht;generalize (ls.take i).flatten=l at *;generalize ls.getD i []=nl at *;clear hm hc ht a0 hx a7 h1;have a6:=G.o.size;go_wp2_with (at_builtin;refine bL rfl (cQ (.tmp 31) (.tmp 32) 46 rfl w.heap.size 29 i0 _ 1 24 Try.underlying46 b3.o b8.o b9.o c0.o rfl aE (O A1 l.length k1) l.length l rfl F.o A' n' c' nl rfl (by rw[z.o,Nat.mul_one]) b4.o HX.o H1.o aJ aA a6 ?_);intro A4 c4 w4 D)
   obtain⟨b6,b2⟩:=OF D.own (G.o.grown D.grown a6 (fun g hg=>(aV F.o hg).1));clear D;go_roundw
   case rel=>exact⟨i+1,A4,c4,by omega,by go_num,by rw[a3.o,MG,z.o],aB (by rw[a3.o,MG,z.o];exact b6.o),b2⟩
   case measure=>simp[intOf];omega
theorem vN{base F:Nat}{e:TypeId}{G:List Value}(h:w.ownsRow base e F (O A n c) n G):n<=c:=by
 rcases h.2 with⟨hv,Z⟩|⟨g,cap,D,hv,s,z,o,_⟩
 . omega
 injection hv with I U Y;omega
theorem a8.app{S:Nat->Prop}{w:OE}:∀{F G:List Value} {ls D:OD},a8 S w F ls->a8 S w G D->a8 S w (F++G) (ls++D)
 | [],_,[],_,_,h=>h
 | [],_,_::_,_,h,_=>h.elim
 | _::_,_,[],_,h,_=>h.elim
 | _::_,_,_::_,_,h,I=>⟨h.1,a8.app h.2 I⟩
theorem wM{S:Nat->Prop}{w:OE}{b:Nat}:∀(ls:OD)(off:Nat),(∀k,k<ls.length->∃D G F,w.cell? ⟨b,off+k,X⟩=some (O D G F)/\a6 S w D G F (ls.getD k []))->∃U,a8 S w U ls/\∀j u,U[j]? = some u->w.cell? ⟨b,off+j,X⟩=some u
 | [],off,_=>⟨[],trivial,fun j u h=>by simp at h⟩
 | l::r,off,h=>by
  obtain⟨D,G,F,s,ht⟩:=h 0 aD;obtain⟨U,Z,o⟩:=wM r (off+1) (fun k z=>by
   have Y:=h (k+1) (by simp only[MN];omega);rw[show off+(k+1)=off+1+k from by omega]at Y;exact Y)
  refine⟨O D G F::U,⟨⟨D,G,F,rfl,ht⟩,Z⟩,fun j u I=>?_⟩;cases j with
  | zero=>injection I with I;rw[<-I];exact s
  | succ j=>rw[show off+(j+1)=off+1+j from by omega];exact o j u I
theorem p9{ls:OD}(h:dN (· < w.heap.size) w A n c ls)(D:A=X->c=0):∃F,F.length=n/\a8 (· < w.heap.size) w F ls/\(A=X->n=0/\c=0)/\∀W,OB w W->∀G,A=some G->∀j u,F[j]? = some u->W.cell? (G.add j)=some u:=by
 have hl:=h.len;by_cases hn:0<n
 . obtain⟨b,off,rfl,hb,hm⟩:=h.mem hn;obtain⟨F,Z,s⟩:=wM (S:=(· < w.heap.size)) (w:=w) (b:=b) ls off (fun k hk=>hm k aA);have h3:=Z.len;refine⟨F,by omega,Z,(fun e=>by cases e),fun W z G e j u Y=>?_⟩;injection e with e;subst e;have o:(⟨b,off,X⟩:Addr).add j=⟨b,off+j,X⟩:=by unfold Addr.add;split<;>simp_all
   rw[o];exact (z.cell (p:=⟨b,off+j,X⟩) hb).trans (s j u Y)
 have U:n=0:=aA;subst U;have I:=ND hl;subst I;exact⟨[],rfl,trivial,fun e=>⟨rfl,D e⟩,fun W _ G _ j u Y=>by simp at Y⟩
def KZ(L:OD)(w:OE)(e:Ending)(w':OE):Prop:=OB w w'/\∃A n c,e=.returned (O A n c)/\dN (· < w'.heap.size) w' A n c L/\(A=X->c=0)
theorem uK{g:Nat}{t:TypeId}{U Y:OC}{n1 Z n2 s:Nat}{z L2:OD}(hb:aW w g t #[O U n1 Z,O Y n2 s])(h1:dN (· < w.heap.size) w U n1 Z z)(h2:dN (· < w.heap.size) w Y n2 s L2)(u1:U=X->Z=0)(u2:Y=X->s=0)(hf:n1+n2<=1000000):
 Calls Try.prog 97 #[O (some ⟨g,0,X⟩) 2 2] w (KZ (z++L2) w):=by
 obtain⟨D,a1,b1,d1,e1⟩:=p9 h1 u1;obtain⟨F,a2,b2,d2,e2⟩:=p9 h2 u2;have a0:LR w (some ⟨g,0,X⟩) 2 [D,F]:=⟨rfl,by decide,fun _=>⟨g,0,rfl,hb.lt,fun k hk=>by
  have hc:=hb.cell (0+k);rcases (by omega:k=0\/k=1) with rfl|rfl
  . exact⟨U,n1,Z,hc,a1,d1,lO b1,e1⟩
  exact⟨Y,n2,s,hc,a2,d2,lO b2,e2⟩⟩⟩
 have I:[D,F].flatten=D++F:=by simp
 have h:=uL (c:=2) a0 (by rw[I,MG];omega);rw[I]at h;refine h.mono ?_;rintro e w' ⟨hB,A,c,rfl,ho⟩;have hr:a8 (· < w'.heap.size) w' (D++F) (z++L2):=a8.keep (fun q G=>⟨MD G hB.size,fun o=>hB.cell (p:=⟨q,o,X⟩) G⟩) (a8.app b1 b2);exact⟨hB,A,_,c,rfl,jZ ho hr.len (by rw[MG];omega) hr (fun q G=>G) (fun q G=>(aV ho G).2.1),pL ho⟩
end
theorem yZ{x p q:TT}(Z:JA x)(h:x.1.op=6\/x.1.op=5)(Y:a9 x.2.2=[p,q]):∃e:Nat,jH (aT x) 1=(e:Int)/\1<=e/\e<=(aT x).length/\((aT x).take e).drop 1=aT p/\(aT x).drop e=aT q:=by
 have F:At (aT x) 1 (ds x.1) x.2.2:=At.first (n:=x.1) (a:=x.2.1) (k:=x.2.2) Z aA;have U:ds x.1=[false,false]:=by unfold ds;rw[aN aA];rcases h with h|h<;>rw[h]<;>rfl
 rw[U]at F;obtain⟨G,n1,a1,k1,a0,e1,D⟩:=F.step;obtain⟨I,n2,a2,k2,a3,rfl,s2⟩:=D.next.step;obtain rfl:=ND (show G.length=0 from D.plen);obtain rfl:=ND (show I.length=0 from s2.plen);obtain rfl:=s2.next.done;rw[e1]at Y;simp only[a9,NW,and_true]at Y;obtain⟨rfl,rfl⟩:=Y;have o:=D.end_;have s:=D.cut;have z:=D.le;have h4:=D.next.rest;simp only[NJ,MQ]at o s z h4;refine⟨_,o,by omega,z,s,?_⟩;rw[h4];simp[row,aT]
theorem tL{x p q r:TT}(a0:JA x)(h:x.1.op=7)(z:a9 x.2.2=[p,q,r]):∃D G:Nat,jH (aT x) 1=(D:Int)/\jH (aT x) (D:Int)=(G:Int)/\1<=D/\D<=G/\G<=(aT x).length/\((aT x).take G).drop D=aT q/\(aT x).drop G=aT r:=by
 have I:At (aT x) 1 (ds x.1) x.2.2:=At.first (n:=x.1) (a:=x.2.1) (k:=x.2.2) a0 aA;have s:ds x.1=[false,false,false]:=by unfold ds;rw[aN aA,h];rfl
 rw[s]at I;obtain⟨U,n1,a1,k1,a4,D,o⟩:=I.step;obtain⟨Y,n2,a2,k2,a5,rfl,F⟩:=o.next.step;obtain⟨Z,n3,a3,k3,a6,rfl,s3⟩:=F.next.step;obtain rfl:=ND (show U.length=0 from o.plen);obtain rfl:=ND (show Y.length=0 from F.plen);obtain rfl:=ND (show Z.length=0 from s3.plen);obtain rfl:=s3.next.done;rw[D]at z;simp only[a9,NW,and_true]at z;obtain⟨rfl,rfl,rfl⟩:=z;have h1:=o.end_;have h3:=o.le;have i1:=F.end_;have i2:=F.cut;have i3:=F.le;have i4:=F.next.rest;simp only[NJ,MQ]at h1 h3 i1 i2 i3 i4;refine⟨_,_,h1,i1,by omega,by omega,i3,i2,?_⟩;rw[i4];simp[row,aT]
end Go.Proofs.Ytlahmbhimhmoaaa
