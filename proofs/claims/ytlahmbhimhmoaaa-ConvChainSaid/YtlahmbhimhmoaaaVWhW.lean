/- core: words for a focus in memory; must, focused, row, size, onto. -/
import Derived.Test.YtlahmbhimhmoaaaVSenseG
namespace Go.Proofs.Ytlahmbhimhmoaaa
set_option linter.unusedVariables false
set_option linter.unusedSimpArgs false
open Go.RowKit
open Go.Value renaming slice → O
open Option renaming none → S
open Go.Lib renaming hid->aB
set_option maxHeartbeats 4000000
set_option maxRecDepth 100000
def nE(z:Int):List PanicEntry:=[{ v:=.iface 131 (.agg #[.int .i64 z]),recovered:=false }]
theorem gK{A:OC}{n c:Nat}{w:OE}:Calls Try.prog 80 #[O A n c,.int .i64 0] w (fun e w'=>e=.returned (O A n c)/\w'=w):=by
 go_in;go_wp2_with fail;go_ret;exact⟨rfl,rfl⟩
theorem jF{A:OC}{n c:Nat}{w:OE}{z:Int}(hz:z≠0):Calls Try.prog 80 #[O A n c,.int .i64 z] w (fun e w'=>e=.panicked (nE z)/\w'=w):=by
 have D:(z != 0)=true:=by simpa using hz
 clear hz;go_in;go_wp2_with fail;exact⟨rfl,rfl,rfl⟩
theorem FK{b:Bk}{free:Int}:∀(m:Nat)(x:TT),bJ b free x->bZ x<=m->wD m (aT x) x.1 x.2.2=(aT (cV x).1,(cV x).2.map aT)
 | 0,(n,a,k),_,h=>by rw[cS]at h;omega
 | m+1,x,hx,h=>by
  by_cases D:x.1.op=6
  . obtain⟨f,a,rfl,G,U,Y⟩:=DM hx D;have F:=AL (m:=m) (t:=aT (eS f a)) (n:=⟨6,0,0⟩) (n1:=f.1) (a1:=f.2.1) (k1:=f.2.2) (n2:=a.1) (a2:=a.2.1) (k2:=a.2.2) rfl;have I:=FK m f G aA;rw[mH];show wD (m+1) (aT (eS f a)) ⟨6,0,0⟩ (.cons [] f.1 f.2.1 f.2.2 (.cons [] a.1 a.2.1 a.2.2 .nil))=_;rw[F];show ((wD m (aT f) f.1 f.2.2).1,(wD m (aT f) f.1 f.2.2).2++[aT a])=_;rw[I];simp
  . rw[o0 D,wE D];rfl
theorem mX{b:Bk}{free:Int}{x:TT}(D:bJ b free x):jQ (aT x)=(aT (cV x).1,(cV x).2.map aT):=by
 unfold jQ;rw[LZ D.rt.shape,yU D.rt];exact FK _ x D (MF _)
theorem rD:∀(L:List TT),(L.map aT).flatten.length+(L.map aT).length=cF L
 | []=>rfl
 | a::r=>by
  have:=rD r;have h:bZ a=(aT a).length:=rfl;simp only[List.map_cons,NS,MG,MN,cF]at this ⊢;omega
theorem uA{b:Bk}{free:Int}:∀(L:List TT),(∀a∈L,bJ b free a)->cP (L.map aT)=0
 | [],_=>rfl
 | a::r,h=>by
  simp only[List.map_cons,cP];rw[LZ (h a aD).rt.shape];exact uA r fun y D=>h y (by simp[D])
theorem t7{b:Bk}{free:Int}{x:TT}{L:List TT}(G:bJ b free x)(F:∀a∈L,bJ b free a):fB (aT x) (L.map aT)=if 4096<bZ x+cF L then ([],9) else (aT (hI x L),0):=by
 have h:bZ x=(aT x).length:=rfl;have D:=rD L;unfold fB;rw[aN (by rw[G.rt.shape];simp),aN (by rw[uA L F];simp),t9,MX];rw[MX]at D;rw[D,<-h]
def dM(lo:Nat)(w:OE)(f:Fc)(A:OC)(n c:Nat)(B:OC)(m d:Nat):Prop:=a6 (e7 lo w (O B m d)) w A n c (aT f.1)/\∃D,w.ownsRow lo 29 1 (O B m d) m D/\a8 (e7 lo w (O B m d)) w D (f.2.map aT)
def gJ(g:Nat)(w:OE)(f:Fc)(A:OC)(n c:Nat)(B:OC)(m d:Nat):Prop:=a6 (fun q=>q<w.heap.size/\q≠g) w A n c (aT f.1)/\dN (fun q=>q<w.heap.size/\q≠g) w B m d (f.2.map aT)/\(B=S->d=0)
theorem dI(w:OE)(b i:Nat)(u:Value):(w.setCell ⟨b,i,S⟩ u).heap.size=w.heap.size:=by simp[World.setCell]
theorem vZ{g base F m:Nat}{w w':OE}{e:TypeId}{v:Value}{G:List Value}(h:w.ownsRow base e F v m G)(U:aS (fun q=>q=g) S w w')(Y:g<base):w'.ownsRow base e F v m G:=by
 obtain⟨I,D⟩:=h;refine⟨I,?_⟩;rcases D with D|⟨b,cap,cur,hv,hb,hh,r⟩
 . exact Or.inl D
 subst hv;exact Or.inr ⟨b,cap,cur,rfl,hb,(U.block b (Array.getElem?_eq_some_iff.1 hh).1 aA aD).trans hh,r⟩
theorem pL{w:OE}{base n c:Nat}{A:OC}{e:TypeId}{z:Nat}{I:List Value}(h:w.ownsRow base e z (O A n c) n I):A=S->c=0:=by
 intro G;rcases h.2 with⟨hv,_⟩|⟨g,cap,F,hv,_⟩
 . injection hv
 injection hv with D;rw[G]at D;cases D
theorem iI{w:OE}{B F:Nat}{v:Value}{l:List Nd}(h:bG w B v l)(U:F<=B):bG w F v l:=by
 refine⟨h.1,?_⟩;rcases h.2 with D|⟨g,cap,cur,D,G,I⟩
 . exact .inl D
 exact .inr ⟨g,cap,cur,D,MO U G,I⟩
theorem mQ{w:OE}{base base' D n:Nat}{e:TypeId}{v:Value}{F:List Value}(h:w.ownsRow base e D v n F)(G:base'<=base):w.ownsRow base' e D v n F:=by
 obtain⟨U,I⟩:=h;refine⟨U,?_⟩;rcases I with h|⟨g,cap,cur,hv,hg,rest⟩
 . exact .inl h
 exact .inr ⟨g,cap,cur,hv,MO G hg,rest⟩
section
variable {lo lo' g : Nat}{w w' : OE}{f : Fc}{A B : OC}{n c m d : Nat}
theorem dM.base(h:dM lo w f A n c B m d)(F:lo'<=lo):dM lo' w f A n c B m d:=by
 obtain⟨G,Y,I,U⟩:=h;exact⟨G.keep fun q D=>⟨⟨MO F D.1,D.2⟩,fun _=>rfl⟩,Y,mQ I F,a8.keep (fun q D=>⟨⟨MO F D.1,D.2⟩,fun _=>rfl⟩) U⟩
theorem dM.len(h:dM lo w f A n c B m d):n=bZ f.1/\m=f.2.length:=by
 obtain⟨D,I,F,G⟩:=h;exact⟨D.len.symm,by have:=G.len;have:=F.1;simp at *;omega⟩
theorem dM.keep(h:dM lo w f A n c B m d)(I:∀q,lo<=q->q<w.heap.size->w'.heap[q]? = w.heap[q]?)(U:w.heap.size<=w'.heap.size)(F:∀G,w.ownsRow lo 29 1 (O B m d) m G->w'.ownsRow lo 29 1 (O B m d) m G):dM lo w' f A n c B m d:=by
 obtain⟨Y,G,Z,s⟩:=h;exact⟨Y.keep fun q D=>⟨⟨D.1,MD D.2.1 U,D.2.2⟩,fun o=>aP (I q D.1 D.2.1) o⟩,G,F G Z,a8.keep (fun q D=>⟨⟨D.1,MD D.2.1 U,D.2.2⟩,fun o=>aP (I q D.1 D.2.1) o⟩) s⟩
theorem dM.below(h:dM lo w f A n c B m d)(D:OB w w'):dM lo w' f A n c B m d:=h.keep (fun q _ h=>D.block q h) D.size (fun _ h=>bY h D)
theorem dM.movedG(h:dM lo w f A n c B m d)(G:g<lo)(D:aS (fun q=>q=g) S w w'):dM lo w' f A n c B m d:=h.keep (fun q I F=>D.block q F aA aD) D.size (fun _ h=>vZ h D G)
theorem dM.set(h:dM lo w f A n c B m d){b:Nat}(D:b<lo)(i:Nat)(u:Value):dM lo (w.setCell ⟨b,i,S⟩ u) f A n c B m d:=h.keep (fun q F _=>MH w ⟨b,i,S⟩ u q (by show q≠b;omega)) (by rw[dI];exact MF _) (fun _ h=>ownsRow_setCell_below h (a:=⟨b,i,S⟩) D u)
theorem dM.read(h:dM lo w f A n c B m d)(Z:g<lo)(U:m<=5864062014805):gJ g w f A n c B m d:=by
 have Y:=h.len;obtain⟨G,o,F,I⟩:=h;exact⟨G.keep fun q D=>⟨⟨D.2.1,by have:=D.1;omega⟩,fun _=>rfl⟩,jZ F (by simpa using Y.2) U I (fun q D=>⟨D.2.1,by have:=D.1;omega⟩) (fun q D=>⟨(aV F D).2.1,by have:=(aV F D).1;omega⟩),pL F⟩
theorem gJ.moved(h:gJ g w f A n c B m d)(G:aS (fun q=>q=g) S w w'):gJ g w' f A n c B m d:=by
 have F:∀q,(q<w.heap.size/\q≠g)->(q<w'.heap.size/\q≠g)/\∀o,w'.cell? ⟨q,o,S⟩=w.cell? ⟨q,o,S⟩:=fun q D=>⟨⟨MD D.1 G.size,D.2⟩,fun o=>aP (G.block q D.1 D.2 aD) o⟩;exact⟨h.1.keep F,h.2.1.keep F,h.2.2⟩
theorem gJ.below(h:gJ g w f A n c B m d)(D:OB w w'):gJ g w' f A n c B m d:=h.moved (aS.of_below D)
theorem gJ.head(h:gJ g w f A n c B m d):aX w A n c (aT f.1):=h.1.keep fun _ D=>⟨D.1,fun _=>rfl⟩
theorem gJ.args(h:gJ g w f A n c B m d):dN (· < w.heap.size) w B m d (f.2.map aT):=h.2.1.keep fun _ D=>⟨D.1,fun _=>rfl⟩
end
def LB(f:Fc)(w:OE)(e:Ending)(w':OE):Prop:=OB w w'/\∃A n c B m d,e=.returned (.agg #[O A n c,O B m d])/\dM w.heap.size w' f A n c B m d
theorem vU{w:OE}{g:Nat}{G I:Value}{D:Array Value}(h:aW w g 109 #[G,I])(ht:D.getD 2 undef=.pointer (some ⟨g,0,S⟩)):
 (results Try.f58 D).run Try.prog w=.ok (.agg #[G,I]) w:=by
 have U:=h.cell;have F:D[2]?.getD undef=.pointer (some ⟨g,0,S⟩):=by rw[<-ht];simp
 simp[results,Try.results58,go_sem,F,U]
theorem eT{b:Bk}{free:Int}{x:TT}{A:OC}{n c:Nat}{w:OE}(h:aX w A n c (aT x))(hx:bJ b free x):
 Calls Try.prog 58 #[O A n c] w (LB (cV x) w):=by
 have F:=aQ w (.cells #[O S 0 0,O S 0 0] 109);have a0:=aB F;have U:=aB (aW.new w 109 #[O S 0 0,O S 0 0]);have I:=mW (h.below F);rw[mX hx]at I;have a2:=aB I;clear I F h hx;go_in;go_wp2_with fail;refine (a2.o).mono ?_;rintro e w2 ⟨G,Y,n2,s,Z,m2,z,xs,rfl,h1,h2,h3⟩;simp only at h1 h3 ⊢;have a1:=bK a0 G;have D:=aB (U.o.below G U.o.lt);have HF:Hid (dM (w.alloc (.cells #[O S 0 0,O S 0 0] 109)).heap.size w2 (cV x) Y n2 s Z m2 z):=aB ⟨h1,xs,h2,h3⟩;have z2:=D.o.cell;have a4:=D.o.frozen;have a3:w.heap.size<w2.heap.size:=D.o.lt;clear h1 h2 h3 G;go_wp2_with fail;refine NG (v:=.agg #[O Y n2 s,O Z m2 z]) (vU (g:=w.heap.size) (by have:=(D.o.set_ 0 (O Y n2 s)).set_ 1 (O Z m2 z);simpa using this) aD) rfl ⟨?_,Y,n2,s,Z,m2,z,rfl,?_⟩
 . exact (a1.o.setCell (p:=⟨w.heap.size,0,S⟩) (MF _) _).setCell (p:=⟨w.heap.size,1,S⟩) (MF _) _
 exact (((HF.o.set (b:=w.heap.size) aD 0 _).set (b:=w.heap.size) aD 1 _)).base aD
def J5(f:Fc)(w:OE)(e:Ending)(w':OE):Prop:=OB w w'/\((cJ f<=4096/\∃A n c,e=.returned (O A n c)/\a6 (zX w w') w' A n c (aT (eR f))/\bG w' w.heap.size (O A n c) (aT (eR f)))\/(4096<cJ f/\e=.panicked (nE 9)))
theorem uY{b:Bk}{free:Int}{g:Nat}{f:Fc}{A B:OC}{n c m d:Nat}{w:OE}(h:gJ g w f A n c B m d)(hf:cG b free f):
 Calls Try.prog 59 #[.agg #[O A n c,O B m d]] w (J5 f w):=by
 have I:=aQ w (.cells #[O A n c,O B m d] 109);obtain⟨s,a2⟩:=OF I (aW.new w 109 #[O A n c,O B m d]);have D:=rB (h.below I).head (h.below I).args h.2.2;rw[t7 hf.head hf.args]at D;have z1:=a2.o.cell;have a1:cJ f=bZ f.1+cF f.2:=rfl;by_cases G:4096<bZ f.1+cF f.2
 . rw[LZ G]at D;have Z:=aB D;have F:Hid (4096<cJ f):=aB aA;clear D I h hf G a1;go_in;go_wp2_with fail;refine (Z.o).mono ?_;rintro e w2 ⟨U,A2,n2,c2,rfl,Y⟩;have z:=bK s U;clear U Y;go_wp2_with fail;refine (jF aE).mono ?_;rintro e w3 ⟨rfl,rfl⟩;go_wp2_with fail;exact⟨rfl,z.o,.inr ⟨F.o,rfl⟩⟩
 rw[aN G]at D;have Z:=aB D;have F:Hid (cJ f<=4096):=aB aA;clear D I h hf G a1;go_in;go_wp2_with fail;refine (Z.o).mono ?_;rintro e w2 ⟨U,A2,n2,c2,rfl,Y⟩;have z:=bK s U;simp only at Y ⊢;have a0:=aB (iI Y s.o.size);have a3:=aB (gH a0.o (by have h8:=fT f;have h9:=F.o;have h7:bZ (eR f)=(aT (eR f)).length:=rfl;show (aT (hI f.1 f.2)).length<=_;have h6:eR f=hI f.1 f.2:=rfl;rw[h6]at h7 h8;omega));clear U Y;go_wp2_with fail;refine gK.mono ?_;rintro e w3 ⟨rfl,rfl⟩;go_wp2_with fail;go_ret;exact⟨z.o,.inl ⟨F.o,A2,n2,c2,rfl,a3.o,a0.o⟩⟩
theorem rM{g:Nat}{f:Fc}{A B:OC}{n c m d:Nat}{w:OE}(h:gJ g w f A n c B m d)(hs:cJ f<=100000):
 Calls Try.prog 76 #[.agg #[O A n c,O B m d]] w (fun e w'=>e=.returned (.int .i64 (cJ f:Int))/\OB w w'):=by
 have Y:=aQ w (.cells #[O A n c,O B m d] 109);obtain⟨a7,a9⟩:=OF Y (aW.new w 109 #[O A n c,O B m d]);have z1:=a9.o.cell;have hn:bZ f.1=n:=h.1.len;have a5:f.2.length=m:=by have:=h.2.1.len;simpa using this
 have b4:=h.2.1.few;obtain⟨HR,a2⟩:=OF (h.below Y).args a5;have Z:cJ f=n+cF f.2:=by unfold cJ;omega
 obtain⟨a1,U⟩:=OM (cJ f);rw[<-U]at hs Z ⊢;have a8:=aB Z;clear Y h hn a5 Z U;go_in;go_wp2_with fail;go_loopw [3,12] (fun sv iv wr=>∃i s:Nat,iv=.int .i64 (i:Int)/\sv=.int .i64 (s:Int)/\i<=m/\Hid (s+cF (f.2.drop i)=a1)/\wr=w.alloc (.cells #[O A n c,O B m d] 109)) (fun _ iv _=>m-(intOf iv).toNat)
 case atStart=>exact⟨0,n,rfl,rfl,NH _,aB a8.o.symm,rfl⟩
 case round =>
  obtain⟨i,s,rfl,rfl,hi,G,rfl⟩:=hrel;by_cases F:i<m
  . have d1:decide ((i:Int)<(m:Int))=true:=MB aA;have d2:decide (i<m)=true:=MB F;have d3:(i:Int)<(m:Int):=aA;obtain⟨bb,oo,rfl,b2,I⟩:=HR.o.mem aA;obtain⟨A3,n3,c3,b3,a0⟩:=I i F;have z:i<f.2.length:=by rw[a2.o];exact F
    have a3:f.2.drop i=f.2[i]::f.2.drop (i+1):=MT z;have a4:(f.2.map aT).getD i []=aT f.2[i]:=by
     rw[MK,List.getElem?_map,MI z];rfl
    rw[a4]at a0;have a6:bZ f.2[i]=n3:=a0.len;have D:=G.o;rw[a3]at D;simp only[cF]at D;rw[a6]at D;have b0:Hid (s+(1+n3)+cF (f.2.drop (i+1))=a1):=aB aA;have b5:IntKind.i64.wrap (1+(n3:Int))=1+(n3:Int):=by rw[MP];omega
    have b6:IntKind.i64.wrap ((s:Int)+(1+(n3:Int)))=((s+(1+n3):Nat):Int):=by rw[MP];omega
    clear I a0 z a3 a4 a6 D G;go_wp2_with fail;go_roundw
    case rel=>exact⟨i+1,s+(1+n3),by go_num,(by first|(congr 1;done)|(congr 1;omega)),by omega,b0,trivial⟩
    case measure=>simp[intOf];omega
  have d1:decide ((i:Int)<(m:Int))=false:=MA aA;have d2:decide (i<m)=false:=MA F;have b1:s=a1:=by
   have:=G.o;rw[NB (by rw[a2.o];omega)]at this;simpa[cF] using this
  subst b1;clear G F;go_wp2_with fail;go_ret;exact⟨rfl,a7.o⟩
end Go.Proofs.Ytlahmbhimhmoaaa
