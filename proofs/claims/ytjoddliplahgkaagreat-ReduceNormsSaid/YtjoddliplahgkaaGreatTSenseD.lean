/- Merged: WhW, SenseK, WhK, SenseB, SenseV, SenseU, SenseF, SenseC, SenseD. -/
import Derived.Test.YtjoddliplahgkaaGreatTSenseG
namespace Go.Proofs.YtjoddliplahgkaaGreat
set_option linter.unusedVariables false
set_option linter.unusedSimpArgs false
open Go.RowKit
open Go.Value renaming int → O, slice → X
open Go.IntKind renaming i64 → S
open Option renaming none → Y
section
open Go.Lib renaming hid->aB
set_option maxHeartbeats 4000000
set_option maxRecDepth 100000
def nJ(z:Int):List PanicEntry:=[{ v:=.iface 72 (.agg #[O S z]),recovered:=false }]
theorem jQ{A:ZZ}{n c:Nat}{w:aAB}:Calls Tryz.prog 76 #[X A n c,O S 0] w (fun e w'=>e=.returned (X A n c)/\w'=w):=by
 go_in;go_wp2_with fail;go_ret;exact⟨rfl,rfl⟩
theorem nM{A:ZZ}{n c:Nat}{w:aAB}{z:Int}(hz:z≠0):Calls Tryz.prog 76 #[X A n c,O S z] w (fun e w'=>e=.panicked (nJ z)/\w'=w):=by
 have D:(z != 0)=true:=by simpa using hz
 clear hz;go_in;go_wp2_with fail;exact⟨rfl,rfl,rfl⟩
theorem QW{b:Bk}{free:Int}:∀(m:Nat)(x:TT),bO b free x->bL x<=m->yZ m (aW x) x.1 x.2.2=(aW (bX x).1,(bX x).2.map aW)
 | 0,(n,a,k),_,h=>by rw[cS]at h;omega
 | m+1,x,hx,h=>by
  by_cases D:x.1.op=6
  . obtain⟨f,a,rfl,G,I,U⟩:=OK hx D;have F:=DF (m:=m) (t:=aW (gR f a)) (n:=⟨6,0,0⟩) (n1:=f.1) (a1:=f.2.1) (k1:=f.2.2) (n2:=a.1) (a2:=a.2.1) (k2:=a.2.2) rfl;have ih:=QW m f G aA;rw[sN];show yZ (m+1) (aW (gR f a)) ⟨6,0,0⟩ (.cons [] f.1 f.2.1 f.2.2 (.cons [] a.1 a.2.1 a.2.2 .nil))=_;rw[F];show ((yZ m (aW f) f.1 f.2.2).1,(yZ m (aW f) f.1 f.2.2).2++[aW a])=_;rw[ih];simp
  . rw[qZ D,xV D];rfl
theorem AZ{b:Bk}{free:Int}{x:TT}(D:bO b free x):i8 (aW x)=(aW (bX x).1,(bX x).2.map aW):=by
 unfold i8;rw[XP D.rt.shape,xQ D.rt];exact QW _ x D (XU _)
theorem zH:∀(L:List TT),(L.map aW).flatten.length+(L.map aW).length=cB L
 | []=>rfl
 | a::r=>by
  have:=zH r;have h:bL a=(aW a).length:=rfl;simp only[List.map_cons,ZR,XX,YA,cB]at this ⊢;omega
theorem D3{b:Bk}{free:Int}:∀(L:List TT),(∀a∈L,bO b free a)->eS (L.map aW)=0
 | [],_=>rfl
 | a::r,h=>by
  simp only[List.map_cons,eS];rw[XP (h a aD).rt.shape];exact D3 r fun y D=>h y (by simp[D])
theorem vO{b:Bk}{free:Int}{x:TT}{L:List TT}(G:bO b free x)(F:∀a∈L,bO b free a):fJ (aW x) (L.map aW)=if 4096<bL x+cB L then ([],9) else (aW (dP x L),0):=by
 have h:bL x=(aW x).length:=rfl;have D:=zH L;unfold fJ;rw[XN (by rw[G.rt.shape];simp),XN (by rw[D3 L F];simp),D2,YR];rw[YR]at D;rw[D,<-h]
def fL(lo:Nat)(w:aAB)(f:Fc)(A:ZZ)(n c:Nat)(B:ZZ)(m d:Nat):Prop:=bF (dT lo w (X B m d)) w A n c (aW f.1)/\∃D,w.ownsRow lo 29 1 (X B m d) m D/\bD (dT lo w (X B m d)) w D (f.2.map aW)
def j6(g:Nat)(w:aAB)(f:Fc)(A:ZZ)(n c:Nat)(B:ZZ)(m d:Nat):Prop:=bF (fun q=>q<w.heap.size/\q≠g) w A n c (aW f.1)/\fG (fun q=>q<w.heap.size/\q≠g) w B m d (f.2.map aW)/\(B=Y->d=0)
theorem eE(w:aAB)(b i:Nat)(u:Value):(w.setCell ⟨b,i,Y⟩ u).heap.size=w.heap.size:=by simp[World.setCell]
theorem tX{g base sz m:Nat}{w w':aAB}{e:TypeId}{v:Value}{F:List Value}(h:w.ownsRow base e sz v m F)(I:aZ (fun q=>q=g) Y w w')(U:g<base):w'.ownsRow base e sz v m F:=by
 obtain⟨G,D⟩:=h;refine⟨G,?_⟩;rcases D with D|⟨b,cap,cur,hv,hb,hh,r⟩
 . exact Or.inl D
 subst hv;exact Or.inr ⟨b,cap,cur,rfl,hb,(I.block b (Array.getElem?_eq_some_iff.1 hh).1 aA aD).trans hh,r⟩
theorem rG{w:aAB}{base n c:Nat}{A:ZZ}{e:TypeId}{z:Nat}{I:List Value}(h:w.ownsRow base e z (X A n c) n I):A=Y->c=0:=by
 intro G;rcases h.2 with⟨hv,_⟩|⟨g,cap,F,hv,_⟩
 . injection hv
 injection hv with D;rw[G]at D;cases D
theorem gN{w:aAB}{B F:Nat}{v:Value}{l:List Nd}(h:bK w B v l)(U:F<=B):bK w F v l:=by
 refine⟨h.1,?_⟩;rcases h.2 with D|⟨g,cap,cur,D,G,I⟩
 . exact .inl D
 exact .inr ⟨g,cap,cur,D,YE U G,I⟩
theorem l8{w:aAB}{base base' sz n:Nat}{e:TypeId}{v:Value}{D:List Value}(h:w.ownsRow base e sz v n D)(F:base'<=base):w.ownsRow base' e sz v n D:=by
 obtain⟨I,G⟩:=h;refine⟨I,?_⟩;rcases G with h|⟨g,cap,cur,hv,hg,rest⟩
 . exact .inl h
 exact .inr ⟨g,cap,cur,hv,YE F hg,rest⟩
section
variable {lo lo' g : Nat}{w w' : aAB}{f : Fc}{A B : ZZ}{n c m d : Nat}
theorem fL.base(h:fL lo w f A n c B m d)(F:lo'<=lo):fL lo' w f A n c B m d:=by
 obtain⟨G,Z,I,U⟩:=h;exact⟨G.keep fun q D=>⟨⟨YE F D.1,D.2⟩,fun _=>rfl⟩,Z,l8 I F,bD.keep (fun q D=>⟨⟨YE F D.1,D.2⟩,fun _=>rfl⟩) U⟩
theorem fL.len(h:fL lo w f A n c B m d):n=bL f.1/\m=f.2.length:=by
 obtain⟨D,I,F,G⟩:=h;exact⟨D.len.symm,by have:=G.len;have:=F.1;simp at *;omega⟩
theorem fL.keep(h:fL lo w f A n c B m d)(I:∀q,lo<=q->q<w.heap.size->w'.heap[q]? = w.heap[q]?)(U:w.heap.size<=w'.heap.size)(F:∀G,w.ownsRow lo 29 1 (X B m d) m G->w'.ownsRow lo 29 1 (X B m d) m G):fL lo w' f A n c B m d:=by
 obtain⟨Z,G,s,z⟩:=h;exact⟨Z.keep fun q D=>⟨⟨D.1,XT D.2.1 U,D.2.2⟩,fun o=>aP (I q D.1 D.2.1) o⟩,G,F G s,bD.keep (fun q D=>⟨⟨D.1,XT D.2.1 U,D.2.2⟩,fun o=>aP (I q D.1 D.2.1) o⟩) z⟩
theorem fL.below(h:fL lo w f A n c B m d)(D:ZY w w'):fL lo w' f A n c B m d:=h.keep (fun q _ h=>D.block q h) D.size (fun _ h=>bI h D)
theorem fL.movedG(h:fL lo w f A n c B m d)(G:g<lo)(D:aZ (fun q=>q=g) Y w w'):fL lo w' f A n c B m d:=h.keep (fun q I F=>D.block q F aA aD) D.size (fun _ h=>tX h D G)
theorem fL.set(h:fL lo w f A n c B m d){b:Nat}(D:b<lo)(i:Nat)(u:Value):fL lo (w.setCell ⟨b,i,Y⟩ u) f A n c B m d:=h.keep (fun q F _=>XZ w ⟨b,i,Y⟩ u q (by show q≠b;omega)) (by rw[eE];exact XU _) (fun _ h=>ownsRow_setCell_below h (a:=⟨b,i,Y⟩) D u)
theorem fL.read(h:fL lo w f A n c B m d)(o:g<lo)(U:m<=5864062014805):j6 g w f A n c B m d:=by
 have Z:=h.len;obtain⟨G,s,F,I⟩:=h;exact⟨G.keep fun q D=>⟨⟨D.2.1,by have:=D.1;omega⟩,fun _=>rfl⟩,jL F (by simpa using Z.2) U I (fun q D=>⟨D.2.1,by have:=D.1;omega⟩) (fun q D=>⟨(aS F D).2.1,by have:=(aS F D).1;omega⟩),rG F⟩
theorem j6.moved(h:j6 g w f A n c B m d)(G:aZ (fun q=>q=g) Y w w'):j6 g w' f A n c B m d:=by
 have F:∀q,(q<w.heap.size/\q≠g)->(q<w'.heap.size/\q≠g)/\∀o,w'.cell? ⟨q,o,Y⟩=w.cell? ⟨q,o,Y⟩:=fun q D=>⟨⟨XT D.1 G.size,D.2⟩,fun o=>aP (G.block q D.1 D.2 aD) o⟩;exact⟨h.1.keep F,h.2.1.keep F,h.2.2⟩
theorem j6.below(h:j6 g w f A n c B m d)(D:ZY w w'):j6 g w' f A n c B m d:=h.moved (aZ.of_below D)
theorem j6.head(h:j6 g w f A n c B m d):aX w A n c (aW f.1):=h.1.keep fun _ D=>⟨D.1,fun _=>rfl⟩
theorem j6.args(h:j6 g w f A n c B m d):fG (· < w.heap.size) w B m d (f.2.map aW):=h.2.1.keep fun _ D=>⟨D.1,fun _=>rfl⟩
end
def WN(f:Fc)(w:aAB)(e:Ending)(w':aAB):Prop:=ZY w w'/\∃A n c B m d,e=.returned (.agg #[X A n c,X B m d])/\fL w.heap.size w' f A n c B m d
theorem FI{w:aAB}{g:Nat}{c0 c1:Value}{D:Array Value}(h:aT w g 78 #[c0,c1])(ht:D.getD 2 undef=.pointer (some ⟨g,0,Y⟩)):
 (results Tryz.f42 D).run Tryz.prog w=.ok (.agg #[c0,c1]) w:=by
 have G:=h.cell;have F:D[2]?.getD undef=.pointer (some ⟨g,0,Y⟩):=by rw[<-ht];simp
 simp[results,Tryz.results42,go_sem,F,G]
theorem fR{b:Bk}{free:Int}{x:TT}{A:ZZ}{n c:Nat}{w:aAB}(h:aX w A n c (aW x))(hx:bO b free x):
 Calls Tryz.prog 42 #[X A n c] w (WN (bX x) w):=by
 have F:=aQ w (.cells #[X Y 0 0,X Y 0 0] 78);have a0:=aB F;have U:=aB (aT.new w 78 #[X Y 0 0,X Y 0 0]);have I:=NZ (h.below F);rw[AZ hx]at I;have a2:=aB I;clear I F h hx;go_in;go_wp2_with fail;refine (a2.o).mono ?_;rintro e w2 ⟨G,Z,n2,c2,s,m2,z,xs,rfl,h1,h2,h3⟩;simp only at h1 h3 ⊢;have a1:=bY a0 G;have D:=aB (U.o.below G U.o.lt);have HF:Hid (fL (w.alloc (.cells #[X Y 0 0,X Y 0 0] 78)).heap.size w2 (bX x) Z n2 c2 s m2 z):=aB ⟨h1,xs,h2,h3⟩;have z2:=D.o.cell;have a3:=D.o.frozen;clear h1 h2 h3 G;go_wp2_with fail;refine XW (v:=.agg #[X Z n2 c2,X s m2 z]) (FI (g:=w.heap.size) (by have:=(D.o.set_ 0 (X Z n2 c2)).set_ 1 (X s m2 z);simpa using this) aD) rfl ⟨?_,Z,n2,c2,s,m2,z,rfl,?_⟩
 . exact (a1.o.setCell (p:=⟨w.heap.size,0,Y⟩) (XU _) _).setCell (p:=⟨w.heap.size,1,Y⟩) (XU _) _
 exact (((HF.o.set (b:=w.heap.size) aD 0 _).set (b:=w.heap.size) aD 1 _)).base aD
def VK(f:Fc)(w:aAB)(e:Ending)(w':aAB):Prop:=ZY w w'/\((dA f<=4096/\∃A n c,e=.returned (X A n c)/\bF (eC w w') w' A n c (aW (gA f))/\bK w' w.heap.size (X A n c) (aW (gA f)))\/(4096<dA f/\e=.panicked (nJ 9)))
theorem nR{b:Bk}{free:Int}{g:Nat}{f:Fc}{A B:ZZ}{n c m d:Nat}{w:aAB}(h:j6 g w f A n c B m d)(hf:dM b free f):
 Calls Tryz.prog 43 #[.agg #[X A n c,X B m d]] w (VK f w):=by
 have I:=aQ w (.cells #[X A n c,X B m d] 78);obtain⟨z,a3⟩:=aAC I (aT.new w 78 #[X A n c,X B m d]);have D:=zF (h.below I).head (h.below I).args h.2.2;rw[vO hf.head hf.args]at D;have z1:=a3.o.cell;have a2:dA f=bL f.1+cB f.2:=rfl;by_cases G:4096<bL f.1+cB f.2
 . rw[XP G]at D;have s:=aB D;have F:Hid (4096<dA f):=aB aA;clear D I h hf G a2;go_in;go_wp2_with fail;refine (s.o).mono ?_;rintro e w2 ⟨U,A2,n2,c2,rfl,Z⟩;have a0:=bY z U;clear U Z;go_wp2_with fail;refine (nM aE).mono ?_;rintro e w3 ⟨rfl,rfl⟩;go_wp2_with fail;exact⟨rfl,a0.o,.inr ⟨F.o,rfl⟩⟩
 rw[XN G]at D;have s:=aB D;have F:Hid (dA f<=4096):=aB aA;clear D I h hf G a2;go_in;go_wp2_with fail;refine (s.o).mono ?_;rintro e w2 ⟨U,A2,n2,c2,rfl,Z⟩;have a0:=bY z U;simp only at Z ⊢;have a1:=aB (gN Z z.o.size);have a4:=aB (jK a1.o (by have h8:=gM f;have h9:=F.o;have h7:bL (gA f)=(aW (gA f)).length:=rfl;show (aW (dP f.1 f.2)).length<=_;have h6:gA f=dP f.1 f.2:=rfl;rw[h6]at h7 h8;omega));clear U Z;go_wp2_with fail;refine jQ.mono ?_;rintro e w3 ⟨rfl,rfl⟩;go_wp2_with fail;go_ret;exact⟨a0.o,.inl ⟨F.o,A2,n2,c2,rfl,a4.o,a1.o⟩⟩
theorem sK{g:Nat}{f:Fc}{A B:ZZ}{n c m d:Nat}{w:aAB}(h:j6 g w f A n c B m d)(hs:dA f<=100000):
 Calls Tryz.prog 73 #[.agg #[X A n c,X B m d]] w (fun e w'=>e=.returned (O S (dA f:Int))/\ZY w w'):=by
 have Z:=aQ w (.cells #[X A n c,X B m d] 78);obtain⟨a8,b0⟩:=aAC Z (aT.new w 78 #[X A n c,X B m d]);have z1:=b0.o.cell;have hn:bL f.1=n:=h.1.len;have a6:f.2.length=m:=by have:=h.2.1.len;simpa using this
 have b5:=h.2.1.few;obtain⟨HR,a3⟩:=aAC (h.below Z).args a6;have z:dA f=n+cB f.2:=by unfold dA;omega
 obtain⟨a2,U⟩:=aAJ (dA f);rw[<-U]at hs z ⊢;have a9:=aB z;clear Z h hn a6 z U;go_in;go_wp2_with fail;go_loopw [3,12] (fun sv iv wr=>∃i s:Nat,iv=O S (i:Int)/\sv=O S (s:Int)/\i<=m/\Hid (s+cB (f.2.drop i)=a2)/\wr=w.alloc (.cells #[X A n c,X B m d] 78)) (fun _ iv _=>m-(intOf iv).toNat)
 case atStart=>exact⟨0,n,rfl,rfl,ZA _,aB a9.o.symm,rfl⟩
 case round =>
  obtain⟨i,s,rfl,rfl,hi,G,rfl⟩:=hrel;by_cases F:i<m
  . have d1:decide ((i:Int)<(m:Int))=true:=XR aA;have d2:decide (i<m)=true:=XR F;have d3:(i:Int)<(m:Int):=aA;obtain⟨bb,oo,rfl,b3,I⟩:=HR.o.mem aA;obtain⟨A3,n3,c3,b4,a1⟩:=I i F;have a0:i<f.2.length:=by rw[a3.o];exact F
    have a4:f.2.drop i=f.2[i]::f.2.drop (i+1):=YX a0;have a5:(f.2.map aW).getD i []=aW f.2[i]:=by
     rw[YD,List.getElem?_map,YB a0];rfl
    rw[a5]at a1;have a7:bL f.2[i]=n3:=a1.len;have D:=G.o;rw[a4]at D;simp only[cB]at D;rw[a7]at D;have b1:Hid (s+(1+n3)+cB (f.2.drop (i+1))=a2):=aB aA;have b6:IntKind.i64.wrap (1+(n3:Int))=1+(n3:Int):=by rw[XV];omega
    have b7:IntKind.i64.wrap ((s:Int)+(1+(n3:Int)))=((s+(1+n3):Nat):Int):=by rw[XV];omega
    clear I a1 a0 a4 a5 a7 D G;go_wp2_with fail;go_roundw
    case rel=>exact⟨i+1,s+(1+n3),by go_num,(by first|(congr 1;done)|(congr 1;omega)),by omega,b1,trivial⟩
    case measure=>simp[intOf];omega
  have d1:decide ((i:Int)<(m:Int))=false:=XQ aA;have d2:decide (i<m)=false:=XQ F;have b2:s=a2:=by
   have:=G.o;rw[YY (by rw[a3.o];omega)]at this;simpa[cB] using this
  subst b2;clear G F;go_wp2_with fail;go_ret;exact⟨rfl,a8.o⟩
end
theorem NY(w:aAB):(sizeOf 29).run Tryz.prog w=.ok 1 w:=by kernel_rfl
section
open Go.Lib renaming hid->aB
set_option maxHeartbeats 4000000
set_option maxRecDepth 100000
def J3(ls:aAA)(w:aAB)(e:Ending)(w':aAB):Prop:=ZY w w'/\∃A n c D,e=.returned (X A n c)/\w'.ownsRow w.heap.size 29 1 (X A n c) n D/\bD (dT w.heap.size w' (X A n c)) w' D ls
theorem kE{A:ZZ}{nn c:Nat}{l:List Nd}{w:aAB}(h:aX w A nn c l)(hs:a6 l=0):
 Calls Tryz.prog 104 #[X A nn c] w (J3 (i7 (gC l).2) w):=by
 obtain⟨_,n,e0,k,b3,c7,e5⟩:=eN hs;have b0:gC l=(n,k):=by
  unfold gC;rw[XP hs,b3]
 have e4:bE k<=4096:=by have:=eP k;omega
 have b8:=aB b0;have b5:=cR h;rw[hs]at b5;have I:∀w2,ZY w w2->Calls Tryz.prog 130 #[X A nn c] w2 (r9 n k w2):=fun w2 hb=>AE (h.below hb) hs b3;have d3:=aB b5;have a3:=aB I;clear b5 I b0 hs b3 c7 h;go_in;go_wp2_with fail;refine (d3.o).mono ?_;rintro e w2 ⟨rfl,c1⟩;have U:=aB c1;clear c1;go_wp2_with fail;refine (a3.o _ U.o).mono ?_;rintro e w3 ⟨c2,A1,k1,A2,k2,d8,rfl,c6,d6,hr⟩;have d0:=aB c2;have d2:=aB c6;have HR:=aB hr;clear c2 c6 d6 hr;go_wp2_with fail;go_loopw [16] (fun i wr=>∃(F1 F2:Fo)(j:Nat)(xa xb:List Value),Hid (k=F1.app F2)/\Hid (bE F1=j)/\i=O S (j:Int)/\Hid (wr.ownsRow (w2.heap.size+5) 29 1 (X A1 (bE k) k1) (bE k) (xa++xb)) ∧
  Hid (bD (dT (w2.heap.size+5) wr (X A1 (bE k) k1)) wr xa (i7 F1))/\Hid (bD (· < w2.heap.size) w2 xb (i7 F2))/\Hid (ZY w2 wr)) (fun i _=>bE k-(intOf i).toNat)
 case atStart=>exact⟨.nil,k,0,[],d8,aB rfl,aB rfl,rfl,d2,aB trivial,HR,d0⟩
 case round =>
  obtain⟨F1,F2,j,xa,xb,hk,hj,rfl,G,b4,D,s⟩:=hrel;cases F2 with
  | nil =>
   have b2:k=F1:=hk.o.trans (iK F1);have d5:¬ j<bE k:=by rw[b2,hj.o];omega
   have d1:=aB b2;clear b2
   match xb,D with
   | _::_,D=>exact D.o.elim
   | [],D =>
   go_wp2_with fail;go_ret;rw[b8.o];refine⟨U.o.trans (s.o.mono U.o.size),_,_,_,_,rfl,l8 G.o (by have:=U.o.size;omega),?_⟩;rw[YP];have:=b4.o;rw[<-d1.o]at this;exact bD.keep (fun q hq=>⟨⟨by have:=U.o.size;have:=hq.1;omega,hq.2⟩,fun _=>rfl⟩) this
  | cons pre nd a ks F3 =>
   have d5:j<bE k:=by rw[hk.o,bN,hj.o];simp[bE]
   match xb,D with
   | [],D=>exact D.o.elim
   | x::xb,D =>
   obtain⟨⟨A',n',c',rfl,ht⟩,a8⟩:=D.o;obtain⟨_,b1⟩:=G.o;rcases b1 with⟨_,h2⟩|⟨g,cap',c0,hv,hg,hh,_⟩
   . omega
   injection hv with e1 e2 e3;subst e1;subst e3;clear e2;have b6:xa.length=j:=by rw[b4.o.len,AQ,hj.o]
   have a7:aT wr g 29 c0:=hh;have z:wr.cell? ⟨g,j,Y⟩=some (X A' n' c'):=by
    have:=G.o.cellAt (g:=g) j aA;rw[this,List.getElem?_append_right aA,b6,Nat.sub_self];rfl
   obtain⟨a2,HG,F,b7,b9⟩:=aAD (sC (ht.keep (R':=(· < wr.heap.size)) (w':=wr) fun b hb=>⟨XT hb s.o.size,fun o=>aP (s.o.block b hb) o⟩)) hg a7 a8 b6;clear hg hh a7 ht a8 b6;go_wp2_with fail;refine (a2.o).mono ?_;rintro e w4 ⟨a4,A4,n4,c4,rfl,c8⟩;have Z:aT w4 g 29 c0:=F.o.below a4 F.o.lt;have c9:w4.cell? ⟨g,j,Y⟩=some (X A' n' c'):=(aP (a4.block g F.o.lt) j).trans z;have d9:=Z.frozen;obtain⟨a1,d4,HZ⟩:=aAF a4 c8 (F.o.lt);clear a4 c8 z Z;go_wp2_with fail;go_roundw
   case rel =>
    have a0:=S8 (bI G.o a1.o) j (X A4 n4 c4);rw[List.set_append_right _ _ (by have:=b9.o;omega),b9.o,Nat.sub_self,List.set_cons_zero]at a0;have e8:wr.heap.size<=w4.heap.size:=a1.o.size;have c3:∀b,b≠g->∀o,(w4.setCell ⟨g,j,Y⟩ (X A4 n4 c4)).cell? ⟨b,o,Y⟩=w4.cell? ⟨b,o,Y⟩:=fun b hb o=>aP (XZ _ _ _ _ hb) o;have a9:(w4.setCell ⟨g,j,Y⟩ (X A4 n4 c4)).heap.size=w4.heap.size:=by simp[World.setCell]
    have c5:(Value.slice (some ⟨g,0,Y⟩) (bE k) k1).ownBlock=some g:=rfl;have d7:=s.o.size;refine⟨F1.app (.cons pre nd a ks .nil),F3,j+1,xa++[X A4 n4 c4],xb,aB (by rw[hk.o,cV];rfl),aB (by rw[bN,hj.o];rfl),by go_num,aB ?_,aB ?_,b7,aB ?_⟩
    . rw[ZU];exact a0
    . rw[pF];refine bD.add (d4.o.keep fun b hb=>?_) (b4.o.keep fun b hb=>?_)
      . obtain⟨q1,q2⟩:=hb;have e7:=HZ.o;have e6:=HG.o;have a5:b≠g:=aA;exact⟨⟨by omega,by rw[a9];exact q2,by rw[c5];intro e;injection e with e;exact a5 e.symm⟩,c3 b a5⟩
      obtain⟨q1,q2,q3⟩:=hb;have a5:b≠g:=fun e=>q3 (by rw[c5,e]);refine⟨⟨q1,by rw[a9];omega,q3⟩,fun o=>?_⟩;rw[c3 b a5 o];exact aP (a1.o.block b q2) o
    have:=HG.o;exact (s.o.trans (a1.o.mono d7)).setCell aG _
   case measure=>simp[intOf];omega
theorem zY:∀(F:Fo),i7 F=(bH F).map aW
 | .nil=>rfl
 | .cons p n a k x=>by rw[e8];simp only[i7,List.map_cons,zY x];simp[row,aW]
theorem lL{b:Bk}{free:Int}{x:TT}(D:bO b free x):i7 (gC (aW x)).2=(bH x.2.2).map aW:=by
 rw[xQ D.rt];exact zY _
structure XF (tt:List Nd) (kk:Fo) (nb q p:Nat) (dF:Fo) (zq:List Int):Prop where
 at_:At tt p (O0 (nb-q)) dF
 pl:zq++(cG dF).map (·.a)=mX kk
 len:zq.length=q
theorem mQ{A:ZZ}{n c:Nat}{x:TT}{w:aAB}(ht:aX w A n c (aW x))(hy:LV x)(c0:x.1.op=12):
 Calls Tryz.prog 110 #[X A n c] w (fun e w'=>e=.returned (O S (dG x))/\ZY w w'):=by
 have b3:=(Rt.wf hy).1;have d9:=aV.1 (by simp only[eW,YC]at b3;exact b3.1.1);obtain⟨nb,c6⟩:∃nb:Nat,x.1.b=(nb:Int):=⟨x.1.b.toNat,by omega⟩;obtain⟨na,b1⟩:∃na:Nat,x.1.a=(na:Int):=⟨x.1.a.toNat,by omega⟩;have e6:1<=nb/\nb<=4/\na<nb:=aA;have a3:At (aW x) 1 (ds x.1) x.2.2:=At.first (n:=x.1) (a:=x.2.1) (k:=x.2.2) hy aA;rw[O1 c0 c6]at a3;have F:=ht.len;have e9:n<=4096:=by rw[<-F];exact Rt.few hy
 have d8:0<n:=by rw[<-F];simp[aW]
 obtain⟨bf,off,rfl,d3,d4,c1,d5⟩:=ht.at_ d8;simp only[YU,YF]at c1;rw[show bC (aW x) 0=x.1 from rfl,b1]at c1;have a0:=aB (fun (w':aAB) (h:ZY w w')=>ht.below h);have b4:dG x=(mX x.2.2).getD na 0:=by unfold dG;rw[b1];rfl
 obtain⟨pt,a8⟩:=aAJ (dG x);rw[<-a8]at b4 ⊢;have b9:=aB b4;obtain⟨tt,c7⟩:=aAJ (aW x);rw[<-c7]at a3 F a0;obtain⟨b7,d1⟩:=aAC a3 F;obtain⟨nd,a,kk⟩:=x;simp only at b7 b9;clear b3 d9 a3 c7 ht hy c0 c6 b1 d4 d5 F b4 a8;go_in;go_wp2_with fail;go_loopw [3,8] (fun av iv wr=>∃(q p:Nat)(dF:Fo)(zq:List Int),av=O S (p:Int)/\iv=O S (q:Int)/\q<=na/\p<=n/\Hid (XF tt kk nb q p dF zq)/\Hid (ZY w wr)) (fun _ iv _=>na-(intOf iv).toNat)
 case atStart=>exact⟨0,1,kk,[],rfl,rfl,by omega,by omega,aB ⟨b7.o,rfl,rfl⟩,aB (XS _ _)⟩
 case round =>
  obtain⟨q,p,dF,zq,rfl,rfl,f2,f1,hs,a4⟩:=hrel;obtain⟨U,hZ,hL⟩:=hs.o;have a5:=qK _ U;obtain⟨r,hr⟩:∃r,nb-q=r+1:=⟨nb-q-1,by omega⟩;rw[hr]at U a5;rw[show O0 (r+1)=true::false::O0 r from rfl]at U;obtain⟨e5,n1,a1,k1,f3,rfl,s1⟩:=U.step;obtain⟨c9,e0,a2,k2,c8,rfl,s2⟩:=s1.next.step;obtain⟨fd,rfl,c5,b2⟩:=s1.fun_ rfl;have s:c9.length=0:=s2.plen;obtain rfl:=ZC s;have G:=s2.next;have D:=qK _ G;obtain⟨e1,l1⟩:=(⟨s1.end_,s1.le⟩:_/\_);obtain⟨e2,I,l2⟩:=(⟨s2.end_,s2.cut,s2.le⟩:_/\_/\_);simp only[YA,ZD,YH,YF]at e1 l1 e2 I l2 G D;rw[wR,wR,YO,List.singleton_append,List.map_cons]at hZ;obtain⟨y1,b5⟩:=aAJ ((n1,a1,k1):TT);obtain⟨y2,b6⟩:=aAJ ((e0,a2,k2):TT);rw[<-b5]at e1 l1 e2 I l2 G D;rw[<-b6]at e2 I l2 G D;obtain⟨g1,a9⟩:=aAJ (p+1+(aW y1).length);obtain⟨g2,b0⟩:=aAJ (g1+(aW y2).length);rw[<-a9]at e1 l1 e2 I l2 G D;rw[<-b0]at e2 I l2 G D;rw[d1.o]at l1 l2 a5 D;have z:0<(aW y1).length:=by simp[aW]
  rw[show ((p+1:Nat):Int)=(p:Int)+1 from by omega]at e1;obtain⟨b',o',e',_,_,Z,_⟩:=aX.at_ (a0.o w (XS _ _)) (p:=p) aA;injection e' with e';injection e' with e1' e2';subst e1' e2';rw[b2]at Z;by_cases d7:q<na
  . have a6:=aB (fun (wr:aAB) (h:ZY w wr)=>iZ (a0.o wr h) ((p:Int)+1));rw[e1]at a6;have a7:=aB (fun (wr:aAB) (h:ZY w wr)=>iZ (a0.o wr h) (g1:Int));rw[e2]at a7;have d2:Hid (XF tt kk nb (q+1) g2 c8 (zq++[fd.a])):=aB ⟨by rw[show nb-(q+1)=r from by omega];exact G,by rw[ZU];exact hZ,by simp[hL]⟩;obtain⟨f0,e7,d6⟩:p+1<=g1/\g1<=g2/\g2<=n:=aA;clear U a5 s1 s2 s G D e1 l1 e2 I l2 b5 b6 a9 b0 hr b2 c5 Z hZ hL z hs;go_wp2_with fail;refine (a6.o wr a4.o).mono ?_;rintro e w6 ⟨rfl,c2⟩;have b8:=bY a4 c2;clear c2;go_wp2_with fail;refine (a7.o w6 b8.o).mono ?_;rintro e w7 ⟨rfl,c3⟩;have d0:=bY b8 c3;clear c3;go_wp2_with fail;go_roundw
    case rel=>exact⟨q+1,g2,c8,zq++[fd.a],rfl,by go_num,by omega,d6,d2,d0⟩
    case measure=>simp[intOf];omega
  obtain rfl:q=na:=aA;have c4:fd.a=pt:=by
   rw[b9.o,<-hZ,YD,List.getElem?_append_right aA,hL,Nat.sub_self];rfl
  rw[c4]at Z;have e8:(0:Int)<=(p:Int):=aA;have e4:(p:Int)<(n:Int):=aA;have e3:=(a4.o.cell (p:=⟨bf,off+p*3+1,Y⟩) d3).trans Z;clear U a5 s1 s2 s G D e1 l1 e2 I l2 b5 b6 a9 b0 hr b2 c5 Z hZ hL z hs d7 c4;go_wp2_with fail;go_ret;exact⟨rfl,a4.o⟩
end
theorem l9{w:aAB}{base j d z g:Nat}{e:TypeId}{F:List Value}(h:w.ownsRow base e z (X (some ⟨g,0,Y⟩) j d) j F){i:Nat}{u:Value}(I:F[i]? = some u):w.cell? ⟨g,i,Y⟩=some u:=by
 have D:=World.ownsRow.cells h (g:=g) rfl i u I;have G:(⟨g,0,Y⟩:Addr).add i=⟨g,i,Y⟩:=by unfold Addr.add;split<;>simp_all
 rw[G]at D;exact D

section
open Go.Lib renaming hid->aB
abbrev RW(w w':aAB)(q:Nat):Prop:=w.heap.size<=q/\q<w'.heap.size
def UD(l:List Nd)(w:aAB)(e:Ending)(w':aAB):Prop:=ZY w w'/\∃g c,e=.returned (X (some ⟨g,0,Y⟩) l.length c)/\bK w' w.heap.size (X (some ⟨g,0,Y⟩) l.length c) l
set_option maxRecDepth 100000 in
set_option maxHeartbeats 1000000 in
theorem G2{A:ZZ}{n c:Nat}{l:List Nd}{w:aAB}(h:aX w A n c l)(h0:0<n):
 Calls Tryz.prog 119 #[X A n c] w (UD l w):=by
 have a9:∀(w:aAB)(a:ZZ)(n c n' c':Nat),(binOp .eql 29 (X a n c) (X Y n' c')).run Tryz.prog w=.ok (.bool a.isNone) w:=fun w a n c n' c'=>Lib.run_eql_slice_nil w _ _ a n c n' c' Tryz.underlying29;cases A with
 | none =>
  have h1:=h.nul rfl;have h2:=h.cap;omega
 | some a =>
  obtain⟨i0,hi,a0,a1,a2⟩:=info_parts kP;have a3:=aB hi;have a4:=aB a0;have a5:=aB a1;have a6:=aB a2;clear hi a0 a1 a2;have z:=h.few;have s:=aQ w (.cells #[] 46);have hm:aX (w.alloc (.cells #[] 46)) (some a) n c l:=h.below s;have I:bK (w.alloc (.cells #[] 46)) w.heap.size (X (some ⟨w.heap.size,0,Y⟩) 0 0) []:=World.ownsRow_made w #[] 0 (XU _) (ZA _) rfl;have HM:=aB hm;have G:=aB I;have HB:=aB s;have U:=aB h.len;clear hm I s h;go_in;go_wp2_with (at_builtin;go_loud (refine a8 rfl (bG (.tmp 5) (.tmp 6) 29 29 rfl w.heap.size i0 Tryz.underlying29 Tryz.underlying29 a3.o a4.o a5.o a6.o (X (some ⟨w.heap.size,0,Y⟩) 0 0) [] l rfl G.o rfl HM.o (by simpa using z) aD ?_));intro A4 c4 w4 D Z)
  go_ret;simp only[ZD,YH,YO]at D;have F:bK w4 w.heap.size (X A4 l.length c4) l:=by rw[U.o];exact D
  rcases F.2 with⟨_,h2⟩|⟨g,cap',a7,hv,_⟩
  . have:=U.o;omega
  . injection hv with e1 e2 e3;subst e1;exact⟨HB.o.grown Z.grown HB.o.size (fun g hg=>(aS G.o hg).1),g,c4,by rw[U.o];simp,F⟩
theorem S7{w:aAB}{base g c:Nat}{n0:Nd}{r:List Nd}(h:bK w base (X (some ⟨g,0,Y⟩) (n0::r).length c) (n0::r))(s:(n0::r).length<=5864062014805)(z:Int):bF (fun q=>q=g) (w.setCell ⟨g,1,Y⟩ (O S z)) (some ⟨g,0,Y⟩) (n0::r).length c (⟨n0.op,z,n0.b⟩::r):=by
 have U:=h;rcases h.2 with⟨hv,_⟩|⟨g',cap',F,hv,hg,hh,hc,_⟩
 . cases hv
 injection hv with G e2 e3;injection G with G;injection G with G;subst G;have Z:aT w g 46 F:=hh;have o:=Z.set_ 1 (O S z);refine⟨rfl,by omega,s,(fun e=>by cases e),fun _=>⟨g,0,rfl,rfl,fun k hk=>?_⟩⟩;obtain⟨x1,x2,x3⟩:=mT (n0::r) k hk;have c1:=l9 U x1;have c2:=l9 U x2;have c3:=l9 U x3;rw[Z.cell]at c1 c2 c3;rw[YH,o.cell,o.cell,o.cell];have D:∀j:Nat,j≠1->(F.setIfInBounds 1 (O S z))[j]? = F[j]?:=fun j hj=>by
  rw[Array.getElem?_setIfInBounds_ne (Ne.symm hj)]
 have I:1<F.size:=by
  obtain⟨y1,y2,_⟩:=mT (n0::r) 0 aD;have:=l9 U y2;rw[Z.cell]at this;exact (Array.getElem?_eq_some_iff.1 this).1
 cases k with
 | zero =>
  refine⟨by rw[D _ aA];exact c1,?_,by rw[D _ aA];exact c3⟩;rw[YU,YH,Array.getElem?_setIfInBounds_self_of_lt I];rfl
 | succ k =>
  refine⟨by rw[D _ aA];exact c1,by rw[D _ aA];exact c2,by rw[D _ aA];exact c3⟩
end

section
section
variable {w0 w w' w1 : aAB}{g f n c : Nat}{v : bR}{b : Bk}{A : ZZ}{l : List Nd}{r : RV}{e : Ending}
end
end
theorem vJ.arg_at{w:aAB}{A:ZZ}{n c:Nat}{cs:List Ct}(h:vJ w A n c cs){k:Nat}(U:k<n):∃b off D n1 c1,A=some ⟨b,off,Y⟩/\b<w.heap.size/\w.cell? ⟨b,off+k*2,Y⟩=some (X D n1 c1)/\(cs.getD k default).args.length=n1:=by
 obtain⟨b,off,e,I,Z⟩:=h.mem aA;obtain⟨D,n1,c1,o,n2,c2,F,_,G,_⟩:=Z k U;exact⟨b,off,D,n1,c1,e,I,F,G.len⟩
end Go.Proofs.YtjoddliplahgkaaGreat
