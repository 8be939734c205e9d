/- Merged: RvR, WhA, WhB. -/
import Derived.Test.YtjoddliplahgkaaGreatTRefTerm
namespace Go.Proofs.YtjoddliplahgkaaGreat
set_option maxHeartbeats 4000000
set_option maxRecDepth 100000
set_option linter.unusedVariables false
set_option linter.unusedSimpArgs false
open Go.RowKit
open Go.Value renaming int → O, slice → Y
open Go.IntKind renaming i64 → X
open Option renaming none → Z
variable {c d g m n:Nat}{A B:ZZ}{w:aAB}
section
open Go.Lib renaming hid->aB
theorem E7{F1 F2:Fo}{f nd:Nd}{D:List Nd}{F:Fo}(h:fU true 0 (F1.app (.cons [f] nd D F F2)))(U:bE F1 % 2=0):
 bC (cG (F1.app (.cons [f] nd D F F2))) (bE F1 / 2)=f/\bE F1 / 2<(cG (F1.app (.cons [f] nd D F F2))).length:=by
 rw[fU.app]at h;have I:=AH F1 0 h.1;have G:(cG F1).length=bE F1 / 2:=aA;rw[iR];simp only[cG,bC];refine⟨?_,by simp;omega⟩;rw[<-G];simp
theorem NR(m:Nat) (ih:∀(w:aAB)(R:Nat->Prop)(xs:List Value)(n:Nd)(atoms:List Nd)(kids:Fo),(∀b,R b->b<w.heap.size)->cJ R w xs n atoms kids->fU (decide (n.op=12)) 0 kids->(row (.cons [] n atoms kids .nil)).length<=5864062014805->aY kids<m →
      Calls Tryz.prog 47 #[.agg xs.toArray] w (mL (row (.cons [] n atoms kids .nil)) w))
 (w:aAB) (R:Nat->Prop) (xs:List Value) (n:Nd) (atoms:List Nd) (kids:Fo) (hR:∀b,R b->b<w.heap.size) (ht:cJ R w xs n atoms kids) (hp:fU (decide (n.op=12)) 0 kids) (d0:(row (.cons [] n atoms kids .nil)).length<=5864062014805) (f5:aY kids<=m) :
 Calls Tryz.prog 47 #[.agg xs.toArray] w (mL (row (.cons [] n atoms kids .nil)) w):=by
 have HI:=aB ih;clear ih;obtain⟨sk,sa,sf,rfl,⟨Ak,nk,ck,rfl,f1⟩,⟨Aa,na,ca,rfl,e7⟩,⟨Af,nf,cf,rfl,h0⟩⟩:=ht;obtain⟨i0,hi,f6,f7,f8⟩:=info_parts kP;obtain⟨b3,b5,b6,b7⟩:=aAE hi f6 f7 f8;clear hi f6 f7 f8;have c0:atoms.length+(row kids).length+1<=5864062014805:=by
  simp only[row,YO,YA,XX,YP]at d0;omega
 have G:=aB c0;clear d0 c0;go_in;go_wp2_with (at_builtin;refine a8 rfl (bG (.tmp 7) (.tmp 9) 29 28 rfl (w.heap.size+1) i0 Tryz.underlying29 Tryz.underlying28 b3.o b5.o b6.o b7.o (Y (some ⟨w.heap.size+1,0,Z⟩) 1 1) [n] atoms rfl (oA aD aD n) rfl (e7.keep (R':=fun _=>True) fun b hb=>⟨trivial,fun o=>by have:=hR b hb;rw[World.cell?_alloc_lt _ _ _ aG,World.cell?_alloc_lt _ _ _ this]⟩) (by have:=G.o;have:=e7.len;simp<;>omega) aH ?_);intro A1 c1 w1 d6 a9)
 -- LOOP
 have g8:ZY w w1:=(bS w _ _).grown a9.grown aG (fun g hg=>by
  have:w.heap.size+1=g:=by simpa[Value.ownBlock] using hg
  omega)
 have e9:aT w1 w.heap.size 85 #[O X n.op,O X n.a,O X n.b,Y Ak nk ck,Y Aa na ca,Y Af nf cf]:=aT.grown ((aT.new _ _ _).alloc _) a9.grown (fun e=>by
  simp[Value.ownBlock]at e)
 obtain⟨d3,HP,d1⟩:=aAF f5 hp f1.len;clear f5 hp a9;have h6:nk<=1000000000000000:=by
  have h1:=G.o;have h2:=d1.o;have h3:=uS kids;omega
 go_loopw [3,4] (fun v i wr=>∃(F1 F2:Fo)(j:Nat)(A1:ZZ)(k1 c1:Nat),kids=F1.app F2/\bE F1=j/\v=Y A1 k1 c1/\i=O X (j:Int)/\bK wr (w.heap.size+1) (Y A1 k1 c1) (n::(atoms++row F1))/\ZY w wr ∧
  aT wr w.heap.size 85 #[O X n.op,O X n.a,O X n.b,Y Ak nk ck,Y Aa na ca,Y Af nf cf]) (fun _ i _=>nk-(intOf i).toNat)
 case atStart=>exact⟨.nil,kids,0,A1,_,c1,rfl,rfl,rfl,rfl,by simpa[row] using d6,g8,e9⟩
 case round =>
  obtain⟨F1,F2,j,A1,k1,c1,hk,hj,rfl,rfl,h,z,s⟩:=hrel;obtain⟨HK,HJ⟩:=aAC hk hj;have b2:w.heap.size+1<=wr.heap.size:=aT.lt s;have c9:=f1.keep (R':=R) (w':=wr) (fun b hb=>⟨hb,fun o=>z.cell (p:=⟨b,o,Z⟩) (hR b hb)⟩);have c7:=h0.keep (R':=R) (w':=wr) (fun b hb=>⟨hb,fun o=>z.cell (p:=⟨b,o,Z⟩) (hR b hb)⟩);have zc:=aT.cell s;cases F2 with
  | nil =>
   have f0:j=nk:=by rw[<-d1.o,hk,bN,hj];rfl
   have h5:¬ j<nk:=aA;clear hk hj f0;go_wp2_with fail;go_ret;refine⟨z,A1,k1,c1,rfl,?_⟩;have hd:row (.cons [] n atoms kids .nil)=n::(atoms++row F1):=by rw[HK.o,iK];simp[row]
   rw[hd];have hl:(n::(atoms++row F1)).length<=5864062014805:=by
    have:=G.o;rw[HK.o,iK]at this;simp;omega
   obtain⟨A',n',c',e,ht⟩:=h.termS hl;injection e with e1 e2 e3;subst e1 e2 e3;exact ht.keep fun b hb=>⟨⟨by have:=(aS h hb).1;omega,(aS h hb).2.1⟩,fun _=>rfl⟩
  | cons pre nd I ks F2 =>
   have f0:j<nk:=by rw[<-d1.o,hk,bN,hj];simp[bE]
   have c8:eX R wr Ak nk ck (F1.app (.cons pre nd I ks F2)):=by rw[<-hk];exact c9
   have d7:fU (decide (n.op=12)) 0 (F1.app (.cons pre nd I ks F2)):=by rw[<-hk];exact HP.o
   obtain⟨b,off,e5,e0,e4,rfl,h4,b1,g0,g1,g2,g3,g4,g5⟩:=c8.at_;rw[hj]at g0 g1 g2 g3 g4 g5;obtain⟨b0,d9,_⟩:=(fU.app F1 _ 0).1 d7 |>.2;rw[YH,hj]at b0;have g6:=aB d7;have a1:bF R wr Af nf cf (cG (F1.app (.cons pre nd I ks F2))):=by rw[<-hk];exact c7
   clear hk hj c8 d7 c9 c7;by_cases a4:n.op=12
   . have e6:(n.op==12)=true:=by simp[a4]
     by_cases a6:j % 2=0;rotate_left
     . have d8:((j:Int) % 2==0)=false:=by simp;omega
       have a3:pre=[]:=ZC (by rw[b0,XN (fun hh=>a6 hh.2)]);have d2:=aB a3;clear a4 a6 b0 a3 a1;go_wp2_with fail;refine (HI.o wr R [O X nd.op,O X nd.a,O X nd.b,e5,e0,e4] nd I ks (fun b hb=>XT (hR b hb) z.size) b1 d9 (by have:=G.o;rw[HK.o,fW]at this;simp only[row,XX,YA,YO,YP]at this ⊢;omega) (by have:=d3.o;rw[HK.o,dQ]at this;simp only[aY]at this;omega)).mono ?_;rintro e w2 ⟨U,A3,n3,c3,rfl,a7⟩;have f3:n3+(row F1).length+atoms.length+1<=5864062014805:=by
        have:=G.o;rw[HK.o,fW]at this;have h3:=a7.len;simp only[row,XX,YA,YO,YP]at this h3;omega
       have D:=bK.below h U;have b9:w.heap.size+1<=w2.heap.size:=YE b2 U.size;go_wp2_with (at_builtin;refine a8 rfl (bG (.tmp 36) (.tmp 42) 29 29 rfl (w.heap.size+1) i0 Tryz.underlying29 Tryz.underlying29 b3.o b5.o b6.o b7.o _ (n::(atoms++row F1)) _ rfl D rfl a7 aH b9 ?_);intro A4 c4 w4 a0 F)
       go_roundw
       case rel =>
        refine⟨F1.app (.cons pre nd I ks .nil),F2,j+1,A4,_,c4,by rw[HK.o,cV];rfl,by rw[bN];simp[bE,HJ.o],rfl,by go_num,?_,((z.trans (U.mono z.size)).grown F.grown aA (fun g hg=>by have:=(aS D hg).1;omega)),aT.grown (aT.below s U (aT.lt s)) F.grown (eF D (YL _))⟩;have e:(n::(atoms++row (F1.app (.cons pre nd I ks .nil))))=(n::(atoms++row F1))++row (.cons [] nd I ks .nil):=by
         have a3:=d2.o;subst a3;rw[fW];simp[row]
        exact a0.cast aH e.symm
       case measure=>simp[intOf];omega
     have d8:((j:Int) % 2==0)=true:=by simp;omega
     obtain⟨f,rfl⟩:∃f,pre=[f]:=List.length_eq_one_iff.1 (by rw[b0,XP ⟨by simp[a4],a6⟩]);obtain⟨d4,d5⟩:=E7 (by have:=g6.o;rwa [XR a4]at this) (by rw[HJ.o];exact a6);rw[HJ.o]at d4 d5;rw[a1.len]at d5;obtain⟨bf,offf,g7,h7,f4⟩:=a1.mem aA;obtain⟨p0,p1,p2⟩:=f4 (j / 2) (by rw[a1.len];exact d5);subst g7;rw[d4]at p0 p1 p2;clear a4 a6 b0 d4 f4 a1;have c6:∀w5:World,ZY w w5->∀b',R b'->∀o,w5.cell? ⟨b',o,Z⟩=wr.cell? ⟨b',o,Z⟩:=fun w5 g9 b' e8 o=>(g9.cell (p:=⟨b',o,Z⟩) (hR b' e8)).trans (z.cell (p:=⟨b',o,Z⟩) (hR b' e8)).symm;have b4:=aB c6;clear c6;have f2:(n::(atoms++row F1)).length+1<=5864062014805:=by
      have:=G.o;rw[HK.o,fW]at this;simp only[row,XX,YA]at this ⊢;omega
     have f9:=aB f2;clear f2;go_wp2_with (at_builtin;refine a8 rfl (cM (.tmp 27) (.tmp 34) 29 rfl (w.heap.size+1) i0 Tryz.underlying29 b3.o b5.o b6.o b7.o (Y A1 k1 c1) (n::(atoms++row F1)) f wr rfl rfl h _ rfl aD f9.o b2 ?_);intro A5 c5 w5 c2 b8;simp only[YA,XX]at c2;have a2:=aT.grown s b8.grown (eF h (YL _));have a5:=z.grown b8.grown (Nat.le_of_lt b2) (fun g hg=>by have:=(aS h hg).1;omega);have h8:=aT.cell a2;have zk:=b4.o w5 a5 b h4)
     refine (HI.o w5 R [O X nd.op,O X nd.a,O X nd.b,e5,e0,e4] nd I ks (fun b hb=>XT (hR b hb) a5.size) (b1.keep (R':=R) (w':=w5) fun b hb=>⟨hb,b4.o w5 a5 b hb⟩) d9 (by have:=G.o;rw[HK.o,fW]at this;simp only[row,XX,YA,YO,YP]at this ⊢;omega) (by have:=d3.o;rw[HK.o,dQ]at this;simp only[aY]at this;omega)).mono ?_;rintro e w2 ⟨U,A3,n3,c3,rfl,a7⟩;have f3:n3+(row F1).length+atoms.length+1+1<=5864062014805:=by
      have:=G.o;rw[HK.o,fW]at this;have h3:=a7.len;simp only[row,XX,YA,YO,YP]at this h3
      skip
      omega
     have D:=bK.below c2 U;have b9:w.heap.size+1<=w2.heap.size:=YE (aT.lt a2) U.size;go_wp2_with (at_builtin;refine a8 rfl (bG (.tmp 36) (.tmp 42) 29 29 rfl (w.heap.size+1) i0 Tryz.underlying29 Tryz.underlying29 b3.o b5.o b6.o b7.o _ (n::(atoms++row F1)++[f]) _ rfl D rfl a7 aH b9 ?_);intro A4 c4 w4 a0 F)
     go_roundw
     case rel =>
      refine⟨F1.app (.cons [f] nd I ks .nil),F2,j+1,A4,_,c4,by rw[HK.o,cV];rfl,by rw[bN];simp[bE,HJ.o],rfl,by go_num,?_,((a5.trans (U.mono a5.size)).grown F.grown aA (fun g hg=>by have:=(aS D hg).1;omega)),aT.grown (aT.below a2 U (aT.lt a2)) F.grown (eF D (YL _))⟩;have e:(n::(atoms++row (F1.app (.cons [f] nd I ks .nil))))=(n::(atoms++row F1)++[f])++row (.cons [] nd I ks .nil):=by
       skip
       rw[fW];simp[row]
      exact a0.cast aH e.symm
     case measure=>simp[intOf];omega
   . have e6:(n.op==12)=false:=by simp[a4]
     have a3:pre=[]:=ZC (by rw[b0,XN (fun hh=>a4 (by simpa using hh.1))]);have d2:=aB a3;clear a4 b0 a3 a1;go_wp2_with fail;refine (HI.o wr R [O X nd.op,O X nd.a,O X nd.b,e5,e0,e4] nd I ks (fun b hb=>XT (hR b hb) z.size) b1 d9 (by have:=G.o;rw[HK.o,fW]at this;simp only[row,XX,YA,YO,YP]at this ⊢;omega) (by have:=d3.o;rw[HK.o,dQ]at this;simp only[aY]at this;omega)).mono ?_;rintro e w2 ⟨U,A3,n3,c3,rfl,a7⟩;have f3:n3+(row F1).length+atoms.length+1<=5864062014805:=by
      have:=G.o;rw[HK.o,fW]at this;have h3:=a7.len;simp only[row,XX,YA,YO,YP]at this h3;omega
     have D:=bK.below h U;have b9:w.heap.size+1<=w2.heap.size:=YE b2 U.size;go_wp2_with (at_builtin;refine a8 rfl (bG (.tmp 36) (.tmp 42) 29 29 rfl (w.heap.size+1) i0 Tryz.underlying29 Tryz.underlying29 b3.o b5.o b6.o b7.o _ (n::(atoms++row F1)) _ rfl D rfl a7 aH b9 ?_);intro A4 c4 w4 a0 F)
     go_roundw
     case rel =>
      refine⟨F1.app (.cons pre nd I ks .nil),F2,j+1,A4,_,c4,by rw[HK.o,cV];rfl,by rw[bN];simp[bE,HJ.o],rfl,by go_num,?_,((z.trans (U.mono z.size)).grown F.grown aA (fun g hg=>by have:=(aS D hg).1;omega)),aT.grown (aT.below s U (aT.lt s)) F.grown (eF D (YL _))⟩;have e:(n::(atoms++row (F1.app (.cons pre nd I ks .nil))))=(n::(atoms++row F1))++row (.cons [] nd I ks .nil):=by
       have a3:=d2.o;subst a3;rw[fW];simp[row]
      exact a0.cast aH e.symm
     case measure=>simp[intOf];omega
theorem FP:∀(m:Nat)(w:aAB)(R:Nat->Prop)(D:List Value)(n:Nd)(atoms:List Nd)(kids:Fo),(∀b,R b->b<w.heap.size)->cJ R w D n atoms kids->fU (decide (n.op=12)) 0 kids->(row (.cons [] n atoms kids .nil)).length<=5864062014805->aY kids<m →
      Calls Tryz.prog 47 #[.agg D.toArray] w (mL (row (.cons [] n atoms kids .nil)) w)
 | 0,_,_,_,_,_,_,_,_,_,_,h=>absurd h aA
 | m+1,w,R,D,n,atoms,kids,hR,ht,G,F,h=>NR m (fun w R D n atoms kids hR ht G F h=>FP m w R D n atoms kids hR ht G F h) w R D n atoms kids hR ht G F aA
theorem rS{R:Nat->Prop}{D:List Value}{n:Nd}{atoms:List Nd}{kids:Fo}(hR:∀b,R b->b<w.heap.size)(ht:cJ R w D n atoms kids)(G:fU (decide (n.op=12)) 0 kids)(F:(row (.cons [] n atoms kids .nil)).length<=5864062014805):
 Calls Tryz.prog 47 #[.agg D.toArray] w (mL (row (.cons [] n atoms kids .nil)) w):=FP _ w R D n atoms kids hR ht G F (YL _)
end
section
open Go.Lib renaming hid->aB
theorem kA{G:Nat}{U:List Value}{L:List TT}(h:w.ownsRow G 29 1 (Y A n c) n U)(z:bD (dT G w (Y A n c)) w U (L.map aW)){i:Nat}(s:i<L.length):n=L.length/\∃gk D I F,A=some ⟨gk,0,Z⟩/\gk<w.heap.size/\G<=gk/\w.cell? ⟨gk,i,Z⟩=some (Y D I F)/\bF (dT G w (Y A n c)) w D I F (aW (L.getD i (default,[],.nil))):=by
 have hl:=z.len;rw[YR]at hl;have a1:U.length=n:=by have:=h.1;omega
 refine⟨by omega,?_⟩;obtain⟨D,I,F,hx,ht⟩:=z.at_ i (by first|omega|(rw[YR];exact s));rcases h.2 with⟨_,h2⟩|⟨gk,cap,a0,hv,hg,hh,_⟩
 . have:=h.1;omega
 injection hv with e1 e2 e3;subst e1;have o:=h.cellAt (g:=gk) i aA;rw[hx]at o;refine⟨gk,D,I,F,rfl,(Array.getElem?_eq_some_iff.1 hh).1,hg,o,?_⟩;have e:(L.map aW).getD i []=aW (L.getD i (default,[],.nil)):=by
  rw[YD,YD,List.getElem?_map,YB s];rfl
 rwa [e]at ht
theorem j6.node{f:Fc}(h:j6 g w f A n c B m d):∃bs os,A=some ⟨bs,os,Z⟩/\0<n/\bs<w.heap.size/\w.cell? ⟨bs,os,Z⟩=some (O X f.1.1.op)/\w.cell? ⟨bs,os+1,Z⟩=some (O X f.1.1.a)/\w.cell? ⟨bs,os+2,Z⟩=some (O X f.1.1.b):=by
 have I:0<n:=by have:=h.1.len;rw[<-this];exact iH _
 obtain⟨bs,os,rfl,U,D,F,G⟩:=aX.at_ h.head I;rw[YU,YF]at D F G;exact⟨bs,os,rfl,I,U,D,F,G⟩
theorem j6.arg{f:Fc}(h:j6 g w f A n c B m d){i:Nat}(hi:i<m):i<f.2.length/\∃D U F I G,B=some ⟨D,U,Z⟩/\D<w.heap.size/\w.cell? ⟨D,U+i,Z⟩=some (Y F I G)/\bF (fun q=>q<w.heap.size/\q≠g) w F I G (aW (f.2.getD i (default,[],.nil))):=by
 have hl:=h.2.1.len;rw[YR]at hl;obtain⟨D,U,e,hb,hm⟩:=h.2.1.mem aA;obtain⟨F,I,G,z,h2⟩:=hm i hi;refine⟨by omega,D,U,F,I,G,e,hb.1,z,?_⟩;have o:i<f.2.length:=aA;have s:(f.2.map aW).getD i []=aW (f.2.getD i (default,[],.nil)):=by
  rw[YD,YD,List.getElem?_map,YB o];rfl
 rwa [s]at h2
theorem QP(A B:ZZ)(n c m d:Nat)(w:aAB):(Instr.field 78 (.agg #[Y A n c,Y B m d]) 0).run Tryz.prog w=.ok (Y A n c) w:=by kernel_rfl
theorem D4:∀(L:List TT),L.length<=cB L
 | []=>ZA _
 | a::r=>by have:=D4 r;simp only[YA,cB];omega
theorem dM.argsLen{b:Bk}{free:Int}{f:Fc}(_h:dM b free f)(D:dA f<=4096):f.2.length<=4096:=by
 have:=D4 f.2;unfold dA at D;omega
theorem mR{w0:aAB}{v:bR}{b:Bk}{cA:ZZ}{cn cc:Nat}{cv:aAA}{f:Nat}(hr:bU b=0)(hb:cE w0 v b)(hc:gG b cv)(hw:yO w0 g v b cA cn cc cv f w){s:Fc}(hs:j6 g w s A n c B m d)(fs:dM b (cv.length:Int) s):
 Calls Tryz.prog 69 #[.pointer (some ⟨g,0,Z⟩),.agg #[Y A n c,Y B m d]] w (gT (bT b cv s) w):=by
 obtain⟨bs,os,rfl,j9,j5,h0,h1,h2⟩:=hs.node;obtain⟨so,e2⟩:=aAJ s.1.1.op;obtain⟨sa,d9⟩:=aAJ s.1.1.a;obtain⟨sb,e0⟩:=aAJ s.1.1.b;rw[<-e2]at h0;rw[<-d9]at h1;rw[<-e0]at h2;obtain⟨a3,b2⟩:=aAJ (bT b cv s);rw[<-b2];have g1:s.2.length=m:=by have:=hs.2.1.len;simpa using this
 obtain⟨w1,a2⟩:=aAJ ((w.alloc (.cells #[Y (some ⟨bs,os,Z⟩) n c,Y B m d] 78)).alloc (.cells #[O X so,O X sa,O X sb] 46));have b5:ZY w w1:=by rw[a2];exact bS _ _ _
 have zs:aT w1 w.heap.size 78 #[Y (some ⟨bs,os,Z⟩) n c,Y B m d]:=by rw[a2];exact (aT.new _ _ _).alloc _
 have zn:aT w1 (w.heap.size+1) 46 #[O X so,O X sa,O X sb]:=by rw[a2];exact aT.new' aD
 obtain⟨HW,HS,G,h6,HR,a0,e7,z⟩:=aAG (hw.below b5) (hs.below b5) b5 hb hr fs g1 e2;obtain⟨b4,h9,I⟩:=aAF d9 e0 b2;have zg:=HW.o.blk.cell;have f7:g<w1.heap.size:=HW.o.lt;have e1:w.heap.size<w1.heap.size:=zs.lt;have d0:w.heap.size+1<w1.heap.size:=zn.lt;have e3:=zs.cell;have b6:=zn.cell;clear hr hb hc hw hs fs e2 d9 e0 b2 g1 b5 zs zn;go_in;go_upto_region 2 with fail
 rw[<-a2];clear a2;by_cases o5:so=5
 . have F:a3=decide (0<m):=by rw[I.o];unfold bT;rw[XP (z.o.symm.trans o5),e7.o]
   have D:=aB F;subst o5;clear F;by_cases a1:0<m
   . have d1:decide ((m:Int)>0)=true:=XR aA;have d2:decide (0<m)=true:=XR a1;rw[d2]at D;clear a1;go_wp2_with fail;go_ret;rw[D.o];exact⟨rfl,G.o⟩
   have d1:decide ((m:Int)>0)=false:=XQ aA;have d2:decide (0<m)=false:=XQ a1;rw[d2]at D;clear a1;go_wp2_with fail;go_ret;rw[D.o];exact⟨rfl,G.o⟩
 by_cases o7:so=7
 . have D:Hid (a3=true):=aB (by rw[I.o];unfold bT;rw[<-z.o,XN o5,XP (.inl o7)]);subst o7;go_wp2_with fail;go_ret;rw[D.o];exact⟨rfl,G.o⟩
 by_cases o8:so=8
 . have D:Hid (a3=true):=aB (by rw[I.o];unfold bT;rw[<-z.o,XN o5,XP (.inr o8)]);subst o8;go_wp2_with fail;go_ret;rw[D.o];exact⟨rfl,G.o⟩
 by_cases o1:so=1
 . have F:a3=decide (0<(jZ cv sa).length):=by rw[I.o];unfold bT;rw[<-z.o,XN o5,XN aA,XP o1,<-b4.o]
   obtain⟨g8,g9,h3⟩:=rX a0.o.head (z.o.symm.trans o1);rw[<-b4.o]at g8 g9 h3;obtain⟨ia,c8⟩:∃ia:Nat,sa=(ia:Int):=⟨sa.toNat,by omega⟩;have i1:=HW.o.ctx.len;have j7:=HW.o.ctx.few;obtain⟨bc,oc,ec,j4,g0⟩:=HW.o.ctx.mem aA;obtain⟨ik,f8⟩:=aAJ (cn-1-ia);obtain⟨A1,n1,c1,A2,n2,c2,k1,k2,kt⟩:=g0 ik aA;have g4:(jZ cv sa).length=n2:=by
    unfold jZ;rw[i1,c8,show ((ia:Int)).toNat=ia from by omega,<-f8];exact kt.len
   rw[g4]at F;have D:=aB F;have d1:decide ((n2:Int)>0)=decide (0<n2):=decide_eq_decide.2 aA;have k3:IntKind.i64.wrap ((cn:Int)-1)=(cn:Int)-1:=by rw[XV];omega
   have k4:IntKind.i64.wrap ((cn:Int)-1-(ia:Int))=(ik:Int):=by rw[XV];omega
   have i8:(ik:Int)<(cn:Int):=aA;have i9:(0:Int)<=(ik:Int):=aA;rw[ec]at zg;subst o1;rw[c8]at b6;clear F g4 g0 kt g8 g9 h3 f8 c8 d1;by_cases a1:0<n2
   . have d1:decide ((n2:Int)>0)=true:=XR aA;have d2:decide (0<n2)=true:=XR a1;rw[d2]at D;clear a1;go_upto_region 9 with fail
     go_quiet (fail)
     go_wp2_with fail;go_ret;rw[D.o];exact⟨rfl,aU G.o _⟩
   have d1:decide ((n2:Int)>0)=false:=XQ aA;have d2:decide (0<n2)=false:=XQ a1;rw[d2]at D;clear a1;go_upto_region 9 with fail
   go_quiet (fail)
   go_wp2_with fail;go_ret;rw[D.o];exact⟨rfl,aU G.o _⟩
 by_cases a5:so=11
 . have b9:=z.o.symm.trans a5;obtain⟨p,q,br,hk,_⟩:=eT a0.o.head.okt b9;have F:a3=fA b ⟨11,sa,sb⟩ (bX (eM s.1 1)):=by
    rw[I.o];unfold bT;rw[<-z.o,XN o5,XN aA,XN o1,XP a5];unfold fA;rw[b4.o,h9.o]
   have D:=aB F;obtain⟨g6,g7,_,_⟩:=lI a0.o.head b9;have hq:bO b (cv.length:Int) (eM s.1 1):=by
    rw[dO (i:=1) (by rw[hk];rfl)];exact a0.o.head.kid0 (i:=1) (by rw[hk];rfl) (eQ (.inr (.inr b9)))
   have b0:=fun (W:aAB) (hB:ZY w1 W)=>kE (HS.o.below hB).head a0.o.head.rt.shape;rw[lL a0.o.head]at b0;have HK:=aB b0;have HQ:=aB hq;have e6:Hid (1<(bH s.1.2.2).length):=aB (by rw[hk];simp);have e8:=aB (show 0<=sa/\sa<(b.entries.length:Int) from by rw[b4.o];exact⟨g6,g7⟩);subst a5;clear F b0 hk hq g6 g7;go_upto_region 11 with fail
   refine wp_region_held_drew (S:=(fun w'=>ZY w1 w')) aC ?_ (fun hZ=>?_)
   . (try dsimp only);exact aU (XS _ _) 1
   have e5:Hid (ZY w1 w1.drew):=aB (aU (XS _ _) 1);generalize w1.drew=W1 at *;refine aL 0 hZ ?_;refine tk 1 ?_ (fun wq hSw=>?_) hZ ?_;rotate_left
   . have f0:=(hSw.cell (p:=⟨w.heap.size+1,0,Z⟩) d0).trans (b6 0);have f1:=(hSw.cell (p:=⟨w.heap.size+1,1,Z⟩) d0).trans (b6 1);have f2:=(hSw.cell (p:=⟨w.heap.size+1,2,Z⟩) d0).trans (b6 2);go_simp;try with_reducible rfl
   try simp only[p7]
   refine aL 2 hZ ?_;refine tk 3 ?_ (fun wq hSw=>?_) hZ ?_;rotate_left
   . have f0:=(hSw.cell (p:=⟨w.heap.size,0,Z⟩) e1).trans (e3 0);go_simp;try with_reducible rfl
   try simp only[p7]
   refine r1 4 fun K hK=>?_;go_simp;go_at_call 104
   refine (HK.o _ e5.o).mono ?_;rintro en w3 ⟨U,A3,n3,c3,k5,rfl,g2,g3⟩;have h:=bY e5 U;obtain⟨i2,gk,A4,n4,c4,rfl,j8,i7,c0,a6⟩:=kA g2 g3 e6.o;have j0:1<n3:=by have:=e6.o;omega
   have j1:(1:Int)<(n3:Int):=aA;have b7:Hid (aX w3 A4 n4 c4 (aW (eM s.1 1))):=aB (bF.keep a6 (R':=(· < w3.heap.size)) (w':=w3) fun q hq=>⟨hq.2.1,fun _=>rfl⟩);clear U g2 g3 i2 a6;go_wp2_with fail;refine hK.o _ _ (by exact h.o) fun hZ=>?_;clear hK K;try simp only[p7]
   refine aL 5 hZ ?_;refine r1 6 fun K hK=>?_;go_simp;refine hK.o _ _ (by exact h.o) fun hZ=>?_;clear hK K;try simp only[p7]
   refine r1 7 fun K hK=>?_;go_simp;go_at_call 42
   refine (fR b7.o HQ.o).mono ?_;rintro en w5 ⟨a9,A6,n6,c6,B6,m6,d6,rfl,a4⟩;have a8:=bY h a9;have h7:=aB (a4.read (g:=g) (XT f7 h.o.size) (by rw[a4.len.2];exact YE (dM.argsLen (lQ HQ.o) (by rw[eY HQ.o];exact HQ.o.few)) aE));clear a9 a4 c0;go_wp2_with fail;refine hK.o _ _ (by exact a8.o) fun hZ=>?_;clear hK K;try simp only[p7]
   refine r1 8 fun K hK=>?_;go_simp;go_at_call 109
   refine (MD (nd:=⟨11,sa,sb⟩) HR.o h6.o (HW.o.below a8.o) e8.o.1 e8.o.2 h7.o (lQ HQ.o)).mono ?_;rintro en w7 ⟨rfl,f4⟩;have e4:=bY a8 f4;have h5:=aB (G.o.trans (e4.o.mono G.o.size));clear f4;go_wp2_with fail;refine hK.o _ _ (by exact e4.o) fun hZ=>?_;clear hK K;try simp only[p7]
   refine aL 9 hZ ?_;refine wpAnyH_done aC ?_ _;go_wp2_with fail;go_ret;rw[D.o];exact⟨rfl,h5.o⟩
 by_cases a7:so=12
 . have f3:=z.o.symm.trans a7;obtain⟨i4,i5⟩:=mE a0.o.head.okt f3;have d4:=fun (W:aAB) (hB:ZY w1 W)=>mQ (HS.o.below hB).head a0.o.head.rt f3;obtain⟨ip,c9⟩:∃ip:Nat,dG s.1=(ip:Int):=⟨(dG s.1).toNat,by omega⟩;rw[c9]at d4;have e9:=aB d4;have F:a3=(decide (ip<m)&&((bX (s.2.getD ip (default,[],.nil))).1.1.op==10)):=by
    rw[I.o];unfold bT;rw[<-z.o,XN o5,XN aA,XN o1,XN a5,XP a7,c9,e7.o];rfl
   subst a7;clear d4 c9 i4 i5;by_cases b1:ip<m;rotate_left
   . have d1:decide ((ip:Int)<(m:Int))=false:=XQ aA;have d2:decide (ip<m)=false:=XQ b1;rw[d2,Bool.false_and]at F;have D:=aB F;clear F b1;go_wp2_with fail;refine (e9.o _ (XS _ _)).mono ?_;rintro en w3 ⟨rfl,U⟩;have h:=aB U;have h4:=fun i=>(U.cell (p:=⟨w.heap.size,i,Z⟩) e1).trans (e3 i);clear U;go_wp2_with fail;go_ret;rw[D.o];exact⟨rfl,G.o.trans (h.o.mono G.o.size)⟩
   have d1:decide ((ip:Int)<(m:Int))=true:=XR aA;have d2:decide (ip<m)=true:=XR b1;have d3:(ip:Int)<(m:Int):=aA;rw[d2,YZ]at F;obtain⟨f9,bb,oo,A4,n4,c4,rfl,i0,c0,a6⟩:=HS.o.arg b1;have c5:=a0.o.args _ (iD f9 (default,[],.nil));obtain⟨xa,g5⟩:=aAJ (s.2.getD ip (default,[],.nil));rw[<-g5]at F a6 c5;have b7:=aB (fun (W:aAB) (hB:ZY w1 W)=>(bF.keep a6 (R':=(· < W.heap.size)) (w':=W) fun q hq=>⟨XT hq.1 hB.size,fun o=>hB.cell (p:=⟨q,o,Z⟩) hq.1⟩));have D:=aB F;have b3:=aB c5;clear F b1 f9 a6 c5 g5;go_wp2_with fail;refine (e9.o _ (XS _ _)).mono ?_;rintro en w3 ⟨rfl,U⟩;have h:=aB U;have h4:=fun i=>(U.cell (p:=⟨w.heap.size,i,Z⟩) e1).trans (e3 i);have f5:=(U.cell (p:=⟨bb,oo+ip,Z⟩) i0).trans c0;clear U;go_wp2_with fail;refine (fR (b7.o _ h.o) b3.o).mono ?_;rintro en w5 ⟨a9,A6,n6,c6,B6,m6,d6,rfl,a4⟩;have a8:=bY h a9;have f6:=a4.read (g:=g) (XT f7 h.o.size) (by rw[a4.len.2];exact YE (dM.argsLen (lQ b3.o) (by rw[eY b3.o];exact b3.o.few)) aE);obtain⟨b8,i3,rfl,k0,_,p0,_,_⟩:=f6.node;obtain⟨ho,c7⟩:=aAJ (bX xa).1.1.op;rw[<-c7]at p0;have h8:Hid (a3=(ho==10)):=aB (by rw[D.o,c7]);have i6:=QP (some ⟨b8,i3,Z⟩) B6 n6 c6 m6 d6;clear a9 a4 f6 h4 f5 c7;go_wp2_with fail;go_ret;rw[h8.o];exact⟨rfl,G.o.trans (a8.o.mono G.o.size)⟩
 have D:Hid (a3=false):=aB (by rw[I.o];unfold bT;rw[<-z.o,XN o5,XN aA,XN o1,XN a5,XN a7]);have d5:(so==5)=false:=by simpa using o5
 have d7:(so==7)=false:=by simpa using o7
 have d8:(so==8)=false:=by simpa using o8
 have d1:(so==1)=false:=by simpa using o1
 have j2:(so==11)=false:=by simpa using a5
 have j3:(so==12)=false:=by simpa using a7
 clear o5 o7 o8 o1 a5 a7;go_wp2_with fail;go_ret;rw[D.o];exact⟨rfl,G.o⟩
end
section
open Go.Lib renaming hid->aB
set_option maxHeartbeats 4000000
set_option maxRecDepth 100000
def VP(g:Nat)(r:Option TT)(w:aAB)(e:Ending)(w':aAB):Prop:=ZY w w'/\match r with
 | none=>e=.returned (.tuple #[Y Z 0 0,.bool false])
 | some p=>∃A n c,e=.returned (.tuple #[Y A n c,.bool true])/\bF (fun q=>q<w'.heap.size/\q≠g) w' A n c (aW p)
theorem zM{b:Bk}{free:Int}{s:Fc}(hg:g<w.heap.size)(hs:j6 g w s A n c B m d)(fs:dM b free s):
 Calls Tryz.prog 72 #[.agg #[Y A n c,Y B m d]] w (VP g (cQ s) w):=by
 obtain⟨bs,os,rfl,e5,b7,h0,h1,h2⟩:=hs.node;obtain⟨so,b2⟩:=aAJ s.1.1.op;rw[<-b2]at h0;have b9:s.2.length=m:=by have:=hs.2.1.len;simpa using this
 obtain⟨w1,h⟩:=aAJ (w.alloc (.cells #[Y (some ⟨bs,os,Z⟩) n c,Y B m d] 78));have a5:ZY w w1:=by rw[h];exact aQ _ _
 have zs:aT w1 w.heap.size 78 #[Y (some ⟨bs,os,Z⟩) n c,Y B m d]:=by rw[h];exact aT.new _ _ _
 have k0:=(a5.cell (p:=⟨bs,os,Z⟩) b7).trans h0;obtain⟨HS,F,a2,c6,a4⟩:=aAD (hs.below a5) a5 fs b9 b2;have e4:g<w1.heap.size:=XT hg a5.size;have c2:w.heap.size<w1.heap.size:=zs.lt;have c5:=zs.cell;obtain⟨b3,a7⟩:=aAJ (cQ s);rw[<-a7];have a3:=aB a7;clear hs fs b2 b9 a5 zs h0 h1 h2 a7 hg b7;go_in;go_upto_region 1 with fail
 rw[<-h];clear h;by_cases U:so=11
 . have c7:=a4.o.symm.trans U;obtain⟨p,q,br,hk,_⟩:=eT a2.o.head.okt c7;have G:Hid (b3=some (eM s.1 1)):=aB (by rw[a3.o];unfold cQ;rw[<-a4.o,XP U]);have a6:=fun (W:aAB) (hB:ZY w1 W)=>kE (HS.o.below hB).head a2.o.head.rt.shape;rw[lL a2.o.head]at a6;have HK:=aB a6;have b4:Hid (1<(bH s.1.2.2).length):=aB (by rw[hk];simp);subst U;clear a6 hk;go_wp2_with fail;refine (HK.o _ (XS _ _)).mono ?_;rintro en w3 ⟨D,A3,n3,c3,e6,rfl,c0,c1⟩;have z:=aB D;obtain⟨d0,gk,A4,n4,c4,rfl,e3,d8,b8,a8⟩:=kA c0 c1 b4.o;have d9:1<n3:=by have:=b4.o;omega
   have e0:(1:Int)<(n3:Int):=aA;have a9:Hid (bF (fun q=>q<w3.heap.size/\q≠g) w3 A4 n4 c4 (aW (eM s.1 1))):=aB (bF.keep a8 (R':=fun q=>q<w3.heap.size/\q≠g) (w':=w3) fun q hq=>⟨⟨hq.2.1,by have:=hq.1;omega⟩,fun _=>rfl⟩);clear D c0 c1 d0 a8;go_wp2_with fail;go_ret2;rw[G.o];exact⟨F.o.trans (z.o.mono F.o.size),A4,n4,c4,rfl,a9.o⟩
 by_cases a1:so=12
 . have b6:=a4.o.symm.trans a1;obtain⟨d4,d5⟩:=mE a2.o.head.okt b6;have b1:=fun (W:aAB) (hB:ZY w1 W)=>mQ (HS.o.below hB).head a2.o.head.rt b6;obtain⟨ip,b0⟩:∃ip:Nat,dG s.1=(ip:Int):=⟨(dG s.1).toNat,by omega⟩;rw[b0]at b1;have b5:=aB b1;have a0:b3=if ip<m then some (s.2.getD ip (default,[],.nil)) else Z:=by
    rw[a3.o];unfold cQ;rw[<-a4.o,XN U,XP a1,b0,c6.o];rfl
   subst a1;clear b1 b0 d4 d5;by_cases I:ip<m
   . have d1:decide ((ip:Int)<(m:Int))=true:=XR aA;have d2:decide (ip<m)=true:=XR I;have d3:(ip:Int)<(m:Int):=aA;rw[XP I]at a0;obtain⟨c9,bb,oo,A4,n4,c4,rfl,c8,b8,a8⟩:=HS.o.arg I;obtain⟨a9,G⟩:=aAC (fun (W:aAB) (hB:ZY w1 W)=>(bF.keep a8 (R':=fun q=>q<W.heap.size/\q≠g) (w':=W) fun q hq=>⟨⟨XT hq.1 hB.size,hq.2⟩,fun o=>hB.cell (p:=⟨q,o,Z⟩) hq.1⟩)) a0;clear a0 I c9 a8;go_wp2_with fail;refine (b5.o _ (XS _ _)).mono ?_;rintro en w3 ⟨rfl,D⟩;have z:=aB D;have d6:=fun i=>(D.cell (p:=⟨w.heap.size,i,Z⟩) c2).trans (c5 i);have d7:=(D.cell (p:=⟨bb,oo+ip,Z⟩) c8).trans b8;clear D;go_wp2_with fail;go_ret2;rw[G.o];exact⟨F.o.trans (z.o.mono F.o.size),A4,n4,c4,rfl,a9.o _ z.o⟩
   have d1:decide ((ip:Int)<(m:Int))=false:=XQ aA;have d2:decide (ip<m)=false:=XQ I;rw[XN I]at a0;have G:=aB a0;clear a0 I;go_wp2_with fail;refine (b5.o _ (XS _ _)).mono ?_;rintro en w3 ⟨rfl,D⟩;have z:=aB D;have d6:=fun i=>(D.cell (p:=⟨w.heap.size,i,Z⟩) c2).trans (c5 i);clear D;go_wp2_with fail;go_ret2;rw[G.o];exact⟨F.o.trans (z.o.mono F.o.size),rfl⟩
 have G:Hid (b3=Z):=aB (by rw[a3.o];unfold cQ;rw[<-a4.o,XN U,XN a1]);have e1:(so==11)=false:=by simpa using U
 have e2:(so==12)=false:=by simpa using a1
 clear U a1;go_wp2_with fail;go_ret2;rw[G.o];exact⟨F.o,rfl⟩
theorem xF{c0 c1:Value}{D:Array Value}(h:aT w g 78 #[c0,c1])(ht:D.getD 4 undef=.pointer (some ⟨g,0,Z⟩)):
 (results Tryz.f71 D).run Tryz.prog w=.ok (.agg #[c0,c1]) w:=by
 have G:=h.cell;have F:D[4]?.getD undef=.pointer (some ⟨g,0,Z⟩):=by rw[<-ht];simp
 simp[results,Tryz.results71,go_sem,F,G]
def J5(f:Fc)(room:Int)(A:ZZ)(n c:Nat)(B:ZZ)(m d:Nat)(w:aAB)(e:Ending)(w':aAB):Prop:=ZY w w'/\((¬ room<(dA f:Int)/\e=.returned (.agg #[Y A n c,Y B m d]))\/(room<(dA f:Int)/\e=.panicked (nJ 9)))
theorem tR{s:Fc}(hs:j6 g w s A n c B m d)(a2:dA s<=100000)(room:Int):
 Calls Tryz.prog 71 #[.agg #[Y A n c,Y B m d],O X room] w (J5 s room A n c B m d w):=by
 have U:=bS w (.cells #[Y A n c,Y B m d] 78) (.cells #[Y Z 0 0,Y Z 0 0] 78);obtain⟨a3,G⟩:=aAC U ((aT.new w 78 #[Y A n c,Y B m d]).alloc (.cells #[Y Z 0 0,Y Z 0 0] 78));have a0:Hid (aT ((w.alloc (.cells #[Y A n c,Y B m d] 78)).alloc (.cells #[Y Z 0 0,Y Z 0 0] 78)) (w.heap.size+1) 78 #[Y Z 0 0,Y Z 0 0]):=aB (aT.new' aD);have a1:=aB (sK (hs.below U) a2);obtain⟨z,hz⟩:=aAJ (dA s);rw[<-hz]at a1;unfold J5;rw[<-hz];have z1:=G.o.cell;clear U hs hz a2;go_in;go_wp2_with fail;refine (a1.o).mono ?_;rintro en w2 ⟨rfl,F⟩;have h:=bY a3 F;obtain⟨a4,I⟩:=aAC (G.o.below F G.o.lt) (a0.o.below F a0.o.lt);have z3:=a4.o.cell;have z4:=I.o.cell;have f4:=I.o.frozen;clear F z1;by_cases D:room<(z:Int)
 . have d1:decide ((z:Int)>room)=true:=XR D;have HG:=aB D;clear D;go_wp2_with fail;exact⟨rfl,h.o,.inr ⟨HG.o,rfl⟩⟩
 have d1:decide ((z:Int)>room)=false:=XQ D;have HG:=aB D;clear D;go_wp2_with fail;refine XW (v:=.agg #[Y A n c,Y B m d]) (xF (g:=w.heap.size+1) (by have:=(I.o.set_ 0 (Y A n c)).set_ 1 (Y B m d);simpa using this) aD) rfl ⟨?_,.inl ⟨HG.o,rfl⟩⟩;exact (h.o.setCell (p:=⟨w.heap.size+1,0,Z⟩) (Nat.le_succ _) _).setCell (p:=⟨w.heap.size+1,1,Z⟩) (Nat.le_succ _) _
end
end Go.Proofs.YtjoddliplahgkaaGreat
