/- Merged: FuA, FuE, GoT. -/
import Derived.Test.YtjoddliplahgkaaGreatTFuC
namespace Go.Proofs.YtjoddliplahgkaaGreat
set_option maxHeartbeats 4000000
set_option maxRecDepth 100000
set_option linter.unusedVariables false
set_option linter.unusedSimpArgs false
open Go.RowKit
open Go.Value renaming int → O, slice → X
open Go.IntKind renaming i64 → S
open Go.Obj renaming cells → Y
open Option renaming none → Z
variable {b:Bk}{n:Nat}{x:TT}{w:aAB}
section
open Go.Lib renaming hid->aB
theorem tZ:∀(F:Fo)(ys:List TT),cG (fH F ys)=cG F
 | .nil,ys=>by cases ys<;>rfl
 | .cons p n a k x,[]=>rfl
 | .cons p n a k x,y::ys=>by simp only[fH,cG];rw[tZ x ys]
theorem KO:∀(F1:Fo)(p:List Nd)(n:Nd)(a:List Nd)(k F2:Fo),(bH (F1.app (.cons p n a k F2)))[bE F1]? = some (n,a,k)
 | .nil,p,n,a,k,F2=>by rw[show Fo.app .nil (Fo.cons p n a k F2)=Fo.cons p n a k F2 from rfl,e8];rfl
 | .cons q m b j x,p,n,a,k,F2=>by
  rw[show (Fo.cons q m b j x).app (.cons p n a k F2)=.cons q m b j (x.app (.cons p n a k F2)) from rfl,e8];have:=KO x p n a k F2;show ((m,b,j)::bH (x.app (.cons p n a k F2)))[bE x+1]? = _;rw[List.getElem?_cons_succ];exact this
def WS(l:List Nd)(w:aAB)(e:Ending)(w':aAB):Prop:=ZY w w'/\∃A n c,e=.returned (X A n c)/\aX w' A n c l
theorem JJ{free:Int}{A Kk:ZZ}{c nk kc:Nat}{ys:List TT}(ht:aX w A n c (aW x))(hx:bO b free x)(e7:ys.length=(bH x.2.2).length)(g3:∀y∈ys,nF y)(hk:fG (· < w.heap.size) w Kk nk kc (ys.map aW))(h6:bL (cU x ys)<=100000000):
 Calls Tryz.prog 66 #[X A n c,X Kk nk kc] w (WS (aW (cU x ys)) w):=by
 obtain⟨i0,hi,f9,g0,g1⟩:=info_parts kP;obtain⟨b2,b3,b4,b5⟩:=aAE hi f9 g0 g1;clear hi f9 g0 g1;have g7:=aB (rP ht rfl hx);have f4:nk=ys.length:=by have:=hk.len;rw[YR]at this;exact this.symm
 obtain⟨kids,b8⟩:=aAJ (fH x.2.2 ys);have f8:Wf (ds x.1) kids:=by rw[b8];exact xU _ _ _ hx.okt.wf e7 g3
 have hp:=mF f8;have d9:bH kids=ys:=by rw[b8];exact xT _ _ e7
 have f2:bE kids=nk:=by rw[<-oR,d9,f4]
 have f7:cG kids=cG x.2.2:=by rw[b8];exact tZ _ _
 have c0:aW (cU x ys)=x.1::(x.2.1++row kids):=by rw[b8];rfl
 have b9:x.2.1.length+(row kids).length+1<=100000000:=by
  have h1:(aW (cU x ys)).length=bL (cU x ys):=rfl;rw[c0]at h1;simp only[YA,XX]at h1;omega
 rw[c0];have a4:=aB b9;have g5:=aB hk;have HP:=aB hp;have d1:=aB f2;have g4:=aB d9;have e8:=aB f7;clear ht hx e7 g3 hk h6 b8 f8 hp d9 f2 f7 c0 b9 f4;obtain⟨⟨xo,xa,xb⟩,atoms,xk⟩:=x;simp only at a4 HP e8;go_in;go_wp2_with fail;refine (g7.o).mono ?_;rintro e w2 ⟨c7,⟨xA,xn,xc,xB,xm,xd,xC,xp,xe⟩,rfl,e6⟩;have d4:=e6.atoms;have d7:=e6.funs;simp only at d4 d7;rw[<-e8.o]at d7;have hR:∀b,eC w w2 b->b<w2.heap.size:=fun q hq=>hq.2;have I:=aB c7;clear e6 c7;go_wp2_with (at_builtin;refine a8 rfl (bG (.tmp 16) (.tmp 18) 29 28 rfl (w2.heap.size+1) i0 Tryz.underlying29 Tryz.underlying28 b2.o b3.o b4.o b5.o (X (some ⟨w2.heap.size+1,0,Z⟩) 1 1) [⟨xo,xa,xb⟩] atoms rfl (oA aD aD ⟨xo,xa,xb⟩) rfl (d4.keep (R':=fun _=>True) fun b hb=>⟨trivial,fun o=>by have:=hR b hb;rw[World.cell?_alloc_lt _ _ _ aG,World.cell?_alloc_lt _ _ _ this]⟩) (by have:=a4.o;have:=d4.len;simp<;>omega) aH ?_);intro A1 c1 w1 e0 a7)
 have h0:ZY w2 w1:=(bS w2 _ _).grown a7.grown aG (fun g hg=>by
  have:w2.heap.size+1=g:=by simpa[Value.ownBlock] using hg
  omega)
 have f0:aT w1 w2.heap.size 85 #[O S xo,O S xa,O S xb,X xA xn xc,X xB xm xd,X xC xp xe]:=aT.grown ((aT.new _ _ _).alloc _) a7.grown (fun e=>by
  simp[Value.ownBlock]at e)
 clear a7;have i2:nk<=1000000000000000:=by
  have h1:=a4.o;have h2:=d1.o;have h3:=uS kids;omega
 go_loopw [7,8] (fun v i wr=>∃(F1 F2:Fo)(j:Nat)(A1:ZZ)(k1 c1:Nat),kids=F1.app F2/\bE F1=j/\v=X A1 k1 c1/\i=O S (j:Int)/\bK wr (w2.heap.size+1) (X A1 k1 c1) (⟨xo,xa,xb⟩::(atoms++row F1))/\ZY w2 wr ∧
  aT wr w2.heap.size 85 #[O S xo,O S xa,O S xb,X xA xn xc,X xB xm xd,X xC xp xe]) (fun _ i _=>nk-(intOf i).toNat)
 case atStart=>exact⟨.nil,kids,0,A1,_,c1,rfl,rfl,rfl,rfl,by simpa[row] using e0,h0,f0⟩
 case round =>
  obtain⟨F1,F2,j,A1,k1,c1,hk,hj,rfl,rfl,F,a1,a6⟩:=hrel;obtain⟨HK,HJ⟩:=aAC hk hj;have b1:w2.heap.size+1<=wr.heap.size:=aT.lt a6;have c9:=d7.keep (R':=eC w w2) (w':=wr) (fun b hb=>⟨hb,fun o=>a1.cell (p:=⟨b,o,Z⟩) (hR b hb)⟩);have zc:=aT.cell a6;cases F2 with
  | nil =>
   have d8:j=nk:=by rw[<-d1.o,hk,bN,hj];rfl
   have h7:¬ j<nk:=aA;clear hk hj d8;go_wp2_with fail;go_ret;refine⟨I.o.trans (a1.mono I.o.size),A1,k1,c1,rfl,?_⟩;rw[HK.o,iK];have hl:((⟨xo,xa,xb⟩:Nd)::(atoms++row F1)).length<=5864062014805:=by
    have:=a4.o;rw[HK.o,iK]at this;simp;omega
   obtain⟨A',n',c',e,ht⟩:=F.termS hl;injection e with e1 e2 e3;subst e1 e2 e3;exact ht.keep fun b hb=>⟨(aS F hb).2.1,fun _=>rfl⟩
  | cons pre nd G ks F2 =>
   have d8:j<nk:=by rw[<-d1.o,hk,bN,hj];simp[bE]
   have e4:fU (decide (xo=12)) 0 (F1.app (.cons pre nd G ks F2)):=by rw[<-hk];exact HP.o
   obtain⟨f3,bb,oo,A3,n3,c3,hA,h5,f1,c6⟩:=DA g5.o d8;have g2:aW ys[j]=row (.cons [] nd G ks .nil):=by
    have h9:=KO F1 pre nd G ks F2;rw[<-hk,g4.o,hj,YB f3]at h9;injection h9 with h9;rw[h9];simp[row,aW]
   rw[g2]at c6;obtain⟨b0,i3,_⟩:=(fU.app F1 _ 0).1 e4 |>.2;rw[YH,hj]at b0;have g8:=aB e4;have a0:bF (eC w w2) wr xC xp xe (cG (F1.app (.cons pre nd G ks F2))):=by rw[<-hk];exact c9
   obtain⟨d3,d0⟩:=aAC (fun (W:aAB) (h:ZY w2 W)=>(bF.keep c6 (R':=(· < W.heap.size)) (w':=W) fun z hz=>⟨XT hz (YE I.o.size h.size),fun o=>(I.o.trans (h.mono I.o.size)).cell (p:=⟨z,o,Z⟩) hz⟩)) (fun (W:aAB) (h:ZY w2 W)=>((I.o.trans (h.mono I.o.size)).cell (p:=⟨bb,oo+j,Z⟩) h5).trans f1);have h8:(j:Int)<(nk:Int):=aA;have i1:n3+(row F1).length+atoms.length+1+1<=5864062014805:=by
    have:=a4.o;rw[HK.o,fW]at this;have h3:=c6.len;simp only[row,XX,YA,YO,YP]at this h3;omega
   subst hA;clear hk hj e4 c9 c6 f1 g2 f3;by_cases a5:xo=12
   . have e9:(xo==12)=true:=by simp[a5]
     by_cases s:j % 2=0
     . have e5:((j:Int) % 2==0)=true:=by simp;omega
       obtain⟨f,rfl⟩:∃f,pre=[f]:=List.length_eq_one_iff.1 (by rw[b0,XP ⟨by simp[a5],s⟩]);obtain⟨d5,d6⟩:=E7 (by have:=g8.o;rwa [XR a5]at this) (by rw[HJ.o];exact s);rw[HJ.o]at d5 d6;rw[a0.len]at d6;obtain⟨bf,offf,g9,i4,f6⟩:=a0.mem aA;obtain⟨p0,p1,p2⟩:=f6 (j / 2) (by rw[a0.len];exact d6);subst g9;rw[d5]at p0 p1 p2;clear a5 s b0 d5 f6 a0;have f5:((⟨xo,xa,xb⟩:Nd)::(atoms++row F1)).length+1<=5864062014805:=by
        simp only[XX,YA];omega
       have g6:=aB f5;clear f5;go_wp2_with (at_builtin;first|(refine a8 rfl (cM (.tmp 35) (.tmp 42) 29 rfl (w2.heap.size+1) i0 Tryz.underlying29 b2.o b3.o b4.o b5.o (X A1 k1 c1) (⟨xo,xa,xb⟩::(atoms++row F1)) f wr rfl rfl F _ rfl aD g6.o b1 ?_);intro A5 c5 w5 a2 b6;simp only[YA,XX]at a2;have a9:=aT.grown a6 b6.grown (eF F (YL _));have b7:=a1.grown b6.grown (Nat.le_of_lt b1) (fun g hg=>by have:=(aS F hg).1;omega);have i5:=aT.cell a9;have c8:=d0.o w5 b7;have c2:=d3.o w5 b7;have h4:w2.heap.size+1<=w5.heap.size:=aT.lt a9)|(refine a8 rfl (bG (.tmp 44) (.tmp 48) 29 29 rfl (w2.heap.size+1) i0 Tryz.underlying29 Tryz.underlying29 b2.o b3.o b4.o b5.o _ (⟨xo,xa,xb⟩::(atoms++row F1)++[f]) _ rfl a2 rfl c2 aH h4 ?_);intro A4 c4 w4 U D))
       go_roundw
       case rel =>
        refine⟨F1.app (.cons [f] nd G ks .nil),F2,j+1,A4,_,c4,by rw[HK.o,cV];rfl,by rw[bN];simp[bE,HJ.o],rfl,by go_num,?_,(b7.grown D.grown aA (fun g hg=>by have:=(aS a2 hg).1;omega)),aT.grown a9 D.grown (eF a2 (YL _))⟩;have e:((⟨xo,xa,xb⟩:Nd)::(atoms++row (F1.app (.cons [f] nd G ks .nil))))=(⟨xo,xa,xb⟩::(atoms++row F1)++[f])++row (.cons [] nd G ks .nil):=by
         rw[fW];simp[row]
        exact U.cast aH e.symm
       case measure=>simp[intOf];omega
     have e5:((j:Int) % 2==0)=false:=by simp;omega
     have a3:pre=[]:=ZC (by rw[b0,XN (fun hh=>s hh.2)]);have d2:=aB a3;have c8:=d0.o wr a1;have c2:=d3.o wr a1;clear a5 s b0 a3 a0;go_wp2_with (at_builtin;refine a8 rfl (bG (.tmp 44) (.tmp 48) 29 29 rfl (w2.heap.size+1) i0 Tryz.underlying29 Tryz.underlying29 b2.o b3.o b4.o b5.o _ (⟨xo,xa,xb⟩::(atoms++row F1)) _ rfl F rfl c2 aH b1 ?_);intro A4 c4 w4 U D)
     go_roundw
     case rel =>
      refine⟨F1.app (.cons pre nd G ks .nil),F2,j+1,A4,_,c4,by rw[HK.o,cV];rfl,by rw[bN];simp[bE,HJ.o],rfl,by go_num,?_,(a1.grown D.grown aA (fun g hg=>by have:=(aS F hg).1;omega)),aT.grown a6 D.grown (eF F (YL _))⟩;have e:((⟨xo,xa,xb⟩:Nd)::(atoms++row (F1.app (.cons pre nd G ks .nil))))=(⟨xo,xa,xb⟩::(atoms++row F1))++row (.cons [] nd G ks .nil):=by
       have a3:=d2.o;subst a3;rw[fW];simp[row]
      exact U.cast aH e.symm
     case measure=>simp[intOf];omega
   . have e9:(xo==12)=false:=by simp[a5]
     have a3:pre=[]:=ZC (by rw[b0,XN (fun hh=>a5 (by simpa using hh.1))]);have s:True:=trivial;have d2:=aB a3;have c8:=d0.o wr a1;have c2:=d3.o wr a1;clear a5 s b0 a3 a0;go_wp2_with (at_builtin;refine a8 rfl (bG (.tmp 44) (.tmp 48) 29 29 rfl (w2.heap.size+1) i0 Tryz.underlying29 Tryz.underlying29 b2.o b3.o b4.o b5.o _ (⟨xo,xa,xb⟩::(atoms++row F1)) _ rfl F rfl c2 aH b1 ?_);intro A4 c4 w4 U D)
     go_roundw
     case rel =>
      refine⟨F1.app (.cons pre nd G ks .nil),F2,j+1,A4,_,c4,by rw[HK.o,cV];rfl,by rw[bN];simp[bE,HJ.o],rfl,by go_num,?_,(a1.grown D.grown aA (fun g hg=>by have:=(aS F hg).1;omega)),aT.grown a6 D.grown (eF F (YL _))⟩;have e:((⟨xo,xa,xb⟩:Nd)::(atoms++row (F1.app (.cons pre nd G ks .nil))))=(⟨xo,xa,xb⟩::(atoms++row F1))++row (.cons [] nd G ks .nil):=by
       have a3:=d2.o;subst a3;rw[fW];simp[row]
      exact U.cast aH e.symm
     case measure=>simp[intOf];omega
end
section
open Go.Lib renaming hid->aB
structure GM (o want:List Nd):Prop where
 small:want.length<=4096->o=want
 big:4096<want.length->4096<o.length
 few:o.length<=8300
theorem GM.app{o D want' ys G:List Nd}(h:GM o D)(s:o.length<=4096)(U:want'=ys++D++G)(hz:ys.length+G.length<=4200):GM (ys++o++G) want':=by
 have I:D.length<=4096:=by
  rcases Nat.lt_or_ge 4096 D.length with F|F
  . have:=h.big F;omega
  exact F
 have F:=h.small I;subst F;subst U;exact⟨fun _=>rfl,fun h=>h,by simp only[XX];omega⟩
theorem GM.stay{o D want':List Nd}(h:GM o D)(G:4096<o.length)(U:D.length<=want'.length):GM o want':=by
 have I:4096<D.length:=by
  rcases Nat.lt_or_ge 4096 D.length with F|F
  . exact F
  have:=h.small F;rw[this]at G;omega
 exact⟨fun F=>by omega,fun _=>G,h.few⟩
theorem AU{a:List Nd}(h:a6 a=0):a.length<=4096:=(eN h).1
def uG(f:List Nd)(args:aAA):List Nd:=List.replicate args.length ⟨6,0,0⟩++(f++args.flatten)
theorem LW(f:List Nd)(args:aAA){k:Nat}(h:k<args.length):uG f (args.take (k+1))=[⟨6,0,0⟩]++uG f (args.take k)++args.getD k []:=by
 unfold uG;rw[kD args h [],ZS,ZS,Nat.min_eq_left aA,Nat.min_eq_left aA,ZX];simp
theorem S6{W:aAB}{base:Nat}(D:base<=W.heap.size)(x y z:Int):bK (W.alloc (Y #[O S x,O S y,O S z] 46)) base (X (some ⟨W.heap.size,0,Z⟩) 1 1) [⟨x,y,z⟩] :=
 ⟨by simp[jC,gP],.inr ⟨W.heap.size,1,#[O S x,O S y,O S z],rfl,D,heap_alloc_new W _,by simp,by unfold maxLen;omega,rfl,by simp[jC,gP]⟩⟩
theorem C1{A B:ZZ}{c m d:Nat}{f:List Nd}{args:aAA}(hf:aX w A n c f)(ha:fG (· < w.heap.size) w B m d args):
 Calls Tryz.prog 67 #[X A n c,X B m d] w (vM (fJ f args) w):=by
 obtain⟨i0,hi,e2,e3,e4⟩:=info_parts kP;obtain⟨b9,c8,c9,d0,HF,HA⟩:=aAH hi e2 e3 e4 hf ha;have f7:=ha.few;have f8:=hf.few;have c4:=aB (gY hf);clear hi e2 e3 e4 hf ha;by_cases a0:a6 f=0;rotate_left
 . have HQ:Hid (fJ f args=([],a6 f)):=aB (by unfold fJ;rw[XP a0]);have hz:(a6 f != 0)=true:=by simpa using a0
   generalize a6 f=z at *;clear a0;go_in;go_wp2_with fail;refine (c4.o).mono ?_;rintro e w2 ⟨rfl,G⟩;have d5:=aB G;clear G;go_wp2_with fail;go_ret2;exact xI HQ.o d5.o
 have g1:n<=4096:=by rw[<-HF.o.len];exact AU a0
 rw[a0]at c4;have c2:=aB a0;clear a0;go_in;go_wp2_with fail;refine (c4.o).mono ?_;rintro e w2 ⟨rfl,G⟩;have d5:=aB G;have b7:=aB (show bK (w2.alloc (Y #[] 46)) w.heap.size (X (some ⟨w2.heap.size,0,Z⟩) 0 0) [] from World.ownsRow_made w2 #[] 0 G.size (ZA _) rfl);have a1:=aB (G.alloc G.size (Y #[] 46));have e6:=aB (HF.o.below a1.o);clear G;go_wp2_with (at_builtin;go_loud (refine a8 rfl (bG (.tmp 14) (.tmp 15) 29 29 rfl w.heap.size i0 Tryz.underlying29 Tryz.underlying29 b9.o c8.o c9.o d0.o (X (some ⟨w2.heap.size,0,Z⟩) 0 0) [] f rfl b7.o rfl e6.o aG a1.o.size ?_));intro A3 c3 w3 b2 a7;have e8:=aB b2;have e5:=aB (a1.o.grown a7.grown a1.o.size (fun g hg=>(aS b7.o hg).1));clear b2 a7)
 go_loopw [7,8] (fun ov iv wr=>∃(i L k1:Nat)(A1:ZZ)(o:List Nd),i<=m/\iv=O S (i:Int)/\ov=X A1 L k1/\L<=8300/\Hid (o.length=L)/\Hid (bK wr w.heap.size (X A1 L k1) o)/\Hid (GM o (uG f (args.take i)))/\Hid (eS (args.take i)=0)/\Hid (ZY w wr)) (fun _ i _=>m-(intOf i).toNat)
 case atStart=>exact⟨0,n,c3,A3,f,by omega,rfl,by simp,by omega,aB HF.o.len,aB (bK.cast e8.o aD aD),aB ⟨fun _=>by simp[uG],fun h=>by simpa[uG] using h,by rw[HF.o.len];omega⟩,aB rfl,e5⟩
 case round =>
  obtain⟨i,L,k1,A1,o,hi,rfl,rfl,hL,F,b1,a3,a2,I⟩:=hrel;have d1:=I.o.size;by_cases d2:i<m;rotate_left
  . have f4:i=m:=aA;have e7:Hid (args.take i=args):=aB (ZN (by rw[HA.o.len];omega));rw[e7.o]at a2 a3;clear f4;have d8:Hid ((uG f args).length=f.length+(args.flatten.length+args.length)):=aB (by unfold uG;simp;omega);by_cases f6:4096<L
    . have D:decide ((L:Int)>4096)=true:=XR aA;have HQ:Hid (fJ f args=([],9)):=aB (by
       unfold fJ;rw[XN (by rw[c2.o];decide),XN (by rw[a2.o];decide),XP];rw[<-d8.o];rcases Nat.lt_or_ge 4096 (uG f args).length with h2|h2
       . exact h2
       have:=a3.o.small h2;have:=F.o
       subst_vars
       omega)
      go_wp2_with fail;go_ret2;exact xI HQ.o I.o
    have D:decide ((L:Int)>4096)=false:=XQ aA;have hw:(uG f args).length<=4096:=by
     rcases Nat.lt_or_ge 4096 (uG f args).length with h2|h2
     . have:=a3.o.big h2;have:=F.o;omega
     exact h2
    have HQ:Hid (fJ f args=(o,0)):=aB (by
     unfold fJ;rw[XN (by rw[c2.o];decide),XN (by rw[a2.o];decide),XN (by rw[<-d8.o];omega),a3.o.small hw];rfl)
    clear hw;go_wp2_with fail;go_ret2;rw[HQ.o];exact⟨I.o,A1,L,k1,rfl,jK (bK.cast b1.o rfl rfl) (by rw[F.o];omega)⟩
  obtain⟨b,off,rfl,hb,hm⟩:=HA.o.mem aA;obtain⟨A',n',c',hc,ht⟩:=hm i d2;have f2:wr.cell? ⟨b,off+i,Z⟩=some (X A' n' c'):=(I.o.cell (p:=⟨b,off+i,Z⟩) hb).trans hc;have HS:=aB (gY (aX.below ht I.o));have f1:Hid (∀w',ZY w w'->aX w' A' n' c' (args.getD i [])):=aB fun w' h=>aX.below ht h;have a5:Hid (∀w',ZY w w'->w'.cell? ⟨b,off+i,Z⟩=some (X A' n' c')):=aB fun w' h=>(h.cell (p:=⟨b,off+i,Z⟩) hb).trans hc;have d9:=aB (pO (args:=args) (by rw[HA.o.len];exact d2) a2.o);have d3:=aB (LW f args (by rw[HA.o.len];exact d2));have c7:=aB ht.len;have f9:=ht.few;generalize args.getD i []=a at *;clear hm hc ht;by_cases U:a6 a=0;rotate_left
  . have HQ:Hid (fJ f args=([],a6 a)):=aB (by
     have h1:=d9.o.2 U;unfold fJ;rw[XN (by rw[c2.o];decide),XP (by rw[h1];exact U),h1])
    generalize a6 a=z at *;have hz:(z != 0)=true:=by simpa using U
    clear U;go_wp2_with fail;refine (HS.o).mono ?_;rintro e w4 ⟨rfl,D⟩;have s:=aB (I.o.trans (D.mono d1));clear D;go_wp2_with fail;go_ret2;exact xI HQ.o s.o
  have g0:n'<=4096:=by rw[<-c7.o];exact AU U
  rw[U]at HS;have d4:=aB (d9.o.1 U);clear U;by_cases f5:L<=4096
  . have e1:decide ((L:Int)<=4096)=true:=XR aA;have c1:=aB (a3.o.app (by rw[F.o];exact f5) d3.o (by simp only[List.length_singleton];rw[c7.o];omega));go_wp2_with fail;refine (HS.o).mono ?_;rintro e w4 ⟨rfl,D⟩;have s:=aB (I.o.trans (D.mono d1));have c0:=aB (bK.below b1.o D);have f3:=a5.o _ s.o;have b8:=s.o.size;have d7:=aB (aU s.o 1);have b5:=aB (d7.o.alloc b8 (Y #[O S 6,O S 0,O S 0] 46));have b6:=aB (S6 (W:=w4.drewN 1) (base:=w.heap.size) b8 6 0 0);have f0:=aB (bK.termV (bK.alloc (bK.drewN c0.o 1) (Y #[O S 6,O S 0,O S 0] 46)) (by rw[F.o];omega));clear D f2;go_wp2_with fail;go_region_held3 (fun w'=>w'.cell? ⟨b,off+i,Z⟩=some (X A' n' c')) (first|exact f3|exact a5.o _ d7.o|exact a5.o _ b5.o|exact a5.o _ a4.o|exact a5.o _ d6.o)
     (first
      | (refine jO rfl (bG (.tmp 35) (.tmp 36) 29 29 rfl w.heap.size i0 Tryz.underlying29 Tryz.underlying29 b9.o c8.o c9.o d0.o (X (some ⟨w4.heap.size,0,Z⟩) 1 1) [⟨6,0,0⟩] o rfl b6.o rfl f0.o aG b5.o.size ?_);intro A5 c5 w5 b3 a9;have e0:=aB b3;have a4:=aB (b5.o.grown a9.grown b5.o.size (fun g hg=>(aS b6.o hg).1));clear b3 a9)
      | (refine jO rfl (bG (.tmp 37) (.tmp 41) 29 29 rfl w.heap.size i0 Tryz.underlying29 Tryz.underlying29 b9.o c8.o c9.o d0.o (X A5 (1+L) c5) ([⟨6,0,0⟩]++o) a rfl (bK.cast e0.o aD rfl) rfl (f1.o _ a4.o) (by simp only[XX,List.length_singleton];rw[F.o];omega) a4.o.size ?_);intro A6 c6 w6 b4 b0;have e9:=aB b4;have d6:=aB (a4.o.grown b0.grown a4.o.size (fun g hg=>(aS e0.o hg).1));clear b4 b0))
    go_wp2_with fail;go_roundw
    case rel=>exact⟨i+1,_,c6,A6,([⟨6,0,0⟩]++o)++a,by omega,by go_num,rfl,by have:=F.o;omega,aB (by rw[XX,XX,c7.o];simp only[List.length_singleton];omega),aB (bK.cast e9.o aD rfl),c1,d4,d6⟩
    case measure=>simp[intOf];omega
  have e1:decide ((L:Int)<=4096)=false:=XQ aA;have c1:=aB (a3.o.stay (want':=uG f (args.take (i+1))) (by rw[F.o];omega) (by rw[d3.o];simp only[XX];omega));go_wp2_with fail;refine (HS.o).mono ?_;rintro e w4 ⟨rfl,D⟩;have s:=aB (I.o.trans (D.mono d1));have c0:=aB (bK.below b1.o D);clear D;go_wp2_with fail;go_roundw
  case rel=>exact⟨i+1,L,k1,A1,o,by omega,by go_num,rfl,hL,F,c0,c1,d4,s⟩
  case measure=>simp[intOf];omega
end
section
open Go.Lib renaming hid->aB
set_option maxHeartbeats 4000000
set_option maxRecDepth 100000
def VQ(q:List Nd×Int×Int)(w:aAB)(e:Ending)(w':aAB):Prop:=ZY w w'/\∃A n c,e=.returned (.tuple #[X A n c,O S q.2.1,O S q.2.2])/\aX w' A n c q.1
def lH:uO->List Nd×Int×Int
 | .bad z=>([],0,z)
 | .done y k=>(aW y,(k:Int),0)
theorem TV{cv:aAA}:OE b cv (n+1) x=match nS b cv (bL x+1) (bX x) with
 | .no=>.done x (n+1)
 | .bad=>.bad 9
 | .yes y=>if 4096<bL y then .bad 9 else OE b cv n y:=rfl
theorem TW{cv:aAA}:OE b cv 0 x=match nS b cv (bL x+1) (bX x) with
 | .no=>.done x 0
 | .bad=>.bad 10
 | .yes _=>.bad 10:=rfl
theorem JI{v:bR}(hr:bU b=0)(hb:cE w v b){cA:ZZ}{cn cc:Nat}{cv:aAA}(e0:gG b cv)(hc:jU (· < w.heap.size) w cA cn cc cv){A:ZZ}{c:Nat}(ht:aX w A n c (aW x))(hx:bO b (cv.length:Int) x){F:Nat}(hF:F<=100000):
 Calls Tryz.prog 33 #[.agg #[O S b.vars,X v.Ao v.no v.co,X v.Ae v.ne v.ce,O S b.nat,X v.Ap v.np v.cp],X cA cn cc,X A n c,O S (F:Int)] w (VQ (lH (OE b cv F x)) w):=by
 obtain⟨w1,c2⟩:=aAJ (w.alloc (Y #[O S b.vars,X v.Ao v.no v.co,X v.Ae v.ne v.ce,O S b.nat,X v.Ap v.np v.cp] 26));have d9:ZY w w1:=by rw[c2];exact aQ _ _
 have a1:aT w1 w.heap.size 26 #[O S b.vars,X v.Ao v.no v.co,X v.Ae v.ne v.ce,O S b.nat,X v.Ap v.np v.cp]:=by rw[c2];exact aT.new _ _ _
 obtain⟨f4,h8,i4⟩:=aAF (rP (b:=b) (ht.below d9) rfl hx) (fun (x:TT) (hx:bO b (cv.length:Int) x) (W:aAB) (h:ZY w W) (R:Nat->Prop) (t:iA) (hR:∀q,R q->q<W.heap.size) (i6:fI R W t x)=>LC w1 hr e0 (bL x+1) W R t x (hb.below h) (jG hc h) hR i6 hx (YL _)) (fun (x:TT) (hx:bO b (cv.length:Int) x) y h=>ST (y:=y) hr e0 (g:=bL x+1) hx h);obtain⟨a0,b4⟩:=aAJ (OE b cv F x);rw[<-b4];obtain⟨c5,e8,e4,f0⟩:=aAE b4 hx d9 a1;have f5:Hid (w.heap.size<w1.heap.size):=aB a1.lt;have HF:=aB hF;clear hr hb e0 hc ht hx d9 a1 b4 hF;obtain⟨⟨xo,xa,xb⟩,a7,xk⟩:=x;obtain⟨FF,d8⟩:=aAJ (F:Int);rw[<-d8];have e6:=aB d8;clear d8;go_in;go_upto_region 1 with fail
 rw[<-c2];clear c2;go_wp2_with fail;refine (f4.o).mono ?_;rintro e s ⟨a4,⟨xA,xn,xc,xB,xm,xd,xC,xp,xe⟩,rfl,h1⟩;have b7:=aQ s (Y #[O S xo,O S xa,O S xb,X xA xn xc,X xB xm xd,X xC xp xe] 85);have e5:=aB (e4.o.trans ((a4.trans (b7.mono a4.size)).mono e4.o.size));have f1:=aB (f0.o.below (a4.trans (b7.mono a4.size)) f0.o.lt);have g1:=aB (aT.new s 85 #[O S xo,O S xa,O S xb,X xA xn xc,X xB xm xd,X xC xp xe]);have f6:=aB a4.size;have i0:Hid ((s.alloc (Y #[O S xo,O S xa,O S xb,X xA xn xc,X xB xm xd,X xC xp xe] 85)).heap.size=s.heap.size+1):=aB aD;obtain⟨V0,g4⟩:=aAJ (s.alloc (Y #[O S xo,O S xa,O S xb,X xA xn xc,X xB xm xd,X xC xp xe] 85));have f8:Hid (fI (bM (eC w1 s) V0 (s.alloc (Y #[O S xo,O S xa,O S xb,X xA xn xc,X xB xm xd,X xC xp xe] 85))) (s.alloc (Y #[O S xo,O S xa,O S xb,X xA xn xc,X xB xm xd,X xC xp xe] 85)) ⟨xA,xn,xc,xB,xm,xd,xC,xp,xe⟩ ((⟨xo,xa,xb⟩:Nd),a7,xk)):=aB (h1.keep fun q D=>⟨Or.inl D,fun o=>b7.cell (p:=⟨q,o,Z⟩) D.2⟩);have HV:Hid (V0.heap.size=s.heap.size+1):=aB (by rw[g4];simp);clear a4 b7 h1 f4 g4;go_wp2_with fail;go_loopw [3] (fun fv wr=>∃(k:Nat)(K:Int)(y:TT)(t':iA),fv=O S K/\K=(k:Int)/\k<=F/\Hid (a0=OE b cv k y)/\Hid (bO b (cv.length:Int) y)/\Hid (fI (bM (eC w1 s) V0 wr) wr t' y)/\Hid (aT wr s.heap.size 85 (fE t' y.1))/\Hid (aT wr w.heap.size 26 #[O S b.vars,X v.Ao v.no v.co,X v.Ae v.ne v.ce,O S b.nat,X v.Ap v.np v.cp])/\Hid (ZY w wr)/\Hid (V0.heap.size<=wr.heap.size)) (fun fv _=>(intOf fv).toNat)
 case atStart=>exact⟨F,FF,((⟨xo,xa,xb⟩:Nd),a7,xk),⟨xA,xn,xc,xB,xm,xd,xC,xp,xe⟩,rfl,e6.o,XU _,c5,e8,f8,g1,f1,e5,aB (by have:=HV.o;have:=i0.o;omega)⟩
 case round =>
  clear f8 g1 f1 e5 c5 e8 e6;obtain⟨k,K,y,⟨xA,xn,xc,xB,xm,xd,xC,xp,xe⟩,rfl,g3,j2,g7,c0,e3,a5,c1,b9,a6⟩:=hrel;have b2:=g7;have HG:=h8.o y c0.o wr b9.o (bM (eC w1 s) V0 wr) ⟨xA,xn,xc,xB,xm,xd,xC,xp,xe⟩ (fun q D=>by
   rcases D with D|D
   . have:=D.2;have:=HV.o;have:=a6.o;omega
   exact D.2) e3.o
  have g2:=aB (i4.o y c0.o);have e2:=TW (b:=b) (cv:=cv) (x:=y);have e1:=fun n=>TV (b:=b) (cv:=cv) (n:=n) (x:=y);obtain⟨r,g8⟩:=aAJ (nS b cv (bL y+1) (bX y));rw[<-g8]at HG g2 e2 e1;have d4:=aB e2;have d3:=aB e1;have e9:=aB HG;have h7:=c0;have f3:Hid (∀q,bM (eC w1 s) V0 wr q->q<wr.heap.size):=aB (fun q D=>by
   rcases D with D|D
   . have:=D.2;have:=HV.o;have:=a6.o;omega
   exact D.2)
  have z:=aB g3;have h3:0<K->IntKind.i64.wrap (K-1)=K-1:=fun h=>by rw[XV];have:=HF.o;omega
  have i2:=aB h3;clear e2 e1 g8 HG g7 c0 g3 h3;obtain⟨⟨xo,xa,xb⟩,a7,xk⟩:=y;simp only at a5;have zx:=aT.cell a5.o;have zk:=aT.cell c1.o;have i5:=a5.o.lt;go_wp2_with fail;refine (e9.o).mono ?_;rintro e w4 ⟨b3,⟨yA,yn,yc,yB,ym,yd,yC,yp,ye⟩,⟨⟨yo,ya,yb⟩,a2,yk⟩,is,j1,rfl,d2,D⟩;have b8:=aQ w4 (Y #[O S yo,O S ya,O S yb,X yA yn yc,X yB ym yd,X yC yp ye] 85);have G:=aB (b3.trans (b8.mono b3.size));have a3:=aB (b9.o.trans (G.o.mono b9.o.size));have d7:=aB (aT.new w4 85 #[O S yo,O S ya,O S yb,X yA yn yc,X yB ym yd,X yC yp ye]);have a9:=aB (a5.o.below G.o a5.o.lt);have c4:=aB (c1.o.below G.o c1.o.lt);have zy:=aT.cell d7.o;have b5:=aT.cell a9.o;have f9:Hid (fI (bM (eC w1 s) V0 (w4.alloc (Y #[O S yo,O S ya,O S yb,X yA yn yc,X yB ym yd,X yC yp ye] 85))) (w4.alloc (Y #[O S yo,O S ya,O S yb,X yA yn yc,X yB ym yd,X yC yp ye] 85)) ⟨xA,xn,xc,xB,xm,xd,xC,xp,xe⟩ ((⟨xo,xa,xb⟩:Nd),a7,xk)):=aB (e3.o.keep fun q D=>⟨D.to (XU _) G.o.size,fun o=>G.o.cell (p:=⟨q,o,Z⟩) (f3.o q D)⟩);have c9:Hid (fI (bM (eC w1 s) V0 (w4.alloc (Y #[O S yo,O S ya,O S yb,X yA yn yc,X yB ym yd,X yC yp ye] 85))) (w4.alloc (Y #[O S yo,O S ya,O S yb,X yA yn yc,X yB ym yd,X yC yp ye] 85)) ⟨yA,yn,yc,yB,ym,yd,yC,yp,ye⟩ ((⟨yo,ya,yb⟩:Nd),a2,yk)):=aB (d2.keep fun q D=>⟨(gK (fun q h=>h) a6.o b3.size D:bM (eC w1 s) V0 w4 q).to (XU _) b8.size,fun o=>b8.cell (p:=⟨q,o,Z⟩) (by
   rcases D with D|D
   . exact XT (f3.o q D) b3.size
   exact D.2)⟩)
  have b1:Hid (∀q,bM (eC w1 s) V0 (w4.alloc (Y #[O S yo,O S ya,O S yb,X yA yn yc,X yB ym yd,X yC yp ye] 85)) q->q<(w4.alloc (Y #[O S yo,O S ya,O S yb,X yA yn yc,X yB ym yd,X yC yp ye] 85)).heap.size/\q≠s.heap.size):=aB (fun q D=>by
   have:=HV.o;rcases D with D|D
   . have:=D.2;have:=a6.o;have:=G.o.size;omega
   have:=D.1;have:=D.2;omega)
  have f7:Hid (V0.heap.size<=(w4.alloc (Y #[O S yo,O S ya,O S yb,X yA yn yc,X yB ym yd,X yC yp ye] 85)).heap.size):=aB (YE a6.o G.o.size);clear b3 b8 d2 zx zk i5 a5 c1 b9 a6 e3 e9;rcases D with⟨rfl,rfl,rfl⟩|⟨rfl,rfl,rfl⟩|⟨rfl,rfl,rfl⟩
  . have I:Hid (a0=.done ((⟨xo,xa,xb⟩:Nd),a7,xk) k):=aB (by
     rw[b2.o];cases k with
     | zero=>exact d4.o
     | succ k=>exact d3.o k)
    have h9:=aB (AR (fun q D=>(b1.o q D).1) f9.o h7.o);clear zy;go_wp2_with fail;refine (h9.o).mono ?_;rintro e w7 ⟨g5,A7,n7,c7,rfl,h2⟩;have h5:=bY a3 g5;have i1:Hid (aX w7 A7 n7 c7 (aW ((⟨xo,xa,xb⟩:Nd),a7,xk))):=aB (bF.keep h2 (R':=(· < w7.heap.size)) fun q D=>⟨D.2,fun _=>rfl⟩);clear g5 h2 b5;go_wp2_with fail;go_ret3
    rw[I.o];exact⟨h5.o,A7,n7,c7,by rw[z.o];rfl,i1.o⟩
  . by_cases h0:k=0
    . have d0:(K==0)=true:=by simp[z.o,h0]
      have I:Hid (a0=.bad 10):=aB (by rw[b2.o,h0];exact d4.o);clear h0 zy b5;go_wp2_with fail;go_ret3
      rw[I.o];exact⟨a3.o,Z,0,0,rfl,aX.nil _⟩
    have d0:(K==0)=false:=by rw[XY];have:=z.o;omega
    have I:Hid (a0=.bad 9):=aB (by
     rw[b2.o,show k=(k-1)+1 from by omega];exact d3.o _)
    clear h0 zy b5;go_wp2_with fail;go_ret3
    rw[I.o];exact⟨a3.o,Z,0,0,rfl,aX.nil _⟩
  by_cases h0:k=0
  . have d0:(K==0)=true:=by simp[z.o,h0]
    have I:Hid (a0=.bad 10):=aB (by rw[b2.o,h0];exact d4.o);clear h0 zy b5;go_wp2_with fail;go_ret3
    rw[I.o];exact⟨a3.o,Z,0,0,rfl,aX.nil _⟩
  have d0:(K==0)=false:=by rw[XY];have:=z.o;omega
  obtain⟨k1,a1⟩:∃k1,k=k1+1:=⟨k-1,by omega⟩;obtain⟨s1,s2⟩:=g2.o _ rfl;have d5:=aB (tE (fun q D=>(b1.o q D).1) c9.o aA);have c6:=aB s2;have d6:Hid (a0=if 4096<bL ((⟨yo,ya,yb⟩:Nd),a2,yk) then .bad 9 else OE b cv k1 ((⟨yo,ya,yb⟩:Nd),a2,yk)):=aB (by rw[b2.o,a1];exact d3.o k1);obtain⟨sz,g9⟩:=aAJ (bL ((⟨yo,ya,yb⟩:Nd),a2,yk));rw[<-g9]at d5 d6 c6;have c3:=aB a1;have i7:IntKind.i64.wrap (K-1)=(k1:Int):=by rw[i2.o (by have:=z.o;omega)];have:=z.o;omega
  clear s1 s2 g9 a1 h0 b5;by_cases h4:4096<sz
  . have d1:decide ((sz:Int)>4096)=true:=XR aA;have I:Hid (a0=.bad 9):=aB (by rw[d6.o,XP h4]);clear h4;go_wp2_with fail;refine (d5.o).mono ?_;rintro e w6 ⟨rfl,U⟩;have b6:=bY a3 U;clear U zy;go_wp2_with fail;go_ret3
    rw[I.o];exact⟨b6.o,Z,0,0,rfl,aX.nil _⟩
  have d1:decide ((sz:Int)>4096)=false:=XQ aA;have I:Hid (a0=OE b cv k1 ((⟨yo,ya,yb⟩:Nd),a2,yk)):=aB (by rw[d6.o,XN h4]);have h6:=aB (c6.o aA);clear h4;go_wp2_with fail;refine (d5.o).mono ?_;rintro e w6 ⟨rfl,U⟩;have b6:=bY a3 U;obtain⟨i3,b0,f2⟩:=aAF (d7.o.below U d7.o.lt) (a9.o.below U a9.o.lt) (c4.o.below U c4.o.lt);have g0:Hid (fI (bM (eC w1 s) V0 w6) w6 ⟨yA,yn,yc,yB,ym,yd,yC,yp,ye⟩ ((⟨yo,ya,yb⟩:Nd),a2,yk)):=aB (c9.o.keep fun q D=>⟨D.to (XU _) U.size,fun o=>U.cell (p:=⟨q,o,Z⟩) (b1.o q D).1⟩);have c8:Hid (V0.heap.size<=w6.heap.size):=aB (YE f7.o U.size);have j0:=aT.cell i3.o;have i9:=aT.cell b0.o;have i8:=aT.frozen b0.o;clear U zy;go_wp2_with fail;have g6:=e7 w6 s.heap.size (O S yo) (O S ya) (O S yb) (X yA yn yc) (X yB ym yd) (X yC yp ye);have a8:=aB g6;clear g6 j0 i9 i8;go_roundw
  case rel =>
   refine⟨k1,(k1:Int),((⟨yo,ya,yb⟩:Nd),a2,yk),⟨yA,yn,yc,yB,ym,yd,yC,yp,ye⟩,by first|rfl|exact congrArg _ i7,rfl,by have:=c3.o;omega,I,h6,aB ?_,aB (cK b0.o _ _ _ _ _ _),aB (f2.o.grown a8.o (by intro e;injection e with e;have:=f5.o;have:=f6.o;omega)),aB (b6.o.grown a8.o b6.o.size (fun q D=>by injection D with D;have:=f5.o;have:=f6.o;omega)),aB (YE c8.o a8.o.size)⟩;exact g0.o.keep fun q D=>⟨D.to (XU _) a8.o.size,fun o=>aP (a8.o.block q (by
    have:=HV.o;rcases D with D|D
    . have:=D.2;have:=c8.o;omega
    . exact D.2) (by
    have:=HV.o;intro e;injection e with e;rcases D with D|D
    . have:=D.2;omega
    have:=D.1;omega)) o⟩
  case measure =>
   have:=z.o;have:=c3.o;simp[intOf]<;>omega
theorem NK{fuel:Int}:Calls Tryz.prog 34 #[O S fuel] w (fun e w'=>w=w'/\e=.returned (O S (eR fuel:Int))):=by
 obtain⟨F,hF⟩:=aAJ (eR fuel);have D:min (max fuel 0) 100000=(F:Int):=by unfold eR at hF;omega
 rw[<-hF];clear hF;go_in;go_wp2_with fail;all_goals go_ret
 all_goals exact⟨rfl,congrArg (fun z:Int=>Ending.returned (Value.int .i64 z)) (by first|omega|(split at * <;> omega))⟩
end
end Go.Proofs.YtjoddliplahgkaaGreat
