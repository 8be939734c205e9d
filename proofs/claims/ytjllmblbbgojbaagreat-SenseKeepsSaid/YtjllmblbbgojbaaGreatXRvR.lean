/- Row of the reference, at every tree. -/
import Derived.Test.YtjllmblbbgojbaaGreatXRvV
namespace Go.Proofs.YtjllmblbbgojbaaGreat
set_option linter.unusedVariables false
set_option linter.unusedSimpArgs false
open Go.RowKit
open Go.Value renaming int → O
open Go.IntKind renaming i64 → S
open Go.Lib renaming hid->aB
theorem LA {F1 F2:Fo} {f nd:Nd} {ats:List Nd} {ks:Fo} (h:gG true 0 (F1.app (.cons [f] nd ats ks F2))) (hp:bH F1 % 2=0) :
 bD (cH (F1.app (.cons [f] nd ats ks F2))) (bH F1 / 2)=f/\bH F1 / 2<(cH (F1.app (.cons [f] nd ats ks F2))).length:=by
 rw[gG.app] at h;have h1:=vR F1 0 h.1;have h2:(cH F1).length=bH F1 / 2:=aA;rw[gX];simp only[cH,bD];refine⟨?_,by simp;omega⟩;rw[<-h2];simp
set_option maxRecDepth 100000 in
set_option maxHeartbeats 2000000 in
theorem IL (m:Nat) (ih:∀(w:World) (R:Nat->Prop) (xs:List Value) (n:Nd) (atoms:List Nd) (kids:Fo),(∀b,R b->b<w.heap.size)->cJ R w xs n atoms kids->gG (decide (n.op=12)) 0 kids->(row (.cons [] n atoms kids .nil)).length<=5864062014805->a7 kids<m →
      Calls Tryz.prog 27 #[.agg xs.toArray] w (kR (row (.cons [] n atoms kids .nil)) w))
 (w:World) (R:Nat->Prop) (xs:List Value) (n:Nd) (atoms:List Nd) (kids:Fo) (hR:∀b,R b->b<w.heap.size) (ht:cJ R w xs n atoms kids) (hp:gG (decide (n.op=12)) 0 kids) (hlen:(row (.cons [] n atoms kids .nil)).length<=5864062014805) (hsz:a7 kids<=m) :
 Calls Tryz.prog 27 #[.agg xs.toArray] w (kR (row (.cons [] n atoms kids .nil)) w):=by
 have HI:=aB ih;clear ih;obtain⟨sk,sa,sf,rfl,⟨Ak,nk,ck,rfl,hkk⟩,⟨Aa,na,ca,rfl,haa⟩,⟨Af,nf,cf,rfl,hff⟩⟩:=ht;obtain⟨i0,hi,hy0,hy1,hy2⟩:=info_parts kW;have HI0:=aB hi;have HY0:=aB hy0;have HY1:=aB hy1;have HY2:=aB hy2;clear hi hy0 hy1 hy2;have hlen2:atoms.length+(row kids).length+1<=5864062014805:=by
  simp only[row,List.nil_append,List.length_cons,List.length_append,List.append_nil] at hlen;omega
 have HLEN:=aB hlen2;clear hlen hlen2;go_in;go_wp2_with (at_builtin;refine bM rfl (cQ (.tmp 7) (.tmp 9) 28 27 rfl (w.heap.size+1) i0 Tryz.underlying28 Tryz.underlying27 HI0.o HY0.o HY1.o HY2.o (.slice (some ⟨w.heap.size+1,0,none⟩) 1 1) [n] atoms rfl (KT aD aD n) rfl (haa.keep (R':=fun _=>True) fun b hb=>⟨trivial,fun o=>by have:=hR b hb;rw[World.cell?_alloc_lt _ _ _ aG,World.cell?_alloc_lt _ _ _ this]⟩) (by have:=HLEN.o;have:=haa.len;simp<;>omega) aH ?_);intro A1 c1 w1 hown1 happ1)
 -- LOOP
 have hb1:Below w.heap.size w w1:=(bF w _ _).grown happ1.grown aG (fun g hg=>by
  have:w.heap.size+1=g:=by simpa[Value.ownBlock] using hg
  omega)
 have hbk1:aS w1 w.heap.size 49 #[O S n.op,O S n.a,O S n.b,.slice Ak nk ck,.slice Aa na ca,.slice Af nf cf]:=aS.grown ((aS.new _ _ _).alloc _) happ1.grown (fun e=>by
  simp[Value.ownBlock] at e)
 have HSZ:=aB hsz;have HP:=aB hp;have HKL:=aB hkk.len;clear hsz hp happ1;have hnk:nk<=1000000000000000:=by
  have h1:=HLEN.o;have h2:=HKL.o;have h3:=ER kids;omega
 go_loopw [3,4] (fun v i wr=>∃(F1 F2:Fo) (j:Nat) (A1:Option Addr) (k1 c1:Nat),kids=F1.app F2/\bH F1=j/\v=.slice A1 k1 c1/\i=O S (j:Int)/\bR wr (w.heap.size+1) (.slice A1 k1 c1) (n::(atoms++row F1))/\Below w.heap.size w wr ∧
  aS wr w.heap.size 49 #[O S n.op,O S n.a,O S n.b,.slice Ak nk ck,.slice Aa na ca,.slice Af nf cf]) (fun _ i _=>nk-(intOf i).toNat)
 case atStart=>exact⟨.nil,kids,0,A1,_,c1,rfl,rfl,rfl,rfl,by simpa[row] using hown1,hb1,hbk1⟩
 case round =>
  obtain⟨F1,F2,j,A1,k1,c1,hk,hj,rfl,rfl,hown,hbw,hblk⟩:=hrel;have HK:=aB hk;have HJ:=aB hj;have hszb:w.heap.size+1<=wr.heap.size:=aS.lt hblk;have hkkr:=hkk.keep (R':=R) (w':=wr) (fun b hb=>⟨hb,fun o=>hbw.cell (p:=⟨b,o,none⟩) (hR b hb)⟩);have hffr:=hff.keep (R':=R) (w':=wr) (fun b hb=>⟨hb,fun o=>hbw.cell (p:=⟨b,o,none⟩) (hR b hb)⟩);have zc:=aS.cell hblk;cases F2 with
  | nil =>
   have hjn:j=nk:=by rw[<-HKL.o,hk,bS,hj];rfl
   have hjn2:¬ j<nk:=aA;clear hk hj hjn;go_wp2_with fail;go_ret;refine⟨hbw,A1,k1,c1,rfl,?_⟩;have hd:row (.cons [] n atoms kids .nil)=n::(atoms++row F1):=by rw[HK.o,i9];simp[row]
   rw[hd];have hl:(n::(atoms++row F1)).length<=5864062014805:=by
    have:=HLEN.o;rw[HK.o,i9] at this;simp;omega
   obtain⟨A',n',c',e,ht⟩:=hown.termS hl;injection e with e1 e2 e3;subst e1 e2 e3;exact ht.keep fun b hb=>⟨⟨by have:=(aR hown hb).1;omega,(aR hown hb).2.1⟩,fun _=>rfl⟩
  | cons pre nd ats ks F2 =>
   have hjn:j<nk:=by rw[<-HKL.o,hk,bS,hj];simp[bH]
   have hkk2:fN R wr Ak nk ck (F1.app (.cons pre nd ats ks F2)):=by rw[<-hk];exact hkkr
   have hp2:gG (decide (n.op=12)) 0 (F1.app (.cons pre nd ats ks F2)):=by rw[<-hk];exact HP.o
   obtain⟨b,off,sk',sa',sf',rfl,hrb,htree,g0,g1,g2,g3,g4,g5⟩:=hkk2.at_;rw[hj] at g0 g1 g2 g3 g4 g5;obtain⟨hpl,hpk,_⟩:=(gG.app F1 _ 0).1 hp2 |>.2;rw[Nat.zero_add,hj] at hpl;have HP2:=aB hp2;have hff2:bP R wr Af nf cf (cH (F1.app (.cons pre nd ats ks F2))):=by rw[<-hk];exact hffr
   clear hk hj hkk2 hp2 hkkr hffr;by_cases h12:n.op=12
   · have h12b:(n.op==12)=true:=by simp[h12]
     by_cases hpar:j % 2=0;rotate_left
     · have hparb:((j:Int) % 2==0)=false:=by simp;omega
       have hpe:pre=[]:=List.eq_nil_of_length_eq_zero (by rw[hpl,if_neg (fun hh=>hpar hh.2)]);have HPE:=aB hpe;clear h12 hpar hpl hpe hff2;go_wp2_with fail;refine (HI.o wr R [O S nd.op,O S nd.a,O S nd.b,sk',sa',sf'] nd ats ks (fun b hb=>Nat.lt_of_lt_of_le (hR b hb) hbw.size) htree hpk (by have:=HLEN.o;rw[HK.o,iE] at this;simp only[row,List.length_append,List.length_cons,List.nil_append,List.append_nil] at this ⊢;omega) (by have:=HSZ.o;rw[HK.o,dK] at this;simp only[a7] at this;omega)).mono ?_;rintro e w2 ⟨hb2,A3,n3,c3,rfl,ht3⟩;have hn3:n3+(row F1).length+atoms.length+1<=5864062014805:=by
        have:=HLEN.o;rw[HK.o,iE] at this;have h3:=ht3.len;simp only[row,List.length_append,List.length_cons,List.nil_append,List.append_nil] at this h3;omega
       have hown2:=bR.below hown hb2;have hbB:w.heap.size+1<=w2.heap.size:=Nat.le_trans hszb hb2.size;go_wp2_with (at_builtin;refine bM rfl (cQ (.tmp 36) (.tmp 42) 28 28 rfl (w.heap.size+1) i0 Tryz.underlying28 Tryz.underlying28 HI0.o HY0.o HY1.o HY2.o _ (n::(atoms++row F1)) _ rfl hown2 rfl ht3 aH hbB ?_);intro A4 c4 w4 hown4 happ4)
       go_roundw
       case rel =>
        refine⟨F1.app (.cons pre nd ats ks .nil),F2,j+1,A4,_,c4,by rw[HK.o,dI];rfl,by rw[bS];simp[bH,HJ.o],rfl,by go_num,?_,((hbw.trans (hb2.mono hbw.size)).grown happ4.grown aA (fun g hg=>by have:=(aR hown2 hg).1;omega)),aS.grown (aS.below hblk hb2 (aS.lt hblk)) happ4.grown (fE hown2 (Nat.lt_succ_self _))⟩;have e:(n::(atoms++row (F1.app (.cons pre nd ats ks .nil))))=(n::(atoms++row F1))++row (.cons [] nd ats ks .nil):=by
         have hpe:=HPE.o;subst hpe;rw[iE];simp[row]
        exact hown4.cast aH e.symm
       case measure=>simp[intOf];omega
     have hparb:((j:Int) % 2==0)=true:=by simp;omega
     obtain⟨f,rfl⟩ : ∃f,pre=[f]:=List.length_eq_one_iff.1 (by rw[hpl,if_pos ⟨by simp[h12],hpar⟩]);obtain⟨hf1,hf2⟩:=LA (by have:=HP2.o;rwa [decide_eq_true h12] at this) (by rw[HJ.o];exact hpar);rw[HJ.o] at hf1 hf2;rw[hff2.len] at hf2;obtain⟨bf,offf,hAf,hrf,hnf⟩:=hff2.mem aA;obtain⟨p0,p1,p2⟩:=hnf (j / 2) (by rw[hff2.len];exact hf2);subst hAf;rw[hf1] at p0 p1 p2;clear h12 hpar hpl hf1 hnf hff2;have hsame:∀w5:World,Below w.heap.size w w5->∀b',R b'->∀o,w5.cell? ⟨b',o,none⟩=wr.cell? ⟨b',o,none⟩:=fun w5 hb5 b' hb' o=>(hb5.cell (p:=⟨b',o,none⟩) (hR b' hb')).trans (hbw.cell (p:=⟨b',o,none⟩) (hR b' hb')).symm;have HSAME:=aB hsame;clear hsame;have hl1:(n::(atoms++row F1)).length+1<=5864062014805:=by
      have:=HLEN.o;rw[HK.o,iE] at this;simp only[row,List.length_append,List.length_cons] at this ⊢;omega
     have HL1:=aB hl1;clear hl1;go_wp2_with (at_builtin;refine bM rfl (cK (.tmp 27) (.tmp 34) 28 rfl (w.heap.size+1) i0 Tryz.underlying28 HI0.o HY0.o HY1.o HY2.o (.slice A1 k1 c1) (n::(atoms++row F1)) f wr rfl rfl hown _ rfl aD HL1.o hszb ?_);intro A5 c5 w5 hown5 happ5;simp only[List.length_cons,List.length_append] at hown5;have hblk5:=aS.grown hblk happ5.grown (fE hown (Nat.lt_succ_self _));have hbw5:=hbw.grown happ5.grown (Nat.le_of_lt hszb) (fun g hg=>by have:=(aR hown hg).1;omega);have zc5:=aS.cell hblk5;have zk:=HSAME.o w5 hbw5 b hrb)
     refine (HI.o w5 R [O S nd.op,O S nd.a,O S nd.b,sk',sa',sf'] nd ats ks (fun b hb=>Nat.lt_of_lt_of_le (hR b hb) hbw5.size) (htree.keep (R':=R) (w':=w5) fun b hb=>⟨hb,HSAME.o w5 hbw5 b hb⟩) hpk (by have:=HLEN.o;rw[HK.o,iE] at this;simp only[row,List.length_append,List.length_cons,List.nil_append,List.append_nil] at this ⊢;omega) (by have:=HSZ.o;rw[HK.o,dK] at this;simp only[a7] at this;omega)).mono ?_;rintro e w2 ⟨hb2,A3,n3,c3,rfl,ht3⟩;have hn3:n3+(row F1).length+atoms.length+1+1<=5864062014805:=by
      have:=HLEN.o;rw[HK.o,iE] at this;have h3:=ht3.len;simp only[row,List.length_append,List.length_cons,List.nil_append,List.append_nil] at this h3
      skip
      omega
     have hown2:=bR.below hown5 hb2;have hbB:w.heap.size+1<=w2.heap.size:=Nat.le_trans (aS.lt hblk5) hb2.size;go_wp2_with (at_builtin;refine bM rfl (cQ (.tmp 36) (.tmp 42) 28 28 rfl (w.heap.size+1) i0 Tryz.underlying28 Tryz.underlying28 HI0.o HY0.o HY1.o HY2.o _ (n::(atoms++row F1)++[f]) _ rfl hown2 rfl ht3 aH hbB ?_);intro A4 c4 w4 hown4 happ4)
     go_roundw
     case rel =>
      refine⟨F1.app (.cons [f] nd ats ks .nil),F2,j+1,A4,_,c4,by rw[HK.o,dI];rfl,by rw[bS];simp[bH,HJ.o],rfl,by go_num,?_,((hbw5.trans (hb2.mono hbw5.size)).grown happ4.grown aA (fun g hg=>by have:=(aR hown2 hg).1;omega)),aS.grown (aS.below hblk5 hb2 (aS.lt hblk5)) happ4.grown (fE hown2 (Nat.lt_succ_self _))⟩;have e:(n::(atoms++row (F1.app (.cons [f] nd ats ks .nil))))=(n::(atoms++row F1)++[f])++row (.cons [] nd ats ks .nil):=by
       skip
       rw[iE];simp[row]
      exact hown4.cast aH e.symm
     case measure=>simp[intOf];omega
   · have h12b:(n.op==12)=false:=by simp[h12]
     have hpe:pre=[]:=List.eq_nil_of_length_eq_zero (by rw[hpl,if_neg (fun hh=>h12 (by simpa using hh.1))]);have HPE:=aB hpe;clear h12 hpl hpe hff2;go_wp2_with fail;refine (HI.o wr R [O S nd.op,O S nd.a,O S nd.b,sk',sa',sf'] nd ats ks (fun b hb=>Nat.lt_of_lt_of_le (hR b hb) hbw.size) htree hpk (by have:=HLEN.o;rw[HK.o,iE] at this;simp only[row,List.length_append,List.length_cons,List.nil_append,List.append_nil] at this ⊢;omega) (by have:=HSZ.o;rw[HK.o,dK] at this;simp only[a7] at this;omega)).mono ?_;rintro e w2 ⟨hb2,A3,n3,c3,rfl,ht3⟩;have hn3:n3+(row F1).length+atoms.length+1<=5864062014805:=by
      have:=HLEN.o;rw[HK.o,iE] at this;have h3:=ht3.len;simp only[row,List.length_append,List.length_cons,List.nil_append,List.append_nil] at this h3;omega
     have hown2:=bR.below hown hb2;have hbB:w.heap.size+1<=w2.heap.size:=Nat.le_trans hszb hb2.size;go_wp2_with (at_builtin;refine bM rfl (cQ (.tmp 36) (.tmp 42) 28 28 rfl (w.heap.size+1) i0 Tryz.underlying28 Tryz.underlying28 HI0.o HY0.o HY1.o HY2.o _ (n::(atoms++row F1)) _ rfl hown2 rfl ht3 aH hbB ?_);intro A4 c4 w4 hown4 happ4)
     go_roundw
     case rel =>
      refine⟨F1.app (.cons pre nd ats ks .nil),F2,j+1,A4,_,c4,by rw[HK.o,dI];rfl,by rw[bS];simp[bH,HJ.o],rfl,by go_num,?_,((hbw.trans (hb2.mono hbw.size)).grown happ4.grown aA (fun g hg=>by have:=(aR hown2 hg).1;omega)),aS.grown (aS.below hblk hb2 (aS.lt hblk)) happ4.grown (fE hown2 (Nat.lt_succ_self _))⟩;have e:(n::(atoms++row (F1.app (.cons pre nd ats ks .nil))))=(n::(atoms++row F1))++row (.cons [] nd ats ks .nil):=by
       have hpe:=HPE.o;subst hpe;rw[iE];simp[row]
      exact hown4.cast aH e.symm
     case measure=>simp[intOf];omega
theorem AX:∀(m:Nat) (w:World) (R:Nat->Prop) (xs:List Value) (n:Nd) (atoms:List Nd) (kids:Fo),(∀b,R b->b<w.heap.size)->cJ R w xs n atoms kids->gG (decide (n.op=12)) 0 kids->(row (.cons [] n atoms kids .nil)).length<=5864062014805->a7 kids<m →
      Calls Tryz.prog 27 #[.agg xs.toArray] w (kR (row (.cons [] n atoms kids .nil)) w)
 | 0,_,_,_,_,_,_,_,_,_,_,h=>absurd h aA
 | m+1,w,R,xs,n,atoms,kids,hR,ht,hp,hl,h=>IL m (fun w R xs n atoms kids hR ht hp hl h=>AX m w R xs n atoms kids hR ht hp hl h) w R xs n atoms kids hR ht hp hl aA
theorem LJ {w:World} {R:Nat->Prop} {xs:List Value} {n:Nd} {atoms:List Nd} {kids:Fo} (hR:∀b,R b->b<w.heap.size) (ht:cJ R w xs n atoms kids) (hp:gG (decide (n.op=12)) 0 kids) (hl:(row (.cons [] n atoms kids .nil)).length<=5864062014805) :
 Calls Tryz.prog 27 #[.agg xs.toArray] w (kR (row (.cons [] n atoms kids .nil)) w):=AX _ w R xs n atoms kids hR ht hp hl (Nat.lt_succ_self _)
end Go.Proofs.YtjllmblbbgojbaaGreat
