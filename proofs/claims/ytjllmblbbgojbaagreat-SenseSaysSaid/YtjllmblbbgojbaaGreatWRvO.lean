/- The reference's Placed. -/
import Derived.Test.YtjllmblbbgojbaaGreatWShort3
import Derived.Test.YtjllmblbbgojbaaGreatWRefGd
import Derived.Test.YtjllmblbbgojbaaGreatWRvS
import Derived.Test.YtjllmblbbgojbaaGreatWRvPut
import Derived.Test.YtjllmblbbgojbaaGreatWHighest
namespace Go.Proofs.YtjllmblbbgojbaaGreat
open Go.Value renaming int → O, slice → Z
open Go.IntKind renaming i64 → Y
open Option renaming none → I, some → J
open Go.Obj renaming cells → E
open Go.Lib (hid)
open Go.RowKit
theorem JA {w:World} {R:Nat->Prop} {tx tu:fZ} {x u:TT} (hR:∀ b,R b->b<w.heap.size) (htx:cQ R w tx x) (htu:cQ R w tu u) (hx:kJ x) (hu:kJ u) (sx:bU x<=4096) (su:bU u<=4096) :
 Calls Tryz.prog 109 #[.agg (dE tx x.1),.agg (dE tu u.1),O Y 0,O Y 0] w (MC R w (xI (pX u) 0 x)):=by
 have fz:∀ y:TT,bU y<=4096->aL y.2.2<=4096:=fun y hy=>by
  obtain ⟨n,a,k⟩:=y;have h2:=eG k;have h4:=dJ n a k;simp only;omega
 have h1:=fz x sx;have h2:=fz u su;refine (DU ⟨u.1,u.2.1,u.2.2⟩ hu.ok hu.all (by simp only;omega) (aL x.2.2+1) w R _ _ x.1 x.2.1 x.2.2 0 0 hR htx htu hx.ok hx.all (Int.le_refl 0) (Int.le_refl 0) aA aA (Nat.lt_succ_self _)).mono ?_;intro e w' hp;rw [<-MW hx hu];exact eK.tt (x:=(_,_,_)) hp
def NO (R:Nat->Prop) (w:World) (q:TT×Int) (e:Ending) (w':World):Prop:=Below w.heap.size w w'/\∃ t:fZ,e=.returned (.tuple #[.agg (dE t q.1.1),O Y q.2])/\cQ (aK R w w') w' t q.1
theorem lN {R:Nat->Prop} {w V W:World} {g:Nat} {t:fZ} {y:TT} {z:Int} (hR:∀ b,R b->b<w.heap.size) (hg0:w.heap.size<=g) (hg1:g<V.heap.size) (hb:Below w.heap.size w W) (ht:cQ (aK R V W) W t y) :
 NO R w (y,z) (.returned (.tuple #[.agg (dE t y.1),O Y z])) ((((((W.setCell ⟨g,0,I⟩ (O Y y.1.op)).setCell ⟨g,1,I⟩ (O Y y.1.a)).setCell ⟨g,2,I⟩ (O Y y.1.b)).setCell ⟨g,3,I⟩ (Z t.Ak t.nk t.ck)).setCell ⟨g,4,I⟩ (Z t.Aa t.na t.ca)).setCell ⟨g,5,I⟩ (Z t.Af t.nf t.cf)):=by
 obtain ⟨h1,ys,h2,h3⟩:=AB hR hg0 hg1 hb ht;injection h2 with h2;injection h2 with h2;refine ⟨h1,t,rfl,?_⟩;have:ys=[O Y y.1.op,O Y y.1.a,O Y y.1.b,Z t.Ak t.nk t.ck,Z t.Aa t.na t.ca,Z t.Af t.nf t.cf]:=by
  have:=congrArg Array.toList h2;simpa using this.symm
 rw [this] at h3;exact h3
theorem gI {w:World} {g:Nat} {c0 c1 c2 c3 c4 c5:Value} {tmps:Array Value} (h:aD w g 49 #[c0,c1,c2,c3,c4,c5]) (ht:tmps.getD 4 undef=.pointer (J ⟨g,0,I⟩)) :
 (results Tryz.f78 tmps).run Tryz.prog w=.ok (.tuple #[.agg #[c0,c1,c2,c3,c4,c5],tmps.getD 5 undef]) w:=by
 have hc:=h.cell;have ht':tmps[4]?.getD undef=.pointer (J ⟨g,0,I⟩):=by rw [<-ht];simp
 simp [results,Tryz.results78,go_sem,ht',hc]
set_option linter.unusedSimpArgs false in
set_option linter.unusedVariables false in
set_option maxRecDepth 100000 in
set_option maxHeartbeats 8000000 in
theorem rO {b:Bk} {free:Int} {w:World} {R:Nat->Prop} {tx tu:fZ} {x u:TT} (hR:∀ b,R b->b<w.heap.size) (htx:cQ R w tx x) (htu:cQ R w tu u) (hx:bR b (free+1) x) (hu:bR b free u) (h0:0<=free) (h1:free<=1000) :
 Calls Tryz.prog 78 #[.agg (dE tx x.1),.agg (dE tu u.1)] w (NO R w (bQ x u)):=by
 have fz:∀ y:TT,bU y<=4096->aL y.2.2<=4096/\1<=bU y:=fun y hy=>by
  obtain ⟨n,a,k⟩:=y;have h2:=eG k;have h4:=dJ n a k;simp only;omega
 obtain ⟨fx,px⟩:=fz x hx.few;obtain ⟨fu,pu⟩:=fz u hu.few;have sx4:=hx.few;have su4:=hu.few;obtain ⟨t1,t2,t3,t4⟩:=EA hx.okt.ok 0 x.2.2 hx.okt.all;have hcn:=JV hx.okt;obtain ⟨N,D,hND⟩ : ∃ N D,fS x.1 x.2.2 0=(N,D):=⟨_,_,rfl⟩;rw [hND] at t1 t2 t3 t4 hcn;simp only at t1 t2 t3 t4 hcn;have HSUB:Hid (bQ x u=if 4096<(bU x:Int)+N*((bU u:Int)-1) then (x,9) else (xI (pX u) 0 x,0)):=hid (by unfold bQ;rw [<-hcn]);have hhi:=yK hu (up:=D) aA;have HHI:=hid (fun (W:World) (h:Below w.heap.size w W)=>pS (R:=R) (up:=D) (u:=0) (fun b hb=>Nat.lt_of_lt_of_le (hR b hb) h.size) (htu.below hR h) hu.okt.ok hu.okt.all t3 aA (Int.le_refl 0) aA);have HTI:=hid (fun (W:World) (h:Below w.heap.size w W)=>GH (R:=R) (u:=0) (fun b hb=>Nat.lt_of_lt_of_le (hR b hb) h.size) (htx.below hR h) hx.okt.ok hx.okt.all (Int.le_refl 0) aA);rw [hND] at HTI;have HSX:=hid (fun (W:World) (h:Below w.heap.size w W)=>pK (R:=R) (fun b hb=>Nat.lt_of_lt_of_le (hR b hb) h.size) (htx.below hR h) aA);have HSU:=hid (fun (W:World) (h:Below w.heap.size w W)=>pK (R:=R) (fun b hb=>Nat.lt_of_lt_of_le (hR b hb) h.size) (htu.below hR h) aA);have HPU:=hid (fun (W:World) (h:Below w.heap.size w W)=>JA (R:=R) (fun b hb=>Nat.lt_of_lt_of_le (hR b hb) h.size) (htx.below hR h) (htu.below hR h) hx.okt hu.okt sx4 su4);have HTX:=hid (fun (W:World) (h:Below w.heap.size w W)=>htx.below hR h);have HR:=hid hR;obtain ⟨H,hH⟩ : ∃ H,H=nQ D u.1 u.2.2 0:=⟨_,rfl⟩;rw [<-hH] at hhi HHI;obtain ⟨X,hX⟩ : ∃ X,X=bU x:=⟨_,rfl⟩;obtain ⟨U,hU⟩ : ∃ U,U=bU u:=⟨_,rfl⟩;rw [<-hX] at HSX HSUB px sx4;rw [<-hU] at HSU HSUB pu su4;have dH:decide (H>1048576)=false:=decide_eq_false aA;have hN4:N<=4097:=aA;have hpm:N*((U:Int)-1)<=4097*4095:=Int.mul_le_mul hN4 aA aA aA;have hpm0:0<=N*((U:Int)-1):=Int.mul_nonneg t1 aA;have hw1:IntKind.i64.wrap ((U:Int)-1)=(U:Int)-1:=by rw [IntKind.wrap_i64];omega
 have hw2:IntKind.i64.wrap (N*((U:Int)-1))=N*((U:Int)-1):=by rw [IntKind.wrap_i64];omega
 have hw3:IntKind.i64.wrap ((X:Int)+N*((U:Int)-1))=(X:Int)+N*((U:Int)-1):=by rw [IntKind.wrap_i64];omega
 have HW:=hid (And.intro hw2 hw3);obtain ⟨⟨xo,xa,xb⟩,xat,xk⟩:=x;obtain ⟨⟨uo,ua,ub⟩,uat,uk⟩:=u;obtain ⟨Ak,nk,ck,Aa,na,ca,Af,nf,cf⟩:=tx;obtain ⟨Bk,mk,dk,Ba,ma,da,Bf,mf,df⟩:=tu;simp only at HHI HTI HSX HSU HPU HTX HSUB ⊢;clear hND hcn hhi fz htx htu hx hu fx fu px pu hX hU hH hpm hpm0 t2 t3 t4 hR;have HB1:=hid (aS w (E #[O Y xo,O Y xa,O Y xb,Z Ak nk ck,Z Aa na ca,Z Af nf cf] 49) (E #[O Y uo,O Y ua,O Y ub,Z Bk mk dk,Z Ba ma da,Z Bf mf df] 49));have HB2:=hid (HB1.o.alloc HB1.o.size (E #[O Y 0,O Y 0,O Y 0,Z I 0 0,Z I 0 0,Z I 0 0] 49));have HX2:Hid (aD (((w.alloc (E #[O Y xo,O Y xa,O Y xb,Z Ak nk ck,Z Aa na ca,Z Af nf cf] 49)).alloc (E #[O Y uo,O Y ua,O Y ub,Z Bk mk dk,Z Ba ma da,Z Bf mf df] 49)).alloc (E #[O Y 0,O Y 0,O Y 0,Z I 0 0,Z I 0 0,Z I 0 0] 49)) w.heap.size 49 #[O Y xo,O Y xa,O Y xb,Z Ak nk ck,Z Aa na ca,Z Af nf cf]):=hid (((aD.new _ _ _).alloc _).alloc _);have HU2:Hid (aD (((w.alloc (E #[O Y xo,O Y xa,O Y xb,Z Ak nk ck,Z Aa na ca,Z Af nf cf] 49)).alloc (E #[O Y uo,O Y ua,O Y ub,Z Bk mk dk,Z Ba ma da,Z Bf mf df] 49)).alloc (E #[O Y 0,O Y 0,O Y 0,Z I 0 0,Z I 0 0,Z I 0 0] 49)) (w.heap.size+1) 49 #[O Y uo,O Y ua,O Y ub,Z Bk mk dk,Z Ba ma da,Z Bf mf df]):=hid ((aD.new' (by simp)).alloc _);have HZ2:Hid (aD (((w.alloc (E #[O Y xo,O Y xa,O Y xb,Z Ak nk ck,Z Aa na ca,Z Af nf cf] 49)).alloc (E #[O Y uo,O Y ua,O Y ub,Z Bk mk dk,Z Ba ma da,Z Bf mf df] 49)).alloc (E #[O Y 0,O Y 0,O Y 0,Z I 0 0,Z I 0 0,Z I 0 0] 49)) (w.heap.size+1+1) 49 #[O Y 0,O Y 0,O Y 0,Z I 0 0,Z I 0 0,Z I 0 0]):=hid (aD.new' (by simp));go_in;go_wp2_with fail
 refine (HTI.o _ HB2.o).mono ?_;rintro e w3 ⟨rfl,hb3⟩;have HB3:=cO HB2 hb3;have HX3:=hid (HX2.o.below hb3 HX2.o.lt);have HU3:=hid (HU2.o.below hb3 HU2.o.lt);have HZ3:=hid (HZ2.o.below hb3 HZ2.o.lt);clear hb3 HB1 HB2 HX2 HU2 HZ2;have zu3:=aD.cell HU3.o;have hcut:N>0\/¬ N>0:=Decidable.em _;rcases hcut with hn | hn;rotate_left
 · have dN:decide (N>0)=false:=decide_eq_false hn;have dN2:decide (0<N)=false:=decide_eq_false hn;clear hn;go_wp2_with fail
   have HKP:=hid (fun (W:World) (h:Below w3.heap.size w3 W)=>(by
    have a:=(HX3.o.below h HX3.o.lt).cell;have c:=(HU3.o.below h HU3.o.lt).cell;exact ⟨a 0,a 1,a 2,a 3,a 4,a 5,c 0,c 1,c 2,c 3,c 4,c 5⟩:W.cell? ⟨w.heap.size,0,I⟩=J (O Y xo)/\W.cell? ⟨w.heap.size,1,I⟩=J (O Y xa)/\W.cell? ⟨w.heap.size,2,I⟩=J (O Y xb)/\W.cell? ⟨w.heap.size,3,I⟩=J (Z Ak nk ck)/\W.cell? ⟨w.heap.size,4,I⟩=J (Z Aa na ca)/\W.cell? ⟨w.heap.size,5,I⟩=J (Z Af nf cf)/\W.cell? ⟨w.heap.size+1,0,I⟩=J (O Y uo)/\W.cell? ⟨w.heap.size+1,1,I⟩=J (O Y ua)/\W.cell? ⟨w.heap.size+1,2,I⟩=J (O Y ub)/\W.cell? ⟨w.heap.size+1,3,I⟩=J (Z Bk mk dk)/\W.cell? ⟨w.heap.size+1,4,I⟩=J (Z Ba ma da)/\W.cell? ⟨w.heap.size+1,5,I⟩=J (Z Bf mf df)))
   try clear zu3
   refine wp_region_held_drew (S:=(fun w'=>w'.cell? ⟨w.heap.size,0,I⟩=J (O Y xo)/\w'.cell? ⟨w.heap.size,1,I⟩=J (O Y xa)/\w'.cell? ⟨w.heap.size,2,I⟩=J (O Y xb)/\w'.cell? ⟨w.heap.size,3,I⟩=J (Z Ak nk ck)/\w'.cell? ⟨w.heap.size,4,I⟩=J (Z Aa na ca)/\w'.cell? ⟨w.heap.size,5,I⟩=J (Z Af nf cf)/\w'.cell? ⟨w.heap.size+1,0,I⟩=J (O Y uo)/\w'.cell? ⟨w.heap.size+1,1,I⟩=J (O Y ua)/\w'.cell? ⟨w.heap.size+1,2,I⟩=J (O Y ub)/\w'.cell? ⟨w.heap.size+1,3,I⟩=J (Z Bk mk dk)/\w'.cell? ⟨w.heap.size+1,4,I⟩=J (Z Ba ma da)/\w'.cell? ⟨w.heap.size+1,5,I⟩=J (Z Bf mf df))) (by kernel_rfl) ?_ (fun hHeld => ?_)
   · (try dsimp only);exact HKP.o _ (aI (Below.refl w3.heap.size w3) 1)
   refine tq 0 hHeld ?_;try simp only [p7]
   refine tq 2 hHeld ?_;try simp only [p7]
   refine tq 3 hHeld ?_;try simp only [p7]
   refine r1 1 fun K hK => ?_;go_simp;go_at_call 108
   refine (HSX.o _ (HB3.o.trans ((aI (Below.refl w3.heap.size w3) 1).mono HB3.o.size))).mono ?_;rintro e w5 ⟨rfl,hb5⟩;have HB5:=hid ((aI (Below.refl w3.heap.size w3) 1).trans (hb5.mono (aI (Below.refl w3.heap.size w3) 1).size));clear hb5;go_wp2_with fail
   refine hK.o _ _ (by exact HKP.o _ HB5.o) fun hHeld => ?_;clear hK K;try simp only [p7]
   refine r1 4 fun K hK => ?_;go_simp;go_at_call 108
   refine (HSU.o _ (HB3.o.trans (HB5.o.mono HB3.o.size))).mono ?_;rintro e w6 ⟨rfl,hb6⟩;have HB6:=cO HB5 hb6;clear hb6;go_wp2_with fail
   refine hK.o _ _ (by exact HKP.o _ HB6.o) fun hHeld => ?_;clear hK K;try simp only [p7]
   refine tq 5 hHeld ?_;try simp only [p7]
   refine tq 6 hHeld ?_;try simp only [p7]
   refine tq 7 hHeld ?_;try simp only [p7]
   refine tq 8 hHeld ?_;try simp only [p7]
   refine wpAnyH_done (by kernel_rfl) ?_ _;have HBL:=HB6;clear HKP;have HB7:=hid (HB3.o.trans (HBL.o.mono HB3.o.size));have HX7:=hid (HX3.o.below HBL.o HX3.o.lt);have HU7:=hid (HU3.o.below HBL.o HU3.o.lt);have HZ7:=hid (HZ3.o.below HBL.o HZ3.o.lt);have zx7:=aD.cell HX7.o;have zu7:=aD.cell HU7.o;have zz7:=aD.cell HZ7.o;have zf7:=aD.frozen HZ7.o;clear hw2 hw3 HW;generalize (X:Int)+N*((U:Int)-1)=Q at *;by_cases hbig:4096<Q
   · have dB:decide (Q>4096)=true:=decide_eq_true hbig;have dB2:decide (4096<Q)=true:=decide_eq_true hbig;have HRS:=hid (HSUB.o.trans (if_pos hbig));clear zu7;go_wp2_with fail
     refine bodyPost_ret (v:=.tuple #[.agg #[O Y xo,O Y xa,O Y xb,Z Ak nk ck,Z Aa na ca,Z Af nf cf],O Y 9]) ?_ rfl ?_
     · exact gI (g:=w.heap.size+1+1) (aW HZ7.o _ _ _ _ _ _) (by simp)
     rw [HRS.o];exact lN (V:=w6) (t:=⟨Ak,nk,ck,Aa,na,ca,Af,nf,cf⟩) HR.o aA HZ7.o.lt HB7.o ((HTX.o _ HB7.o).keep fun b hb=>⟨Or.inl hb,fun o=>rfl⟩)
   have dB:decide (Q>4096)=false:=decide_eq_false hbig;have dB2:decide (4096<Q)=false:=decide_eq_false hbig;have HRS:=hid (HSUB.o.trans (if_neg hbig));go_wp2_with fail
   refine (HPU.o _ HB7.o).mono ?_;rintro e w8 ⟨hb8,⟨Ck,pk,ek,Ca,pa,ea,Cf,pf,ef⟩,rfl,ht8⟩;generalize xI (pX ((⟨uo,ua,ub⟩:Nd),uat,uk)) 0 ((⟨xo,xa,xb⟩:Nd),xat,xk)=y at *;obtain ⟨⟨yo,ya,yb⟩,yat,yk⟩:=y;have HB8:=cO HB7 hb8;have HZ8:=hid (HZ7.o.below hb8 HZ7.o.lt);have zz8:=aD.cell HZ8.o;have zf8:=aD.frozen HZ8.o;have HT8:=hid ht8;clear hb8 ht8 zx7 zu7 zz7 zf7;go_wp2_with fail
   refine bodyPost_ret (v:=.tuple #[.agg #[O Y yo,O Y ya,O Y yb,Z Ck pk ek,Z Ca pa ea,Z Cf pf ef],O Y 0]) ?_ rfl ?_
   · exact gI (g:=w.heap.size+1+1) (aW HZ8.o _ _ _ _ _ _) (by simp)
   rw [HRS.o];exact lN (V:=w6) (t:=⟨Ck,pk,ek,Ca,pa,ea,Cf,pf,ef⟩) HR.o aA HZ7.o.lt HB8.o HT8.o
 have dN:decide (N>0)=true:=decide_eq_true hn;have dN2:decide (0<N)=true:=decide_eq_true hn;clear hn;go_wp2_with fail
 refine (HHI.o _ HB3.o).mono ?_;rintro e w4 ⟨rfl,hb4⟩
 replace HX3:=hid (HX3.o.below hb4 HX3.o.lt)
 replace HU3:=hid (HU3.o.below hb4 HU3.o.lt)
 replace HZ3:=hid (HZ3.o.below hb4 HZ3.o.lt)
 replace HB3:=cO HB3 hb4
 clear hb4 zu3;clear w3;have ⟨w3,hw34⟩ : ∃ v,v=w4:=⟨_,rfl⟩;subst hw34;go_wp2_with fail
 have HKP:=hid (fun (W:World) (h:Below w3.heap.size w3 W)=>(by
  have a:=(HX3.o.below h HX3.o.lt).cell;have c:=(HU3.o.below h HU3.o.lt).cell;exact ⟨a 0,a 1,a 2,a 3,a 4,a 5,c 0,c 1,c 2,c 3,c 4,c 5⟩:W.cell? ⟨w.heap.size,0,I⟩=J (O Y xo)/\W.cell? ⟨w.heap.size,1,I⟩=J (O Y xa)/\W.cell? ⟨w.heap.size,2,I⟩=J (O Y xb)/\W.cell? ⟨w.heap.size,3,I⟩=J (Z Ak nk ck)/\W.cell? ⟨w.heap.size,4,I⟩=J (Z Aa na ca)/\W.cell? ⟨w.heap.size,5,I⟩=J (Z Af nf cf)/\W.cell? ⟨w.heap.size+1,0,I⟩=J (O Y uo)/\W.cell? ⟨w.heap.size+1,1,I⟩=J (O Y ua)/\W.cell? ⟨w.heap.size+1,2,I⟩=J (O Y ub)/\W.cell? ⟨w.heap.size+1,3,I⟩=J (Z Bk mk dk)/\W.cell? ⟨w.heap.size+1,4,I⟩=J (Z Ba ma da)/\W.cell? ⟨w.heap.size+1,5,I⟩=J (Z Bf mf df)))
 try clear zu3
 refine wp_region_held_drew (S:=(fun w'=>w'.cell? ⟨w.heap.size,0,I⟩=J (O Y xo)/\w'.cell? ⟨w.heap.size,1,I⟩=J (O Y xa)/\w'.cell? ⟨w.heap.size,2,I⟩=J (O Y xb)/\w'.cell? ⟨w.heap.size,3,I⟩=J (Z Ak nk ck)/\w'.cell? ⟨w.heap.size,4,I⟩=J (Z Aa na ca)/\w'.cell? ⟨w.heap.size,5,I⟩=J (Z Af nf cf)/\w'.cell? ⟨w.heap.size+1,0,I⟩=J (O Y uo)/\w'.cell? ⟨w.heap.size+1,1,I⟩=J (O Y ua)/\w'.cell? ⟨w.heap.size+1,2,I⟩=J (O Y ub)/\w'.cell? ⟨w.heap.size+1,3,I⟩=J (Z Bk mk dk)/\w'.cell? ⟨w.heap.size+1,4,I⟩=J (Z Ba ma da)/\w'.cell? ⟨w.heap.size+1,5,I⟩=J (Z Bf mf df))) (by kernel_rfl) ?_ (fun hHeld => ?_)
 · (try dsimp only);exact HKP.o _ (aI (Below.refl w3.heap.size w3) 1)
 refine tq 0 hHeld ?_;try simp only [p7]
 refine tq 2 hHeld ?_;try simp only [p7]
 refine tq 3 hHeld ?_;try simp only [p7]
 refine r1 1 fun K hK => ?_;go_simp;go_at_call 108
 refine (HSX.o _ (HB3.o.trans ((aI (Below.refl w3.heap.size w3) 1).mono HB3.o.size))).mono ?_;rintro e w5 ⟨rfl,hb5⟩;have HB5:=hid ((aI (Below.refl w3.heap.size w3) 1).trans (hb5.mono (aI (Below.refl w3.heap.size w3) 1).size));clear hb5;go_wp2_with fail
 refine hK.o _ _ (by exact HKP.o _ HB5.o) fun hHeld => ?_;clear hK K;try simp only [p7]
 refine r1 4 fun K hK => ?_;go_simp;go_at_call 108
 refine (HSU.o _ (HB3.o.trans (HB5.o.mono HB3.o.size))).mono ?_;rintro e w6 ⟨rfl,hb6⟩;have HB6:=cO HB5 hb6;clear hb6;go_wp2_with fail
 refine hK.o _ _ (by exact HKP.o _ HB6.o) fun hHeld => ?_;clear hK K;try simp only [p7]
 refine tq 5 hHeld ?_;try simp only [p7]
 refine tq 6 hHeld ?_;try simp only [p7]
 refine tq 7 hHeld ?_;try simp only [p7]
 refine tq 8 hHeld ?_;try simp only [p7]
 refine wpAnyH_done (by kernel_rfl) ?_ _;have HBL:=HB6;clear HKP;have HB7:=hid (HB3.o.trans (HBL.o.mono HB3.o.size));have HX7:=hid (HX3.o.below HBL.o HX3.o.lt);have HU7:=hid (HU3.o.below HBL.o HU3.o.lt);have HZ7:=hid (HZ3.o.below HBL.o HZ3.o.lt);have zx7:=aD.cell HX7.o;have zu7:=aD.cell HU7.o;have zz7:=aD.cell HZ7.o;have zf7:=aD.frozen HZ7.o;clear hw2 hw3 HW;generalize (X:Int)+N*((U:Int)-1)=Q at *;by_cases hbig:4096<Q
 · have dB:decide (Q>4096)=true:=decide_eq_true hbig;have dB2:decide (4096<Q)=true:=decide_eq_true hbig;have HRS:=hid (HSUB.o.trans (if_pos hbig));clear zu7;go_wp2_with fail
   refine bodyPost_ret (v:=.tuple #[.agg #[O Y xo,O Y xa,O Y xb,Z Ak nk ck,Z Aa na ca,Z Af nf cf],O Y 9]) ?_ rfl ?_
   · exact gI (g:=w.heap.size+1+1) (aW HZ7.o _ _ _ _ _ _) (by simp)
   rw [HRS.o];exact lN (V:=w6) (t:=⟨Ak,nk,ck,Aa,na,ca,Af,nf,cf⟩) HR.o aA HZ7.o.lt HB7.o ((HTX.o _ HB7.o).keep fun b hb=>⟨Or.inl hb,fun o=>rfl⟩)
 have dB:decide (Q>4096)=false:=decide_eq_false hbig;have dB2:decide (4096<Q)=false:=decide_eq_false hbig;have HRS:=hid (HSUB.o.trans (if_neg hbig));go_wp2_with fail
 refine (HPU.o _ HB7.o).mono ?_;rintro e w8 ⟨hb8,⟨Ck,pk,ek,Ca,pa,ea,Cf,pf,ef⟩,rfl,ht8⟩;generalize xI (pX ((⟨uo,ua,ub⟩:Nd),uat,uk)) 0 ((⟨xo,xa,xb⟩:Nd),xat,xk)=y at *;obtain ⟨⟨yo,ya,yb⟩,yat,yk⟩:=y;have HB8:=cO HB7 hb8;have HZ8:=hid (HZ7.o.below hb8 HZ7.o.lt);have zz8:=aD.cell HZ8.o;have zf8:=aD.frozen HZ8.o;have HT8:=hid ht8;clear hb8 ht8 zx7 zu7 zz7 zf7;go_wp2_with fail
 refine bodyPost_ret (v:=.tuple #[.agg #[O Y yo,O Y ya,O Y yb,Z Ck pk ek,Z Ca pa ea,Z Cf pf ef],O Y 0]) ?_ rfl ?_
 · exact gI (g:=w.heap.size+1+1) (aW HZ8.o _ _ _ _ _ _) (by simp)
 rw [HRS.o];exact lN (V:=w6) (t:=⟨Ck,pk,ek,Ca,pa,ea,Cf,pf,ef⟩) HR.o aA HZ7.o.lt HB8.o HT8.o
end Go.Proofs.YtjllmblbbgojbaaGreat
