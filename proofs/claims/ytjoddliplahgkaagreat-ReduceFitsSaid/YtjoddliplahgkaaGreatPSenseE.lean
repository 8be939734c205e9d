/- Merged: WhU, WhV, WhT, SenseE. -/
import Derived.Test.YtjoddliplahgkaaGreatPWhC
namespace Go.Proofs.YtjoddliplahgkaaGreat
set_option linter.unusedVariables false
set_option linter.unusedSimpArgs false
open Go.RowKit
open Go.Value renaming slice → O
open Option renaming none → X, some → Y
section
open Go.Lib renaming hid->aB
set_option maxHeartbeats 4000000
set_option maxRecDepth 100000
def ST (r:Option TT) (w:World) (e:Ending) (w':World):Prop:=Below w.heap.size w w'/\((∃y,r=Y y/\∃A n c,e=.returned (O A n c)/\bJ (OE w w') w' A n c (aW y))\/(r=X/\e=.panicked (oG 9)))
theorem pA {x u:TT} (h:(cH x u).2 ≠ 0):(cH x u).2=9:=by
 unfold cH at h ⊢;split
 · rfl
 rename_i h9
 rw[if_neg h9] at h;exact absurd rfl h
theorem MF {r:List Nd×Int} {w w2 w':World} {A:Option Addr} {m c:Nat} {l:List Nd} (hb:Below w.heap.size w w2) (hm:bE (fun _=>False) (Value.slice X ([]:List Nd).length 0).ownBlock w2 w') (hr:r=(l,0)) (hown:bN w' w.heap.size (O A m c) ([]++l)):oP r w (.returned (.tuple #[O A m c,.int .i64 0])) w':=by
 subst hr;exact⟨hb.trans (hm.to_below hb.size (fun _ h=>h.elim) (fun g hg=>by simp[Value.ownBlock] at hg)),_,_,_,rfl,hown⟩
theorem wU {A:Option Addr} {nn c:Nat} {l:List Nd} {w:World} (h:aY w A nn c l) (up fr:Int) (hup:up<=9223372036854775807) :
 Calls Tryz.prog 114 #[O A nn c,.int .i64 up,.int .i64 fr] w (oP (l8 l up fr) w):=by
 by_cases hs:a8 l=0;rotate_left
 · have hr:l8 l up fr=([],a8 l):=by unfold l8;rw[if_neg hs]
   have b6:(a8 l != 0)=true:=by simp[hs]
   have HR:=aB hr;clear hr hs;go_in;go_wp2_with (go_at_call 97;refine (dP h).mono ?_;rintro e w2 ⟨rfl,a0⟩)
   go_ret2;exact eU a0 HR.o
 obtain⟨hl,n,ats,k,a6,a2,c0⟩:=fB hs;have b6:(a8 l != 0)=false:=by simp[hs]
 by_cases h1:up<0
 · have hr:l8 l up fr=([],1):=by unfold l8;rw[if_pos hs,if_pos (.inl h1)]
   have HR:=aB hr;clear hr hs a6 a2;go_in;go_wp2_with (go_at_call 97;refine (dP h).mono ?_;rintro e w2 ⟨rfl,a0⟩)
   go_ret2;exact eU a0 HR.o
 by_cases h2:fr<0
 · have hr:l8 l up fr=([],1):=by unfold l8;rw[if_pos hs,if_pos (.inr h2)]
   have b8:decide (up<0)=false:=by simp;omega
   have HR:=aB hr;clear hr hs a6 a2 h1;go_in;go_wp2_with (go_at_call 97;refine (dP h).mono ?_;rintro e w2 ⟨rfl,a0⟩)
   go_ret2;exact eU a0 HR.o
 have b8:decide (up<0)=false:=by simp;omega
 have c1:decide (fr<0)=false:=by simp;omega
 have a5:0<=up:=aA;have b3:0<=fr:=aA;have hr:l8 l up fr=CD l up fr:=by unfold l8;rw[if_pos hs,if_neg aA]
 have b4:CD l up fr=if (jO up (min fr 1048577)).G1 0 () n k=true then ((jO up (min fr 1048577)).E1 0 () n ats k,0) else ([],6):=by unfold CD;rw[a6]
 have b0:∀f,((jO up f).E1 0 () n ats k).length<=1000000000000:=fun f=>by rw[CS,<-a2];omega
 have HR:=aB (hr.trans b4);have b5:=aB a6;have b2:=aB b0;have H:=aB h;clear hr hs a6 a2 b4 h1 h2 b0;by_cases hm:fr<=1048577
 · have a7:min fr 1048577=fr:=aA;have a3:=HR.o;rw[a7] at a3;have b1:=aB a3;clear a3 a7;go_in;go_wp2_with (go_at_call 97;refine (dP H.o).mono ?_;rintro e w2 ⟨rfl,a0⟩)
   refine (oZ (base:=w.heap.size) (R:=(· < w.heap.size)) a0.size (fun b hb=>Nat.lt_of_lt_of_le hb a0.size) (H.o.keep fun b hb=>⟨hb,fun o=>aQ (a0.block b hb) o⟩) (bN.nil _ _) (fun g hg=>by simp[Value.ownBlock] at hg) b5.o aA (by simpa using b2.o fr) a5 hup b3 aA).mono ?_;rintro e w3 ⟨a9,(⟨hg,v',rfl,a1,b7⟩ | ⟨hg,rfl⟩)⟩
   · obtain⟨A',c',rfl⟩:=a1.slice;have a4:=aB a1;have HG:=aB hg;clear a1 hg;go_wp2_with fail;go_ret2;exact MF a0 a9 (by rw[b1.o,if_pos HG.o]) a4.o
   have HG:=aB hg;clear hg;go_wp2_with fail;go_ret2;exact eU (a0.trans (a9.to_below a0.size (fun _ h=>h.elim) (fun g hg=>by simp[Value.ownBlock] at hg))) (by rw[b1.o,if_neg (by rw[HG.o];simp)])
 have a7:min fr 1048577=1048577:=aA;have b9:1048577<fr:=aA;have a3:=HR.o;rw[a7] at a3;have b1:=aB a3;clear a3 a7 hm;go_in;go_wp2_with (go_at_call 97;refine (dP H.o).mono ?_;rintro e w2 ⟨rfl,a0⟩)
 refine (oZ (base:=w.heap.size) (R:=(· < w.heap.size)) a0.size (fun b hb=>Nat.lt_of_lt_of_le hb a0.size) (H.o.keep fun b hb=>⟨hb,fun o=>aQ (a0.block b hb) o⟩) (bN.nil _ _) (fun g hg=>by simp[Value.ownBlock] at hg) b5.o aA (by simpa using b2.o 1048577) a5 hup aA aA).mono ?_;rintro e w3 ⟨a9,(⟨hg,v',rfl,a1,b7⟩ | ⟨hg,rfl⟩)⟩
 · obtain⟨A',c',rfl⟩:=a1.slice;have a4:=aB a1;have HG:=aB hg;clear a1 hg;go_wp2_with fail;go_ret2;exact MF a0 a9 (by rw[b1.o,if_pos HG.o]) a4.o
 have HG:=aB hg;clear hg;go_wp2_with fail;go_ret2;exact eU (a0.trans (a9.to_below a0.size (fun _ h=>h.elim) (fun g hg=>by simp[Value.ownBlock] at hg))) (by rw[b1.o,if_neg (by rw[HG.o];simp)])
theorem vL {b:Bk} {free:Int} {A:Option Addr} {n c:Nat} {h:TT} {w:World} (h0:0<=free) (h1:free<=990000) (ht:aY w A n c (aW h)) (hf:bR b free h) (h12:h.1.op=12) :
 Calls Tryz.prog 116 #[O A n c] w (ST (qH h) w):=by
 obtain⟨f1,f2,f3,f4,f5⟩:=hI hf.okt h12;obtain⟨nb,b5⟩ : ∃nb:Nat,h.1.b=(nb:Int):=⟨h.1.b.toNat,by omega⟩;obtain⟨ia,d2⟩ : ∃ia:Nat,h.1.a=(ia:Int):=⟨h.1.a.toNat,by omega⟩;have hk:=hf.kid (kY (x:=h) (i:=2*ia+1) aA);rw[oR h12,b5] at hk;obtain⟨y0,a9⟩ : ∃y,y=eQ h (2*ia+1):=⟨_,rfl⟩;rw[<-a9] at hk;obtain⟨res,a4⟩ : ∃r,r=qH h:=⟨_,rfl⟩;have a2:res=rO h nb y0:=by rw[a4,a9];unfold qH;rw[b5,d2,Int.toNat_natCast,Int.toNat_natCast]
 rw[<-a4];have g9:=aB (fun (i:Nat) (hi:(i:Int)<h.1.b)=>qU hf h12 hi);rw[b5] at g9;have g0:0<n:=by rw[<-ht.len];exact lG _
 have k4:n<=4096:=by rw[<-ht.len];exact hf.few
 have a6:=fun (W:World) (hB:Below w.heap.size w W)=>kZ (ht.below hB) hf.rt.shape;rw[qF hf] at a6;have HK:=aB a6;have e5:Hid (2*ia+1<(cI h.2.2).length):=aB aA;have j9:=aB (fun (w':World) (hb:Below w.heap.size w w')=>D9 (ht.below hb) g0);obtain⟨bf,off,rfl,i6,_,c6,d7⟩:=ht.at_ g0;simp only[Nat.zero_mul,Nat.add_zero] at c6 d7;rw[show bD (aW h) 0=h.1 from rfl] at c6 d7;rw[d2] at c6;rw[b5] at d7;have k5:ia<nb:=aA;have h4:nb<=4:=aA;obtain⟨j,hj⟩ : ∃j:Nat,j=2*ia+1:=⟨_,rfl⟩;have k2:IntKind.i64.wrap (2*(ia:Int))=2*(ia:Int):=by rw[IntKind.wrap_i64];omega
 have k1:IntKind.i64.wrap (2*(ia:Int)+1)=(j:Int):=by rw[IntKind.wrap_i64];omega
 rw[<-hj] at e5 a9;have i7:=aB a9;have j7:=aB hk;have d0:=aB ht.len;have e4:=aB a2;clear ht f1 f2 f3 f4 f5 hk a4 a2 d2 b5 a6 a9 hj;go_in;go_upto_region 2 with fail
 refine wp_region_held_drew (S:=(fun w'=>Below w.heap.size w w')) aC ?_ (fun hZ => ?_)
 · (try dsimp only);exact aT (Below.refl _ _) 1
 have h2:Hid (Below w.heap.size w w.drew):=aB (aT (Below.refl _ _) 1);generalize w.drew=W1 at *;refine aL 0 hZ ?_;refine aL 2 hZ ?_;refine aL 3 hZ ?_;refine aL 4 hZ ?_;refine tk 5 ?_ (fun wq hSw => ?_) hZ ?_;rotate_left
 · have f0:=(hSw.cell (p:=⟨bf,off+1,X⟩) i6).trans c6;go_simp;try with_reducible rfl
 try simp only[p7]
 refine aL 6 hZ ?_;refine aL 7 hZ ?_;refine r1 1 fun K hK => ?_;go_simp;go_at_call 104
 refine (HK.o _ h2.o).mono ?_;rintro en w3 ⟨g5,A3,n3,c3,xs3,rfl,f8,f7⟩;have e8:=bZ h2 g5;obtain⟨h7,gk,A4,n4,c4,rfl,k7,h8,k8,e9⟩:=pU f8 f7 e5.o;have h6:j<n3:=by have:=e5.o;omega
 have h5:(j:Int)<(n3:Int):=aA;have j0:Hid (aY w3 A4 n4 c4 (aW y0)):=aB (by rw[i7.o];exact bJ.keep e9 (R':=(· < w3.heap.size)) (w':=w3) fun q hq=>⟨hq.2.1,fun _=>rfl⟩);clear g5 f8 f7 h7 e9;go_wp2_with fail;refine hK.o _ _ (by exact e8.o) fun hZ => ?_;clear hK K;try simp only[p7]
 refine aL 8 hZ ?_;refine r1 9 fun K hK => ?_;go_simp;refine hK.o _ _ (by exact e8.o) fun hZ => ?_;clear hK K;try simp only[p7]
 refine aL 10 hZ ?_;refine wpAnyH_done aC ?_ _;go_wp2_with fail;obtain⟨nm,k3⟩ : ∃nm,nm=nb-1:=⟨_,rfl⟩;go_loopw [4,5] (fun bv iv wr=>∃(r:Nat) (x:TT) (A':Option Addr) (n' c':Nat),bv=O A' n' c'/\iv=.int .i64 ((r:Int)-1)/\r<=nb/\Hid (bR b (free+(r:Int)) x)/\Hid (res=rO h r x)/\Hid (aY wr A' n' c' (aW x))/\Hid (r=nb\/bJ (OE w wr) wr A' n' c' (aW x))/\Hid (Below w.heap.size w wr)) (fun _ iv _=>(intOf iv+1).toNat)
 case atStart=>exact⟨nb,y0,A4,n4,c4,rfl,rfl,by omega,j7,e4,j0,aB (.inl rfl),e8⟩
 case round =>
  obtain⟨r,x,A',n',c',rfl,rfl,hr,i2,c2,h3,b4,c8⟩:=hrel;have i3:=c8.o.size;cases r with
  | zero =>
   rw[show ((0:Nat):Int)-1 = -1 from by omega];have b0:res=Y x:=c2.o;have HU:=aB b0;have j3:Hid (bJ (OE w wr) wr A' n' c' (aW x)):=aB (b4.o.elim (fun e=>by omega) id);clear b0 hr b4 c2;go_wp2_with fail;go_ret;exact⟨c8.o,.inl ⟨x,HU.o,A',n',c',rfl,j3.o⟩⟩
  | succ i =>
   rw[show ((i+1:Nat):Int)-1=(i:Int) from by omega];have k6:(0:Int)<=(i:Int):=aA;have g4:=g9.o i aA;have c1:=AE g4 (up:=(i:Int)) aA aA;have hS:=kF (b:=b) (free:=free+i) (x:=x) (u:=i5 (eD h i) (i:Int)) aA aA (by have e:free+((i+1:Nat):Int)=free+i+1:=aA;rw[<-e];exact i2.o) c1.1;have HS:=aB hS;have a1:res=if (cH x (i5 (eD h i) (i:Int))).2=0 then rO h i (cH x (i5 (eD h i) (i:Int))).1 else X:=c2.o;have g6:=aB a1;have g1:=c1.2;have j5:=aB g1;have c0:Hid ((cH x (i5 (eD h i) (i:Int))).2 ≠ 0->(cH x (i5 (eD h i) (i:Int))).2=9):=aB pA;have f6:aW (eD h i)=⟨h.1.op,(i:Int),h.1.b⟩::(h.2.1++row h.2.2):=rfl;have j1:=aB f6;have i8:Hid ((aW (i5 (eD h i) (i:Int))).length<=4096):=aB c1.1.few;have j8:=aB (j9.o wr c8.o);generalize cH x (i5 (eD h i) (i:Int))=sx at *;generalize aW (i5 (eD h i) (i:Int))=ru at *;generalize aW (eD h i)=rf at *;clear g4 hS a1 g1 f6 c2 c1;go_wp2_with fail;refine (j8.o).mono ?_;rintro e w5 ⟨d6,gc,cc,rfl,c5⟩;have a5:=PD (n0:=h.1) (r:=h.2.1++row h.2.2) c5 (by have:=d0.o;show (aW h).length<=_;omega) (i:Int);rw[show (h.1::(h.2.1++row h.2.2)).length=n from d0.o,<-j1.o] at a5;have i4:=aU c5 (g:=gc) rfl;obtain⟨i1,i0,cur,b7⟩:=i4;have b8:aS w5 gc 46 cur:=b7;have a3:=lB c5 (lT (aW h) 0 (by have:=d0.o;omega)).2.1;have a7:w5.cell? ⟨gc,1,X⟩=Y (.int .i64 (bD (aW h) 0).a):=a3;have d4:w5.frozen? ⟨gc,1,X⟩=false:=b8.frozen 1;have d3:=fV w5 gc 1 (.int .i64 (i:Int));have d8:Below wr.heap.size wr (w5.setCell ⟨gc,1,X⟩ (.int .i64 (i:Int))):=d6.grown d3 (by have:=d6.size;omega) (fun q e=>by injection e with e;omega);have k0:=aB (c8.o.trans (d8.mono i3));have e0:=aB (h3.o.below d8);have b2:aY (w5.setCell ⟨gc,1,X⟩ (.int .i64 (i:Int))) (Y ⟨gc,0,X⟩) n cc rf:=a5.keep fun q hq=>⟨by have:=d3.size;omega,fun _=>rfl⟩;have g7:=aB (wU b2 (i:Int) 0 aA);rw[j5.o] at g7;have f9:(aW h).length=n:=d0.o;rw[f9];clear a5 b7 b8 a3 d6 c5 d3 d8 b2 f9;go_wp2_with fail;refine (g7.o).mono ?_;rintro e w7 ⟨d5,A7,n7,c7,rfl,d1⟩;have e7:=bZ k0 d5;have d9:=aB (e0.o.below d5);have j2:=aB d1;have g3:ru.length=n7:=by
    have h1:=d1.slice;obtain⟨_,_,e⟩:=h1;injection e with _ e2;exact e2.symm
   have j6:=aB g3;clear d5 d1 d4 a7 g3;go_wp2_with fail;refine jW.mono ?_;rintro e w8 ⟨rfl,rfl⟩;have b1:aY w8 A7 n7 c7 ru:=by
    have h1:=j2.o;rw[<-j6.o] at h1 ⊢;obtain⟨Aq,nq,cq,e,hq⟩:=bN.termS h1 (by have:=i8.o;show ru.length<=_;omega);injection e with e1 e2 e3;subst e1 e2 e3;exact hq.keep fun q hq=>⟨(aU h1 hq).2.1,fun _=>rfl⟩
   have b9:=aB (xZ d9.o b1 0 (fun _ _ _=>HS.o.1));rw[HS.o.2.1] at b9;clear b1;by_cases h0:sx.2=0
   · rw[if_pos h0,h0] at b9;have a1:=g6.o;rw[if_pos h0] at a1;have a8:=aB a1;have g8:=aB (HS.o.2.2 h0);clear a1 h0;go_wp2_with fail;refine (b9.o).mono ?_;rintro e w9 ⟨b6,A9,n9,c9,rfl,b3⟩;have e6:=bZ e7 b6;have g2:(aW sx.1).length=n9:=by
      obtain⟨_,_,e⟩:=b3.slice;injection e with _ e2;exact e2.symm
     have a0:bJ (OE w w9) w9 A9 n9 c9 (aW sx.1):=by
      have h1:=b3;rw[<-g2] at h1 ⊢;obtain⟨Aq,nq,cq,e,hq⟩:=bN.termS h1 (by have:=g8.o.few;have h9:(aW sx.1).length=bI sx.1:=rfl;show (aW sx.1).length<=_;omega);injection e with e1 e2 e3;subst e1 e2 e3;exact hq.keep fun q hq=>⟨⟨by have:=(aU h1 hq).1;have:=e7.o.size;omega,(aU h1 hq).2.1⟩,fun _=>rfl⟩
     have j4:=aB a0;have i9:Hid (aY w9 A9 n9 c9 (aW sx.1)):=aB (a0.keep fun q hq=>⟨hq.2,fun _=>rfl⟩);clear b6 b3 g2 a0;go_wp2_with fail;refine jW.mono ?_;rintro e w10 ⟨rfl,rfl⟩;go_wp2_with fail;go_roundw
     case rel=>exact⟨i,sx.1,A9,n9,c9,rfl,rfl,by omega,g8,a8,i9,aB (.inr j4.o),e6⟩
     case measure=>simp[intOf]
   · rw[if_neg h0] at b9;have a1:=g6.o;rw[if_neg h0] at a1;have a8:=aB a1;have HZ:=aB h0;clear a1 h0;go_wp2_with fail;refine (b9.o).mono ?_;rintro e w9 ⟨b6,A9,n9,c9,rfl,b3⟩;have e6:=bZ e7 b6;clear b6 b3;go_wp2_with fail;refine (mG HZ.o).mono ?_;rintro e w10 ⟨rfl,rfl⟩;go_wp2_with fail;rw[c0.o HZ.o];exact⟨rfl,e6.o,.inr ⟨a8.o,rfl⟩⟩
end
section
open Go.Lib renaming hid->aB
def KY (lo:Nat) (r:Option Fc) (w:World) (e:Ending) (w':World):Prop:=Below w.heap.size w w'/\((∃f,r=Y f/\∃A n c B m d,e=.returned (.agg #[O A n c,O B m d])/\fE lo w' f A n c B m d)\/(r=X/\e=.panicked (oG 9)))
theorem zV {w:World} {g:Nat} {c0 c1:Value} {tmps:Array Value} (h:aS w g 78 #[c0,c1]) (ht:tmps.getD 4 undef=.pointer (Y ⟨g,0,X⟩)) :
 (results Tryz.f112 tmps).run Tryz.prog w=.ok (.agg #[c0,c1]) w:=by
 have hc:=h.cell;have a0:tmps[4]?.getD undef=.pointer (Y ⟨g,0,X⟩):=by rw[<-ht];simp
 simp[results,Tryz.results112,go_sem,a0,hc]
set_option maxRecDepth 100000 in
set_option maxHeartbeats 4000000 in
theorem qN {b:Bk} {free:Int} {x:TT} {L:List TT} {A B:Option Addr} {n c m d:Nat} {w:World} (h:aY w A n c (aW x)) (hx:bR b free x) (ha:gI (· < w.heap.size) w B m d (L.map aW)) (hL:∀a ∈ L,bR b free a) (hnul:B=X->d=0) :
 Calls Tryz.prog 112 #[O A n c,O B m d] w (KY w.heap.size (gG x L) w):=by
 obtain⟨w1,a0⟩ : ∃w1:World,w1=w.alloc (.cells #[O X 0 0,O X 0 0] 78):=⟨_,rfl⟩;have a3:Below w.heap.size w w1:=by rw[a0];exact aP _ _
 have b3:Hid (aS w1 w.heap.size 78 #[O X 0 0,O X 0 0]):=aB (by rw[a0];exact aS.new _ _ _);have b4:=aB a3;have a2:=IK (w:=w1) (h.below a3) (ha.keep fun q hq=>⟨Nat.lt_of_lt_of_le hq a3.size,fun o=>a3.cell (p:=⟨q,o,X⟩) hq⟩) hnul;rw[AT hx hL] at a2;have b5:w1.heap.size=w.heap.size+1:=by rw[a0];simp
 by_cases hbig:4096<bI x+bT L
 · rw[if_pos hbig] at a2;have b0:=aB a2;have HR:Hid (gG x L=X):=aB (by unfold gG;rw[if_pos hbig]);clear a2 a3 h ha hL hx hbig;go_in;go_upto_region 1 with fail
   rw[<-a0];clear a0;go_wp2_with fail;refine (b0.o).mono ?_;rintro e w2 ⟨a1,A2,n2,c2,rfl,a4⟩;have a9:=bZ b4 a1;clear a1 a4;go_wp2_with fail;refine (mG aE).mono ?_;rintro e w3 ⟨rfl,rfl⟩;go_wp2_with fail;exact⟨rfl,a9.o,.inr ⟨HR.o,rfl⟩⟩
 rw[if_neg hbig] at a2;have b0:=aB a2;have HR:Hid (gG x L=Y ((bU x).1,(bU x).2++L)):=aB (by unfold gG;rw[if_neg hbig]);have a8:=aB (nE L x hx hL aA);have b6:Hid (bU (eG x L)=((bU x).1,(bU x).2++L)):=aB (pR L x);clear a2 a3 h ha hL hx hbig;go_in;go_upto_region 1 with fail
 rw[<-a0];clear a0;go_wp2_with fail;refine (b0.o).mono ?_;rintro e w2 ⟨a1,A2,n2,c2,rfl,a4⟩;have a9:=bZ b4 a1;have b1:Hid (aY w2 A2 n2 c2 (aW (eG x L))):=aB (a4.keep (R':=(· < w2.heap.size)) fun q hq=>⟨hq.2,fun _=>rfl⟩);have b2:=aB (b3.o.below a1 b3.o.lt);have c0:=a1.size;clear a1 a4;simp only at b1 ⊢;go_wp2_with fail;refine jW.mono ?_;rintro e w3 ⟨rfl,rfl⟩;go_wp2_with fail;refine (fP b1.o a8.o).mono ?_;rintro e w4 ⟨a6,A4,n4,c4,B4,m4,d4,rfl,a5⟩;rw[b6.o] at a5;have b8:=bZ a9 a6;have a7:=aB (b2.o.below a6 b2.o.lt);have b7:=aB a5;have z4:=a7.o.cell;have b9:=a7.o.frozen;clear a6 a5;go_wp2_with fail;refine bodyPost_ret (v:=.agg #[O A4 n4 c4,O B4 m4 d4]) (zV (g:=w.heap.size) (by have:=(a7.o.set_ 0 (O A4 n4 c4)).set_ 1 (O B4 m4 d4);simpa using this) aD) rfl ⟨?_,.inl ⟨_,HR.o,A4,n4,c4,B4,m4,d4,rfl,?_⟩⟩
 · exact (b8.o.setCell (p:=⟨w.heap.size,0,X⟩) (Nat.le_refl _) _).setCell (p:=⟨w.heap.size,1,X⟩) (Nat.le_refl _) _
 exact (((b7.o.set (b:=w.heap.size) aA 0 _).set (b:=w.heap.size) aA 1 _)).base aA
end
section
open Go.Lib renaming hid->aB
set_option maxHeartbeats 4000000
set_option maxRecDepth 100000
theorem QT:Tryz.t29.bytes=24:=by kernel_rfl
def RR (w:World) (e:Ending) (w':World):Prop:=Below w.heap.size w w'/\∃A c,e=.returned (O A 0 c)/\w'.ownsRow w.heap.size 29 1 (O A 0 c) 0 []
theorem JE {n:Nat} {w:World} (hn:n<=1000000) :
 Calls Tryz.prog 139 #[O X 0 0,.int .i64 (n:Int)] w (RR w):=by
 by_cases h0:0<n
 · have hb:=QT;have h1:(n:Int)*(Tryz.t29.bytes:Int)<=281474976710656:=by rw[hb];omega
   have h2:Builtin.nextslicecap n 0*Tryz.t29.bytes<=281474976710656:=by rw[hb];exact growslice_fits aA aA
   have a1:=grownCap_ge w n 0 29;have a0:=grownCap_le_maxLen w n 0 29 aJ;have HC:=aB (And.intro a1 a0);clear hb a1 a0;go_in;go_wp2_with fail;go_ret;obtain⟨a1,a0⟩:=HC.o;refine⟨aT (aP w _) 1,Y ⟨w.heap.size,0,X⟩,grownCap w n 0 29,rfl,?_⟩;refine World.ownsRow_made w _ _ (Nat.le_refl _) a0 ?_;rw[Array.size_append,size_zeroCells,size_zeroCells];show n*1+(grownCap w n 0 29-n)*1=grownCap w n 0 29*1;omega
 have h9:n=0:=aA;subst h9;go_in;go_wp2_with fail;go_ret;exact⟨Below.refl _ _,X,0,rfl,World.ownsRow_nil _ _ _ _⟩
structure S9 (w:World) (A:Option Addr) (n:Nat) (vss:List (List Value)):Prop where
 len:vss.length=n
 few:n<=1000
 mem:0<n->∃b off,A=Y ⟨b,off,X⟩/\b<w.heap.size/\∀k,k<n->∃A' n' c',w.cell? ⟨b,off+k,X⟩=Y (O A' n' c')/\(vss.getD k []).length=n'/\(A'=X->n'=0/\c'=0)/\(∀u ∈ vss.getD k [],u.oneCell'=true)/\∀W,Below w.heap.size w W->∀ad,A'=Y ad->∀j u,(vss.getD k [])[j]? = Y u->W.cell? (ad.add j)=Y u
def SQ (vs:List Value) (w:World) (e:Ending) (w':World):Prop:=Below w.heap.size w w'/\∃A c,e=.returned (O A vs.length c)/\w'.ownsRow w.heap.size 29 1 (O A vs.length c) vs.length vs
theorem BB {A:Option Addr} {n c:Nat} {ls:List (List Value)} {w:World} (h:S9 w A n ls) (hf:ls.flatten.length<=1000000) :
 Calls Tryz.prog 115 #[O A n c] w (SQ ls.flatten w):=by
 obtain⟨i0,hi,b3,b2,b1⟩:=info_parts BX;have d1:=aB hi;have c6:=aB b3;have c5:=aB b2;have c3:=aB b1;have c1:=h.few;have H:=aB h;clear hi b3 b2 b1 h;go_in;go_wp2_with fail;go_loop [3,11] (fun sv iv=>∃i:Nat,i<=n/\iv=.int .i64 (i:Int)/\sv=.int .i64 (((ls.take i).flatten.length:Nat):Int)) (fun _ i=>n-(intOf i).toNat)
 case atStart=>exact⟨0,by omega,rfl,by simp⟩
 case round =>
  obtain⟨i,hi,rfl,rfl⟩:=hrel;by_cases hlt:i<n
  · obtain⟨b,off,rfl,_,hm⟩:=H.o.mem aA;obtain⟨A',n',c',hc,ht,_,_,_⟩:=hm i hlt;have a3:(ls.take (i+1)).flatten.length=(ls.take i).flatten.length+n':=by
     rw[kW ls (by rw[H.o.len];exact hlt) [],List.length_append,ht]
    have a7:=jN ls (i+1);clear hm ht;have b0:=aB a3;obtain⟨sz,a6⟩ : ∃sz,sz=(ls.take i).flatten.length:=⟨_,rfl⟩;rw[<-a6] at a3;rw[<-a6];have c7:=aB a6;have b9:sz+n'<=1000000:=aA;clear a3 a7 a6;go_wp2_with fail;go_round
    case rel=>exact⟨i+1,by omega,by go_num,by rw[b0.o,<-c7.o];go_num⟩
    case measure=>simp[intOf];omega
  have c0:i=n:=aA;have HF:Hid ((ls.take i).flatten=ls.flatten):=aB (by rw[List.take_of_length_le (by rw[H.o.len];omega)]);rw[HF.o];obtain⟨N,hN⟩ : ∃N,N=ls.flatten.length:=⟨_,rfl⟩;rw[<-hN] at hf;rw[<-hN];have HN:=aB hN;have a5:=aB (fun w=>JE (w:=w) hf);clear hN;go_wp2_with fail;refine (a5.o _).mono ?_;rintro e w2 ⟨b6,g,c2,rfl,a2⟩;have d3:=aB b6;have c9:=aB a2;clear b6 a2;go_wp2_with fail;go_loopw [6,27] (fun sv iv wr=>∃(i:Nat) (A1:Option Addr) (k1:Nat),i<=n/\iv=.int .i64 (i:Int)/\sv=O A1 (ls.take i).flatten.length k1/\Hid (wr.ownsRow w.heap.size 29 1 (O A1 (ls.take i).flatten.length k1) (ls.take i).flatten.length (ls.take i).flatten)/\Hid (Below w.heap.size w wr)) (fun _ i _=>n-(intOf i).toNat)
  case atStart=>exact⟨0,g,c2,by omega,rfl,rfl,by simpa using c9,d3⟩
  case round =>
   obtain⟨i,A1,k1,hi,rfl,rfl,a1,a4⟩:=hrel;by_cases hlt:i<n;rotate_left
   · have c0:i=n:=aA;have b8:Hid ((ls.take i).flatten=ls.flatten):=aB (by rw[List.take_of_length_le (by rw[H.o.len];omega)]);rw[b8.o] at a1;rw[b8.o];go_wp2_with fail;go_ret;exact⟨a4.o,A1,k1,rfl,a1.o⟩
   obtain⟨b,off,rfl,hb,hm⟩:=H.o.mem aA;obtain⟨A',n',c',hc,ht,b4,h1,hx⟩:=hm i hlt;have d4:wr.cell? ⟨b,off+i,X⟩=Y (O A' n' c'):=(a4.o.cell (p:=⟨b,off+i,X⟩) hb).trans hc;have HX:=aB (hx wr a4.o);have d0:=aB b4;have H1:=aB h1;have a8:=kW ls (by rw[H.o.len];exact hlt) [];have a7:=jN ls (i+1);rw[a8,List.length_append,ht,<-HN.o] at a7;have b7:=aB a8;have a9:=aB ht;generalize (ls.take i).flatten=l at *;generalize ls.getD i []=nl at *;clear hm hc ht a8 hx b4 h1;have b5:=a4.o.size;go_wp2_with (at_builtin;refine bL rfl (eE (.tmp 31) (.tmp 32) 47 rfl w.heap.size 29 i0 _ 1 24 Tryz.underlying47 d1.o c6.o c5.o c3.o rfl aE (O A1 l.length k1) l.length l rfl a1.o A' n' c' nl rfl (by rw[a9.o,Nat.mul_one]) d0.o HX.o H1.o aJ aA b5 ?_);intro A4 c4 w4 a0)
   have c8:=aB a0.own;have d2:=aB (a4.o.grown a0.grown b5 (fun g hg=>(aU a1.o hg).1));clear a0;go_roundw
   case rel=>exact⟨i+1,A4,c4,by omega,by go_num,by rw[b7.o,List.length_append,a9.o],aB (by rw[b7.o,List.length_append,a9.o];exact c8.o),d2⟩
   case measure=>simp[intOf];omega
theorem tZ {w:World} {base sz n c:Nat} {e:TypeId} {A:Option Addr} {xs:List Value} (h:w.ownsRow base e sz (O A n c) n xs):n<=c:=by
 rcases h.2 with⟨hv,h0⟩ | ⟨g,cap,cur,hv,hg,hh,hc,_⟩
 · omega
 injection hv with e1 e2 e3;omega
theorem bS.app {S:Nat->Prop} {w:World} : ∀{xs ys:List Value} {ls ms:List (List Nd)},bS S w xs ls->bS S w ys ms->bS S w (xs++ys) (ls++ms)
 | [],_,[],_,_,h=>h
 | [],_,_::_,_,h,_=>h.elim
 | _::_,_,[],_,h,_=>h.elim
 | _::_,_,_::_,_,h,h2=>⟨h.1,bS.app h.2 h2⟩
theorem DK {S:Nat->Prop} {w:World} {b:Nat} : ∀(ls:List (List Nd)) (off:Nat),(∀k,k<ls.length->∃A' n' c',w.cell? ⟨b,off+k,X⟩=Y (O A' n' c')/\bJ S w A' n' c' (ls.getD k []))->∃vs,bS S w vs ls/\∀j u,vs[j]? = Y u->w.cell? ⟨b,off+j,X⟩=Y u
 | [],off,_=>⟨[],trivial,fun j u h=>by simp at h⟩
 | l::r,off,h=>by
  obtain⟨A',n',c',hc,ht⟩:=h 0 aD;obtain⟨vs,h1,h2⟩:=DK r (off+1) (fun k hk=>by
   have h9:=h (k+1) (by simp only[List.length_cons];omega);rw[show off+(k+1)=off+1+k from by omega] at h9;exact h9)
  refine⟨O A' n' c'::vs,⟨⟨A',n',c',rfl,ht⟩,h1⟩,fun j u hu => ?_⟩;cases j with
  | zero=>injection hu with hu;rw[<-hu];exact hc
  | succ j=>rw[show off+(j+1)=off+1+j from by omega];exact h2 j u hu
theorem uP {w:World} {A:Option Addr} {n c:Nat} {ls:List (List Nd)} (h:gI (· < w.heap.size) w A n c ls) (hnul:A=X->c=0) : ∃vs,vs.length=n/\bS (· < w.heap.size) w vs ls/\(A=X->n=0/\c=0)/\∀W,Below w.heap.size w W->∀ad,A=Y ad->∀j u,vs[j]? = Y u->W.cell? (ad.add j)=Y u:=by
 have hl:=h.len;by_cases hn:0<n
 · obtain⟨b,off,rfl,hb,hm⟩:=h.mem hn;obtain⟨vs,h1,h2⟩:=DK (S:=(· < w.heap.size)) (w:=w) (b:=b) ls off (fun k hk=>hm k aA);have h3:=h1.len;refine⟨vs,by omega,h1,(fun e=>by cases e),fun W hW ad e j u hu => ?_⟩;injection e with e;subst e;have ea:(⟨b,off,X⟩:Addr).add j=⟨b,off+j,X⟩:=by unfold Addr.add;split<;>simp_all
   rw[ea];exact (hW.cell (p:=⟨b,off+j,X⟩) hb).trans (h2 j u hu)
 have a0:n=0:=aA;subst a0;have a1:=List.eq_nil_of_length_eq_zero hl;subst a1;exact⟨[],rfl,trivial,fun e=>⟨rfl,hnul e⟩,fun W _ ad _ j u hu=>by simp at hu⟩
def SP (L:List (List Nd)) (w:World) (e:Ending) (w':World):Prop:=Below w.heap.size w w'/\∃A n c,e=.returned (O A n c)/\gI (· < w'.heap.size) w' A n c L/\(A=X->c=0)
theorem BA {w:World} {g:Nat} {t:TypeId} {A1 A2:Option Addr} {n1 c1 n2 c2:Nat} {L1 L2:List (List Nd)} (hb:aS w g t #[O A1 n1 c1,O A2 n2 c2]) (h1:gI (· < w.heap.size) w A1 n1 c1 L1) (h2:gI (· < w.heap.size) w A2 n2 c2 L2) (u1:A1=X->c1=0) (u2:A2=X->c2=0) (hf:n1+n2<=1000000) :
 Calls Tryz.prog 115 #[O (Y ⟨g,0,X⟩) 2 2] w (SP (L1++L2) w):=by
 obtain⟨vs1,a1,b1,d1,e1⟩:=uP h1 u1;obtain⟨vs2,a2,b2,d2,e2⟩:=uP h2 u2;have a3:S9 w (Y ⟨g,0,X⟩) 2 [vs1,vs2]:=⟨rfl,by decide,fun _=>⟨g,0,rfl,hb.lt,fun k hk=>by
  have hc:=hb.cell (0+k);rcases (by omega:k=0\/k=1) with rfl | rfl
  · exact⟨A1,n1,c1,hc,a1,d1,qE b1,e1⟩
  exact⟨A2,n2,c2,hc,a2,d2,qE b2,e2⟩⟩⟩
 have a0:[vs1,vs2].flatten=vs1++vs2:=by simp
 have h:=BB (c:=2) a3 (by rw[a0,List.length_append];omega);rw[a0] at h;refine h.mono ?_;rintro e w' ⟨hB,A,c,rfl,ho⟩;have hr:bS (· < w'.heap.size) w' (vs1++vs2) (L1++L2):=bS.keep (fun q hq=>⟨Nat.lt_of_lt_of_le hq hB.size,fun o=>hB.cell (p:=⟨q,o,X⟩) hq⟩) (bS.app b1 b2);exact⟨hB,A,_,c,rfl,nN ho hr.len (by rw[List.length_append];omega) hr (fun q hq=>hq) (fun q hq=>(aU ho hq).2.1),t8 ho⟩
end
theorem F6 {x p q:TT} (hrt:II x) (h:x.1.op=6\/x.1.op=5) (hk:cI x.2.2=[p,q]) : ∃e:Nat,mC (aW x) 1=(e:Int)/\1<=e/\e<=(aW x).length/\((aW x).take e).drop 1=aW p/\(aW x).drop e=aW q:=by
 have a0:At (aW x) 1 (ds x.1) x.2.2:=At.first (n:=x.1) (a:=x.2.1) (k:=x.2.2) hrt aA;have a3:ds x.1=[false,false]:=by unfold ds;rw[if_neg aA];rcases h with h | h<;>rw[h]<;>rfl
 rw[a3] at a0;obtain⟨pre1,n1,a1,k1,nx1,e1,s1⟩:=a0.step;obtain⟨pre2,n2,a2,k2,nx2,rfl,s2⟩:=s1.next.step;obtain rfl:=List.eq_nil_of_length_eq_zero (show pre1.length=0 from s1.plen);obtain rfl:=List.eq_nil_of_length_eq_zero (show pre2.length=0 from s2.plen);obtain rfl:=s2.next.done;rw[e1] at hk;simp only[cI,List.cons.injEq,and_true] at hk;obtain⟨rfl,rfl⟩:=hk;have h1:=s1.end_;have h2:=s1.cut;have h3:=s1.le;have h4:=s1.next.rest;simp only[List.length_nil,Nat.add_zero] at h1 h2 h3 h4;refine⟨_,h1,by omega,h3,h2,?_⟩;rw[h4];simp[row,aW]
theorem AB {x p q r:TT} (hrt:II x) (h:x.1.op=7) (hk:cI x.2.2=[p,q,r]) : ∃e1 e2:Nat,mC (aW x) 1=(e1:Int)/\mC (aW x) (e1:Int)=(e2:Int)/\1<=e1/\e1<=e2/\e2<=(aW x).length/\((aW x).take e2).drop e1=aW q/\(aW x).drop e2=aW r:=by
 have a0:At (aW x) 1 (ds x.1) x.2.2:=At.first (n:=x.1) (a:=x.2.1) (k:=x.2.2) hrt aA;have a4:ds x.1=[false,false,false]:=by unfold ds;rw[if_neg aA,h];rfl
 rw[a4] at a0;obtain⟨pre1,n1,a1,k1,nx1,e1,s1⟩:=a0.step;obtain⟨pre2,n2,a2,k2,nx2,rfl,s2⟩:=s1.next.step;obtain⟨pre3,n3,a3,k3,nx3,rfl,s3⟩:=s2.next.step;obtain rfl:=List.eq_nil_of_length_eq_zero (show pre1.length=0 from s1.plen);obtain rfl:=List.eq_nil_of_length_eq_zero (show pre2.length=0 from s2.plen);obtain rfl:=List.eq_nil_of_length_eq_zero (show pre3.length=0 from s3.plen);obtain rfl:=s3.next.done;rw[e1] at hk;simp only[cI,List.cons.injEq,and_true] at hk;obtain⟨rfl,rfl,rfl⟩:=hk;have h1:=s1.end_;have h3:=s1.le;have i1:=s2.end_;have i2:=s2.cut;have i3:=s2.le;have i4:=s2.next.rest;simp only[List.length_nil,Nat.add_zero] at h1 h3 i1 i2 i3 i4;refine⟨_,_,h1,i1,by omega,by omega,i3,i2,?_⟩;rw[i4];simp[row,aW]
end Go.Proofs.YtjoddliplahgkaaGreat
