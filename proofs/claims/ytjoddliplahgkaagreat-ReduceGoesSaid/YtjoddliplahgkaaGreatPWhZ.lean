/- core: whnf. -/
import Derived.Test.YtjoddliplahgkaaGreatPWhY
namespace Go.Proofs.YtjoddliplahgkaaGreat
set_option linter.unusedVariables false
set_option linter.unusedSimpArgs false
open Go.RowKit
open Go.Value renaming slice → O
open Option renaming none → S
open Go.Lib renaming hid->aB
abbrev N7 (v:bO) (b:Bk) (cA:Option Addr) (cn cc f:Nat):Array Value:=#[.int .i64 b.vars,O v.Ao v.no v.co,O v.Ae v.ne v.ce,.int .i64 b.nat,O v.Ap v.np v.cp,O cA cn cc,.int .i64 (f:Int)]
theorem AN.moved {w0 w w':World} {g f f' cn cc:Nat} {v:bO} {b:Bk} {cA:Option Addr} {cv:List (List Nd)} (h:AN w0 g v b cA cn cc cv f w) (hm:bE (fun q=>q=g) S w w') (hb:aS w' g 76 (N7 v b cA cn cc f')):AN w0 g v b cA cn cc cv f' w' :=
 ⟨h.bel.trans (hm.to_below h.bel.size (fun k e=>by rw[e];exact h.ge) (fun _ e=>by cases e)),hb,h.ge,h.ctx.keep fun q hq=>⟨⟨Nat.lt_of_lt_of_le hq.1 hm.size,hq.2⟩,fun o=>aQ (hm.block q hq.1 hq.2 aD) o⟩⟩
def R4 (g:Nat) (v:bO) (b:Bk) (cA:Option Addr) (cn cc lo:Nat) (r:P8) (w:World) (e:Ending) (w':World):Prop:=bE (fun q=>q=g) S w w'/\((∃z,r=.bad z/\e=.panicked (oG z))\/∃y k A n c B m d,r=.done y k/\e=.returned (.agg #[O A n c,O B m d])/\fE lo w' y A n c B m d/\aS w' g 76 (N7 v b cA cn cc k))
theorem zW {w:World} {g:Nat} {c0 c1:Value} {tmps:Array Value} (h:aS w g 78 #[c0,c1]) (ht:tmps.getD 6 undef=.pointer (some ⟨g,0,S⟩)) :
 (results Tryz.f60 tmps).run Tryz.prog w=.ok (.agg #[c0,c1]) w:=by
 have hc:=h.cell;have a0:tmps[6]?.getD undef=.pointer (some ⟨g,0,S⟩):=by rw[<-ht];simp
 simp[results,Tryz.results60,go_sem,a0,hc]
def zA (g:Nat) (w:World):Nat:=match w.cell? ⟨g,6,S⟩ with
 | some v=>(intOf v).toNat
 | none=>0
theorem tJ {w:World} {g:Nat} {v:bO} {b:Bk} {cA:Option Addr} {cn cc f:Nat} (h:aS w g 76 (N7 v b cA cn cc f)):zA g w=f:=by
 unfold zA;rw[h.cell];simp[N7,intOf]
theorem KQ {b:Bk} {cv:List (List Nd)} {q k:Nat} {f:Fc} {room:Int} (h:bW b cv f=true):AG b cv q k f room=if k=0 then .bad 10 else match jD b cv f with
 | none=>.bad 9
 | some y=>if room<(dK y:Int) then .bad 9 else mD b cv q (k-1) y room:=by
 unfold AG;rw[if_pos h];rfl
theorem KR {b:Bk} {cv:List (List Nd)} {q k:Nat} {f:Fc} {room:Int} (h:¬ bW b cv f=true):AG b cv q k f room=.done f k:=by
 unfold AG;rw[if_neg h]
set_option maxRecDepth 100000 in
set_option maxHeartbeats 4000000 in
theorem I5 {w0:World} {g:Nat} {v:bO} {b:Bk} {cA:Option Addr} {cn cc:Nat} {cv:List (List Nd)} (hr:bP b=0) (hb:bX w0 v b) (hc:fR b cv) (hcl:(cv.length:Int)<=990000) : ∀(G gas:Nat),gas<=G->∀(w:World) (s:Fc) (A B:Option Addr) (n c m d lo k:Nat) (room:Int),AN w0 g v b cA cn cc cv k w->g<lo->lo<=w.heap.size->fE lo w s A n c B m d->eH b (cv.length:Int) s->(dK s:Int)<=room->room<=4096->k<=1000000->mD b cv gas k s room ≠ .bad 99 →
 Calls Tryz.prog 60 #[.pointer (some ⟨g,0,S⟩),.agg #[O A n c,O B m d],.int .i64 room] w (R4 g v b cA cn cc lo (mD b cv gas k s room) w):=by
 intro G
 induction G with
 | zero =>
  intro gas y0 w s A B n c m d lo k room _ _ _ _ _ _ _ _ h9;obtain rfl:gas=0:=aA;exact absurd rfl h9
 | succ G ih =>
 intro gas g0 w s A B n c m d lo k room hw q0 p6 hs fs f4 p3 hk l8;have IH:=aB ih;clear ih;obtain⟨w1,a8⟩ : ∃w1:World,w1=(w.alloc (.cells #[O A n c,O B m d] 78)).alloc (.cells #[O S 0 0,O S 0 0] 78):=⟨_,rfl⟩;have j4:Below w.heap.size w w1:=by rw[a8];exact a7 _ _ _
 have zs:aS w1 w.heap.size 78 #[O A n c,O B m d]:=by rw[a8];exact (aS.new _ _ _).alloc _
 have zr:aS w1 (w.heap.size+1) 78 #[O S 0 0,O S 0 0]:=by rw[a8];exact aS.new' aD
 obtain⟨res,a3⟩ : ∃r,r=mD b cv gas k s room:=⟨_,rfl⟩;rw[<-a3] at l8 ⊢;have HW:=aB hw;have o9:=aB hb;have HR:=aB hr;have HC:=aB hc;have x2:=aB hcl;have e5:=aB p3;have i0:=aB q0;have v5:=aB p6;have r7:=aB l8;have t1:=hw.lt;have RL:∃RL:World->Prop,RL=fun wr=>∃(q k':Nat) (f':Fc) (A' B':Option Addr) (n' c' m' d':Nat),res=mD b cv q k' f' room/\q<=G+1/\k'<=1000000/\bE (fun q=>q=g) S w wr/\aS wr g 76 (N7 v b cA cn cc k')/\aS wr w.heap.size 78 #[O A' n' c',O B' m' d']/\aS wr (w.heap.size+1) 78 #[O S 0 0,O S 0 0]/\fE lo wr f' A' n' c' B' m' d'/\eH b (cv.length:Int) f'/\(dK f':Int)<=room:=⟨_,rfl⟩;obtain⟨RL,l7⟩:=RL;have r0:=aB l7;have q8:Hid (RL w1):=aB (by
  rw[l7];exact⟨gas,k,s,A,B,n,c,m,d,a3,g0,hk,bE.of_below j4,hw.blk.below j4 t1,zs,zr,hs.below j4,fs,f4⟩)
 clear hr hb hc hcl hw hs fs a3 j4 zs zr f4 p3 g0 q0 p6 hk l8 l7;go_in;go_upto_region 1 with fail
 rw[<-a8];clear a8;go_loopw [] (fun wr=>Hid (RL wr)) (fun wr=>zA g wr)
 case atStart=>exact q8
 case round =>
  have f9:=hrel.o;rw[r0.o] at f9;obtain⟨q,k',f',A',B',n',c',m',d',a3,hq,hk,p4,b7,i7,j9,j2,l2,f4⟩:=f9;clear hrel q8;obtain⟨wb,rfl⟩ : ∃x:World,x=wr:=⟨_,rfl⟩;cases q with
  | zero=>exact absurd (show res=.bad 99 from a3) r7.o
  | succ q =>
  have k5:=j2.len.2;have l6:=eH.argsLen l2 (by have:=e5.o;omega);have c3:dK f'<=4096:=by have:=e5.o;omega
  have g6:=aB a3;have HM:=aB p4;have x3:=aB b7;have t5:=aB i7;have t6:=aB j9;have w2:=aB j2;have i3:=aB l2;have q7:=aB f4;have r5:=aB c3;have HQ:=aB hq;have n9:=aB hk;have HI:=aB (j2.read i0.o aA);have k3:w.heap.size<wb.heap.size:=i7.lt;have f9:w.heap.size+1<wb.heap.size:=j9.lt;have q1:g<wb.heap.size:=b7.lt;have r9:=i7.cell;have v9:Hid (zA g wb=k'):=aB (tJ b7);have x9:lo<=w.heap.size:=v5.o;have l1:g<lo:=i0.o;clear a3 p4 b7 i7 j9 j2 l2 f4 k5 l6 c3 hq hk;go_wp2_with fail;refine (wI q1 HI.o i3.o).mono ?_;rintro en w3 ⟨b3,h3⟩;have s8:∃(Ap:Option Addr) (np cp:Nat) (bl:Bool),en=.returned (.tuple #[O Ap np cp,.bool bl])/\Hid ((bl=false/\cS f'=S)\/(bl=true/\∃p,cS f'=some p/\bJ (fun q=>q<w3.heap.size/\q ≠ g) w3 Ap np cp (aW p))):=by
   cases d3:cS f' with
   | none=>rw[d3] at h3;exact⟨S,0,0,false,h3,aB (.inl ⟨rfl,rfl⟩)⟩
   | some p=>rw[d3] at h3;obtain⟨Ap,np,cp,e,ht⟩:=h3;exact⟨Ap,np,cp,true,e,aB (.inr ⟨rfl,p,rfl,ht⟩)⟩
  obtain⟨Ap,np,cp,bl,rfl,r3⟩:=s8;have i6:=fun i=>(b3.cell (p:=⟨w.heap.size,i,S⟩) k3).trans (r9 i);have b5:w.heap.size<w3.heap.size:=Nat.lt_of_lt_of_le k3 b3.size;have s5:w.heap.size+1<w3.heap.size:=Nat.lt_of_lt_of_le f9 b3.size;have j5:Hid (bE (fun q=>q=g) S w w3):=aB (HM.o.trans (row':=S) (bE.of_below b3) (fun _ e=>by cases e));have g2:=aB (t5.o.below b3 k3);have g3:=aB (t6.o.below b3 f9);have i5:=aB (x3.o.below b3 q1);have i2:=aB (w2.o.below b3);have v8:=aB (HI.o.below b3);clear b3 h3;go_upto_if 14 with fail
  go_cut [] (fun wx=>∃(f2:Fc) (k2:Nat) (A2 B2:Option Addr) (n2 c2 m2 d2:Nat),Hid (res=AG b cv q k2 f2 room)/\Hid (k2<=k')/\Hid (bE (fun q=>q=g) S w wx)/\Hid (aS wx g 76 (N7 v b cA cn cc k2))/\Hid (aS wx w.heap.size 78 #[O A2 n2 c2,O B2 m2 d2])/\Hid (aS wx (w.heap.size+1) 78 #[O S 0 0,O S 0 0])/\Hid (fE lo wx f2 A2 n2 c2 B2 m2 d2)/\Hid (eH b (cv.length:Int) f2)/\Hid ((dK f2:Int)<=room))
  case first =>
   cases bl with
   | false =>
    have v0:Hid (res=AG b cv q k' f' room):=aB (by
     rcases r3.o with⟨_,h⟩ | ⟨h,_⟩
     · exact g6.o.trans (oB h q k' room)
     cases h)
    go_wp2_with fail;go_meet;exact⟨f',k',A',B',n',c',m',d',v0,aB (Nat.le_refl _),j5,i5,g2,g3,i2,i3,q7⟩
   | true =>
    have s7:∃p,cS f'=some p/\bJ (fun q=>q<w3.heap.size/\q ≠ g) w3 Ap np cp (aW p):=by
     rcases r3.o with⟨h,_⟩ | ⟨_,h⟩
     · cases h
     exact h
    obtain⟨p,d3,k1⟩:=s7;have HP:=aB k1;have j0:=iM i3.o d3;have g1:=dJ j0.1;have j1:bI p=np:=k1.len;obtain⟨fz,c3⟩ : ∃z:Nat,z=dK f':=⟨_,rfl⟩;have b0:Hid (res=match mD b cv q k' (bU p) (room-(fz:Int)+(np:Int)) with | .bad e=>.bad e | .done y m=>AG b cv q m (dU f' (fI y)) room):=aB (by rw[g6.o,c3,<-j1];exact s6 d3 q k' room);have r1:=aB d3;have n1:=aB j0;have i1:=aB g1;have g7:=aB j1;have h1:=q7.o;have h2:=e5.o;have h4:=j0.2;rw[j1] at h4;rw[<-c3] at h1 h4;have s3:IntKind.i64.wrap (room-(fz:Int))=room-(fz:Int):=by rw[IntKind.wrap_i64];omega
    obtain⟨rm2,f5⟩ : ∃z:Int,z=room-(fz:Int)+(np:Int):=⟨_,rfl⟩;have s2:IntKind.i64.wrap (room-(fz:Int)+(np:Int))=rm2:=by rw[IntKind.wrap_i64];omega
    rw[<-f5] at b0;have a2:Hid ((np:Int)<=rm2/\rm2<=4096/\rm2+(fz:Int)=room+(np:Int)):=aB aA;have e7:=aB c3;have o3:=aB (fun (W:World) (hB:Below w3.heap.size w3 W)=>fP (A:=Ap) (n:=np) (c:=cp) (w:=W) (bJ.keep HP.o (R':=(· < W.heap.size)) fun q hq=>⟨Nat.lt_of_lt_of_le hq.1 hB.size,fun o=>hB.cell (p:=⟨q,o,S⟩) hq.1⟩) n1.o.1);have q9:=aB (fun (W:World) (hB:Below w3.heap.size w3 W)=>qV (v8.o.below hB) (by have:=r5.o;omega));rw[<-c3] at q9;obtain⟨r2,a9⟩ : ∃r,r=mD b cv q k' (bU p) rm2:=⟨_,rfl⟩;rw[<-a9] at b0;have n3:Hid (r2 ≠ .bad 99):=aB (fun e=>r7.o (by rw[b0.o,e]));have v1:=aB (HW.o.moved j5.o i5.o);have r4:=aB (fun (W:World) (hB:Below w3.heap.size w3 W) (A4 B4:Option Addr) (n4 c4 m4 d4 l4:Nat) (h3l:w3.heap.size<=l4) (hl:l4<=W.heap.size) (h9:fE l4 W (bU p) A4 n4 c4 B4 m4 d4)=>IH.o q (by have:=HQ.o;omega) W (bU p) A4 B4 n4 c4 m4 d4 l4 k' rm2 (v1.o.below hB) aA hl h9 (kI n1.o.1) (by rw[i1.o,g7.o];exact a2.o.1) a2.o.2.1 n9.o (by rw[<-a9];exact n3.o));rw[<-a9] at r4;have m5:=aB a9;have k4:w.heap.size ≠ g:=aA;have b6:w.heap.size+1 ≠ g:=aA;clear k1 d3 j0 g1 j1 c3 h1 h2 h4 f5 a9;go_upto_region 3 with fail
    refine fQ 14 (fun w'=>∀q,q<w3.heap.size->q ≠ g->w'.heap[q]? = w3.heap[q]?) aC ?_ (fun hZ => ?_)
    · (try dsimp only);exact fun q _ _=>rfl
    have p0:Hid (Below w3.heap.size w3 w3.drew):=aB (aT (Below.refl _ _) 1);generalize w3.drew=W1 at *;refine bA (i:=0) (v := ?_) rfl aC aC aC aC aC (fun _ _ _ h=>h) (Or.inl ⟨by rfl,fun wq hSw => ?_⟩) hZ ?_;rotate_left
    · (have s0:=(aQ (hSw (w.heap.size) b5 aA) 0).trans (i6 0);have s1:=(aQ (hSw (w.heap.size) b5 aA) 1).trans (i6 1);go_simp;try with_reducible rfl)
    try simp only[p7]
    refine bA (i:=1) (v := ?_) rfl aC aC aC aC aC (fun _ _ _ h=>h) (Or.inl ⟨by rfl,fun wq hSw => ?_⟩) hZ ?_;rotate_left
    · (go_simp;try with_reducible rfl)
    try simp only[p7]
    refine bA (i:=2) (v := ?_) rfl aC aC aC aC aC (fun _ _ _ h=>h) (Or.inl ⟨by rfl,fun wq hSw => ?_⟩) hZ ?_;rotate_left
    · (go_simp;try with_reducible rfl)
    try simp only[p7]
    refine bA (i:=4) (v := ?_) rfl aC aC aC aC aC (fun _ _ _ h=>h) (Or.inl ⟨by rfl,fun wq hSw => ?_⟩) hZ ?_;rotate_left
    · (go_simp;try with_reducible rfl)
    try simp only[p7]
    refine bA (i:=5) (v := ?_) rfl aC aC aC aC aC (fun _ _ _ h=>h) (Or.inl ⟨by rfl,fun wq hSw => ?_⟩) hZ ?_;rotate_left
    · (have s0:=(aQ (hSw (w.heap.size) b5 aA) 0).trans (i6 0);have s1:=(aQ (hSw (w.heap.size) b5 aA) 1).trans (i6 1);go_simp;try with_reducible rfl)
    try simp only[p7]
    refine bA (i:=8) (v := ?_) rfl aC aC aC aC aC (fun _ _ _ h=>h) (Or.inl ⟨by rfl,fun wq hSw => ?_⟩) hZ ?_;rotate_left
    · (go_simp;try with_reducible rfl)
    try simp only[p7]
    refine bA (i:=9) (v := ?_) rfl aC aC aC aC aC (fun _ _ _ h=>h) (Or.inl ⟨by rfl,fun wq hSw => ?_⟩) hZ ?_;rotate_left
    · (go_simp;try with_reducible rfl)
    try simp only[p7]
    refine bQ (i:=3) aC rfl rfl (fun K hK => ?_);go_simp;go_at_call 42
    refine (o3.o _ p0.o).mono ?_;rintro en w4 ⟨l5,A4,n4,c4,B4,m4,d4,rfl,q4⟩;have j8:Hid (Below w3.heap.size w3 w4):=bZ p0 l5;have x1:=aB q4;have k9:w3.heap.size<=W1.heap.size:=p0.o.size;have k8:W1.heap.size<=w4.heap.size:=l5.size;clear l5 q4;go_wp2_with fail;refine hK.o _ _ (fun _ => ?_) ?_
    · (try dsimp only);exact fun (q:Nat) (h1:q<w3.heap.size) (_:q ≠ g)=>j8.o.block q h1
    clear hK K;try simp only[p7]
    replace hZ:=fun (q:Nat) (h1:q<w3.heap.size) (_:q ≠ g)=>j8.o.block q h1
    refine bQ (i:=6) aC rfl rfl (fun K hK => ?_);go_simp;go_at_call 73
    refine (q9.o _ j8.o).mono ?_;rintro en w5 ⟨rfl,j3⟩;have j7:Hid (Below w3.heap.size w3 w5):=bZ j8 j3;have x0:=aB (x1.o.below j3);have k7:W1.heap.size<=w5.heap.size:=Nat.le_trans k8 j3.size;clear j3;go_wp2_with fail;refine hK.o _ _ (fun _ => ?_) ?_
    · (try dsimp only);exact fun (q:Nat) (h1:q<w3.heap.size) (_:q ≠ g)=>j7.o.block q h1
    clear hK K;try simp only[p7]
    replace hZ:=fun (q:Nat) (h1:q<w3.heap.size) (_:q ≠ g)=>j7.o.block q h1
    refine bA (i:=7) (v := ?_) rfl aC aC aC aC aC (fun _ _ _ h=>h) (Or.inl ⟨by rfl,fun wq hSw => ?_⟩) hZ ?_;rotate_left
    · (go_simp;try with_reducible rfl)
    try simp only[p7]
    refine bA (i:=10) (v := ?_) rfl aC aC aC aC aC (fun _ _ _ h=>h) (Or.inl ⟨by rfl,fun wq hSw => ?_⟩) hZ ?_;rotate_left
    · (go_simp;try with_reducible rfl)
    try simp only[p7]
    refine bQ (i:=11) aC rfl rfl (fun K hK => ?_);go_simp;go_at_call 60
    refine (r4.o _ j7.o A4 B4 n4 c4 m4 d4 _ k9 k7 x0.o).mono ?_;rintro en w6 ⟨k6,h6⟩;have d0:Hid (bE (fun q=>q=g) S w3 w6):=aB ((bE.of_below j7.o).trans (row':=S) k6 (fun _ e=>by cases e));rcases h6 with⟨z,f1,rfl⟩ | ⟨y,k2,A6,n6,c6,B6,m6,d6,f1,rfl,l3,p9⟩
    · have a0:Hid (res=.bad z):=aB (by rw[b0.o,f1]);clear f1 k6;go_wp2_with fail;exact⟨rfl,j5.o.trans (row':=S) d0.o (fun _ e=>by cases e),.inl ⟨z,a0.o,rfl⟩⟩
    have a6:=aB (rR HR.o HC.o q k' (bU p) rm2 (kI n1.o.1) (by rw[i1.o,g7.o];exact a2.o.1) a2.o.2.1 y k2 (m5.o.symm.trans f1));have a0:Hid (res=AG b cv q k2 (dU f' (fI y)) room):=aB (by rw[b0.o,f1]);have a5:=aB p9;have k0:dK y<=4096:=by have:=a6.o.2.1;have:=a2.o.2.1;omega
    have s9:=l3.len.2;have t3:=eH.argsLen a6.o.1 k0;have v6:=aB (l3.read (g:=g) aA aA);have m1:=aB k0;have e8:=aB (i2.o.movedG l1 d0.o);have x8:=d0.o.size;clear f1 k6 l3 p9 k0 s9 t3;go_wp2_with fail;refine hK.o _ _ (fun _ => ?_) ?_
    · (try dsimp only);exact fun (q:Nat) (h1:q<w3.heap.size) (h2:q ≠ g)=>d0.o.block q h1 h2 aD
    clear hK K;try simp only[p7]
    replace hZ:=fun (q:Nat) (h1:q<w3.heap.size) (h2:q ≠ g)=>d0.o.block q h1 h2 aD
    refine bQ (i:=12) aC rfl rfl (fun K hK => ?_);go_simp;go_at_call 43
    refine (pN v6.o a6.o.1).mono ?_;rintro en w7 ⟨b9,h7⟩;have g8:Hid (bE (fun q=>q=g) S w3 w7):=aB (d0.o.trans (row':=S) (bE.of_below b9) (fun _ e=>by cases e));rcases h7 with⟨_,A7,n7,c7,rfl,p2,_⟩ | ⟨b8,rfl⟩;rotate_left
    · exact absurd b8 (by have:=m1.o;omega)
    have t8:=aB (p2.keep (R':=fun q=>lo<=q/\q<w7.heap.size) (w':=w7) fun q hq=>⟨⟨by have:=hq.1;omega,hq.2⟩,fun _=>rfl⟩);have o6:=aB (e8.o.below b9);have i4:=aB (a5.o.below b9 a5.o.lt);have x7:=b9.size;clear b9 p2;go_wp2_with fail;refine hK.o _ _ (fun _ => ?_) ?_
    · (try dsimp only);exact fun (q:Nat) (h1:q<w3.heap.size) (h2:q ≠ g)=>g8.o.block q h1 h2 aD
    clear hK K;try simp only[p7]
    replace hZ:=fun (q:Nat) (h1:q<w3.heap.size) (h2:q ≠ g)=>g8.o.block q h1 h2 aD
    refine bQ (i:=13) aC rfl rfl (fun K hK => ?_);go_simp;go_at_call 74
    refine (wK aA o6.o i3.o r5.o r1.o (by have h9:=a6.o.2.1;have h8:=a2.o.2.2;have h7:=e5.o;have h6:=g7.o;have h5:=e7.o;have h4:=fY y;omega) t8.o (a6.o.1.fit m1.o)).mono ?_;rintro en w8 ⟨e1,A8,n8,c8,B8,m8,d8,rfl,q2⟩;have c9:Hid (bE (fun q=>q=g) S w3 w8):=aB (g8.o.trans (row':=S) (bE.of_below e1) (fun _ e=>by cases e));have o5:=aB q2;have f0:=aB (i4.o.below e1 i4.o.lt);clear e1 q2;have a1:=aB (g2.o.moved c9.o k4 aD);have e3:=aB (g3.o.moved c9.o b6 aD);have z8:=a1.o.cell;have f8:=a1.o.frozen;go_wp2_with fail;refine hK.o _ _ (fun _ => ?_) ?_
    · (try dsimp only);exact fun (q:Nat) (h1:q<w3.heap.size) (h2:q ≠ g)=>c9.o.block q h1 h2 aD
    clear hK K;try simp only[p7]
    replace hZ:=fun (q:Nat) (h1:q<w3.heap.size) (h2:q ≠ g)=>c9.o.block q h1 h2 aD
    refine bQ (i:=14) aC rfl rfl (fun K hK => ?_);go_simp;refine hK.o _ _ (fun h=>absurd rfl h) ?_;clear hK K;try simp only[p7]
    refine gK aC ?_ _;have q5:=aB (i9 i3.o r1.o (a6.o.1.fit m1.o) (by have h9:=a6.o.2.1;have h8:=a2.o.2.2;have h7:=e5.o;have h6:=g7.o;have h5:=e7.o;have h4:=fY y;omega));have t7:Hid ((dK (dU f' (fI y)):Int)<=room):=aB (by have h0:=q5.o.2;have h9:=a6.o.2.1;have h8:=a2.o.2.2;have h7:=e5.o;have h6:=g7.o;have h5:=e7.o;have h4:=fY y;omega);go_wp2_with fail;go_meet;refine⟨dU f' (fI y),k2,A8,B8,n8,c8,m8,d8,a0,aB a6.o.2.2,aB (((j5.o.trans (row':=S) c9.o (fun _ e=>by cases e)).setNew (p:=⟨w.heap.size,0,S⟩) (Nat.le_refl _) _).setNew (p:=⟨w.heap.size,1,S⟩) (Nat.le_refl _) _),aB ((f0.o.far (p:=⟨w.heap.size,0,S⟩) (fun e=>k4 e.symm) _).far (p:=⟨w.heap.size,1,S⟩) (fun e=>k4 e.symm) _),aB (by have:=(a1.o.set_ 0 (O A8 n8 c8)).set_ 1 (O B8 m8 d8);simpa using this),aB ((e3.o.far (p:=⟨w.heap.size,0,S⟩) aD _).far (p:=⟨w.heap.size,1,S⟩) aD _),aB (o5.o.box2 a1.o _ _),aB q5.o.1,t7⟩
  case rest =>
  obtain⟨f2,k2,A2,B2,n2,c2,m2,d2,c5,o0,g9,b2,e2,e4,c1,b1,m3⟩:=hcut;obtain⟨w5,rfl⟩ : ∃x:World,x=wc:=⟨_,rfl⟩;have p1:=e2.o.cell;have e6:=aB (HW.o.moved g9.o b2.o);have k5:=c1.o.len.2;have d9:dK f2<=4096:=by have:=m3.o;have:=e5.o;omega
  have l6:=eH.argsLen b1.o d9;have o2:=aB d9;have o1:=aB (c1.o.read i0.o aA);have b4:w.heap.size<w5.heap.size:=e2.o.lt;have f7:w.heap.size+1<w5.heap.size:=e4.o.lt;have d5:g<w5.heap.size:=b2.o.lt;have p5:m2<=d2:=by obtain⟨_,xs,h2,_⟩:=c1.o;exact tZ h2
  have v3:=aB p5;clear k5 d9 l6 p5;by_cases hrd:bW b cv f2=true;rotate_left
  · have n0:=aB hrd;have a0:Hid (res=.done f2 k2):=aB (c5.o.trans (KR hrd));have m9:Hid (Calls Tryz.prog 69 #[.pointer (some ⟨g,0,S⟩),.agg #[O A2 n2 c2,O B2 m2 d2]] w5 (gC false w5)):=aB (by rw[<-Bool.eq_false_iff.2 hrd];exact lQ HR.o o9.o HC.o e6.o o1.o b1.o);clear hrd;go_wp2_with fail;refine (m9.o).mono ?_;rintro en w6 ⟨rfl,a4⟩;have f3:=aB a4;have r8:=fun i=>(a4.cell (p:=⟨w.heap.size,i,S⟩) b4).trans (p1 i);have c0:=aB (e4.o.below a4 f7);have a5:=aB (b2.o.below a4 d5);have e8:=aB (c1.o.below a4);have d0:Hid (bE (fun q=>q=g) S w w6):=aB (g9.o.trans (row':=S) (bE.of_below a4) (fun _ e=>by cases e));have z6:=c0.o.cell;have f6:=c0.o.frozen;have b6:g ≠ w.heap.size+1:=aA;clear a4;go_wp2_with fail;refine bodyPost_ret (v:=.agg #[O A2 n2 c2,O B2 m2 d2]) (zW (g:=w.heap.size+1) (by have:=(c0.o.set_ 0 (O A2 n2 c2)).set_ 1 (O B2 m2 d2);simpa using this) aD) rfl ⟨?_,.inr ⟨f2,k2,A2,n2,c2,B2,m2,d2,a0.o,rfl,?_,?_⟩⟩
    · exact (d0.o.setNew (p:=⟨w.heap.size+1,0,S⟩) (Nat.le_succ _) _).setNew (p:=⟨w.heap.size+1,1,S⟩) (Nat.le_succ _) _
    · exact e8.o.box2 c0.o _ _
    exact (a5.o.far (p:=⟨w.heap.size+1,0,S⟩) b6 _).far (p:=⟨w.heap.size+1,1,S⟩) b6 _
  have n0:=aB hrd;have q6:Hid (res=if k2=0 then .bad 10 else match jD b cv f2 with
   | none=>.bad 9
   | some y=>if room<(dK y:Int) then .bad 9 else mD b cv q (k2-1) y room):=aB (c5.o.trans (KQ hrd))
  have m9:Hid (Calls Tryz.prog 69 #[.pointer (some ⟨g,0,S⟩),.agg #[O A2 n2 c2,O B2 m2 d2]] w5 (gC true w5)):=aB (by rw[<-hrd];exact lQ HR.o o9.o HC.o e6.o o1.o b1.o);clear hrd;go_wp2_with fail;refine (m9.o).mono ?_;rintro en w6 ⟨rfl,a4⟩;have f3:=aB a4;have r8:=fun i=>(a4.cell (p:=⟨w.heap.size,i,S⟩) b4).trans (p1 i);have a5:=aB (b2.o.below a4 d5);have x5:=a5.o.cell;have s4:w.heap.size<w6.heap.size:=Nat.lt_of_lt_of_le b4 a4.size;clear a4;by_cases hk0:k2=0
  · have a0:Hid (res=.bad 10):=aB (by rw[q6.o,if_pos hk0]);have v2:Hid (bE (fun q=>q=g) S w w6):=aB (g9.o.trans (row':=S) (bE.of_below f3.o) (fun _ e=>by cases e));subst hk0;go_wp2_with fail;exact⟨rfl,v2.o,.inl ⟨10,a0.o,rfl⟩⟩
  have g5:Hid (res=match jD b cv f2 with
   | none=>.bad 9
   | some y=>if room<(dK y:Int) then .bad 9 else mD b cv q (k2-1) y room):=aB (by have h:=q6.o;rw[if_neg hk0] at h;exact h)
  have dk0:((k2:Int)==0)=false:=by simpa using hk0
  obtain⟨kq,p8⟩ : ∃kq:Nat,kq+1=k2:=⟨k2-1,by omega⟩;have x6:IntKind.i64.wrap ((k2:Int)-1)=(kq:Int):=by have:=o0.o;have:=n9.o;rw[IntKind.wrap_i64];omega
  have n5:=aB p8;clear p8;go_wp2_with fail;refine (BC HR.o o9.o HC.o x2.o (e6.o.below f3.o) (o1.o.below f3.o) b1.o v3.o o2.o n0.o).mono ?_;rintro en w7 ⟨b9,h7⟩;have r6:Hid (Below w5.heap.size w5 w7):=bZ f3 b9;have g8:Hid (bE (fun q=>q=g) S w w7):=aB (g9.o.trans (row':=S) (bE.of_below r6.o) (fun _ e=>by cases e));rcases h7 with⟨y,hy,A7,n7,c7,B7,m7,d7,rfl,q3⟩ | ⟨hy,rfl⟩;rotate_left
  · have a0:Hid (res=.bad 9):=aB (by rw[g5.o,hy]);clear b9 hy;go_wp2_with fail;exact⟨rfl,g8.o,.inl ⟨9,a0.o,rfl⟩⟩
  have o8:=aB (q3.base (lo':=lo) (by have:=f3.o.size;omega));have i8:=nL HR.o HC.o b1.o n0.o hy;have a6:=aB i8;have g4:Hid (res=if room<(dK y:Int) then .bad 9 else mD b cv q (k2-1) y room):=aB (by rw[g5.o,hy]);have t0:=o8.o.len.2;have t4:=eH.argsLen i8.1 i8.2;have v7:=aB (o8.o.read i0.o aA);clear b9 q3 hy i8 t0 t4;go_wp2_with fail;refine (rV v7.o (by have:=a6.o.2;omega) room).mono ?_;rintro en w8 ⟨e1,h8⟩;have j6:Hid (Below w5.heap.size w5 w8):=bZ r6 e1;have c9:Hid (bE (fun q=>q=g) S w w8):=aB (g9.o.trans (row':=S) (bE.of_below j6.o) (fun _ e=>by cases e));have w9:=aB (o8.o.below e1);clear e1;rcases h8 with⟨e0,rfl⟩ | ⟨b8,rfl⟩;rotate_left
  · have a0:Hid (res=.bad 9):=aB (by rw[g4.o,if_pos b8]);clear b8;go_wp2_with fail;exact⟨rfl,c9.o,.inl ⟨9,a0.o,rfl⟩⟩
  have t9:Hid (res=mD b cv q kq y room):=aB (by have h:=g4.o;have h9:=n5.o;rw[if_neg e0,show k2-1=kq from by omega] at h;exact h);have o7:=aB e0;have a1:=aB (e2.o.below j6.o b4);have e3:=aB (e4.o.below j6.o f7);have f0:=aB (b2.o.below j6.o d5);have z8:=a1.o.cell;have f8:=a1.o.frozen;have l0:g ≠ w.heap.size:=aA;have t2:g ≠ w.heap.size+1:=aA;have e9:Hid (aS ((w8.setCell ⟨w.heap.size,0,S⟩ (O A7 n7 c7)).setCell ⟨w.heap.size,1,S⟩ (O B7 m7 d7)) g 76 (N7 v b cA cn cc k2)):=aB ((f0.o.far (p:=⟨w.heap.size,0,S⟩) l0 _).far (p:=⟨w.heap.size,1,S⟩) l0 _);have x4:=e9.o.cell;have y1:=e9.o.frozen;have l9:Hid (aS ((w8.setCell ⟨w.heap.size,0,S⟩ (O A7 n7 c7)).setCell ⟨w.heap.size,1,S⟩ (O B7 m7 d7)) w.heap.size 78 #[O A7 n7 c7,O B7 m7 d7]):=aB (by have:=(a1.o.set_ 0 (O A7 n7 c7)).set_ 1 (O B7 m7 d7);simpa using this);have m0:Hid (aS ((w8.setCell ⟨w.heap.size,0,S⟩ (O A7 n7 c7)).setCell ⟨w.heap.size,1,S⟩ (O B7 m7 d7)) (w.heap.size+1) 78 #[O S 0 0,O S 0 0]):=aB ((e3.o.far (p:=⟨w.heap.size,0,S⟩) aD _).far (p:=⟨w.heap.size,1,S⟩) aD _);have o4:=aB (w9.o.box2 a1.o (O A7 n7 c7) (O B7 m7 d7));have v4:Hid (bE (fun q=>q=g) S w ((w8.setCell ⟨w.heap.size,0,S⟩ (O A7 n7 c7)).setCell ⟨w.heap.size,1,S⟩ (O B7 m7 d7))):=aB ((c9.o.setNew (p:=⟨w.heap.size,0,S⟩) (Nat.le_refl _) _).setNew (p:=⟨w.heap.size,1,S⟩) (Nat.le_refl _) _);clear e0;go_upto_region 9 with fail
  generalize ((w8.setCell ⟨w.heap.size,0,S⟩ (O A7 n7 c7)).setCell ⟨w.heap.size,1,S⟩ (O B7 m7 d7))=W9 at *;go_wp2_with fail;have d1:Hid (aS (W9.setCell ⟨g,6,S⟩ (.int .i64 (kq:Int))) g 76 (N7 v b cA cn cc kq)):=aB (by have:=e9.o.set_ 6 (.int .i64 (kq:Int));simpa[N7] using this);go_roundw
  case rel =>
   refine aB ?_;rw[r0.o];refine⟨q,kq,y,A7,B7,n7,c7,m7,d7,t9.o,by have:=HQ.o;omega,by have:=n5.o;have:=o0.o;have:=n9.o;omega,v4.o.setCell (p:=⟨g,6,S⟩) rfl _,d1.o,l9.o.far (p:=⟨g,6,S⟩) (fun e=>l0 e.symm) _,m0.o.far (p:=⟨g,6,S⟩) (fun e=>t2 e.symm) _,o4.o.set i0.o _ _,a6.o.1,by have:=o7.o;omega⟩
  case measure =>
   have h1:=tJ d1.o;have h2:=v9.o;have h3:=n5.o;have h4:=o0.o;omega
end Go.Proofs.YtjoddliplahgkaaGreat
