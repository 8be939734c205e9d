/- Merged: SenseV, SenseU. -/
import Derived.Test.YtjllmblbbgojbaaGreatXSenseB
namespace Go.Proofs.YtjllmblbbgojbaaGreat
set_option linter.unusedVariables false
set_option linter.unusedSimpArgs false
open Go.RowKit
open Go.Value renaming slice → O
open Option renaming none → X, some → Y
open Go.Obj renaming cells → Z
section
open Go.Lib renaming hid->aB
theorem EZ {w:World} {base z n c:Nat} {e:TypeId} {A:Option Addr} {vs:List Value} (h:w.ownsRow base e z (O A n c) n vs) {i:Nat} {u:Value} (hu:vs[i]? = Y u) : ∃g,A=Y ⟨g,0,X⟩/\g<w.heap.size/\base<=g/\w.cell? ⟨g,i,X⟩=Y u:=by
 have hl:=h.1;have hi:i<vs.length:=(List.getElem?_eq_some_iff.1 hu).1;rcases h.2 with⟨_,h2⟩ | ⟨g,cap',cur,hv,hg,hh,_⟩
 · subst h2;have:vs.length=0:=by simpa using hl
   omega
 injection hv with e1 e2 e3;subst e1;have h3:=aR h (g:=g) rfl;exact⟨g,rfl,h3.2.1,h3.1,iP h hu⟩
theorem vJ {x:TT} (h:mB x):mB (dL x).1/\(dL x).1.1.op ≠ 6/\∀y ∈ (dL x).2,mB y/\cL y<cL x:=by
 obtain⟨e1,e2,_,e4,_⟩:=zT (cL x) x h (Nat.le_refl _);exact⟨e1,e2,e4⟩
set_option maxRecDepth 100000 in
set_option maxHeartbeats 8000000 in
theorem CY {m:Nat} (H:∀(w:World) (A:Option Addr) (n c:Nat) (x:TT),bB w A n c (aY x)->mB x->cL x<=m->Calls Tryz.prog 18 #[O A n c] w (fP (dC x) w))
 {w:World} {A:Option Addr} {n c:Nat} {x:TT} (ht:bB w A n c (aY x)) (hrt:mB x) (hm:cL x<=m+1) :
 Calls Tryz.prog 18 #[O A n c] w (fP (dC x) w):=by
 have HAP:=aB (mC ht hrt);have hV:=mV x;obtain⟨hr1,hr6,hr2⟩:=vJ hrt;have HR2:=aB (fun y hy=>(⟨(hr2 y hy).1,by have:=(hr2 y hy).2;omega⟩:mB y/\cL y<=m));have hpb:(dL x).1.1.op=12->0<=dX (dL x).1/\dX (dL x).1<16:=fun h12=>lW ⟨(Rt.wf hr1).1,(Rt.wf hr1).2.1,(Rt.wf hr1).2.2⟩ h12;have hLb:(dL x).2.length<=4096:=by
  have h3:(dL x).2.length<cL x:=j8 (cL x) x hrt;have h4:cL x<=4096:=hrt.few;omega
 generalize dL x=qq at *;obtain⟨F,L⟩:=qq;simp only at hV hr1 hr6 HR2 HAP hpb hLb;have HRF:=aB hr1;have HV:=aB hV;generalize dC x=res at *;have HH:=aB H;have HT:=aB (fun (w':World) (h:Below w.heap.size w w')=>ht.below h);have HL0:Hid (L.isEmpty=((L.length:Int)==0)):=aB (by cases L<;>simp<;>omega);obtain⟨k,hk⟩ : ∃k,k=L.length:=⟨_,rfl⟩;have HK:=aB hk;unfold pE at HAP;simp only at HAP;rw[<-hk] at HAP hLb HL0;generalize aY x=tx at *;clear hV hr1 hr2 H ht hrt hm hk;go_in;go_wp2_with fail;refine (HAP.o).mono ?_;rintro e w1 ⟨hd1,A1,n1,c1,B,d,vs,rfl,hpc,hown,hps⟩;have hbs:=hd1.size;have HB2:=aB (hd1.trans ((aP w1 (Z #[O A1 n1 c1,O B k d] 83)).mono hbs));have HKS:=aB (aS.new w1 83 #[O A1 n1 c1,O B k d]);have HOW:=aB (bL hown (aP w1 (Z #[O A1 n1 c1,O B k d] 83)));have HPS:=aB hps;have htf:bB (w1.alloc (Z #[O A1 n1 c1,O B k d] 83)) A1 n1 c1 (aY F):=hpc _ _ (HT.o _ HB2.o);have HTF:=aB htf;have hn1:0<n1:=by rw[<-htf.len];simp[aY]
 obtain⟨bf,of,rfl,hbf,hcf,_,_⟩:=bB.at_ htf hn1;rw[Nat.zero_mul,Nat.add_zero,show bD (aY F) 0=F.1 from rfl] at hcf;obtain⟨op,hop⟩ : ∃op,op=F.1.op:=⟨_,rfl⟩;have HOP:=aB hop;rw[<-hop] at hcf hr6 hpb;have HV2:=HV.o;rw[<-hop] at HV2;have HV3:=aB HV2;clear hd1 hown hps htf HV2 hop hbs;by_cases ha:op=5\/op=4\/op=2
 · have HRES:Hid (res=((k:Int)==0)):=aB (by rw[HV3.o,if_pos ha,HL0.o]);rcases ha with rfl | rfl | rfl;all_goals
    go_wp2_with fail;go_ret;rw[HRES.o];exact⟨rfl,HB2.o⟩
 have b5:(op==5)=false:=beq_eq_false_iff_ne.2 aA;have b4:(op==4)=false:=beq_eq_false_iff_ne.2 aA;have b2:(op==2)=false:=beq_eq_false_iff_ne.2 aA;by_cases h12:op=12
 · obtain⟨hp0,hp16⟩:=hpb h12;have HPO:=aB (fun (w':World) (h:Below w.heap.size w w')=>oZ (hpc _ _ (HT.o w' h)) HRF.o (by rw[<-HOP.o];exact h12));have HV4:Hid (res=(decide ((k:Int)<=dX F)&&L.all dC)):=aB (by rw[HV3.o,if_neg ha,if_pos h12,HK.o]);generalize dX F=pz at *;have b12:(op==12)=true:=beq_iff_eq.2 h12;have HBd:=aB (aV HB2.o 1);have HKd:=aB (HKS.o.drewN 1);have zk0:(w1.alloc (Z #[O (Y ⟨bf,of,X⟩) n1 c1,O B k d] 83)).drew.cell? ⟨w1.heap.size,0,X⟩=Y (O (Y ⟨bf,of,X⟩) n1 c1):=HKd.o.cell 0;have zk1:(w1.alloc (Z #[O (Y ⟨bf,of,X⟩) n1 c1,O B k d] 83)).drew.cell? ⟨w1.heap.size,1,X⟩=Y (O B k d):=HKd.o.cell 1;clear h12 ha hpb;go_wp2_with fail;refine wp_region_held_drew (S:=(fun w'=>w'.cell? ⟨w1.heap.size,0,X⟩=Y (O (Y ⟨bf,of,X⟩) n1 c1)/\w'.cell? ⟨w1.heap.size,1,X⟩=Y (O B k d))) aC ?_ (fun hZ => ?_)
   · (try dsimp only);exact⟨zk0,zk1⟩
   refine aL 0 hZ ?_;refine aL 1 hZ ?_;refine aL 2 hZ ?_;refine aL 3 hZ ?_;refine aL 4 hZ ?_;refine r1 5 fun K hK => ?_;go_simp;go_at_call 34
   refine (HPO.o _ HBd.o).mono ?_;rintro e W5 ⟨rfl,hd5⟩;have HB5:=dA HBd hd5;have HK5:=gK HKd hd5;have HD5:Hid (Below (w1.alloc (Z #[O (Y ⟨bf,of,X⟩) n1 c1,O B k d] 83)).heap.size (w1.alloc (Z #[O (Y ⟨bf,of,X⟩) n1 c1,O B k d] 83)) W5):=aB ((aV (Below.refl _ _) 1).trans hd5);clear hd5;go_wp2_with fail;refine hK.o _ _ (by exact⟨HK5.o.cell 0,HK5.o.cell 1⟩) fun hZ => ?_;clear hK K;try simp only[p7]
   refine aL 6 hZ ?_;refine wpAnyH_done aC ?_ _;by_cases hle:(k:Int)<=pz;case neg =>
    have d1:pz<(k:Int):=aA;have HRES:Hid (res=false):=aB (by rw[HV4.o,decide_eq_false hle,Bool.false_and]);clear hle;go_wp2_with fail;go_ret;rw[HRES.o];exact⟨rfl,HB5.o⟩
   have d1:decide (pz<(k:Int))=false:=decide_eq_false aA;have d3:(k:Int)<=pz:=hle;have HRES:Hid (res=L.all dC):=aB (by rw[HV4.o,decide_eq_true hle,Bool.true_and]);have zk:=aS.cell HK5.o;have HOW5:=aB (bL HOW.o HD5.o);clear hle zk0 zk1 hcf;obtain⟨w5,rfl⟩ : ∃x:World,x=W5:=⟨_,rfl⟩;go_wp2_with fail
   (try simp only[d1])
   go_loopw [36] (fun iv wr=>∃i:Nat,iv=.int .i64 (i:Int)/\i<=k/\Hid ((L.take i).all dC=true)/\Hid (Below w.heap.size w wr)/\Hid (Below w5.heap.size w5 wr)) (fun iv _=>k-(intOf iv).toNat)
   case atStart=>exact⟨0,rfl,by omega,aB rfl,HB5,aB (Below.refl _ _)⟩
   case round =>
    obtain⟨i,rfl,hi,hall,hbw,hb5⟩:=hrel;by_cases hlt:i<k;rotate_left
    · have y1:decide ((i:Int)<(k:Int))=false:=decide_eq_false aA;have y2:decide (i<k)=false:=decide_eq_false hlt;have HRF2:Hid (res=true):=aB (by
       have h1:=hall.o;rw[List.take_of_length_le (by rw[<-HK.o];omega)] at h1;rw[HRES.o,h1])
      clear hlt;go_wp2_with fail;go_ret;rw[HRF2.o];exact⟨rfl,hbw.o⟩
    have y1:decide ((i:Int)<(k:Int))=true:=decide_eq_true aA;have y2:decide (i<k)=true:=decide_eq_true hlt;have hil:i<L.length:=by rw[<-HK.o];exact hlt
    obtain⟨A3,n3,c3,hv,hp3⟩:=gY.at_ i HPS.o hil;obtain⟨g,hBg,hg,_,hcg⟩:=EZ HOW5.o hv;subst hBg;have hcg2:=(hb5.o.cell (p:=⟨g,i,X⟩) hg).trans hcg;have HRY:=HR2.o L[i] (List.getElem_mem hil);have HC:=aB (HH.o wr A3 n3 c3 L[i] (hp3 _ _ (HT.o wr hbw.o)) HRY.1 HRY.2);have htk:(L.take (i+1)).all dC=((L.take i).all dC&&dC L[i]):=by
     rw[List.take_succ_eq_append_getElem hil,List.all_append];simp
    have hdr:L.all dC=((L.take (i+1)).all dC&&(L.drop (i+1)).all dC):=by rw[<-List.all_append,List.take_append_drop]
    have HTK:=aB htk;have HDR:=aB hdr;have hi0:(0:Int)<=(i:Int):=aA;have hi1:(i:Int)<(k:Int):=aA;obtain⟨vy,hvy⟩ : ∃v,v=dC L[i]:=⟨_,rfl⟩;rw[<-hvy] at HC HTK;clear hcg hv hp3 HRY htk hdr hvy hil;go_wp2_with fail;refine (HC.o).mono ?_;rintro e w7 ⟨rfl,hd7⟩;have HB7:=dA hbw hd7;have HB57:=dA hb5 hd7;clear hd7 hcg2;cases vy with
    | true =>
     have HAL:Hid ((L.take (i+1)).all dC=true):=aB (by rw[HTK.o,hall.o];rfl);go_wp2_with fail;go_roundw
     case rel=>exact⟨i+1,by go_num,by omega,HAL,HB7,HB57⟩
     case measure=>simp[intOf];omega
    | false =>
     have HRF2:Hid (res=false):=aB (by rw[HRES.o,HDR.o,HTK.o,Bool.and_false,Bool.false_and]);go_wp2_with fail;go_ret;rw[HRF2.o];exact⟨rfl,HB7.o⟩
 have b12:(op==12)=false:=beq_eq_false_iff_ne.2 h12;by_cases h9:op=9\/op=10;rotate_left
 · have b9:(op==9)=false:=beq_eq_false_iff_ne.2 aA;have b10:(op==10)=false:=beq_eq_false_iff_ne.2 aA;have HRES:Hid (res=false):=aB (by rw[HV3.o,if_neg ha,if_neg h12,if_neg h9]);clear ha h12 h9;go_wp2_with fail;go_ret;rw[HRES.o];exact⟨rfl,HB2.o⟩
 have HRES:Hid (res=L.all dC):=aB (by rw[HV3.o,if_neg ha,if_neg h12,if_pos h9]);have HB5:=HB2;have HOW5:=HOW;have zk:=aS.cell HKS.o;rcases h9 with rfl | rfl;all_goals
  go_wp2_with fail;go_loopw [36] (fun iv wr=>∃i:Nat,iv=.int .i64 (i:Int)/\i<=k/\Hid ((L.take i).all dC=true)/\Hid (Below w.heap.size w wr)/\Hid (Below (w1.alloc (Z #[O (Y ⟨bf,of,X⟩) n1 c1,O B k d] 83)).heap.size (w1.alloc (Z #[O (Y ⟨bf,of,X⟩) n1 c1,O B k d] 83)) wr)) (fun iv _=>k-(intOf iv).toNat)
  case atStart=>exact⟨0,rfl,by omega,aB rfl,HB5,aB (Below.refl _ _)⟩
  case round =>
   obtain⟨i,rfl,hi,hall,hbw,hb5⟩:=hrel;by_cases hlt:i<k;rotate_left
   · have y1:decide ((i:Int)<(k:Int))=false:=decide_eq_false aA;have y2:decide (i<k)=false:=decide_eq_false hlt;have HRF2:Hid (res=true):=aB (by
      have h1:=hall.o;rw[List.take_of_length_le (by rw[<-HK.o];omega)] at h1;rw[HRES.o,h1])
     clear hlt;go_wp2_with fail;go_ret;rw[HRF2.o];exact⟨rfl,hbw.o⟩
   have y1:decide ((i:Int)<(k:Int))=true:=decide_eq_true aA;have y2:decide (i<k)=true:=decide_eq_true hlt;have hil:i<L.length:=by rw[<-HK.o];exact hlt
   obtain⟨A3,n3,c3,hv,hp3⟩:=gY.at_ i HPS.o hil;obtain⟨g,hBg,hg,_,hcg⟩:=EZ HOW5.o hv;subst hBg;have hcg2:=(hb5.o.cell (p:=⟨g,i,X⟩) hg).trans hcg;have HRY:=HR2.o L[i] (List.getElem_mem hil);have HC:=aB (HH.o wr A3 n3 c3 L[i] (hp3 _ _ (HT.o wr hbw.o)) HRY.1 HRY.2);have htk:(L.take (i+1)).all dC=((L.take i).all dC&&dC L[i]):=by
    rw[List.take_succ_eq_append_getElem hil,List.all_append];simp
   have hdr:L.all dC=((L.take (i+1)).all dC&&(L.drop (i+1)).all dC):=by rw[<-List.all_append,List.take_append_drop]
   have HTK:=aB htk;have HDR:=aB hdr;have hi0:(0:Int)<=(i:Int):=aA;have hi1:(i:Int)<(k:Int):=aA;obtain⟨vy,hvy⟩ : ∃v,v=dC L[i]:=⟨_,rfl⟩;rw[<-hvy] at HC HTK;clear hcg hv hp3 HRY htk hdr hvy hil;go_wp2_with fail;refine (HC.o).mono ?_;rintro e w7 ⟨rfl,hd7⟩;have HB7:=dA hbw hd7;have HB57:=dA hb5 hd7;clear hd7 hcg2;cases vy with
   | true =>
    have HAL:Hid ((L.take (i+1)).all dC=true):=aB (by rw[HTK.o,hall.o];rfl);go_wp2_with fail;go_roundw
    case rel=>exact⟨i+1,by go_num,by omega,HAL,HB7,HB57⟩
    case measure=>simp[intOf];omega
   | false =>
    have HRF2:Hid (res=false):=aB (by rw[HRES.o,HDR.o,HTK.o,Bool.and_false,Bool.false_and]);go_wp2_with fail;go_ret;rw[HRF2.o];exact⟨rfl,HB7.o⟩
theorem pQ:∀(m:Nat) (w:World) (A:Option Addr) (n c:Nat) (x:TT),bB w A n c (aY x)->mB x->cL x<=m->Calls Tryz.prog 18 #[O A n c] w (fP (dC x) w)
 | 0,_,_,_,_,(n,a,k),_,_,h=>by rw[eI] at h;omega
 | m+1,w,A,n,c,x,ht,hr,hm=>CY (pQ m) ht hr hm
end
section
open Go.Lib renaming hid->aB
set_option maxHeartbeats 8000000
set_option maxRecDepth 100000
abbrev F5 (w w':World) (q:Nat):Prop:=w.heap.size<=q/\q<w'.heap.size
def N4 (l:List Nd) (w:World) (e:Ending) (w':World):Prop:=Below w.heap.size w w'/\∃g c,e=.returned (O (Y ⟨g,0,X⟩) l.length c)/\bR w' w.heap.size (O (Y ⟨g,0,X⟩) l.length c) l
theorem CE {A:Option Addr} {n c:Nat} {l:List Nd} {w:World} (h:bB w A n c l) (h0:0<n) :
 Calls Tryz.prog 23 #[O A n c] w (N4 l w):=by
 have q22:∀(w:World) (a:Option Addr) (n c n' c':Nat),(binOp .eql 28 (O a n c) (O X n' c')).run Tryz.prog w=.ok (.bool a.isNone) w:=fun w a n c n' c'=>Lib.run_eql_slice_nil w _ _ a n c n' c' Tryz.underlying28;cases A with
 | none =>
  have h1:=h.nul rfl;have h2:=h.cap;omega
 | some a =>
  obtain⟨i0,hi,hy0,hy1,hy2⟩:=info_parts kW;have HI0:=aB hi;have HY0:=aB hy0;have HY1:=aB hy1;have HY2:=aB hy2;clear hi hy0 hy1 hy2;have hfew:=h.few;have hb0:=aP w (Z #[] 40);have hm:bB (w.alloc (Z #[] 40)) (Y a) n c l:=h.below hb0;have hown:bR (w.alloc (Z #[] 40)) w.heap.size (O (Y ⟨w.heap.size,0,X⟩) 0 0) []:=World.ownsRow_made w #[] 0 (Nat.le_refl _) (Nat.zero_le _) rfl;have HM:=aB hm;have HOWN:=aB hown;have HB:=aB hb0;have HLN:=aB h.len;clear hm hown hb0 h;go_in;go_wp2_with (at_builtin;go_loud (refine bM rfl (cQ (.tmp 5) (.tmp 6) 28 28 rfl w.heap.size i0 Tryz.underlying28 Tryz.underlying28 HI0.o HY0.o HY1.o HY2.o (O (Y ⟨w.heap.size,0,X⟩) 0 0) [] l rfl HOWN.o rfl HM.o (by simpa using hfew) aD ?_));intro A4 c4 w4 hown4 happ4)
  go_ret;simp only[List.length_nil,Nat.zero_add,List.nil_append] at hown4;have hown5:bR w4 w.heap.size (O A4 l.length c4) l:=by rw[HLN.o];exact hown4
  rcases hown5.2 with⟨_,h2⟩ | ⟨g,cap',cur,hv,_⟩
  · have:=HLN.o;omega
  · injection hv with e1 e2 e3;subst e1;exact⟨HB.o.grown happ4.grown HB.o.size (fun g hg=>(aR HOWN.o hg).1),g,c4,by rw[HLN.o];simp,hown5⟩
theorem NB {w:World} {base g c:Nat} {n0:Nd} {r:List Nd} (h:bR w base (O (Y ⟨g,0,X⟩) (n0::r).length c) (n0::r)) (hf:(n0::r).length<=5864062014805) (z:Int):bP (fun q=>q=g) (w.setCell ⟨g,1,X⟩ (.int .i64 z)) (Y ⟨g,0,X⟩) (n0::r).length c (⟨n0.op,z,n0.b⟩::r):=by
 have h0:=h;rcases h.2 with⟨hv,_⟩ | ⟨g',cap',cur,hv,hg,hh,hc,_⟩
 · cases hv
 injection hv with e1 e2 e3;injection e1 with e1;injection e1 with e1;subst e1;have hb:aS w g 40 cur:=hh;have hs:=hb.set_ 1 (.int .i64 z);refine⟨rfl,by omega,hf,(fun e=>by cases e),fun _=>⟨g,0,rfl,rfl,fun k hk => ?_⟩⟩;obtain⟨x1,x2,x3⟩:=j4 (n0::r) k hk;have c1:=iP h0 x1;have c2:=iP h0 x2;have c3:=iP h0 x3;rw[hb.cell] at c1 c2 c3;rw[Nat.zero_add,hs.cell,hs.cell,hs.cell];have hne:∀j:Nat,j ≠ 1->(cur.setIfInBounds 1 (.int .i64 z))[j]? = cur[j]?:=fun j hj=>by
  rw[Array.getElem?_setIfInBounds_ne (Ne.symm hj)]
 have h1lt:1<cur.size:=by
  obtain⟨y1,y2,_⟩:=j4 (n0::r) 0 aD;have:=iP h0 y2;rw[hb.cell] at this;exact (Array.getElem?_eq_some_iff.1 this).1
 cases k with
 | zero =>
  refine⟨by rw[hne _ aA];exact c1,?_,by rw[hne _ aA];exact c3⟩;rw[Nat.zero_mul,Nat.zero_add,Array.getElem?_setIfInBounds_self_of_lt h1lt];rfl
 | succ k =>
  refine⟨by rw[hne _ aA];exact c1,by rw[hne _ aA];exact c2,by rw[hne _ aA];exact c3⟩
def PD (res:TT×Int) (w:World) (e:Ending) (w':World):Prop:=Below w.heap.size w w'/\((res.2=0/\∃A' n' c',e=.returned (O A' n' c')/\bP (F5 w w') w' A' n' c' (aY res.1))\/(res.2 ≠ 0/\e=.panicked (EG res.2)))
theorem yJ {b:Bk} {A:Option Addr} {n c:Nat} {h:TT} {w:World} (ht:bB w A n c (aY h)) (hf:cM b 0 h) (h12:h.1.op=12) :
 Calls Tryz.prog 77 #[O A n c] w (PD (jE h) w):=by
 obtain⟨f1,f2,f3,f4,_⟩:=gN hf.okt h12;obtain⟨nb,hnb⟩ : ∃nb:Nat,h.1.b=(nb:Int):=⟨h.1.b.toNat,by omega⟩;obtain⟨ia,hia⟩ : ∃ia:Nat,h.1.a=(ia:Int):=⟨h.1.a.toNat,by omega⟩;obtain⟨y0,hy1,hy2,hy3,hy4⟩:=rZ hf h12 (⟨0,0,0⟩,[],.nil);rw[show h.1.a.toNat=ia from by omega] at hy1;rw[hnb,Int.toNat_natCast] at hy4;have hres:jE h=nT h nb y0:=by unfold jE;rw[hy2,hnb,Int.toNat_natCast]
 rw[hres];have HFI:=aB (fun (i:Nat) (hi:(i:Int)<h.1.b)=>pK hf h12 hi);rw[hnb] at HFI;have hn0:0<n:=by rw[<-ht.len];simp[aY]
 have hn4:n<=4096:=by rw[<-ht.len];exact hf.few
 have hcap:=ht.cap;have HPL:=aB (qV ht hf.rt h12 hnb);have HT:=aB (fun (w':World) (hb:Below w.heap.size w w')=>ht.below hb);have HCL:=aB (fun (w':World) (hb:Below w.heap.size w w')=>CE (ht.below hb) hn0);have HEN:=aB (fun (w':World) (hb:Below w.heap.size w w') (z:Int)=>iA (ht.below hb) z);obtain⟨bf,off,rfl,hbf,_,hc1,hc2⟩:=ht.at_ hn0;simp only[Nat.zero_mul,Nat.add_zero] at hc1 hc2;rw[show bD (aY h) 0=h.1 from rfl] at hc1 hc2;rw[hia] at hc1;rw[hnb] at hc2;have hin:ia<nb:=aA;have hnb4:nb<=4:=aA;have HY1:=aB hy1;have HFY:=aB hy4;have HLN:=aB ht.len;clear ht h12 f1 f2 f3 f4 hy1 hy2 hy3 hy4 hres hia hnb;go_in;go_wp2_with fail;refine (HPL.o).mono ?_;rintro e w2 ⟨hd,A1,c1,A2,c2,bq,rfl,ho1,ho2,hbp⟩;obtain⟨g1,g2,hz,he,hgg,hgn,hcut⟩:=I3.at_ ia y0 hbp HY1.o;obtain⟨g,rfl,hg,_,hcg,_⟩:=ho2.at_ hz;have hca:=(hd.cell (p:=⟨bf,off+1,X⟩) hbf).trans hc1;have hi0:(0:Int)<=(ia:Int):=aA;have hi1:(ia:Int)<(nb:Int):=aA;obtain⟨A3,hcut3,hcutr3⟩:=mD (Y ⟨bf,off,X⟩) n c g1 g2 hgg hgn hcap;have HP:=aB (fun (w':World) (hb:Below w.heap.size w w')=>(by have:=hcutr3 _ _ _ (HT.o w' hb);rwa [hcut] at this:bB w' A3 (g2-g1) (c-g1) (aY y0)));have HEN1:=aB (HEN.o w2 hd (g1:Int));rw[he] at HEN1;have HD:=aB hd;clear hd ho1 ho2 hbp hz he hcut hcutr3 hc1;go_wp2_with fail;refine (HEN1.o).mono ?_;rintro e w3 ⟨rfl,hd3⟩;have HD3:=dA HD hd3;have hcb3:=(HD3.o.cell (p:=⟨bf,off+2,X⟩) hbf).trans hc2;clear hd3 hca hcg;go_wp2_with fail;obtain⟨nm,hnm⟩ : ∃nm,nm=nb-1:=⟨_,rfl⟩;go_loopw [6,7] (fun bv iv wr=>∃(r:Nat) (x:TT) (A':Option Addr) (n' c':Nat),bv=O A' n' c'/\iv=.int .i64 ((r:Int)-1)/\r<=nb/\Hid (cM b (r:Int) x)/\Hid (nT h r x=nT h nb y0)/\Hid (bB wr A' n' c' (aY x))/\Hid (r=nb\/bP (F5 w wr) wr A' n' c' (aY x))/\Hid (Below w.heap.size w wr)) (fun _ iv _=>(intOf iv+1).toNat)
 case atStart=>exact⟨nb,y0,A3,g2-g1,c-g1,rfl,rfl,by omega,HFY,aB rfl,aB (HP.o _ HD3.o),aB (.inl rfl),HD3⟩
 case round =>
  obtain⟨r,x,A',n',c',rfl,rfl,hr,hfx,hun,htx,hnew,hbw⟩:=hrel;have hbs:=hbw.o.size;cases r with
  | zero =>
   rw[show ((0:Nat):Int)-1 = -1 from by omega];have hun2:nT h nb y0=(x,0):=hun.o.symm;have HU:=aB hun2;have HNW:Hid (bP (F5 w wr) wr A' n' c' (aY x)):=aB (hnew.o.elim (fun e=>by omega) id);clear hun2 hr hnew hun;go_wp2_with fail;go_ret;rw[HU.o];exact⟨hbw.o,.inl ⟨rfl,A',n',c',rfl,HNW.o⟩⟩
  | succ i =>
   rw[show ((i+1:Nat):Int)-1=(i:Int) from by omega];have hi9:(0:Int)<=(i:Int):=aA;have hff:=HFI.o i aA;have hS:=iT (b:=b) (free:=(i:Int)) (x:=x) (u:=fU h i) aA aA (by have:=hfx.o;simpa using this) (hff.mono aA);have HS:=aB hS;have hstep:nT h (i+1) x=if (cI x (fU h i)).2=0 then nT h i (cI x (fU h i)).1 else cI x (fU h i):=rfl;have HST:=aB (hun.o.symm.trans hstep);have hlc:=z8 hff (up:=(i:Int)) aA aA;have HLC:=aB hlc;have hri:aY (fU h i)=⟨h.1.op,(i:Int),h.1.b⟩::(h.2.1++row h.2.2):=rfl;have HRI:=aB hri;have HRL:Hid ((aY (fU h i)).length=n):=aB HLN.o;have HCW:=aB (HCL.o wr hbw.o);generalize cI x (fU h i)=sx at *;generalize aY (fU h i)=rf at *;clear hff hS hstep hlc hri hun;go_wp2_with fail;refine (HCW.o).mono ?_;rintro e w5 ⟨hd5,gc,cc,rfl,ho5⟩;have hput:=NB (n0:=h.1) (r:=h.2.1++row h.2.2) ho5 (by have:=HLN.o;show (aY h).length<=_;omega) (i:Int);rw[show (h.1::(h.2.1++row h.2.2)).length=n from HLN.o,<-HRI.o] at hput;have hbl:=aR ho5 (g:=gc) rfl;obtain⟨hgc0,hgc1,cur,hcur⟩:=hbl;have hcb5:aS w5 gc 40 cur:=hcur;have hcell:=iP ho5 (j4 (aY h) 0 (by have:=HLN.o;omega)).2.1;have hcell2:w5.cell? ⟨gc,1,X⟩=Y (.int .i64 (bD (aY h) 0).a):=hcell;have hfro:w5.frozen? ⟨gc,1,X⟩=false:=hcb5.frozen 1;have hg6:=bG w5 gc 1 (.int .i64 (i:Int));have hB6:Below wr.heap.size wr (w5.setCell ⟨gc,1,X⟩ (.int .i64 (i:Int))):=hd5.grown hg6 (by have:=hd5.size;omega) (fun q e=>by injection e with e;omega);have HB6:=aB (hbw.o.trans (hB6.mono hbs));have HTX6:=aB (htx.o.below hB6);have htf6:bB (w5.setCell ⟨gc,1,X⟩ (.int .i64 (i:Int))) (Y ⟨gc,0,X⟩) n cc rf:=hput.keep fun q hq=>⟨by have:=hg6.size;omega,fun _=>rfl⟩;have HLF:=aB (KF htf6 (i:Int) 0 aA);rw[HLC.o] at HLF;have hnr:(aY h).length=n:=HLN.o;rw[hnr];clear hput hcur hcb5 hcell hd5 ho5 hg6 hB6 htf6 hnr;go_wp2_with fail;refine (HLF.o).mono ?_;rintro e w7 ⟨hd7,A7,n7,c7,rfl,ho7⟩;have HB7:=dA HB6 hd7;have HTX7:=aB (HTX6.o.below hd7);have HO7:=aB ho7;have hl7:rf.length=n7:=by
    have h1:=ho7.slice;obtain⟨_,_,e⟩:=h1;injection e with _ e2;exact e2.symm
   have HL7:=aB hl7;clear hd7 ho7 hfro hcell2 hl7;go_wp2_with fail;refine kX.mono ?_;rintro e w8 ⟨rfl,rfl⟩;have htf7:bB w8 A7 n7 c7 rf:=by
    have h1:=HO7.o;rw[<-HL7.o] at h1 ⊢;obtain⟨Aq,nq,cq,e,hq⟩:=bR.termS h1 (by rw[HRL.o];omega);injection e with e1 e2 e3;subst e1 e2 e3;exact hq.keep fun q hq=>⟨(aR h1 hq).2.1,fun _=>rfl⟩
   have HSB:=aB (wG HTX7.o htf7 0 (fun _ _ _=>HS.o.1));rw[HS.o.2.1] at HSB;clear htf7;by_cases h0:sx.2=0
   · rw[if_pos h0,h0] at HSB;have hst:=HST.o;rw[if_pos h0] at hst;have HST2:=aB hst.symm;have HFS:=aB (HS.o.2.2 h0);clear hst h0;go_wp2_with fail;refine (HSB.o).mono ?_;rintro e w9 ⟨hd9,A9,n9,c9,rfl,ho9⟩;have HB9:=dA HB7 hd9;have hl9:(aY sx.1).length=n9:=by
      obtain⟨_,_,e⟩:=ho9.slice;injection e with _ e2;exact e2.symm
     have hnew9:bP (F5 w w9) w9 A9 n9 c9 (aY sx.1):=by
      have h1:=ho9;rw[<-hl9] at h1 ⊢;obtain⟨Aq,nq,cq,e,hq⟩:=bR.termS h1 (by have:=HFS.o.few;have h9:(aY sx.1).length=cL sx.1:=rfl;show (aY sx.1).length<=_;omega);injection e with e1 e2 e3;subst e1 e2 e3;exact hq.keep fun q hq=>⟨⟨by have:=(aR h1 hq).1;have:=HB7.o.size;omega,(aR h1 hq).2.1⟩,fun _=>rfl⟩
     have HN9:=aB hnew9;have HT9:Hid (bB w9 A9 n9 c9 (aY sx.1)):=aB (hnew9.keep fun q hq=>⟨hq.2,fun _=>rfl⟩);clear hd9 ho9 hl9 hnew9;go_wp2_with fail;refine kX.mono ?_;rintro e w10 ⟨rfl,rfl⟩;go_wp2_with fail;go_roundw
     case rel=>exact⟨i,sx.1,A9,n9,c9,rfl,rfl,by omega,HFS,HST2,HT9,aB (.inr HN9.o),HB9⟩
     case measure=>simp[intOf]
   · rw[if_neg h0] at HSB;have hst:=HST.o;rw[if_neg h0] at hst;have HST2:=aB hst;have HZ:=aB h0;clear hst h0;go_wp2_with fail;refine (HSB.o).mono ?_;rintro e w9 ⟨hd9,A9,n9,c9,rfl,ho9⟩;have HB9:=dA HB7 hd9;clear hd9 ho9;go_wp2_with fail;refine (mH HZ.o).mono ?_;rintro e w10 ⟨rfl,rfl⟩;go_wp2_with fail;rw[HST2.o];exact⟨rfl,HB9.o,.inr ⟨HZ.o,rfl⟩⟩
end
end Go.Proofs.YtjllmblbbgojbaaGreat
