/- Family and there of the reference (books). -/
import Derived.Test.YtplecfbdchmogaaGreatDShort2
import Derived.Test.YtplecfbdchmogaaGreatDBooks
import Derived.Deep.DeepCutAuto
import Derived.Deep.QuietTactic
import Derived.BigQuiet
namespace Go.Proofs.YtplecfbdchmogaaGreat
open Go.Value renaming int → O, slice → Y
open Go.IntKind renaming i64 → X
open Option renaming none → Z
open Go.Obj renaming cells → I
open Go.Lib (hid)
set_option maxHeartbeats 8000000
set_option maxRecDepth 100000
set_option linter.unusedVariables false
set_option linter.unusedSimpArgs false
open Go.RowKit
theorem nE {w:World} {v:cP} {b:Bk} (hb:bY w v b) (e known:Int) (hk:known<=b.entries.length) :
 Calls Tryz.prog 32 #[.agg #[O X b.vars,Y v.Ao v.no v.co,Y v.Ae v.ne v.ce,O X b.nat,Y v.Ap v.np v.cp],O X e,O X known] w (fT (decide (0<=e)&&fE b known e) w):=by
 have HB:=hid (aB w (I #[O X b.vars,Y v.Ao v.no v.co,Y v.Ae v.ne v.ce,O X b.nat,Y v.Ap v.np v.cp] 26));have hlen:=hb.entries.len;by_cases h0:0<=e;case neg =>
  have d0:decide (e ≥ 0)=false:=decide_eq_false h0;have HR:Hid ((decide (0<=e)&&fE b known e)=false):=hid (by rw [decide_eq_false h0];rfl);generalize (decide (0<=e)&&fE b known e)=res at *;generalize b.vars=bv at *;generalize b.nat=bn at *;clear hb hk hlen h0;go_in;go_wp2_with fail
  go_ret;rw [HR.o];exact ⟨rfl,HB.o⟩
 have d0:decide (e ≥ 0)=true:=decide_eq_true h0;by_cases h1:e<known;case neg =>
  have d1:decide (e<known)=false:=decide_eq_false h1;have HR:Hid ((decide (0<=e)&&fE b known e)=false):=hid (by unfold fE;rw [d1];simp);generalize (decide (0<=e)&&fE b known e)=res at *;generalize b.vars=bv at *;generalize b.nat=bn at *;clear hb hk hlen h0 h1;go_in;go_wp2_with fail
  go_ret;rw [HR.o];exact ⟨rfl,HB.o⟩
 have d1:decide (e<known)=true:=decide_eq_true h1;obtain ⟨q,rfl⟩ : ∃ q:Nat,e=q:=⟨e.toNat,by omega⟩;obtain ⟨be,oe,hA,hbe,ev,hc0,_⟩:=hb.entries.at_ (k:=q) aA;have HR:Hid ((decide (0<=(q:Int))&&fE b known q)=((aT b q).kind==1)):=hid (by unfold fE;rw [d1,decide_eq_true h0,Bool.true_and,Bool.true_and]);rw [show b.entries.getD q default=aT b q from by unfold aT;rw [Int.toNat_natCast]] at hc0;obtain ⟨Ao,no,co,Ae,ne,ce,Ap,np,cp⟩:=v;simp only at hA hlen HB ⊢;subst hA;have hne:q<ne:=aA;have d2:decide ((q:Int)<(ne:Int))=true:=decide_eq_true aA;have d3:decide (q<ne)=true:=decide_eq_true hne;generalize (aT b q).kind=kd at *;generalize (decide (0<=(q:Int))&&fE b known q)=res at *;generalize b.vars=bv at *;generalize b.nat=bn at *;clear hb hk hlen h0 h1;go_in;go_wp2_with fail
 go_ret;rw [HR.o];exact ⟨rfl,HB.o⟩
def sX (b:Bk) (known self:Int):Fo->Bool
 | .nil=>true
 | .cons _ n a k x=>(cM b known self n&&(a.all (fun m=>decide (m.a<=b.vars))&&sX b known self k))&&sX b known self x
def IA (b:Bk) (known self:Int) (n:Nd) (a:List Nd) (k:Fo):Bool:=cM b known self n&&(a.all (fun m=>decide (m.a<=b.vars))&&sX b known self k)
theorem qL (b:Bk) (known self:Int) : ∀ (F G:Fo),sX b known self (F.app G)=(sX b known self F&&sX b known self G)
 | .nil,G=>by simp [Fo.app,sX]
 | .cons p n a k x,G=>by simp only [Fo.app,sX,qL b known self x G,Bool.and_assoc]
theorem sD (b:Bk) (known self:Int) (p:List Nd) (n:Nd) (a:List Nd) (k x:Fo):sX b known self (.cons p n a k x)=(IA b known self n a k&&sX b known self x):=rfl
theorem BE {b:Bk} {v:cP} (known self:Int) (hkn:known<=b.entries.length) (m:Nat) (hm15:m<=1000000000000000)
 (ih:∀ (w:World) (R:Nat->Prop) (xs:List Value) (n:Nd) (atoms:List Nd) (kids:Fo),bY w v b->(∀ b,R b->b<w.heap.size)->iF R w xs n atoms kids->iC n=true->gI kids->bN kids<m →
  Calls Tryz.prog 90 #[.agg #[O X b.vars,Y v.Ao v.no v.co,Y v.Ae v.ne v.ce,O X b.nat,Y v.Ap v.np v.cp],O X known,O X self,.agg xs.toArray] w (fT (IA b known self n atoms kids) w))
 (w:World) (R:Nat->Prop) (xs:List Value) (n:Nd) (atoms:List Nd) (kids:Fo) (hb:bY w v b) (hR:∀ b,R b->b<w.heap.size) (ht:iF R w xs n atoms kids) (hok:iC n=true) (hall:gI kids) (hsz:bN kids<=m) :
 Calls Tryz.prog 90 #[.agg #[O X b.vars,Y v.Ao v.no v.co,Y v.Ae v.ne v.ce,O X b.nat,Y v.Ap v.np v.cp],O X known,O X self,.agg xs.toArray] w (fT (IA b known self n atoms kids) w):=by
 have HI:=hid ih;clear ih;obtain ⟨sk,sa,sf,rfl,⟨Ak,nk,ck,rfl,hkk⟩,⟨Aa,na,ca,rfl,haa⟩,⟨Af,nf,cf,rfl,hff⟩⟩:=ht;have hpl:bQ n.op n.a n.b=true:=by simp only [iC,Bool.and_eq_true] at hok;exact hok.1.1
 obtain ⟨hna,_⟩:=oO hpl;obtain ⟨hnb,_⟩:=kP hpl;have hno3:n.op ≠ 3:=by simp only [iC,Bool.and_eq_true,decide_eq_true_eq] at hok;exact hok.1.2
 have hlen:=hb.entries.len;have HBV:=hid (fun (w':World) (h:Below w.heap.size w w')=>hb.below h);have HFAM:=hid (fun (w':World) (h:Below w.heap.size w w') (e:Int)=>nE (hb.below h) e known hkn);have hent:=fun (k:Nat) (hk:k<v.ne)=>hb.entries.at_ hk;have HKK:=hid hkk;have HAA:=hid haa;have HRR:=hid hR;have HALL:=hid hall;have HSZ:=hid hsz;have hnk:nk<=1000000000000000/\na<=1000000000000000/\True:=⟨by have h1:=kD kids;have h2:=hkk.len;exact Nat.le_trans (by rw [<-h2];exact h1) (Nat.le_trans hsz hm15),by have:=haa.few;omega,trivial⟩;obtain ⟨hnk1,hna1,_⟩:=hnk;obtain ⟨op,a,q⟩:=n;simp only at hpl hna hnb hno3;obtain ⟨e,rfl⟩ : ∃ e:Nat,a=e:=⟨a.toNat,by omega⟩;obtain ⟨q,rfl⟩ : ∃ q':Nat,q=q':=⟨q.toNat,by omega⟩;clear hpl hna hnb hok hall hkk haa hff hR hsz;have HTH:Hid (∀ s,IA b known self ⟨op,e,q⟩ atoms kids=s ↔ (cM b known self ⟨op,e,q⟩&&(atoms.all (fun m=>decide (m.a<=b.vars))&&sX b known self kids))=s):=hid (fun s=>Iff.rfl);obtain ⟨bvar,hbvar⟩ : ∃ x,x=b.vars:=⟨_,rfl⟩;obtain ⟨bn,hbn⟩ : ∃ x,x=b.nat:=⟨_,rfl⟩;rw [<-hbvar] at HI HFAM HTH ⊢;rw [<-hbn] at HI HFAM ⊢;clear hbn hbvar;generalize hbv2:bvar=bv at *;clear hbv2 bvar;obtain ⟨nb,hnb⟩ : ∃ x,x=cM b known self ⟨op,e,q⟩:=⟨_,rfl⟩;rw [<-hnb] at HTH;obtain ⟨Ao,no,co,Ae,ne,ce,Ap,np,cp⟩:=v;simp only at HI HFAM HBV hlen hent ⊢;rw [hlen] at hkn;clear hb;have HB1:=hid (aB w (I #[O X bv,Y Ao no co,Y Ae ne ce,O X bn,Y Ap np cp] 26));have HB2:=hid (HB1.o.alloc HB1.o.size (I #[O X op,O X (e:Int),O X (q:Int),Y Ak nk ck,Y Aa na ca,Y Af nf cf] 131));have HB3:=hid (HB2.o.alloc HB2.o.size (I #[O X op,O X (e:Int),O X (q:Int)] 53));have HKB3:Hid (aE (((w.alloc (I #[O X bv,Y Ao no co,Y Ae ne ce,O X bn,Y Ap np cp] 26)).alloc (I #[O X op,O X (e:Int),O X (q:Int),Y Ak nk ck,Y Aa na ca,Y Af nf cf] 131)).alloc (I #[O X op,O X (e:Int),O X (q:Int)] 53)) w.heap.size 26 #[O X bv,Y Ao no co,Y Ae ne ce,O X bn,Y Ap np cp]):=hid (((aE.new _ _ _).alloc _).alloc _);have HKX3:Hid (aE (((w.alloc (I #[O X bv,Y Ao no co,Y Ae ne ce,O X bn,Y Ap np cp] 26)).alloc (I #[O X op,O X (e:Int),O X (q:Int),Y Ak nk ck,Y Aa na ca,Y Af nf cf] 131)).alloc (I #[O X op,O X (e:Int),O X (q:Int)] 53)) (w.heap.size+1) 131 #[O X op,O X (e:Int),O X (q:Int),Y Ak nk ck,Y Aa na ca,Y Af nf cf]):=hid ((aE.new' (by simp)).alloc _);have HKN3:Hid (aE (((w.alloc (I #[O X bv,Y Ao no co,Y Ae ne ce,O X bn,Y Ap np cp] 26)).alloc (I #[O X op,O X (e:Int),O X (q:Int),Y Ak nk ck,Y Aa na ca,Y Af nf cf] 131)).alloc (I #[O X op,O X (e:Int),O X (q:Int)] 53)) (w.heap.size+1+1) 53 #[O X op,O X (e:Int),O X (q:Int)]):=hid (aE.new' (by simp));have HNBX:=hid hnb;have HENT:=hid hent;have HKN:=hid hkn;have HNO3:=hid hno3;clear hnb hent hkn hno3 hlen;go_in;go_upto_region 2 with fail
 have zb3:=aE.cell HKB3.o;have zn3:=aE.cell HKN3.o;go_cut [41] (fun bv2 wx=>∃ bad,bv2=.bool bad/\wx=(((w.alloc (I #[O X bv,Y Ao no co,Y Ae ne ce,O X bn,Y Ap np cp] 26)).alloc (I #[O X op,O X (e:Int),O X (q:Int),Y Ak nk ck,Y Aa na ca,Y Af nf cf] 131)).alloc (I #[O X op,O X (e:Int),O X (q:Int)] 53))/\Hid (bad=true->nb=false)/\Hid (bad=false->op=8->nb=true))
 case first =>
  have hno3:=HNO3.o;have hkn:=HKN.o;by_cases hop:op=8;case neg =>
   have o8:(op==8)=false:=by simpa using hop
   have HX8:Hid (op ≠ 8):=hid hop;clear hop hno3 hkn;go_wp2_with fail
   go_meet;exact ⟨false,rfl,rfl,hid (fun h=>by cases h),hid (fun _ h=>absurd h HX8.o)⟩
  have o8:(op==8)=true:=by simpa using hop
  have hnb8:nb=(decide ((e:Int)<known)&&(aT b e).kind==2):=by rw [HNBX.o];unfold cM;simp only;rw [if_neg hno3,if_pos hop]
  by_cases h1:(e:Int)<known;case neg =>
   have d1:decide ((e:Int)<known)=false:=decide_eq_false h1;have HN8:Hid (nb=false):=hid (by rw [hnb8,d1];rfl);clear hop hno3 hkn hnb8 h1;go_wp2_with fail
   go_meet;exact ⟨true,rfl,rfl,hid (fun _=>HN8.o),hid (fun h=>by cases h)⟩
  have d1:decide ((e:Int)<known)=true:=decide_eq_true h1;have hne:e<ne:=aA;have d2:decide ((e:Int)<(ne:Int))=true:=decide_eq_true aA;have d3:decide (e<ne)=true:=decide_eq_true hne;obtain ⟨be,oe,hAe,hbe,ev,hc0,_⟩:=HENT.o e aA;rw [show b.entries.getD e default=aT b e from by unfold aT;rw [Int.toNat_natCast]] at hc0;subst hAe;have hc0r:=(HB3.o.cell (p:=⟨be,oe+e*7,Z⟩) hbe).trans hc0;obtain ⟨kd,hkd⟩ : ∃ kd,kd=(aT b e).kind:=⟨_,rfl⟩;rw [<-hkd,d1,Bool.true_and] at hnb8;rw [<-hkd] at hc0r;obtain ⟨k2,hk2⟩ : ∃ k,k=(kd==2):=⟨_,rfl⟩;have d4:=hk2.symm;rw [<-hk2] at hnb8;have HN8:=hid hnb8;clear hop hno3 hkn hnb8 h1 hc0 hkd hk2;cases k2 with
  | true =>
   go_wp2_with fail
   go_meet;exact ⟨false,rfl,rfl,hid (fun h=>by cases h),hid (fun _ _=>HN8.o)⟩
  | false =>
   go_wp2_with fail
   go_meet;exact ⟨true,rfl,rfl,hid (fun _=>HN8.o),hid (fun h=>by cases h)⟩
 case rest =>
 obtain ⟨bad,rfl,hwc,HN1,HN2⟩:=hcut;subst hwc;clear zb3 zn3;cases bad with
 | true =>
  have HNB:Hid (nb=false):=hid (HN1.o rfl);go_wp2_with fail
  go_ret;rw [(HTH.o false).2 (by rw [HNB.o];rfl)];exact ⟨rfl,HB3.o⟩
 | false =>
 have HN8:=hid (HN2.o rfl);clear HN1 HN2;go_upto_region 4 with fail
 have zb3:=aE.cell HKB3.o;have zn3:=aE.cell HKN3.o;go_cut [76] (fun bv2 wx=>∃ bad,bv2=.bool bad/\Hid (aE wx w.heap.size 26 #[O X bv,Y Ao no co,Y Ae ne ce,O X bn,Y Ap np cp])/\Hid (aE wx (w.heap.size+1) 131 #[O X op,O X (e:Int),O X (q:Int),Y Ak nk ck,Y Aa na ca,Y Af nf cf])/\Hid (aE wx (w.heap.size+1+1) 53 #[O X op,O X (e:Int),O X (q:Int)])/\Hid (Below w.heap.size w wx)/\Hid (bad=true->nb=false)/\Hid (bad=false->(op=9->nb=true)/\(op=11->nb=true)/\(op=10->fE b known e=true)))
 case first =>
  have hno3:=HNO3.o;have d0:decide (0<=(e:Int))=true:=decide_eq_true aA;have hfam:=fun (w':World) h=>HFAM.o w' h (e:Int);rw [d0,Bool.true_and] at hfam;obtain ⟨fq,hf⟩ : ∃ f,f=fE b known e:=⟨_,rfl⟩;rw [<-hf] at hfam;have HFC0:=hid hfam;clear d0 hfam;have HFC:=HFC0;by_cases hop9:op=9
  · have o10:(op==10)=false:=by simp;omega
    have o11:(op==11)=false:=by simp;omega
    have o9:(op==9)=true:=by simpa using hop9
    have hnb9:nb=((e:Int)==self||fq):=by rw [HNBX.o];unfold cM;simp only;rw [if_neg hno3,if_neg aA,if_pos hop9,hf]
    by_cases h1:(e:Int)=self
    · have d1:((e:Int) != self)=false:=by simpa using h1
      have HN9:Hid (nb=true):=hid (by rw [hnb9,beq_iff_eq.2 h1];rfl);have HX:Hid (op=9):=hid hop9;clear hop9 h1 hno3 hnb9 hf;go_wp2_with fail
      go_meet;exact ⟨false,rfl,HKB3,HKX3,HKN3,HB3,hid (fun h=>by cases h),hid (fun _=>⟨fun _=>HN9.o,fun h=>by have:=HX.o;omega,fun h=>by have:=HX.o;omega⟩)⟩
    have d1:((e:Int) != self)=true:=by simpa using h1
    rw [beq_false_of_ne h1,Bool.false_or] at hnb9;have HN9:=hid hnb9;have HX:Hid (op=9):=hid hop9;clear hop9 h1 hno3 hnb9 hf;go_wp2_with fail
    refine (HFC.o _ HB3.o).mono ?_;rintro e' w2 ⟨rfl,hb2⟩;have HB4:=cN HB3 hb2;have HKB4:=gJ HKB3 hb2;have HKX4:=gJ HKX3 hb2;have HKN4:=gJ HKN3 hb2;have zb4:=aE.cell HKB4.o;have zn4:=aE.cell HKN4.o;clear hb2;go_wp2_with fail
    go_meet;exact ⟨!fq,rfl,HKB4,HKX4,HKN4,HB4,hid (fun h=>by rw [HN9.o];simpa using h),hid (fun h=>⟨fun _=>by rw [HN9.o];simpa using h,fun h=>by have:=HX.o;omega,fun h=>by have:=HX.o;omega⟩)⟩
  by_cases hop1:op=10\/op=11
  · have hnb11:op=11->nb=fq:=fun h=>by rw [HNBX.o];unfold cM;simp only;rw [if_neg hno3,if_neg aA,if_neg hop9,if_pos h,hf]
    have hnb10:op=10->fq=false->nb=false:=fun h h2=>by rw [HNBX.o];unfold cM;simp only;rw [if_neg hno3,if_neg aA,if_neg hop9,if_neg aA,if_pos h,<-hf,h2];rfl
    have HN10:=hid hnb10;have HN11:=hid hnb11;have HX:=hid hop1;have HX9:=hid hop9;have HF:=hid hf;have o9:(op==9)=false:=by simpa using hop9
    have hc:(op==10)=true\/((op==10)=false/\(op==11)=true):=by
     rcases hop1 with h | h
     · exact .inl (by simpa using h)
     exact .inr ⟨by simp;omega,by simpa using h⟩
    clear hop9 hop1 hno3 hnb10 hnb11 hf HFC;have hfam:=HFC0.o;rcases hc with o10 | ⟨o10,o11⟩<;>rcases Bool.eq_false_or_eq_true fq with hq | hq;all_goals
     rw [hq] at hfam;have HFC:=hid hfam;have HQ:=hid hq;clear hfam hq;go_wp2_with fail
     refine (HFC.o _ HB3.o).mono ?_;rintro e' w2 ⟨rfl,hb2⟩;have HB4:=cN HB3 hb2;have HKB4:=gJ HKB3 hb2;have HKX4:=gJ HKX3 hb2;have HKN4:=gJ HKN3 hb2;have zb4:=aE.cell HKB4.o;have zn4:=aE.cell HKN4.o;clear hb2;go_wp2_with fail
     go_meet;exact ⟨_,rfl,HKB4,HKX4,HKN4,HB4,hid (fun h=>by
      first
      | exact absurd h (by decide)
      | exact HX.o.elim (fun h3=>HN10.o h3 HQ.o) (fun h3=>by rw [HN11.o h3,HQ.o])),hid (fun h=>by
      first
      | exact absurd h (by decide)
      | exact ⟨fun h3=>absurd h3 HX9.o,fun h3=>by rw [HN11.o h3,HQ.o],fun _=>by rw [<-HF.o,HQ.o]⟩)⟩
  have o9:(op==9)=false:=by simpa using hop9
  have o10:(op==10)=false:=by simp;omega
  have o11:(op==11)=false:=by simp;omega
  have HX:Hid (op ≠ 9/\op ≠ 10/\op ≠ 11):=hid aA;clear hop9 hop1 hno3 hf;go_wp2_with fail
  go_meet;exact ⟨false,rfl,HKB3,HKX3,HKN3,HB3,hid (fun h=>by cases h),hid (fun _=>⟨fun h=>absurd h HX.o.1,fun h=>absurd h HX.o.2.2,fun h=>absurd h HX.o.2.1⟩)⟩
 case rest =>
 obtain ⟨bad,rfl,HKB4,HKX4,HKN4,HB4,HN1,HN2⟩:=hcut;clear zb3 zn3 HFAM HKB3 HKX3 HKN3 HB1 HB2 HB3;obtain ⟨w4,rfl⟩ : ∃ x:World,x=wc:=⟨_,rfl⟩;cases bad with
 | true =>
  have HNB:Hid (nb=false):=hid (HN1.o rfl);go_wp2_with fail
  go_ret;rw [(HTH.o false).2 (by rw [HNB.o];rfl)];exact ⟨rfl,HB4.o⟩
 | false =>
 have HN9:=hid (HN2.o rfl);clear HN1 HN2;go_upto_region 6 with fail
 have zb4:=aE.cell HKB4.o;have zn4:=aE.cell HKN4.o;go_cut [92] (fun bv2 wx=>∃ bad,bv2=.bool bad/\Hid (aE wx w.heap.size 26 #[O X bv,Y Ao no co,Y Ae ne ce,O X bn,Y Ap np cp])/\Hid (aE wx (w.heap.size+1) 131 #[O X op,O X (e:Int),O X (q:Int),Y Ak nk ck,Y Aa na ca,Y Af nf cf])/\Hid (Below w.heap.size w wx)/\Hid (nb = !bad))
 case first =>
  have hno3:=HNO3.o;have hkn:=HKN.o;by_cases hop10:op=10;rotate_left
  · have o10:(op==10)=false:=by simpa using hop10
    have HNN:Hid (nb = !false):=hid (by
     by_cases h8:op=8
     · exact HN8.o h8
     by_cases h9:op=9
     · exact HN9.o.1 h9
     by_cases h11:op=11
     · exact HN9.o.2.1 h11
     rw [HNBX.o];unfold cM;simp only;rw [if_neg hno3,if_neg h8,if_neg h9,if_neg h11,if_neg hop10];rfl)
    clear hop10 hno3 hkn;go_wp2_with fail
    go_quiet (fail)
    go_wp2_with fail
    go_meet;exact ⟨false,rfl,hid (HKB4.o.drewN _),hid (HKX4.o.drewN _),hid (aK HB4.o _),HNN⟩
  have o10:(op==10)=true:=by simpa using hop10
  have hf:=HN9.o.2.2 hop10;have hek:(e:Int)<known:=by
   have hf2:=hf;unfold fE at hf2;rw [Bool.and_eq_true,decide_eq_true_eq] at hf2;exact hf2.1
  have hlt3:e<ne:=aA;have d3:decide (e<ne)=true:=decide_eq_true hlt3;have d3i:(e:Int)<(ne:Int):=aA;obtain ⟨be,oe,hAe,hbe,ev,_,_,_,_,hc4,_,_,hec⟩:=HENT.o e hlt3;have hcl:=hec.ctors.len;rw [show b.entries.getD e default=aT b e from by unfold aT;rw [Int.toNat_natCast]] at hcl;have hnb2:nb=decide ((q:Int)<(ev.nc:Int)):=by
   rw [HNBX.o];unfold cM;simp only;rw [if_neg hno3,if_neg aA,if_neg aA,if_neg aA,if_pos hop10,hf,Bool.true_and];show decide ((q:Int)<((aT b e).ctors.length:Int))=_;rw [hcl]
  obtain ⟨Ac,nc,cc,h7,h8,h9⟩ : ∃ Ac nc cc,(ev.Ac=Ac/\ev.nc=nc/\ev.cc=cc):=⟨_,_,_,rfl,rfl,rfl⟩;rw [h7,h8,h9] at hc4;rw [h8] at hnb2;subst hAe;have hc4r:=(HB4.o.cell (p:=⟨be,oe+e*7+4,Z⟩) hbe).trans hc4;obtain ⟨ge,hge⟩ : ∃ g,g=decide ((q:Int) ≥ (nc:Int)):=⟨_,rfl⟩;have d5:=hge.symm;have d6:decide (q ≥ nc)=ge:=by rw [hge];exact decide_eq_decide.2 aA
  have d7:decide (nc<=q)=ge:=d6;have HNN:Hid (nb = !ge):=hid (by
   rw [hnb2,hge,Bool.eq_iff_iff];simp only [Bool.not_eq_true',decide_eq_false_iff_not,decide_eq_true_eq];omega)
  clear hc4 hec hcl hf hop10 hek h7 h8 h9 hno3 hkn hnb2 hge;go_wp2_with fail
  go_quiet (fail)
  go_wp2_with fail
  go_meet;exact ⟨ge,rfl,hid (HKB4.o.drewN _),hid (HKX4.o.drewN _),hid (aK HB4.o _),HNN⟩
 case rest =>
 obtain ⟨bad,rfl,HKB5,HKX5,HB5,HNN⟩:=hcut;clear zb4 zn4 HKB4 HKX4 HKN4 HB4 HN8 HN9 HNBX HENT HKN HNO3;obtain ⟨w5,rfl⟩ : ∃ x:World,x=wc:=⟨_,rfl⟩;cases bad with
 | true =>
  have HNB:Hid (nb=false):=hid (by rw [HNN.o];rfl);go_wp2_with fail
  go_ret;rw [(HTH.o false).2 (by rw [HNB.o];rfl)];exact ⟨rfl,HB5.o⟩
 | false =>
 have HNB:Hid (nb=true):=hid (by rw [HNN.o];rfl);go_wp2_with fail
 go_loopw [10] (fun iv wr=>∃ i:Nat,iv=O X (i:Int)/\i<=na/\Hid ((atoms.take i).all (fun m=>decide (m.a<=bv))=true)/\Hid (aE wr w.heap.size 26 #[O X bv,Y Ao no co,Y Ae ne ce,O X bn,Y Ap np cp])/\Hid (aE wr (w.heap.size+1) 131 #[O X op,O X (e:Int),O X (q:Int),Y Ak nk ck,Y Aa na ca,Y Af nf cf])/\Hid (Below w.heap.size w wr)) (fun i _=>na-(intOf i).toNat)
 case atStart=>exact ⟨0,rfl,by omega,hid (by simp),HKB5,HKX5,HB5⟩
 case round =>
  obtain ⟨i,rfl,hin,hat,hkb,hkx,hbw⟩:=hrel;have zb:=aE.cell hkb.o;have zx:=aE.cell hkx.o;by_cases hi2:i<na
  · have hib:decide ((i:Int)<(na:Int))=true:=decide_eq_true aA;have hib2:decide (i<na)=true:=decide_eq_true hi2;obtain ⟨ba,oa,rfl,hba,hm⟩:=HAA.o.mem aA;obtain ⟨_,g1,_⟩:=hm i (by rw [HAA.o.len];exact hi2);have hbaw:=HRR.o ba hba;have g1r:=(hbw.o.cell (p:=⟨ba,oa+i*3+1,Z⟩) hbaw).trans g1;have htk:atoms.take (i+1)=atoms.take i++[aL atoms i]:=by rw [kE (by rw [HAA.o.len];exact hi2),List.take_add_one,List.getElem?_eq_getElem (by rw [HAA.o.len];exact hi2)];rfl
    have hmem:aL atoms i ∈ atoms:=by rw [kE (by rw [HAA.o.len];exact hi2)];exact List.getElem_mem _
    obtain ⟨x,hx⟩ : ∃ x,x=(aL atoms i).a:=⟨_,rfl⟩;rw [<-hx] at g1r;have HKn:=hid (fun (k:Nat)=>hkb.o.drewN k);have HXn:=hid (fun (k:Nat)=>hkx.o.drewN k);have HBn:=hid (fun (k:Nat)=>aK hbw.o k);by_cases hgt:x<=bv
    · have d5:decide (x>bv)=false:=decide_eq_false aA;have HA2:Hid ((atoms.take (i+1)).all (fun m=>decide (m.a<=bv))=true):=hid (by
       rw [htk,List.all_append,hat.o];simp [<-hx,hgt])
      clear hm g1 htk hmem hx hgt;go_wp2_with fail
      go_quiet (fail)
      go_wp2_with fail
      go_roundw
      case rel=>exact ⟨i+1,by go_num,by omega,HA2,hid (HKn.o _),hid (HXn.o _),hid (HBn.o _)⟩
      case measure=>simp [intOf];omega
    have d5:decide (x>bv)=true:=decide_eq_true aA;have HA2:Hid (atoms.all (fun m=>decide (m.a<=bv))=false):=hid (by
     rw [List.all_eq_false];exact ⟨_,hmem,by simp [<-hx];omega⟩)
    clear hm g1 htk hmem hx hgt;go_wp2_with fail
    go_quiet (fail)
    go_wp2_with fail
    go_ret;rw [(HTH.o false).2 (by rw [HA2.o];simp)];exact ⟨rfl,HBn.o _⟩
  have hib:decide ((i:Int)<(na:Int))=false:=decide_eq_false aA;have hib2:decide (i<na)=false:=decide_eq_false hi2;have HAT:Hid (atoms.all (fun m=>decide (m.a<=bv))=true):=hid (by
   have:=hat.o
   rwa [List.take_of_length_le (by rw [HAA.o.len];omega)] at this)
  obtain ⟨wo,rfl⟩ : ∃ wo:World,wo=wr:=⟨_,rfl⟩;go_wp2_with fail
  go_loopw [11] (fun iv wr=>∃ (F1 F2:Fo) (j:Nat),kids=F1.app F2/\dL F1=j/\iv=O X (j:Int)/\Hid (sX b known self F1=true)/\Hid (aE wr w.heap.size 26 #[O X bv,Y Ao no co,Y Ae ne ce,O X bn,Y Ap np cp])/\Hid (aE wr (w.heap.size+1) 131 #[O X op,O X (e:Int),O X (q:Int),Y Ak nk ck,Y Aa na ca,Y Af nf cf])/\Hid (Below w.heap.size w wr)) (fun i _=>nk-(intOf i).toNat)
  case atStart=>exact ⟨.nil,kids,0,rfl,rfl,rfl,hid rfl,hkb,hkx,hbw⟩
  case round =>
   obtain ⟨F1,F2,j,hkd,hj,rfl,hth,hkb1,hkx1,hbw1⟩:=hrel;clear zb zx;have zb:=aE.cell hkb1.o;have zx:=aE.cell hkx1.o;cases F2 with
   | nil =>
    have hjn:j=nk:=by rw [<-HKK.o.len,hkd,fC,hj];rfl
    have hib3:decide ((j:Int)<(nk:Int))=false:=decide_eq_false aA;have hib4:decide (j<nk)=false:=decide_eq_false aA;have HF:Hid (sX b known self kids=true):=hid (by rw [hkd,qL,hth.o];rfl);clear hkd hj hjn;go_wp2_with fail
    go_ret;rw [(HTH.o true).2 (by rw [HNB.o,HAT.o,HF.o];rfl)];exact ⟨rfl,hbw1.o⟩
   | cons pre nd ats ks F2 =>
    have hjn:j<nk:=by rw [<-HKK.o.len,hkd,fC,hj];simp [dL]
    have hib3:decide ((j:Int)<(nk:Int))=true:=decide_eq_true aA;have hib4:decide (j<nk)=true:=decide_eq_true hjn;have hk0:pO R w Ak nk ck (F1.app (.cons pre nd ats ks F2)):=by rw [<-hkd];exact HKK.o
    obtain ⟨bk,ok,sk',sa',sf',rfl,hrb,htree,g0,g1,g2,g3,g4,g5⟩:=hk0.at_;rw [hj] at g0 g1 g2 g3 g4 g5;obtain ⟨_,hok2,hall2,_⟩:=(gI.app F1 _).1 (hkd ▸ HALL.o);have hbb:bk<w.heap.size:=HRR.o bk hrb;have hfs2:bN ks<m:=by
     have:=HSZ.o;rw [hkd,gZ] at this;simp only [bN] at this;omega
    have HBd:=hid (aK hbw1.o 1);have HKd:=hid (hkb1.o.drewN 1);have HXd:=hid (hkx1.o.drewN 1);have zbd:=aE.cell HKd.o;have zxd:=aE.cell HXd.o;have gd0:=(HBd.o.cell (p:=⟨bk,ok+j*6,Z⟩) hbb).trans g0;have gd1:=(HBd.o.cell (p:=⟨bk,ok+j*6+1,Z⟩) hbb).trans g1;have gd2:=(HBd.o.cell (p:=⟨bk,ok+j*6+2,Z⟩) hbb).trans g2;have gd3:=(HBd.o.cell (p:=⟨bk,ok+j*6+3,Z⟩) hbb).trans g3;have gd4:=(HBd.o.cell (p:=⟨bk,ok+j*6+4,Z⟩) hbb).trans g4;have gd5:=(HBd.o.cell (p:=⟨bk,ok+j*6+5,Z⟩) hbb).trans g5;have hbkd:=Nat.lt_of_lt_of_le hbb HBd.o.size;have HC:=hid (HI.o _ R [O X nd.op,O X nd.a,O X nd.b,sk',sa',sf'] nd ats ks (HBV.o _ HBd.o) (fun b' hb'=>Nat.lt_of_lt_of_le (HRR.o b' hb') HBd.o.size) (htree.keep fun b' hb'=>⟨hb',fun o=>HBd.o.cell (p:=⟨b',o,Z⟩) (HRR.o b' hb')⟩) hok2 hall2 hfs2);have hthn:sX b known self (F1.app (.cons pre nd ats ks .nil))=IA b known self nd ats ks:=by
     rw [qL,hth.o,sD,Bool.true_and];simp [sX]
    have hths:sX b known self kids=(IA b known self nd ats ks&&sX b known self F2):=by
     rw [hkd,qL,hth.o,sD,Bool.true_and]
    have hks2:kids=(F1.app (.cons pre nd ats ks .nil)).app F2:=by rw [hkd,gY];rfl
    have hjl:dL (F1.app (.cons pre nd ats ks .nil))=j+1:=by rw [fC];simp [dL,hj]
    have HKS:=hid hks2;have HJL:=hid hjl;generalize IA b known self nd ats ks=ty at *;clear hkd hj hk0 htree g0 g1 g2 g3 g4 g5 hok2 hall2 hfs2 hks2 hjl;have HTN:=hid hthn;have HTS:=hid hths;clear hthn hths;go_wp2_with fail
    refine wp_region_held_drew (S:=(fun w'=>w'.cell? ⟨w.heap.size,0,Z⟩=some (O X bv)/\w'.cell? ⟨w.heap.size,1,Z⟩=some (Y Ao no co)/\w'.cell? ⟨w.heap.size,2,Z⟩=some (Y Ae ne ce)/\w'.cell? ⟨w.heap.size,3,Z⟩=some (O X bn)/\w'.cell? ⟨w.heap.size,4,Z⟩=some (Y Ap np cp)/\w'.cell? ⟨w.heap.size+1,3,Z⟩=some (Y (some ⟨bk,ok,Z⟩) nk ck)/\w'.cell? ⟨bk,ok+j*6,Z⟩=some (O X nd.op)/\w'.cell? ⟨bk,ok+j*6+1,Z⟩=some (O X nd.a)/\w'.cell? ⟨bk,ok+j*6+2,Z⟩=some (O X nd.b)/\w'.cell? ⟨bk,ok+j*6+3,Z⟩=some sk'/\w'.cell? ⟨bk,ok+j*6+4,Z⟩=some sa'/\w'.cell? ⟨bk,ok+j*6+5,Z⟩=some sf')) (by kernel_rfl) ?_ (fun hHeld => ?_)
    · (try dsimp only);exact ⟨zbd 0,zbd 1,zbd 2,zbd 3,zbd 4,zxd 3,gd0,gd1,gd2,gd3,gd4,gd5⟩
    refine tq 0 hHeld ?_;try simp only [p7]
    refine tq 1 hHeld ?_;try simp only [p7]
    refine tq 2 hHeld ?_;try simp only [p7]
    refine tq 3 hHeld ?_;try simp only [p7]
    refine tq 4 hHeld ?_;try simp only [p7]
    refine tq 5 hHeld ?_;try simp only [p7]
    refine tq 6 hHeld ?_;try simp only [p7]
    refine tq 7 hHeld ?_;try simp only [p7]
    refine r1 8 fun K hK => ?_;go_simp;go_at_call 90
    refine HC.o.mono ?_;rintro e' w7 ⟨rfl,hw7⟩;have HB7:=cN HBd hw7;have HK7:=gJ HKd hw7;have HX7:=gJ HXd hw7;have zb7:=aE.cell HK7.o;have zx7:=aE.cell HX7.o;have g70:=(hw7.cell (p:=⟨bk,ok+j*6,Z⟩) hbkd).trans gd0;have g71:=(hw7.cell (p:=⟨bk,ok+j*6+1,Z⟩) hbkd).trans gd1;have g72:=(hw7.cell (p:=⟨bk,ok+j*6+2,Z⟩) hbkd).trans gd2;have g73:=(hw7.cell (p:=⟨bk,ok+j*6+3,Z⟩) hbkd).trans gd3;have g74:=(hw7.cell (p:=⟨bk,ok+j*6+4,Z⟩) hbkd).trans gd4;have g75:=(hw7.cell (p:=⟨bk,ok+j*6+5,Z⟩) hbkd).trans gd5;clear hw7;go_wp2_with fail
    refine hK.o _ _ (by exact ⟨zb7 0,zb7 1,zb7 2,zb7 3,zb7 4,zx7 3,g70,g71,g72,g73,g74,g75⟩) fun hHeld => ?_;clear hK K;try simp only [p7]
    refine tq 9 hHeld ?_;try simp only [p7]
    refine wpAnyH_done (by kernel_rfl) ?_ _;cases ty with
    | true =>
     have HN:=HTN;go_wp2_with fail
     go_roundw
     case rel=>exact ⟨_,F2,j+1,HKS.o,HJL.o,by go_num,HN,HK7,HX7,HB7⟩
     case measure=>simp [intOf];omega
    | false =>
     have HN:Hid (sX b known self kids=false):=hid (by rw [HTS.o];rfl);go_wp2_with fail
     go_ret;rw [(HTH.o false).2 (by rw [HN.o];simp)];exact ⟨rfl,HB7.o⟩
theorem uA {b:Bk} {v:cP} (known self:Int) (hkn:known<=b.entries.length) : ∀ (m:Nat),m<=1000000000000000->∀ (w:World) (R:Nat->Prop) (xs:List Value) (n:Nd) (atoms:List Nd) (kids:Fo),bY w v b->(∀ b,R b->b<w.heap.size)->iF R w xs n atoms kids->iC n=true->gI kids->bN kids<m →
      Calls Tryz.prog 90 #[.agg #[O X b.vars,Y v.Ao v.no v.co,Y v.Ae v.ne v.ce,O X b.nat,Y v.Ap v.np v.cp],O X known,O X self,.agg xs.toArray] w (fT (IA b known self n atoms kids) w)
 | 0,_,_,_,_,_,_,_,_,_,_,_,_,h=>absurd h aA
 | m+1,hm,w,R,xs,n,atoms,kids,h1,h2,h3,h4,h5,h6=>BE known self hkn m aA (uA known self hkn m aA) w R xs n atoms kids h1 h2 h3 h4 h5 aA
end Go.Proofs.YtplecfbdchmogaaGreat
