/- Row and rows of the reference (books). -/
import Derived.Test.YtplecfbdchmogaaGreatDShort2
import Derived.Test.YtplecfbdchmogaaGreatDThere
import Derived.Test.YtplecfbdchmogaaGreatDRefTerm
import Derived.Test.YtplecfbdchmogaaGreatDProgW
namespace Go.Proofs.YtplecfbdchmogaaGreat
open Go.Value renaming int → O, slice → Y
open Go.IntKind renaming i64 → X
open Go.Lib (hid)
set_option maxHeartbeats 4000000
set_option maxRecDepth 100000
set_option linter.unusedVariables false
set_option linter.unusedSimpArgs false
open Go.RowKit
theorem JH {b:Bk} {known self:Int} {m:Nd} (h:m.op=13):cM b known self m=true:=by
 unfold cM;rw [if_neg aA,if_neg aA,if_neg aA,if_neg aA,if_neg aA]
theorem K3 {b:Bk} {known self:Int} {m:Nd} (h:m.op=3):cM b known self m=decide (m.a<=b.vars):=by
 unfold cM;rw [if_pos h]
theorem vR {α:Type} {f g:α->Bool} : ∀ {L:List α},(∀ y ∈ L,f y=g y)->L.all f=L.all g
 | [],_=>rfl
 | x::L,h=>by
  simp only [List.all_cons];rw [h x (by simp),vR (fun y hy=>h y (by simp [hy]))]
theorem BD {b:Bk} {known self:Int} : ∀ (F:Fo) (dl:List Bool),Wf dl F->(row F).all (cM b known self)=sX b known self F
 | .nil,_,_=>rfl
 | .cons _ _ _ _ _,[],h=>h.elim
 | .cons p n a k x,d::dr,h=>by
  obtain ⟨hp,hok,hat,hk,hx⟩:=h;have e1:p.all (cM b known self)=true:=by
   cases d with
   | false=>simp only at hp;subst hp;rfl
   | true =>
    obtain ⟨f,rfl,hf⟩:=hp;simp only [tN,Bool.and_eq_true,decide_eq_true_eq] at hf;simp [JH hf.2]
  have e2:a.all (cM b known self)=a.all (fun m=>decide (m.a<=b.vars)):=by
   unfold vP at hat;split at hat
   · exact vR (fun m hm=>K3 (vT _ _ _ _ hat m hm))
   subst hat;rfl
  simp only [row,List.all_append,List.all_cons,sX,e1,e2,BD k _ hk,BD x _ hx,Bool.true_and,Bool.and_assoc]
theorem L0 {b:Bk} {known self:Int} {l:List Nd} {n:Nd} {a:List Nd} {k:Fo} (hpp:pp [false] l=some (.cons [] n a k .nil,[])):l.all (cM b known self)=IA b known self n a k:=by
 have hw:=kT hpp;have hr:=nN hpp;simp only [List.append_nil] at hr;rw [hr,BD _ _ hw,sD];simp [sX]
theorem jW {w:World} {v:cP} {b:Bk} (hb:bY w v b) (known self below:Int) (hkn:known<=b.entries.length) {A:Option Addr} {n c:Nat} {l:List Nd} (ht:aQ w A n c l) :
 Calls Tryz.prog 34 #[.agg #[O X b.vars,Y v.Ao v.no v.co,Y v.Ae v.ne v.ce,O X b.nat,Y v.Ap v.np v.cp],O X known,O X self,O X below,Y A n c] w (gD (eW b known self l below) w):=by
 have HT:=hid (fun (w':World) (h:Below w.heap.size w w')=>ht.below h);have HBV:=hid (fun (w':World) (h:Below w.heap.size w w')=>hb.below h);have HTHR:=hid (fun (w':World) (h:Below w.heap.size w w')=>uA (v:=v) (b:=b) known self hkn);have HB0:=hid (aB w (.cells #[O X b.vars,Y v.Ao v.no v.co,Y v.Ae v.ne v.ce,O X b.nat,Y v.Ap v.np v.cp] 26));have HK0:=hid (aE.new w 26 #[O X b.vars,Y v.Ao v.no v.co,Y v.Ae v.ne v.ce,O X b.nat,Y v.Ap v.np v.cp]);obtain ⟨bv,hbv⟩ : ∃ x,x=b.vars:=⟨_,rfl⟩;obtain ⟨bn,hbn⟩ : ∃ x,x=b.nat:=⟨_,rfl⟩;rw [<-hbv] at HTHR HB0 HK0 ⊢;rw [<-hbn] at HTHR HB0 HK0 ⊢;clear hbv hbn hb ht;obtain ⟨Ao,no,co,Ae,ne,ce,Ap,np,cp⟩:=v;simp only at HTHR HBV HB0 HK0 ⊢;obtain ⟨res,hres⟩ : ∃ res,res=eW b known self l below:=⟨_,rfl⟩;rw [<-hres];have HR:=hid hres;clear hres;by_cases hs:aO l=0;case neg =>
  have hr:Hid (res=aO l):=hid (by rw [HR.o];unfold eW;rw [if_pos hs]);have HSH:=hid (jJ (HT.o _ HB0.o));have d1:(aO l != 0)=true:=by simpa using hs
  generalize aO l=s at *;clear hs;go_in;go_wp2_with fail
  refine HSH.o.mono ?_;rintro e w2 ⟨rfl,hb2⟩;have HB2:=cN HB0 hb2;clear hb2;go_wp2_with fail
  go_ret;rw [hr.o];exact ⟨rfl,HB2.o⟩
 have HSH:=hid (jJ (HT.o _ HB0.o));rw [hs] at HSH;have HS:=hid hs;clear hs;go_in;go_wp2_with fail
 refine HSH.o.mono ?_;rintro e w2 ⟨rfl,hb2⟩;have HB2:=cN HB0 hb2;have HK2:=gJ HK0 hb2;clear hb2;go_wp2_with fail
 refine (pK (HT.o _ HB2.o)).mono ?_;rintro e w3 ⟨hb3,⟨hs,_⟩ | ⟨xs,n1,ats,k,rfl,htree,hpp,_⟩⟩
 · exact absurd HS.o hs
 obtain ⟨sk,sa,sf,rfl,hkk,haa,hff⟩:=htree;obtain ⟨Ak,nk,ck,rfl,hkk⟩:=hkk;obtain ⟨Aa,na,ca,rfl,haa⟩:=haa;obtain ⟨Af,nf,cf,rfl,hff⟩:=hff;have HTREE:Hid (iF (fresh w2 w3) w3 [O X n1.op,O X n1.a,O X n1.b,Y Ak nk ck,Y Aa na ca,Y Af nf cf] n1 ats k):=hid ⟨_,_,_,rfl,⟨Ak,nk,ck,rfl,hkk⟩,⟨Aa,na,ca,rfl,haa⟩,⟨Af,nf,cf,rfl,hff⟩⟩;have HB3:=cN HB2 hb3;have HK3:=gJ HK2 hb3;have HBX:=hid (HB3.o.alloc HB3.o.size (.cells #[O X n1.op,O X n1.a,O X n1.b,Y Ak nk ck,Y Aa na ca,Y Af nf cf] 131));have HKX:=hid (HK3.o.alloc (.cells #[O X n1.op,O X n1.a,O X n1.b,Y Ak nk ck,Y Aa na ca,Y Af nf cf] 131));have HXX:=hid (aE.new w3 131 #[O X n1.op,O X n1.a,O X n1.b,Y Ak nk ck,Y Aa na ca,Y Af nf cf]);have hw:=kT hpp;obtain ⟨_,hok,_,hkw,_⟩:=hw;have hall:=xH hpp;have hfs:bN k<=4096:=by
  obtain ⟨_,n',a',k',h1,_,h2⟩:=f6 HS.o;rw [hpp] at h1;simp only [Option.some.injEq,Prod.mk.injEq,Fo.cons.injEq] at h1;obtain ⟨⟨_,_,_,h3,_⟩,_⟩:=h1;rw [h3];exact h2
 have HTH:=hid (L0 (b:=b) (known:=known) (self:=self) hpp);have HRB:Hid (∀ x y,gE l below=x->IA b known self n1 ats k=y->res=if x&&y then 0 else 8):=hid (fun x y h1 h2=>by
  rw [HR.o];unfold eW;rw [HS.o,if_neg (by simp),h1,HTH.o,h2];cases x<;>cases y<;>simp)
 have HCB:=hid (fun (w':World) (h:Below w3.heap.size w3 w')=>HTHR.o w' (HB3.o.trans (h.mono HB3.o.size)) (bN k+1) aA w' (fresh w2 w3) _ n1 ats k (HBV.o w' (HB3.o.trans (h.mono HB3.o.size))) (fun b' hb'=>Nat.lt_of_lt_of_le hb'.2 h.size) (HTREE.o.keep fun b' hb'=>⟨hb',fun o=>h.cell (p:=⟨b',o,none⟩) hb'.2⟩) hok hall.2.1 (Nat.lt_succ_self _));have HBL:=hid (fun (w':World) (h:Below w.heap.size w w')=>u9 (HT.o w' h) below);have hbx3:=hid (aB w3 (.cells #[O X n1.op,O X n1.a,O X n1.b,Y Ak nk ck,Y Aa na ca,Y Af nf cf] 131));generalize gE l below=bb at *;obtain ⟨tt,htt⟩ : ∃ tt,tt=IA b known self n1 ats k:=⟨_,rfl⟩;rw [<-htt] at HCB;have HTT:=hid htt;have zx:=aE.cell HXX.o;clear hkk haa hff hb3 hok hkw hall hfs hpp htt;generalize n1.op=n1o at *;generalize n1.a=n1a at *;generalize n1.b=n1b at *;go_wp2_with fail
 refine (HBL.o _ HBX.o).mono ?_;rintro e w4 ⟨rfl,hb4⟩;have HB4:=cN HBX hb4;have HK4:=gJ HKX hb4;have HX4:=gJ HXX hb4;have HB34:=cN hbx3 hb4;have zb4:=aE.cell HK4.o;have zx4:=aE.cell HX4.o;clear hb4 zx;cases bb with
 | false =>
  have hr:=HRB.o false _ rfl rfl;rw [Bool.false_and,if_neg (by simp)] at hr;have HRF:=hid hr;clear hr;go_wp2_with fail
  go_ret;rw [HRF.o];exact ⟨rfl,HB4.o⟩
 | true =>
  have HC:=hid (HCB.o _ HB34.o);have hr:=HRB.o true tt rfl HTT.o.symm;rw [Bool.true_and] at hr;have HRF:=hid hr;clear hr;go_wp2_with fail
  refine HC.o.mono ?_;rintro e w5 ⟨rfl,hb5⟩;have HB5:=cN HB4 hb5;clear hb5;cases tt with
  | true =>
   go_wp2_with fail
   go_ret;rw [HRF.o];exact ⟨rfl,HB5.o⟩
  | false =>
   go_wp2_with fail
   go_ret;rw [HRF.o];exact ⟨rfl,HB5.o⟩
theorem mC {w:World} {v:cP} {b:Bk} (hb:bY w v b) (known self below:Int) (hkn:known<=b.entries.length) (hbl0:0<=below) (hbl1:below<=1000) {A:Option Addr} {n c:Nat} {ls:List (List Nd)} (ht:cE w A n c ls) :
 Calls Tryz.prog 83 #[.agg #[O X b.vars,Y v.Ao v.no v.co,Y v.Ae v.ne v.ce,O X b.nat,Y v.Ap v.np v.cp],O X known,O X self,O X below,Y A n c] w (gD (bP b known self 1 ls below) w):=by
 have HT:=hid (fun (w':World) (h:Below w.heap.size w w')=>ht.below h);have HRW:=hid (fun (w':World) (h:Below w.heap.size w w') (bl:Int) (A':Option Addr) (n' c':Nat) (l:List Nd) (h2:aQ w' A' n' c' l)=>jW (hb.below h) known self bl hkn h2);have HB0:=hid (aB w (.cells #[O X b.vars,Y v.Ao v.no v.co,Y v.Ae v.ne v.ce,O X b.nat,Y v.Ap v.np v.cp] 26));have HK0:=hid (aE.new w 26 #[O X b.vars,Y v.Ao v.no v.co,Y v.Ae v.ne v.ce,O X b.nat,Y v.Ap v.np v.cp]);obtain ⟨bv,hbv⟩ : ∃ x,x=b.vars:=⟨_,rfl⟩;obtain ⟨bn,hbn⟩ : ∃ x,x=b.nat:=⟨_,rfl⟩;rw [<-hbv] at HRW HB0 HK0 ⊢;rw [<-hbn] at HRW HB0 HK0 ⊢;have HLN:=hid ht.len;have hfew:=ht.few;clear hbv hbn hb ht;obtain ⟨Ao,no,co,Ae,ne,ce,Ap,np,cp⟩:=v;simp only at HRW HB0 HK0 ⊢;obtain ⟨res,hres⟩ : ∃ res,res=bP b known self 1 ls below:=⟨_,rfl⟩;rw [<-hres];have HR:=hid hres;clear hres;go_in;go_wp2_with fail
 go_loopw [11] (fun iv wr=>∃ i:Nat,iv=O X (i:Int)/\i<=n/\Hid (bP b known self 1 (ls.drop i) (below+i)=res)/\Hid (aE wr w.heap.size 26 #[O X bv,Y Ao no co,Y Ae ne ce,O X bn,Y Ap np cp])/\Hid (Below w.heap.size w wr)) (fun i _=>n-(intOf i).toNat)
 case atStart=>exact ⟨0,rfl,by omega,hid (by rw [List.drop_zero,show below+((0:Nat):Int)=below from by omega];exact HR.o.symm),HK0,HB0⟩
 case round =>
  obtain ⟨i,rfl,hin,hrs,hkb,hbw⟩:=hrel;by_cases hi2:i<n;rotate_left
  · have hib:decide ((i:Int)<(n:Int))=false:=decide_eq_false aA;have hib2:decide (i<n)=false:=decide_eq_false hi2;have hrs2:=hrs.o;rw [List.drop_of_length_le (by rw [HLN.o];omega)] at hrs2;have HRF:Hid (res=0):=hid hrs2.symm;clear hrs2;go_wp2_with fail
    go_ret;rw [HRF.o];exact ⟨rfl,hbw.o⟩
  have hib:decide ((i:Int)<(n:Int))=true:=decide_eq_true aA;have hib2:decide (i<n)=true:=decide_eq_true hi2;have hil:i<ls.length:=by rw [HLN.o];exact hi2
  have hrs2:=hrs.o;rw [List.drop_eq_getElem_cons hil,show ls[i]=ls.getD i [] from by rw [List.getD_eq_getElem?_getD,List.getElem?_eq_getElem hil];rfl] at hrs2;have hstep:∀ (l:List Nd) (r:List (List Nd)) (bl:Int),bP b known self 1 (l::r) bl=if eW b known self l bl ≠ 0 then eW b known self l bl else bP b known self 1 r (bl+1):=fun _ _ _=>rfl;rw [hstep] at hrs2;have HBd:=hid (aK hbw.o 1);have HKd:=hid (hkb.o.drewN 1);obtain ⟨bk,ok,A',n',c',rfl,hbk,hc,hti⟩:=(HT.o w (Below.refl _ _)).at_ hi2;have zbd:=aE.cell HKd.o;have zsd:=(HBd.o.cell (p:=⟨bk,ok+i,none⟩) hbk).trans hc;have hbkd:=Nat.lt_of_lt_of_le hbk HBd.o.size;have hwrap:IntKind.i64.wrap (below+(i:Int))=below+(i:Int):=by rw [IntKind.wrap_i64];omega
  have HC:=hid (HRW.o _ HBd.o (below+(i:Int)) A' n' c' _ (hti.below HBd.o));generalize eW b known self (ls.getD i []) (below+(i:Int))=re at *;clear hstep hc hti;have HRS2:=hid hrs2;clear hrs2;go_wp2_with fail
  refine wp_region_held_drew (S:=(fun w'=>w'.cell? ⟨w.heap.size,0,none⟩=some (O X bv)/\w'.cell? ⟨w.heap.size,1,none⟩=some (Y Ao no co)/\w'.cell? ⟨w.heap.size,2,none⟩=some (Y Ae ne ce)/\w'.cell? ⟨w.heap.size,3,none⟩=some (O X bn)/\w'.cell? ⟨w.heap.size,4,none⟩=some (Y Ap np cp)/\w'.cell? ⟨bk,ok+i,none⟩=some (Y A' n' c'))) (by kernel_rfl) ?_ (fun hHeld => ?_)
  · (try dsimp only);exact ⟨zbd 0,zbd 1,zbd 2,zbd 3,zbd 4,zsd⟩
  refine tq 0 hHeld ?_;try simp only [p7]
  refine tq 1 hHeld ?_;try simp only [p7]
  refine tq 2 hHeld ?_;try simp only [p7]
  refine tq 3 hHeld ?_;try simp only [p7]
  refine tq 4 hHeld ?_;try simp only [p7]
  refine tq 5 hHeld ?_;try simp only [p7]
  refine tq 6 hHeld ?_;try simp only [p7]
  refine tq 7 hHeld ?_;try simp only [p7]
  refine tq 8 hHeld ?_;try simp only [p7]
  refine tq 9 hHeld ?_;try simp only [p7]
  refine r1 10 fun K hK => ?_;go_simp;go_at_call 34
  refine HC.o.mono ?_;rintro e' w7 ⟨rfl,hw7⟩;have HB7:=cN HBd hw7;have HK7:=gJ HKd hw7;have zb7:=aE.cell HK7.o;have zs7:=(hw7.cell (p:=⟨bk,ok+i,none⟩) hbkd).trans zsd;clear hw7;go_wp2_with fail
  refine hK.o _ _ (by exact ⟨zb7 0,zb7 1,zb7 2,zb7 3,zb7 4,zs7⟩) fun hHeld => ?_;clear hK K;try simp only [p7]
  refine tq 11 hHeld ?_;try simp only [p7]
  refine wpAnyH_done (by kernel_rfl) ?_ _;have hrs2:=HRS2.o;by_cases h0:re=0
  · subst h0;rw [if_neg (by simp)] at hrs2;have HN:Hid (bP b known self 1 (ls.drop (i+1)) (below+((i+1:Nat):Int))=res):=hid (by rw [<-hrs2];congr 1;omega);clear hrs2;go_wp2_with fail
    go_roundw
    case rel=>exact ⟨i+1,by go_num,by omega,HN,HK7,HB7⟩
    case measure=>simp [intOf];omega
  rw [if_pos h0] at hrs2;have HRF:=hid hrs2;have d1:(re != 0)=true:=by simpa using h0
  clear hrs2 h0;go_wp2_with fail
  go_ret;rw [<-HRF.o];exact ⟨rfl,HB7.o⟩
end Go.Proofs.YtplecfbdchmogaaGreat
