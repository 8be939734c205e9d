/- Row and rows of the reference (books). -/
import Derived.Test.YtjllmblbbgojbaaGreatXThere
import Derived.Test.YtjllmblbbgojbaaGreatXRvE8
namespace Go.Proofs.YtjllmblbbgojbaaGreat
set_option linter.unusedVariables false
set_option linter.unusedSimpArgs false
open Go.RowKit
open Go.Value renaming int → O, slice → Y
open Go.IntKind renaming i64 → X
open Go.Lib renaming hid->aB
set_option maxHeartbeats 4000000
set_option maxRecDepth 100000
theorem M4 {b:Bk} {known self:Int} {m:Nd} (h:m.op=13):bZ b known self m=true:=by
 unfold bZ;rw[if_neg aA,if_neg aA,if_neg aA,if_neg aA,if_neg aA]
theorem OS {b:Bk} {known self:Int} {m:Nd} (h:m.op=3):bZ b known self m=decide (m.a<=b.vars):=by
 unfold bZ;rw[if_pos h]
theorem yV {α:Type} {f g:α->Bool} : ∀{L:List α},(∀y ∈ L,f y=g y)->L.all f=L.all g
 | [],_=>rfl
 | x::L,h=>by
  simp only[List.all_cons];rw[h x aD,yV (fun y hy=>h y (by simp[hy]))]
theorem D8 {b:Bk} {known self:Int} : ∀(F:Fo) (dl:List Bool),Wf dl F->(row F).all (bZ b known self)=uO b known self F
 | .nil,_,_=>rfl
 | .cons _ _ _ _ _,[],h=>h.elim
 | .cons p n a k x,d::dr,h=>by
  obtain⟨hp,hok,hat,hk,hx⟩:=h;have e1:p.all (bZ b known self)=true:=by
   cases d with
   | false=>simp only at hp;subst hp;rfl
   | true =>
    obtain⟨f,rfl,hf⟩:=hp;simp only[tW,Bool.and_eq_true,decide_eq_true_eq] at hf;simp[M4 hf.2]
  have e2:a.all (bZ b known self)=a.all (fun m=>decide (m.a<=b.vars)):=by
   unfold iY at hat;split at hat
   · exact yV (fun m hm=>OS (yY _ _ _ _ hat m hm))
   subst hat;rfl
  simp only[row,List.all_append,List.all_cons,uO,e1,e2,D8 k _ hk,D8 x _ hx,Bool.true_and,Bool.and_assoc]
theorem PO {b:Bk} {known self:Int} {l:List Nd} {n:Nd} {a:List Nd} {k:Fo} (hpp:pp [false] l=some (.cons [] n a k .nil,[])):l.all (bZ b known self)=LY b known self n a k:=by
 have hw:=iG hpp;have hr:=nP hpp;simp only[List.append_nil] at hr;rw[hr,D8 _ _ hw,tL];simp[uO]
theorem jR {w:World} {v:bN} {b:Bk} (hb:bV w v b) (known self below:Int) (hkn:known<=b.entries.length) {A:Option Addr} {n c:Nat} {l:List Nd} (ht:bB w A n c l) :
 Calls Tryz.prog 36 #[.agg #[O X b.vars,Y v.Ao v.no v.co,Y v.Ae v.ne v.ce,O X b.nat,Y v.Ap v.np v.cp],O X known,O X self,O X below,Y A n c] w (iK (fM b known self l below) w):=by
 have HT:=aB (fun (w':World) (h:Below w.heap.size w w')=>ht.below h);have HBV:=aB (fun (w':World) (h:Below w.heap.size w w')=>hb.below h);have HTHR:=aB (fun (w':World) (h:Below w.heap.size w w')=>wJ (v:=v) (b:=b) known self hkn);have HB0:=aB (aP w (.cells #[O X b.vars,Y v.Ao v.no v.co,Y v.Ae v.ne v.ce,O X b.nat,Y v.Ap v.np v.cp] 26));have HK0:=aB (aS.new w 26 #[O X b.vars,Y v.Ao v.no v.co,Y v.Ae v.ne v.ce,O X b.nat,Y v.Ap v.np v.cp]);obtain⟨bv,hbv⟩ : ∃x,x=b.vars:=⟨_,rfl⟩;obtain⟨bn,hbn⟩ : ∃x,x=b.nat:=⟨_,rfl⟩;rw[<-hbv] at HTHR HB0 HK0 ⊢;rw[<-hbn] at HTHR HB0 HK0 ⊢;clear hbv hbn hb ht;obtain⟨Ao,no,co,Ae,ne,ce,Ap,np,cp⟩:=v;simp only at HTHR HBV HB0 HK0 ⊢;obtain⟨res,hres⟩ : ∃res,res=fM b known self l below:=⟨_,rfl⟩;rw[<-hres];have HR:=aB hres;clear hres;by_cases hs:bC l=0;case neg =>
  have hr:Hid (res=bC l):=aB (by rw[HR.o];unfold fM;rw[if_pos hs]);have HSH:=aB (jC (HT.o _ HB0.o));have d1:(bC l != 0)=true:=by simpa using hs
  generalize bC l=s at *;clear hs;go_in;go_wp2_with fail;refine HSH.o.mono ?_;rintro e w2 ⟨rfl,hb2⟩;have HB2:=dA HB0 hb2;clear hb2;go_wp2_with fail;go_ret;rw[hr.o];exact⟨rfl,HB2.o⟩
 have HSH:=aB (jC (HT.o _ HB0.o));rw[hs] at HSH;have HS:=aB hs;clear hs;go_in;go_wp2_with fail;refine HSH.o.mono ?_;rintro e w2 ⟨rfl,hb2⟩;have HB2:=dA HB0 hb2;have HK2:=gK HK0 hb2;clear hb2;go_wp2_with fail;refine (mM (HT.o _ HB2.o)).mono ?_;rintro e w3 ⟨hb3,⟨hs,_⟩ | ⟨xs,n1,ats,k,rfl,htree,hpp,_⟩⟩
 · exact absurd HS.o hs
 obtain⟨sk,sa,sf,rfl,hkk,haa,hff⟩:=htree;obtain⟨Ak,nk,ck,rfl,hkk⟩:=hkk;obtain⟨Aa,na,ca,rfl,haa⟩:=haa;obtain⟨Af,nf,cf,rfl,hff⟩:=hff;have HTREE:Hid (cJ (kD w2 w3) w3 [O X n1.op,O X n1.a,O X n1.b,Y Ak nk ck,Y Aa na ca,Y Af nf cf] n1 ats k):=aB ⟨_,_,_,rfl,⟨Ak,nk,ck,rfl,hkk⟩,⟨Aa,na,ca,rfl,haa⟩,⟨Af,nf,cf,rfl,hff⟩⟩;have HB3:=dA HB2 hb3;have HK3:=gK HK2 hb3;have HBX:=aB (HB3.o.alloc HB3.o.size (.cells #[O X n1.op,O X n1.a,O X n1.b,Y Ak nk ck,Y Aa na ca,Y Af nf cf] 49));have HKX:=aB (HK3.o.alloc (.cells #[O X n1.op,O X n1.a,O X n1.b,Y Ak nk ck,Y Aa na ca,Y Af nf cf] 49));have HXX:=aB (aS.new w3 49 #[O X n1.op,O X n1.a,O X n1.b,Y Ak nk ck,Y Aa na ca,Y Af nf cf]);have hw:=iG hpp;obtain⟨_,hok,_,hkw,_⟩:=hw;have hall:=oT hpp;have hfs:a7 k<=4096:=by
  obtain⟨_,n',a',k',h1,_,h2⟩:=fL HS.o;rw[hpp] at h1;simp only[Option.some.injEq,Prod.mk.injEq,Fo.cons.injEq] at h1;obtain⟨⟨_,_,_,h3,_⟩,_⟩:=h1;rw[h3];exact h2
 have HTH:=aB (PO (b:=b) (known:=known) (self:=self) hpp);have HRB:Hid (∀x y,fZ l below=x->LY b known self n1 ats k=y->res=if x&&y then 0 else 8):=aB (fun x y h1 h2=>by
  rw[HR.o];unfold fM;rw[HS.o,if_neg aD,h1,HTH.o,h2];cases x<;>cases y<;>simp)
 have HCB:=aB (fun (w':World) (h:Below w3.heap.size w3 w')=>HTHR.o w' (HB3.o.trans (h.mono HB3.o.size)) (a7 k+1) aA w' (kD w2 w3) _ n1 ats k (HBV.o w' (HB3.o.trans (h.mono HB3.o.size))) (fun b' hb'=>Nat.lt_of_lt_of_le hb'.2 h.size) (HTREE.o.keep fun b' hb'=>⟨hb',fun o=>h.cell (p:=⟨b',o,none⟩) hb'.2⟩) hok hall.2.1 (Nat.lt_succ_self _));have HBL:=aB (fun (w':World) (h:Below w.heap.size w w')=>xV (HT.o w' h) below);have hbx3:=aB (aP w3 (.cells #[O X n1.op,O X n1.a,O X n1.b,Y Ak nk ck,Y Aa na ca,Y Af nf cf] 49));generalize fZ l below=bb at *;obtain⟨tt,htt⟩ : ∃tt,tt=LY b known self n1 ats k:=⟨_,rfl⟩;rw[<-htt] at HCB;have HTT:=aB htt;clear hkk haa hff hb3 hok hkw hall hfs hpp htt;generalize n1.op=n1o at *;generalize n1.a=n1a at *;generalize n1.b=n1b at *;go_wp2_with fail;refine (HBL.o _ HBX.o).mono ?_;rintro e w4 ⟨rfl,hb4⟩;have HB4:=dA HBX hb4;have HK4:=gK HKX hb4;have HX4:=gK HXX hb4;have HB34:=dA hbx3 hb4;have zb4:=aS.cell HK4.o;have zx4:=aS.cell HX4.o;clear hb4;cases bb with
 | false =>
  have hr:=HRB.o false _ rfl rfl;rw[Bool.false_and,if_neg aD] at hr;have HRF:=aB hr;clear hr;go_wp2_with fail;go_ret;rw[HRF.o];exact⟨rfl,HB4.o⟩
 | true =>
  have HC:=aB (HCB.o _ HB34.o);have hr:=HRB.o true tt rfl HTT.o.symm;rw[Bool.true_and] at hr;have HRF:=aB hr;clear hr;go_wp2_with fail;refine HC.o.mono ?_;rintro e w5 ⟨rfl,hb5⟩;have HB5:=dA HB4 hb5;clear hb5;cases tt with
  | true =>
   go_wp2_with fail;go_ret;rw[HRF.o];exact⟨rfl,HB5.o⟩
  | false =>
   go_wp2_with fail;go_ret;rw[HRF.o];exact⟨rfl,HB5.o⟩
theorem lX {w:World} {v:bN} {b:Bk} (hb:bV w v b) (known self below:Int) (hkn:known<=b.entries.length) (hbl0:0<=below) (hbl1:below<=1000) {A:Option Addr} {n c:Nat} {ls:List (List Nd)} (ht:dO w A n c ls) :
 Calls Tryz.prog 95 #[.agg #[O X b.vars,Y v.Ao v.no v.co,Y v.Ae v.ne v.ce,O X b.nat,Y v.Ap v.np v.cp],O X known,O X self,O X below,Y A n c] w (iK (cZ b known self 1 ls below) w):=by
 have HT:=aB (fun (w':World) (h:Below w.heap.size w w')=>ht.below h);have HRW:=aB (fun (w':World) (h:Below w.heap.size w w') (bl:Int) (A':Option Addr) (n' c':Nat) (l:List Nd) (h2:bB w' A' n' c' l)=>jR (hb.below h) known self bl hkn h2);have HB0:=aB (aP w (.cells #[O X b.vars,Y v.Ao v.no v.co,Y v.Ae v.ne v.ce,O X b.nat,Y v.Ap v.np v.cp] 26));have HK0:=aB (aS.new w 26 #[O X b.vars,Y v.Ao v.no v.co,Y v.Ae v.ne v.ce,O X b.nat,Y v.Ap v.np v.cp]);obtain⟨bv,hbv⟩ : ∃x,x=b.vars:=⟨_,rfl⟩;obtain⟨bn,hbn⟩ : ∃x,x=b.nat:=⟨_,rfl⟩;rw[<-hbv] at HRW HB0 HK0 ⊢;rw[<-hbn] at HRW HB0 HK0 ⊢;have HLN:=aB ht.len;have hfew:=ht.few;clear hbv hbn hb ht;obtain⟨Ao,no,co,Ae,ne,ce,Ap,np,cp⟩:=v;simp only at HRW HB0 HK0 ⊢;obtain⟨res,hres⟩ : ∃res,res=cZ b known self 1 ls below:=⟨_,rfl⟩;rw[<-hres];have HR:=aB hres;clear hres;go_in;go_wp2_with fail;go_loopw [11] (fun iv wr=>∃i:Nat,iv=O X (i:Int)/\i<=n/\Hid (cZ b known self 1 (ls.drop i) (below+i)=res)/\Hid (aS wr w.heap.size 26 #[O X bv,Y Ao no co,Y Ae ne ce,O X bn,Y Ap np cp])/\Hid (Below w.heap.size w wr)) (fun i _=>n-(intOf i).toNat)
 case atStart=>exact⟨0,rfl,by omega,aB (by rw[List.drop_zero,show below+((0:Nat):Int)=below from by omega];exact HR.o.symm),HK0,HB0⟩
 case round =>
  obtain⟨i,rfl,hin,hrs,hkb,hbw⟩:=hrel;by_cases hi2:i<n;rotate_left
  · have hib:decide ((i:Int)<(n:Int))=false:=decide_eq_false aA;have hrs2:=hrs.o;rw[List.drop_of_length_le (by rw[HLN.o];omega)] at hrs2;have HRF:Hid (res=0):=aB hrs2.symm;clear hrs2;go_wp2_with fail;go_ret;rw[HRF.o];exact⟨rfl,hbw.o⟩
  have hib:decide ((i:Int)<(n:Int))=true:=decide_eq_true aA;have hil:i<ls.length:=by rw[HLN.o];exact hi2
  have hrs2:=hrs.o;rw[List.drop_eq_getElem_cons hil,show ls[i]=ls.getD i [] from by rw[List.getD_eq_getElem?_getD,List.getElem?_eq_getElem hil];rfl] at hrs2;have hstep:∀(l:List Nd) (r:List (List Nd)) (bl:Int),cZ b known self 1 (l::r) bl=if fM b known self l bl ≠ 0 then fM b known self l bl else cZ b known self 1 r (bl+1):=fun _ _ _=>rfl;rw[hstep] at hrs2;have HBd:=aB (aV hbw.o 1);have HKd:=aB (hkb.o.drewN 1);obtain⟨bk,ok,A',n',c',rfl,hbk,hc,hti⟩:=(HT.o w (Below.refl _ _)).at_ hi2;have zbd:=aS.cell HKd.o;have zsd:=(HBd.o.cell (p:=⟨bk,ok+i,none⟩) hbk).trans hc;have hbkd:=Nat.lt_of_lt_of_le hbk HBd.o.size;have hwrap:IntKind.i64.wrap (below+(i:Int))=below+(i:Int):=by rw[IntKind.wrap_i64];omega
  have HC:=aB (HRW.o _ HBd.o (below+(i:Int)) A' n' c' _ (hti.below HBd.o));generalize fM b known self (ls.getD i []) (below+(i:Int))=re at *;clear hstep hc hti;have HRS2:=aB hrs2;clear hrs2;go_wp2_with fail;refine wp_region_held_drew (S:=(fun w'=>w'.cell? ⟨w.heap.size,0,none⟩=some (O X bv)/\w'.cell? ⟨w.heap.size,1,none⟩=some (Y Ao no co)/\w'.cell? ⟨w.heap.size,2,none⟩=some (Y Ae ne ce)/\w'.cell? ⟨w.heap.size,3,none⟩=some (O X bn)/\w'.cell? ⟨w.heap.size,4,none⟩=some (Y Ap np cp)/\w'.cell? ⟨bk,ok+i,none⟩=some (Y A' n' c'))) aC ?_ (fun hZ => ?_)
  · (try dsimp only);exact⟨zbd 0,zbd 1,zbd 2,zbd 3,zbd 4,zsd⟩
  refine aL 0 hZ ?_;refine aL 1 hZ ?_;refine aL 2 hZ ?_;refine aL 3 hZ ?_;refine aL 4 hZ ?_;refine aL 5 hZ ?_;refine aL 6 hZ ?_;refine aL 7 hZ ?_;refine aL 8 hZ ?_;refine aL 9 hZ ?_;refine r1 10 fun K hK => ?_;go_simp;go_at_call 36
  refine HC.o.mono ?_;rintro e' w7 ⟨rfl,hw7⟩;have HB7:=dA HBd hw7;have HK7:=gK HKd hw7;have zb7:=aS.cell HK7.o;have zs7:=(hw7.cell (p:=⟨bk,ok+i,none⟩) hbkd).trans zsd;clear hw7;go_wp2_with fail;refine hK.o _ _ (by exact⟨zb7 0,zb7 1,zb7 2,zb7 3,zb7 4,zs7⟩) fun hZ => ?_;clear hK K;try simp only[p7]
  refine aL 11 hZ ?_;refine wpAnyH_done aC ?_ _;have hrs2:=HRS2.o;by_cases h0:re=0
  · subst h0;rw[if_neg aD] at hrs2;have HN:Hid (cZ b known self 1 (ls.drop (i+1)) (below+((i+1:Nat):Int))=res):=aB (by rw[<-hrs2];congr 1;omega);clear hrs2;go_wp2_with fail;go_roundw
    case rel=>exact⟨i+1,by go_num,by omega,HN,HK7,HB7⟩
    case measure=>simp[intOf];omega
  rw[if_pos h0] at hrs2;have HRF:=aB hrs2;have d1:(re != 0)=true:=by simpa using h0
  clear hrs2 h0;go_wp2_with fail;go_ret;rw[<-HRF.o];exact⟨rfl,HB7.o⟩
end Go.Proofs.YtjllmblbbgojbaaGreat
