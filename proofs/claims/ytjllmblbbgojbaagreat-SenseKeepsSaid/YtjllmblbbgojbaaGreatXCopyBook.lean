/- CopyBook of the reference. -/
import Derived.Test.YtjllmblbbgojbaaGreatXCopyC
namespace Go.Proofs.YtjllmblbbgojbaaGreat
set_option linter.unusedVariables false
set_option linter.unusedSimpArgs false
open Go.RowKit
open Go.Value renaming int → O, slice → Y
open Go.IntKind renaming i64 → X
open Go.Obj renaming cells → Z
open Option renaming none → I, some → J
open Go.Lib renaming hid->aB
structure wU (b:Bk):Prop where
 entries:b.entries.length<=1000000
 rows:∀x ∈ b.entries,x.params.length<=1000000/\x.indices.length<=1000000/\x.ctors.length<=1000000/\∀c ∈ x.ctors,c.args.length<=1000000/\c.outs.length<=1000000
theorem fH {w:World} {A:Option Addr} {n c:Nat} {l:List Nd} (h:bB w A n c l) : ∀ad,A=J ad->∀j u,(fS l)[j]? = J u->w.cell? (ad.add j)=J u:=fun ad hA=>bP.flat_cells h ad hA
def xQ:List (Int×Int)->List Value
 | []=>[]
 | p::r=>O X p.1::O X p.2::xQ r
theorem FG:∀ps:List (Int×Int),(xQ ps).length=ps.length*2
 | []=>rfl
 | p::r=>by simp only[xQ,List.length_cons,FG r];omega
theorem KY:∀(ps:List (Int×Int)) (k:Nat),k<ps.length->(xQ ps)[k*2]? = J (O X (ps.getD k (0,0)).1)/\(xQ ps)[k*2+1]? = J (O X (ps.getD k (0,0)).2)
 | [],k,h=>absurd h aD
 | p::r,0,_=>⟨by simp[xQ],by simp[xQ]⟩
 | p::r,k+1,h=>by
  obtain⟨h1,h2⟩:=KY r k (by simpa using h);rw[show (k+1)*2=k*2+1+1 from by omega];exact⟨by simpa[xQ] using h1,by simpa[xQ] using h2⟩
theorem FH:∀ps:List (Int×Int),∀u ∈ xQ ps,u.oneCell'=true
 | [],u,h=>by cases h
 | p::r,u,h=>by
  simp only[xQ,List.mem_cons] at h;rcases h with rfl | rfl | h
  · rfl
  · rfl
  · exact FH r u h
theorem KZ:∀(ps:List (Int×Int)) (j:Nat) (u:Value),(xQ ps)[j]? = J u->∃k,k<ps.length/\((j=k*2/\u=O X (ps.getD k (0,0)).1)\/(j=k*2+1/\u=O X (ps.getD k (0,0)).2))
 | [],j,u,h=>by simp[xQ] at h
 | p::r,0,u,h=>by
  simp only[xQ,List.getElem?_cons_zero,Option.some.injEq] at h;exact⟨0,by simp,.inl ⟨rfl,h.symm⟩⟩
 | p::r,1,u,h=>by
  simp only[xQ,List.getElem?_cons_succ,List.getElem?_cons_zero,Option.some.injEq] at h;exact⟨0,by simp,.inr ⟨rfl,h.symm⟩⟩
 | p::r,j+2,u,h=>by
  simp only[xQ,List.getElem?_cons_succ] at h;obtain⟨k,hk,hh⟩:=KZ r j u h;refine⟨k+1,by simpa using hk,?_⟩;rcases hh with⟨e,hu⟩ | ⟨e,hu⟩
  · exact .inl ⟨by omega,by simpa using hu⟩
  · exact .inr ⟨by omega,by simpa using hu⟩
theorem GI {w:World} {A:Option Addr} {n c:Nat} {ps:List (Int×Int)} (h:tZ w A n c ps) : ∀ad,A=J ad->∀j u,(xQ ps)[j]? = J u->w.cell? (ad.add j)=J u:=by
 intro ad hA j u hu;obtain⟨k,hk,hh⟩:=KZ ps j u hu;obtain⟨b,off,e,_,hm⟩:=h.mem (by rw[<-h.len];omega);rw[hA] at e;injection e with e;subst e;obtain⟨m1,m2⟩:=hm k (by rw[<-h.len];exact hk);have ea:∀j,(⟨b,off,I⟩:Addr).add j=⟨b,off+j,I⟩:=fun j=>by unfold Addr.add;split<;>simp_all
 rw[ea];rcases hh with⟨rfl,rfl⟩ | ⟨rfl,rfl⟩
 · exact m1
 exact m2
set_option maxRecDepth 100000 in
set_option maxHeartbeats 8000000 in
theorem xE {w:World} {v:bN} {b:Bk} (hb:bV w v b) (hs:wU b) (hcp:v.Ap=I->v.cp=0) :
 Calls Tryz.prog 12 #[.agg #[O X b.vars,Y v.Ao v.no v.co,Y v.Ae v.ne v.ce,O X b.nat,Y v.Ap v.np v.cp]] w (fun e w'=>Below w.heap.size w w'/\∃u:bN,e=.returned (.agg #[O X b.vars,Y u.Ao u.no u.co,Y u.Ae u.ne u.ce,O X b.nat,Y u.Ap u.np u.cp])/\bV w' u b):=by
 obtain⟨i1,h1a,h1b,h1c,h1d⟩:=info_parts PG;obtain⟨i2,h2a,h2b,h2c,h2d⟩:=info_parts PH;obtain⟨i3,h3a,h3b,h3c,h3d⟩:=info_parts ON;obtain⟨i4,h4a,h4b,h4c,h4d⟩:=info_parts OM;have HI3a:=aB h3a;have HI3b:=aB h3b;have HI3c:=aB h3c;have HI3d:=aB h3d;have HI4a:=aB h4a;have HI4b:=aB h4b;have HI4c:=aB h4c;have HI4d:=aB h4d;have HB0:=aB hb;have HEL:=aB hb.entries.len;have hne6:v.ne<=1000000:=by have h1:=hs.entries;have h2:=hb.entries.len;omega
 have HI1a:=aB h1a;have HI1b:=aB h1b;have HI1c:=aB h1c;have HI1d:=aB h1d;have HI2a:=aB h2a;have HI2b:=aB h2b;have HI2c:=aB h2c;have HI2d:=aB h2d;have HBV:=aB (fun (w':World) (h:Below w.heap.size w w')=>hb.below h);have HTO:=aB (fun (w':World) (h:Below w.heap.size w w')=>(hb.orders.below h));have HOL:=aB hb.orders.len;have hof:=hb.orders.few;have hpf:=hb.prims.few;have HON:Hid (v.Ao=I->v.no=0/\v.co=0):=aB fun e=>by have:=hb.orders.nul e;have:=hb.orders.cap;omega
 have HPN:Hid (v.Ap=I->v.np=0/\v.cp=0):=aB fun e=>by
  refine⟨?_,hcp e⟩;rcases Nat.eq_zero_or_pos v.np with h | h
  · exact h
  obtain⟨_,_,e2,_⟩:=hb.prims.mem h;rw[e] at e2;cases e2
 have HPL:Hid ((xQ b.prims).length=v.np*2):=aB (by rw[FG,hb.prims.len]);have HPO:=aB (FH b.prims);have HPC:=aB (fun (w':World) (h:Below w.heap.size w w')=>GI (hb.prims.below h));have HSM:=aB hs;obtain⟨os,hos⟩ : ∃o,o=b.orders:=⟨_,rfl⟩;obtain⟨pv,hpv⟩ : ∃o,o=xQ b.prims:=⟨_,rfl⟩;rw[<-hos] at HTO HOL;rw[<-hpv] at HPL HPO HPC;obtain⟨es,hes⟩ : ∃o,o=b.entries:=⟨_,rfl⟩;have HES:=aB hes;rw[<-hes] at HEL;have HPV:=aB hpv;have HOS:=aB hos;obtain⟨bv,hbv⟩ : ∃o,o=b.vars:=⟨_,rfl⟩;obtain⟨bn,hbn⟩ : ∃o,o=b.nat:=⟨_,rfl⟩;rw[<-hbv,<-hbn];obtain⟨Ao,no,co,Ae,ne,ce,Ap,np,cp⟩:=v;simp only at HBV HB0 HTO HOL HEL hof hpf hne6 HON HPN HPL HPC ⊢;clear h1a h1b h1c h1d h2a h2b h2c h2d h3a h3b h3c h3d h4a h4b h4c h4d hb hs hos hpv hbv hbn hes;have HI0:Hid (gM w #[O X bv,Y Ao no co,Y Ae ne ce,O X bn,Y Ap np cp] os np pv 0 0 0 undef undef 0 ((w.alloc (Z #[O X bv,Y Ao no co,Y Ae ne ce,O X bn,Y Ap np cp] 26)).alloc (Z wV 26))):=aB (by
  refine⟨(aP w _).alloc aD _,(aS.new w _ _).alloc _,aS.new' aD,fun e=>(by cases e),fun e=>(by cases e),fun e=>(by cases e),fun e=>(by cases e),by omega,by omega,fun e=>(by cases e),fun h=>absurd h aA,fun h=>absurd h aA,fun h=>absurd h aA⟩)
 go_in;go_upto_region 1 with fail
 generalize hg:((w.alloc (Z #[O X bv,Y Ao no co,Y Ae ne ce,O X bn,Y Ap np cp] 26)).alloc (Z wV 26))=W0 at *;clear hg;go_cut [3] (fun tv wx=>∃gA A1 c1 A2 c2,tv=.pointer (J ⟨gA,0,I⟩)/\Hid (PR w #[O X bv,Y Ao no co,Y Ae ne ce,O X bn,Y Ap np cp] os np pv (O X bv) (O X bn) A1 A2 c1 c2 gA wx))
 case first =>
  refine wp_region_held_drew (S:=(fun w'=>∀i,w'.cell? ⟨w.heap.size,i,I⟩=(#[O X bv,Y Ao no co,Y Ae ne ce,O X bn,Y Ap np cp]:Array Value)[i]?)) aC ?_ (fun hZ => ?_)
  · (try dsimp only);exact HI0.out.box.cell
  have HI1:Hid (gM w #[O X bv,Y Ao no co,Y Ae ne ce,O X bn,Y Ap np cp] os np pv 0 0 0 undef undef 0 W0.drew):=aB (gM.drew HI0.out);clear HI0;generalize W0.drew=W1 at *;refine aL 0 hZ ?_;refine aL 1 hZ ?_;refine aL 2 hZ ?_;refine aL 3 hZ ?_;refine aL 5 hZ ?_;refine aL 6 hZ ?_;refine aL 9 hZ ?_;refine aL 10 hZ ?_;refine wpAnyH_ready (rs:=[4,8,13]) aC aD ?_;refine AllReadyH.cons rfl (fun K hK => ?_) (AllReadyH.cons rfl (fun K hK => ?_) (AllReadyH.cons rfl (fun K hK => ?_) AllReadyH.nil))
  · go_simp;refine hK.out _ _ (by exact (HI1.out.b1).box.cell) fun hZ => ?_;clear hK K;have HI2:=aB (HI1.out.b1);clear HI1;generalize hg:(W1.alloc (Z #[] 73))=W2 at *;clear hg;try simp only[p7]
    refine wpAnyH_ready (rs:=[7,8,13]) aC aD ?_;refine AllReadyH.cons rfl (fun K hK => ?_) (AllReadyH.cons rfl (fun K hK => ?_) (AllReadyH.cons rfl (fun K hK => ?_) AllReadyH.nil))
    · refine bU rfl (aX (.tmp 12) (.tmp 14) 22 rfl (w.heap.size+2) 73 i1 _ 3 24 Tryz.underlying22 HI1a.out HI1b.out HI1c.out HI1d.out rfl aE (Y (J ⟨W1.heap.size,0,I⟩) 0 0) 0 [] aF (HI2.out.o1 rfl) Ao no co (fS os) aF (by rw[fV,HOL.out]) HON.out ?_ (gC os) aJ aA HI2.out.big ?_)
      · exact fH (HTO.out _ HI2.out.bel)
      intro A3 c3 W3 ha;have HI3:=aB (gM.q1 HI2.out (by simpa[HOL.out] using ha));clear ha HI2;refine hK.out _ _ (by exact HI3.out.box.cell) fun hZ => ?_;clear hK K;try simp only[p7]
      refine r2 8 13 (fun K hK => ?_) fun K hK => ?_;rotate_left
      · go_simp;refine hK.out _ _ (by exact (HI3.out.a).box.cell) fun hZ => ?_;clear hK K;have HI9:=aB (HI3.out.a);clear HI3;generalize hg:(W3.alloc (Z wV 26))=W9 at *;clear hg;try simp only[p7]
        refine r1 8 fun K hK => ?_;go_simp;refine hK.out _ _ (by exact (HI9.out.b2).box.cell) fun hZ => ?_;clear hK K;have HI10:=aB (HI9.out.b2);clear HI9;generalize hg:(W9.alloc (Z #[] 76))=W10 at *;clear hg;try simp only[p7]
        refine r1 11 fun K hK => ?_;refine bU rfl (aX (.tmp 16) (.tmp 18) 24 rfl (w.heap.size+2) 76 i2 _ 2 16 Tryz.underlying24 HI2a.out HI2b.out HI2c.out HI2d.out rfl aE (Y (J ⟨W9.heap.size,0,I⟩) 0 0) 0 [] aF (HI10.out.p1 rfl) Ap np cp pv aF HPL.out HPN.out ?_ HPO.out aJ aA HI10.out.big ?_)
        · exact HPC.out _ HI10.out.bel
        intro A11 c11 W11 ha;have HI11:=aB (gM.q2 HI10.out (by simpa using ha));clear ha HI10;refine hK.out _ _ (by exact HI11.out.box.cell) fun hZ => ?_;clear hK K;try simp only[p7]
        refine aL 12 hZ ?_;refine r1 14 fun K hK => ?_;have zA:=aS.cell (HI11.out.al rfl).1;have zF:=aS.frozen (HI11.out.al rfl).1;go_simp;have hF:=gM.fin HI11.out (O X bv) (O X bn);rw[HOL.out] at hF;have HF:=aB hF;clear hF;refine hK.out _ _ (by exact HF.out.box.cell) fun hZ => ?_;clear hK K;try simp only[p7]
        refine wpAnyH_done aC ?_ _;go_wp2_with fail;go_meet;exact⟨_,_,_,_,_,rfl,HF⟩
      go_simp;refine hK.out _ _ (by exact (HI3.out.b2).box.cell) fun hZ => ?_;clear hK K;have HI4:=aB (HI3.out.b2);clear HI3;generalize hg:(W3.alloc (Z #[] 76))=W4 at *;clear hg;try simp only[p7]
      refine r2 11 13 (fun K hK => ?_) fun K hK => ?_
      · refine bU rfl (aX (.tmp 16) (.tmp 18) 24 rfl (w.heap.size+2) 76 i2 _ 2 16 Tryz.underlying24 HI2a.out HI2b.out HI2c.out HI2d.out rfl aE (Y (J ⟨W3.heap.size,0,I⟩) 0 0) 0 [] aF (HI4.out.p1 rfl) Ap np cp pv aF HPL.out HPN.out ?_ HPO.out aJ aA HI4.out.big ?_)
        · exact HPC.out _ HI4.out.bel
        intro A5 c5 W5 ha;have HI5:=aB (gM.q2 HI4.out (by simpa using ha));clear ha HI4;refine hK.out _ _ (by exact HI5.out.box.cell) fun hZ => ?_;clear hK K;try simp only[p7]
        refine aL 12 hZ ?_;refine r1 13 fun K hK => ?_;go_simp;refine hK.out _ _ (by exact (HI5.out.a).box.cell) fun hZ => ?_;clear hK K;have HI6:=aB (HI5.out.a);clear HI5;generalize hg:(W5.alloc (Z wV 26))=W6 at *;clear hg;try simp only[p7]
        refine r1 14 fun K hK => ?_;have zA:=aS.cell (HI6.out.al rfl).1;have zF:=aS.frozen (HI6.out.al rfl).1;go_simp;have hF:=gM.fin HI6.out (O X bv) (O X bn);rw[HOL.out] at hF;have HF:=aB hF;clear hF;refine hK.out _ _ (by exact HF.out.box.cell) fun hZ => ?_;clear hK K;try simp only[p7]
        refine wpAnyH_done aC ?_ _;go_wp2_with fail;go_meet;exact⟨_,_,_,_,_,rfl,HF⟩
      go_simp;refine hK.out _ _ (by exact (HI4.out.a).box.cell) fun hZ => ?_;clear hK K;have HI7:=aB (HI4.out.a);clear HI4;generalize hg:(W4.alloc (Z wV 26))=W7 at *;clear hg;try simp only[p7]
      refine r1 11 fun K hK => ?_;refine bU rfl (aX (.tmp 16) (.tmp 18) 24 rfl (w.heap.size+2) 76 i2 _ 2 16 Tryz.underlying24 HI2a.out HI2b.out HI2c.out HI2d.out rfl aE (Y (J ⟨W3.heap.size,0,I⟩) 0 0) 0 [] aF (HI7.out.p1 rfl) Ap np cp pv aF HPL.out HPN.out ?_ HPO.out aJ aA HI7.out.big ?_)
      · exact HPC.out _ HI7.out.bel
      intro A8 c8 W8 ha;have HI8:=aB (gM.q2 HI7.out (by simpa using ha));clear ha HI7;refine hK.out _ _ (by exact HI8.out.box.cell) fun hZ => ?_;clear hK K;try simp only[p7]
      refine aL 12 hZ ?_;refine r1 14 fun K hK => ?_;have zA:=aS.cell (HI8.out.al rfl).1;have zF:=aS.frozen (HI8.out.al rfl).1;go_simp;have hF:=gM.fin HI8.out (O X bv) (O X bn);rw[HOL.out] at hF;have HF:=aB hF;clear hF;refine hK.out _ _ (by exact HF.out.box.cell) fun hZ => ?_;clear hK K;try simp only[p7]
      refine wpAnyH_done aC ?_ _;go_wp2_with fail;go_meet;exact⟨_,_,_,_,_,rfl,HF⟩
    · go_simp;refine hK.out _ _ (by exact (HI2.out.b2).box.cell) fun hZ => ?_;clear hK K;have HI12:=aB (HI2.out.b2);clear HI2;generalize hg:(W2.alloc (Z #[] 76))=W12 at *;clear hg;try simp only[p7]
      refine r2 7 13 (fun K hK => ?_) fun K hK => ?_;rotate_left
      · go_simp;refine hK.out _ _ (by exact (HI12.out.a).box.cell) fun hZ => ?_;clear hK K;have HI18:=aB (HI12.out.a);clear HI12;generalize hg:(W12.alloc (Z wV 26))=W18 at *;clear hg;try simp only[p7]
        refine r1 7 fun K hK => ?_;refine bU rfl (aX (.tmp 12) (.tmp 14) 22 rfl (w.heap.size+2) 73 i1 _ 3 24 Tryz.underlying22 HI1a.out HI1b.out HI1c.out HI1d.out rfl aE (Y (J ⟨W1.heap.size,0,I⟩) 0 0) 0 [] aF (HI18.out.o1 rfl) Ao no co (fS os) aF (by rw[fV,HOL.out]) HON.out ?_ (gC os) aJ aA HI18.out.big ?_)
        · exact fH (HTO.out _ HI18.out.bel)
        intro A19 c19 W19 ha;have HI19:=aB (gM.q1 HI18.out (by simpa[HOL.out] using ha));clear ha HI18;refine hK.out _ _ (by exact HI19.out.box.cell) fun hZ => ?_;clear hK K;try simp only[p7]
        refine r1 11 fun K hK => ?_;refine bU rfl (aX (.tmp 16) (.tmp 18) 24 rfl (w.heap.size+2) 76 i2 _ 2 16 Tryz.underlying24 HI2a.out HI2b.out HI2c.out HI2d.out rfl aE (Y (J ⟨W2.heap.size,0,I⟩) 0 0) 0 [] aF (HI19.out.p1 rfl) Ap np cp pv aF HPL.out HPN.out ?_ HPO.out aJ aA HI19.out.big ?_)
        · exact HPC.out _ HI19.out.bel
        intro A20 c20 W20 ha;have HI20:=aB (gM.q2 HI19.out (by simpa using ha));clear ha HI19;refine hK.out _ _ (by exact HI20.out.box.cell) fun hZ => ?_;clear hK K;try simp only[p7]
        refine aL 12 hZ ?_;refine r1 14 fun K hK => ?_;have zA:=aS.cell (HI20.out.al rfl).1;have zF:=aS.frozen (HI20.out.al rfl).1;go_simp;have hF:=gM.fin HI20.out (O X bv) (O X bn);rw[HOL.out] at hF;have HF:=aB hF;clear hF;refine hK.out _ _ (by exact HF.out.box.cell) fun hZ => ?_;clear hK K;try simp only[p7]
        refine wpAnyH_done aC ?_ _;go_wp2_with fail;go_meet;exact⟨_,_,_,_,_,rfl,HF⟩
      refine bU rfl (aX (.tmp 12) (.tmp 14) 22 rfl (w.heap.size+2) 73 i1 _ 3 24 Tryz.underlying22 HI1a.out HI1b.out HI1c.out HI1d.out rfl aE (Y (J ⟨W1.heap.size,0,I⟩) 0 0) 0 [] aF (HI12.out.o1 rfl) Ao no co (fS os) aF (by rw[fV,HOL.out]) HON.out ?_ (gC os) aJ aA HI12.out.big ?_)
      · exact fH (HTO.out _ HI12.out.bel)
      intro A13 c13 W13 ha;have HI13:=aB (gM.q1 HI12.out (by simpa[HOL.out] using ha));clear ha HI12;refine hK.out _ _ (by exact HI13.out.box.cell) fun hZ => ?_;clear hK K;try simp only[p7]
      refine r2 11 13 (fun K hK => ?_) fun K hK => ?_
      · refine bU rfl (aX (.tmp 16) (.tmp 18) 24 rfl (w.heap.size+2) 76 i2 _ 2 16 Tryz.underlying24 HI2a.out HI2b.out HI2c.out HI2d.out rfl aE (Y (J ⟨W2.heap.size,0,I⟩) 0 0) 0 [] aF (HI13.out.p1 rfl) Ap np cp pv aF HPL.out HPN.out ?_ HPO.out aJ aA HI13.out.big ?_)
        · exact HPC.out _ HI13.out.bel
        intro A14 c14 W14 ha;have HI14:=aB (gM.q2 HI13.out (by simpa using ha));clear ha HI13;refine hK.out _ _ (by exact HI14.out.box.cell) fun hZ => ?_;clear hK K;try simp only[p7]
        refine aL 12 hZ ?_;refine r1 13 fun K hK => ?_;go_simp;refine hK.out _ _ (by exact (HI14.out.a).box.cell) fun hZ => ?_;clear hK K;have HI15:=aB (HI14.out.a);clear HI14;generalize hg:(W14.alloc (Z wV 26))=W15 at *;clear hg;try simp only[p7]
        refine r1 14 fun K hK => ?_;have zA:=aS.cell (HI15.out.al rfl).1;have zF:=aS.frozen (HI15.out.al rfl).1;go_simp;have hF:=gM.fin HI15.out (O X bv) (O X bn);rw[HOL.out] at hF;have HF:=aB hF;clear hF;refine hK.out _ _ (by exact HF.out.box.cell) fun hZ => ?_;clear hK K;try simp only[p7]
        refine wpAnyH_done aC ?_ _;go_wp2_with fail;go_meet;exact⟨_,_,_,_,_,rfl,HF⟩
      go_simp;refine hK.out _ _ (by exact (HI13.out.a).box.cell) fun hZ => ?_;clear hK K;have HI16:=aB (HI13.out.a);clear HI13;generalize hg:(W13.alloc (Z wV 26))=W16 at *;clear hg;try simp only[p7]
      refine r1 11 fun K hK => ?_;refine bU rfl (aX (.tmp 16) (.tmp 18) 24 rfl (w.heap.size+2) 76 i2 _ 2 16 Tryz.underlying24 HI2a.out HI2b.out HI2c.out HI2d.out rfl aE (Y (J ⟨W2.heap.size,0,I⟩) 0 0) 0 [] aF (HI16.out.p1 rfl) Ap np cp pv aF HPL.out HPN.out ?_ HPO.out aJ aA HI16.out.big ?_)
      · exact HPC.out _ HI16.out.bel
      intro A17 c17 W17 ha;have HI17:=aB (gM.q2 HI16.out (by simpa using ha));clear ha HI16;refine hK.out _ _ (by exact HI17.out.box.cell) fun hZ => ?_;clear hK K;try simp only[p7]
      refine aL 12 hZ ?_;refine r1 14 fun K hK => ?_;have zA:=aS.cell (HI17.out.al rfl).1;have zF:=aS.frozen (HI17.out.al rfl).1;go_simp;have hF:=gM.fin HI17.out (O X bv) (O X bn);rw[HOL.out] at hF;have HF:=aB hF;clear hF;refine hK.out _ _ (by exact HF.out.box.cell) fun hZ => ?_;clear hK K;try simp only[p7]
      refine wpAnyH_done aC ?_ _;go_wp2_with fail;go_meet;exact⟨_,_,_,_,_,rfl,HF⟩
    go_simp;refine hK.out _ _ (by exact (HI2.out.a).box.cell) fun hZ => ?_;clear hK K;have HI21:=aB (HI2.out.a);clear HI2;generalize hg:(W2.alloc (Z wV 26))=W21 at *;clear hg;try simp only[p7]
    refine r2 7 8 (fun K hK => ?_) fun K hK => ?_
    · refine bU rfl (aX (.tmp 12) (.tmp 14) 22 rfl (w.heap.size+2) 73 i1 _ 3 24 Tryz.underlying22 HI1a.out HI1b.out HI1c.out HI1d.out rfl aE (Y (J ⟨W1.heap.size,0,I⟩) 0 0) 0 [] aF (HI21.out.o1 rfl) Ao no co (fS os) aF (by rw[fV,HOL.out]) HON.out ?_ (gC os) aJ aA HI21.out.big ?_)
      · exact fH (HTO.out _ HI21.out.bel)
      intro A22 c22 W22 ha;have HI22:=aB (gM.q1 HI21.out (by simpa[HOL.out] using ha));clear ha HI21;refine hK.out _ _ (by exact HI22.out.box.cell) fun hZ => ?_;clear hK K;try simp only[p7]
      refine r1 8 fun K hK => ?_;go_simp;refine hK.out _ _ (by exact (HI22.out.b2).box.cell) fun hZ => ?_;clear hK K;have HI23:=aB (HI22.out.b2);clear HI22;generalize hg:(W22.alloc (Z #[] 76))=W23 at *;clear hg;try simp only[p7]
      refine r1 11 fun K hK => ?_;refine bU rfl (aX (.tmp 16) (.tmp 18) 24 rfl (w.heap.size+2) 76 i2 _ 2 16 Tryz.underlying24 HI2a.out HI2b.out HI2c.out HI2d.out rfl aE (Y (J ⟨W22.heap.size,0,I⟩) 0 0) 0 [] aF (HI23.out.p1 rfl) Ap np cp pv aF HPL.out HPN.out ?_ HPO.out aJ aA HI23.out.big ?_)
      · exact HPC.out _ HI23.out.bel
      intro A24 c24 W24 ha;have HI24:=aB (gM.q2 HI23.out (by simpa using ha));clear ha HI23;refine hK.out _ _ (by exact HI24.out.box.cell) fun hZ => ?_;clear hK K;try simp only[p7]
      refine aL 12 hZ ?_;refine r1 14 fun K hK => ?_;have zA:=aS.cell (HI24.out.al rfl).1;have zF:=aS.frozen (HI24.out.al rfl).1;go_simp;have hF:=gM.fin HI24.out (O X bv) (O X bn);rw[HOL.out] at hF;have HF:=aB hF;clear hF;refine hK.out _ _ (by exact HF.out.box.cell) fun hZ => ?_;clear hK K;try simp only[p7]
      refine wpAnyH_done aC ?_ _;go_wp2_with fail;go_meet;exact⟨_,_,_,_,_,rfl,HF⟩
    go_simp;refine hK.out _ _ (by exact (HI21.out.b2).box.cell) fun hZ => ?_;clear hK K;have HI25:=aB (HI21.out.b2);clear HI21;generalize hg:(W21.alloc (Z #[] 76))=W25 at *;clear hg;try simp only[p7]
    refine r1 7 fun K hK => ?_;refine bU rfl (aX (.tmp 12) (.tmp 14) 22 rfl (w.heap.size+2) 73 i1 _ 3 24 Tryz.underlying22 HI1a.out HI1b.out HI1c.out HI1d.out rfl aE (Y (J ⟨W1.heap.size,0,I⟩) 0 0) 0 [] aF (HI25.out.o1 rfl) Ao no co (fS os) aF (by rw[fV,HOL.out]) HON.out ?_ (gC os) aJ aA HI25.out.big ?_)
    · exact fH (HTO.out _ HI25.out.bel)
    intro A26 c26 W26 ha;have HI26:=aB (gM.q1 HI25.out (by simpa[HOL.out] using ha));clear ha HI25;refine hK.out _ _ (by exact HI26.out.box.cell) fun hZ => ?_;clear hK K;try simp only[p7]
    refine r1 11 fun K hK => ?_;refine bU rfl (aX (.tmp 16) (.tmp 18) 24 rfl (w.heap.size+2) 76 i2 _ 2 16 Tryz.underlying24 HI2a.out HI2b.out HI2c.out HI2d.out rfl aE (Y (J ⟨W21.heap.size,0,I⟩) 0 0) 0 [] aF (HI26.out.p1 rfl) Ap np cp pv aF HPL.out HPN.out ?_ HPO.out aJ aA HI26.out.big ?_)
    · exact HPC.out _ HI26.out.bel
    intro A27 c27 W27 ha;have HI27:=aB (gM.q2 HI26.out (by simpa using ha));clear ha HI26;refine hK.out _ _ (by exact HI27.out.box.cell) fun hZ => ?_;clear hK K;try simp only[p7]
    refine aL 12 hZ ?_;refine r1 14 fun K hK => ?_;have zA:=aS.cell (HI27.out.al rfl).1;have zF:=aS.frozen (HI27.out.al rfl).1;go_simp;have hF:=gM.fin HI27.out (O X bv) (O X bn);rw[HOL.out] at hF;have HF:=aB hF;clear hF;refine hK.out _ _ (by exact HF.out.box.cell) fun hZ => ?_;clear hK K;try simp only[p7]
    refine wpAnyH_done aC ?_ _;go_wp2_with fail;go_meet;exact⟨_,_,_,_,_,rfl,HF⟩
  · go_simp;refine hK.out _ _ (by exact (HI1.out.b2).box.cell) fun hZ => ?_;clear hK K;have HI28:=aB (HI1.out.b2);clear HI1;generalize hg:(W1.alloc (Z #[] 76))=W28 at *;clear hg;try simp only[p7]
    refine r2 4 13 (fun K hK => ?_) fun K hK => ?_;rotate_left
    · go_simp;refine hK.out _ _ (by exact (HI28.out.a).box.cell) fun hZ => ?_;clear hK K;have HI38:=aB (HI28.out.a);clear HI28;generalize hg:(W28.alloc (Z wV 26))=W38 at *;clear hg;try simp only[p7]
      refine r1 4 fun K hK => ?_;go_simp;refine hK.out _ _ (by exact (HI38.out.b1).box.cell) fun hZ => ?_;clear hK K;have HI39:=aB (HI38.out.b1);clear HI38;generalize hg:(W38.alloc (Z #[] 73))=W39 at *;clear hg;try simp only[p7]
      refine r1 7 fun K hK => ?_;refine bU rfl (aX (.tmp 12) (.tmp 14) 22 rfl (w.heap.size+2) 73 i1 _ 3 24 Tryz.underlying22 HI1a.out HI1b.out HI1c.out HI1d.out rfl aE (Y (J ⟨W38.heap.size,0,I⟩) 0 0) 0 [] aF (HI39.out.o1 rfl) Ao no co (fS os) aF (by rw[fV,HOL.out]) HON.out ?_ (gC os) aJ aA HI39.out.big ?_)
      · exact fH (HTO.out _ HI39.out.bel)
      intro A40 c40 W40 ha;have HI40:=aB (gM.q1 HI39.out (by simpa[HOL.out] using ha));clear ha HI39;refine hK.out _ _ (by exact HI40.out.box.cell) fun hZ => ?_;clear hK K;try simp only[p7]
      refine r1 11 fun K hK => ?_;refine bU rfl (aX (.tmp 16) (.tmp 18) 24 rfl (w.heap.size+2) 76 i2 _ 2 16 Tryz.underlying24 HI2a.out HI2b.out HI2c.out HI2d.out rfl aE (Y (J ⟨W1.heap.size,0,I⟩) 0 0) 0 [] aF (HI40.out.p1 rfl) Ap np cp pv aF HPL.out HPN.out ?_ HPO.out aJ aA HI40.out.big ?_)
      · exact HPC.out _ HI40.out.bel
      intro A41 c41 W41 ha;have HI41:=aB (gM.q2 HI40.out (by simpa using ha));clear ha HI40;refine hK.out _ _ (by exact HI41.out.box.cell) fun hZ => ?_;clear hK K;try simp only[p7]
      refine aL 12 hZ ?_;refine r1 14 fun K hK => ?_;have zA:=aS.cell (HI41.out.al rfl).1;have zF:=aS.frozen (HI41.out.al rfl).1;go_simp;have hF:=gM.fin HI41.out (O X bv) (O X bn);rw[HOL.out] at hF;have HF:=aB hF;clear hF;refine hK.out _ _ (by exact HF.out.box.cell) fun hZ => ?_;clear hK K;try simp only[p7]
      refine wpAnyH_done aC ?_ _;go_wp2_with fail;go_meet;exact⟨_,_,_,_,_,rfl,HF⟩
    go_simp;refine hK.out _ _ (by exact (HI28.out.b1).box.cell) fun hZ => ?_;clear hK K;have HI29:=aB (HI28.out.b1);clear HI28;generalize hg:(W28.alloc (Z #[] 73))=W29 at *;clear hg;try simp only[p7]
    refine r2 7 13 (fun K hK => ?_) fun K hK => ?_;rotate_left
    · go_simp;refine hK.out _ _ (by exact (HI29.out.a).box.cell) fun hZ => ?_;clear hK K;have HI35:=aB (HI29.out.a);clear HI29;generalize hg:(W29.alloc (Z wV 26))=W35 at *;clear hg;try simp only[p7]
      refine r1 7 fun K hK => ?_;refine bU rfl (aX (.tmp 12) (.tmp 14) 22 rfl (w.heap.size+2) 73 i1 _ 3 24 Tryz.underlying22 HI1a.out HI1b.out HI1c.out HI1d.out rfl aE (Y (J ⟨W28.heap.size,0,I⟩) 0 0) 0 [] aF (HI35.out.o1 rfl) Ao no co (fS os) aF (by rw[fV,HOL.out]) HON.out ?_ (gC os) aJ aA HI35.out.big ?_)
      · exact fH (HTO.out _ HI35.out.bel)
      intro A36 c36 W36 ha;have HI36:=aB (gM.q1 HI35.out (by simpa[HOL.out] using ha));clear ha HI35;refine hK.out _ _ (by exact HI36.out.box.cell) fun hZ => ?_;clear hK K;try simp only[p7]
      refine r1 11 fun K hK => ?_;refine bU rfl (aX (.tmp 16) (.tmp 18) 24 rfl (w.heap.size+2) 76 i2 _ 2 16 Tryz.underlying24 HI2a.out HI2b.out HI2c.out HI2d.out rfl aE (Y (J ⟨W1.heap.size,0,I⟩) 0 0) 0 [] aF (HI36.out.p1 rfl) Ap np cp pv aF HPL.out HPN.out ?_ HPO.out aJ aA HI36.out.big ?_)
      · exact HPC.out _ HI36.out.bel
      intro A37 c37 W37 ha;have HI37:=aB (gM.q2 HI36.out (by simpa using ha));clear ha HI36;refine hK.out _ _ (by exact HI37.out.box.cell) fun hZ => ?_;clear hK K;try simp only[p7]
      refine aL 12 hZ ?_;refine r1 14 fun K hK => ?_;have zA:=aS.cell (HI37.out.al rfl).1;have zF:=aS.frozen (HI37.out.al rfl).1;go_simp;have hF:=gM.fin HI37.out (O X bv) (O X bn);rw[HOL.out] at hF;have HF:=aB hF;clear hF;refine hK.out _ _ (by exact HF.out.box.cell) fun hZ => ?_;clear hK K;try simp only[p7]
      refine wpAnyH_done aC ?_ _;go_wp2_with fail;go_meet;exact⟨_,_,_,_,_,rfl,HF⟩
    refine bU rfl (aX (.tmp 12) (.tmp 14) 22 rfl (w.heap.size+2) 73 i1 _ 3 24 Tryz.underlying22 HI1a.out HI1b.out HI1c.out HI1d.out rfl aE (Y (J ⟨W28.heap.size,0,I⟩) 0 0) 0 [] aF (HI29.out.o1 rfl) Ao no co (fS os) aF (by rw[fV,HOL.out]) HON.out ?_ (gC os) aJ aA HI29.out.big ?_)
    · exact fH (HTO.out _ HI29.out.bel)
    intro A30 c30 W30 ha;have HI30:=aB (gM.q1 HI29.out (by simpa[HOL.out] using ha));clear ha HI29;refine hK.out _ _ (by exact HI30.out.box.cell) fun hZ => ?_;clear hK K;try simp only[p7]
    refine r2 11 13 (fun K hK => ?_) fun K hK => ?_
    · refine bU rfl (aX (.tmp 16) (.tmp 18) 24 rfl (w.heap.size+2) 76 i2 _ 2 16 Tryz.underlying24 HI2a.out HI2b.out HI2c.out HI2d.out rfl aE (Y (J ⟨W1.heap.size,0,I⟩) 0 0) 0 [] aF (HI30.out.p1 rfl) Ap np cp pv aF HPL.out HPN.out ?_ HPO.out aJ aA HI30.out.big ?_)
      · exact HPC.out _ HI30.out.bel
      intro A31 c31 W31 ha;have HI31:=aB (gM.q2 HI30.out (by simpa using ha));clear ha HI30;refine hK.out _ _ (by exact HI31.out.box.cell) fun hZ => ?_;clear hK K;try simp only[p7]
      refine aL 12 hZ ?_;refine r1 13 fun K hK => ?_;go_simp;refine hK.out _ _ (by exact (HI31.out.a).box.cell) fun hZ => ?_;clear hK K;have HI32:=aB (HI31.out.a);clear HI31;generalize hg:(W31.alloc (Z wV 26))=W32 at *;clear hg;try simp only[p7]
      refine r1 14 fun K hK => ?_;have zA:=aS.cell (HI32.out.al rfl).1;have zF:=aS.frozen (HI32.out.al rfl).1;go_simp;have hF:=gM.fin HI32.out (O X bv) (O X bn);rw[HOL.out] at hF;have HF:=aB hF;clear hF;refine hK.out _ _ (by exact HF.out.box.cell) fun hZ => ?_;clear hK K;try simp only[p7]
      refine wpAnyH_done aC ?_ _;go_wp2_with fail;go_meet;exact⟨_,_,_,_,_,rfl,HF⟩
    go_simp;refine hK.out _ _ (by exact (HI30.out.a).box.cell) fun hZ => ?_;clear hK K;have HI33:=aB (HI30.out.a);clear HI30;generalize hg:(W30.alloc (Z wV 26))=W33 at *;clear hg;try simp only[p7]
    refine r1 11 fun K hK => ?_;refine bU rfl (aX (.tmp 16) (.tmp 18) 24 rfl (w.heap.size+2) 76 i2 _ 2 16 Tryz.underlying24 HI2a.out HI2b.out HI2c.out HI2d.out rfl aE (Y (J ⟨W1.heap.size,0,I⟩) 0 0) 0 [] aF (HI33.out.p1 rfl) Ap np cp pv aF HPL.out HPN.out ?_ HPO.out aJ aA HI33.out.big ?_)
    · exact HPC.out _ HI33.out.bel
    intro A34 c34 W34 ha;have HI34:=aB (gM.q2 HI33.out (by simpa using ha));clear ha HI33;refine hK.out _ _ (by exact HI34.out.box.cell) fun hZ => ?_;clear hK K;try simp only[p7]
    refine aL 12 hZ ?_;refine r1 14 fun K hK => ?_;have zA:=aS.cell (HI34.out.al rfl).1;have zF:=aS.frozen (HI34.out.al rfl).1;go_simp;have hF:=gM.fin HI34.out (O X bv) (O X bn);rw[HOL.out] at hF;have HF:=aB hF;clear hF;refine hK.out _ _ (by exact HF.out.box.cell) fun hZ => ?_;clear hK K;try simp only[p7]
    refine wpAnyH_done aC ?_ _;go_wp2_with fail;go_meet;exact⟨_,_,_,_,_,rfl,HF⟩
  go_simp;refine hK.out _ _ (by exact (HI1.out.a).box.cell) fun hZ => ?_;clear hK K;have HI42:=aB (HI1.out.a);clear HI1;generalize hg:(W1.alloc (Z wV 26))=W42 at *;clear hg;try simp only[p7]
  refine r2 4 8 (fun K hK => ?_) fun K hK => ?_;rotate_left
  · go_simp;refine hK.out _ _ (by exact (HI42.out.b2).box.cell) fun hZ => ?_;clear hK K;have HI50:=aB (HI42.out.b2);clear HI42;generalize hg:(W42.alloc (Z #[] 76))=W50 at *;clear hg;try simp only[p7]
    refine r1 4 fun K hK => ?_;go_simp;refine hK.out _ _ (by exact (HI50.out.b1).box.cell) fun hZ => ?_;clear hK K;have HI51:=aB (HI50.out.b1);clear HI50;generalize hg:(W50.alloc (Z #[] 73))=W51 at *;clear hg;try simp only[p7]
    refine r1 7 fun K hK => ?_;refine bU rfl (aX (.tmp 12) (.tmp 14) 22 rfl (w.heap.size+2) 73 i1 _ 3 24 Tryz.underlying22 HI1a.out HI1b.out HI1c.out HI1d.out rfl aE (Y (J ⟨W50.heap.size,0,I⟩) 0 0) 0 [] aF (HI51.out.o1 rfl) Ao no co (fS os) aF (by rw[fV,HOL.out]) HON.out ?_ (gC os) aJ aA HI51.out.big ?_)
    · exact fH (HTO.out _ HI51.out.bel)
    intro A52 c52 W52 ha;have HI52:=aB (gM.q1 HI51.out (by simpa[HOL.out] using ha));clear ha HI51;refine hK.out _ _ (by exact HI52.out.box.cell) fun hZ => ?_;clear hK K;try simp only[p7]
    refine r1 11 fun K hK => ?_;refine bU rfl (aX (.tmp 16) (.tmp 18) 24 rfl (w.heap.size+2) 76 i2 _ 2 16 Tryz.underlying24 HI2a.out HI2b.out HI2c.out HI2d.out rfl aE (Y (J ⟨W42.heap.size,0,I⟩) 0 0) 0 [] aF (HI52.out.p1 rfl) Ap np cp pv aF HPL.out HPN.out ?_ HPO.out aJ aA HI52.out.big ?_)
    · exact HPC.out _ HI52.out.bel
    intro A53 c53 W53 ha;have HI53:=aB (gM.q2 HI52.out (by simpa using ha));clear ha HI52;refine hK.out _ _ (by exact HI53.out.box.cell) fun hZ => ?_;clear hK K;try simp only[p7]
    refine aL 12 hZ ?_;refine r1 14 fun K hK => ?_;have zA:=aS.cell (HI53.out.al rfl).1;have zF:=aS.frozen (HI53.out.al rfl).1;go_simp;have hF:=gM.fin HI53.out (O X bv) (O X bn);rw[HOL.out] at hF;have HF:=aB hF;clear hF;refine hK.out _ _ (by exact HF.out.box.cell) fun hZ => ?_;clear hK K;try simp only[p7]
    refine wpAnyH_done aC ?_ _;go_wp2_with fail;go_meet;exact⟨_,_,_,_,_,rfl,HF⟩
  go_simp;refine hK.out _ _ (by exact (HI42.out.b1).box.cell) fun hZ => ?_;clear hK K;have HI43:=aB (HI42.out.b1);clear HI42;generalize hg:(W42.alloc (Z #[] 73))=W43 at *;clear hg;try simp only[p7]
  refine r2 7 8 (fun K hK => ?_) fun K hK => ?_
  · refine bU rfl (aX (.tmp 12) (.tmp 14) 22 rfl (w.heap.size+2) 73 i1 _ 3 24 Tryz.underlying22 HI1a.out HI1b.out HI1c.out HI1d.out rfl aE (Y (J ⟨W42.heap.size,0,I⟩) 0 0) 0 [] aF (HI43.out.o1 rfl) Ao no co (fS os) aF (by rw[fV,HOL.out]) HON.out ?_ (gC os) aJ aA HI43.out.big ?_)
    · exact fH (HTO.out _ HI43.out.bel)
    intro A44 c44 W44 ha;have HI44:=aB (gM.q1 HI43.out (by simpa[HOL.out] using ha));clear ha HI43;refine hK.out _ _ (by exact HI44.out.box.cell) fun hZ => ?_;clear hK K;try simp only[p7]
    refine r1 8 fun K hK => ?_;go_simp;refine hK.out _ _ (by exact (HI44.out.b2).box.cell) fun hZ => ?_;clear hK K;have HI45:=aB (HI44.out.b2);clear HI44;generalize hg:(W44.alloc (Z #[] 76))=W45 at *;clear hg;try simp only[p7]
    refine r1 11 fun K hK => ?_;refine bU rfl (aX (.tmp 16) (.tmp 18) 24 rfl (w.heap.size+2) 76 i2 _ 2 16 Tryz.underlying24 HI2a.out HI2b.out HI2c.out HI2d.out rfl aE (Y (J ⟨W44.heap.size,0,I⟩) 0 0) 0 [] aF (HI45.out.p1 rfl) Ap np cp pv aF HPL.out HPN.out ?_ HPO.out aJ aA HI45.out.big ?_)
    · exact HPC.out _ HI45.out.bel
    intro A46 c46 W46 ha;have HI46:=aB (gM.q2 HI45.out (by simpa using ha));clear ha HI45;refine hK.out _ _ (by exact HI46.out.box.cell) fun hZ => ?_;clear hK K;try simp only[p7]
    refine aL 12 hZ ?_;refine r1 14 fun K hK => ?_;have zA:=aS.cell (HI46.out.al rfl).1;have zF:=aS.frozen (HI46.out.al rfl).1;go_simp;have hF:=gM.fin HI46.out (O X bv) (O X bn);rw[HOL.out] at hF;have HF:=aB hF;clear hF;refine hK.out _ _ (by exact HF.out.box.cell) fun hZ => ?_;clear hK K;try simp only[p7]
    refine wpAnyH_done aC ?_ _;go_wp2_with fail;go_meet;exact⟨_,_,_,_,_,rfl,HF⟩
  go_simp;refine hK.out _ _ (by exact (HI43.out.b2).box.cell) fun hZ => ?_;clear hK K;have HI47:=aB (HI43.out.b2);clear HI43;generalize hg:(W43.alloc (Z #[] 76))=W47 at *;clear hg;try simp only[p7]
  refine r1 7 fun K hK => ?_;refine bU rfl (aX (.tmp 12) (.tmp 14) 22 rfl (w.heap.size+2) 73 i1 _ 3 24 Tryz.underlying22 HI1a.out HI1b.out HI1c.out HI1d.out rfl aE (Y (J ⟨W42.heap.size,0,I⟩) 0 0) 0 [] aF (HI47.out.o1 rfl) Ao no co (fS os) aF (by rw[fV,HOL.out]) HON.out ?_ (gC os) aJ aA HI47.out.big ?_)
  · exact fH (HTO.out _ HI47.out.bel)
  intro A48 c48 W48 ha;have HI48:=aB (gM.q1 HI47.out (by simpa[HOL.out] using ha));clear ha HI47;refine hK.out _ _ (by exact HI48.out.box.cell) fun hZ => ?_;clear hK K;try simp only[p7]
  refine r1 11 fun K hK => ?_;refine bU rfl (aX (.tmp 16) (.tmp 18) 24 rfl (w.heap.size+2) 76 i2 _ 2 16 Tryz.underlying24 HI2a.out HI2b.out HI2c.out HI2d.out rfl aE (Y (J ⟨W43.heap.size,0,I⟩) 0 0) 0 [] aF (HI48.out.p1 rfl) Ap np cp pv aF HPL.out HPN.out ?_ HPO.out aJ aA HI48.out.big ?_)
  · exact HPC.out _ HI48.out.bel
  intro A49 c49 W49 ha;have HI49:=aB (gM.q2 HI48.out (by simpa using ha));clear ha HI48;refine hK.out _ _ (by exact HI49.out.box.cell) fun hZ => ?_;clear hK K;try simp only[p7]
  refine aL 12 hZ ?_;refine r1 14 fun K hK => ?_;have zA:=aS.cell (HI49.out.al rfl).1;have zF:=aS.frozen (HI49.out.al rfl).1;go_simp;have hF:=gM.fin HI49.out (O X bv) (O X bn);rw[HOL.out] at hF;have HF:=aB hF;clear hF;refine hK.out _ _ (by exact HF.out.box.cell) fun hZ => ?_;clear hK K;try simp only[p7]
  refine wpAnyH_done aC ?_ _;go_wp2_with fail;go_meet;exact⟨_,_,_,_,_,rfl,HF⟩
 case rest =>
 obtain⟨gA,A1,c1,A2,c2,rfl,hcb2⟩:=hcut;obtain⟨wq,rfl⟩ : ∃x:World,x=wc:=⟨_,rfl⟩;go_wp2_with fail;go_loopw [4] (fun iv wr=>∃(i cw:Nat) (Aw:Option Addr) (vs:List Value),iv=O X (i:Int)/\i<=ne/\Hid (BO w #[O X bv,Y Ao no co,Y Ae ne ce,O X bn,Y Ap np cp] es os np pv (O X bv) (O X bn) A1 A2 c1 c2 gA i Aw cw vs wr)) (fun iv _=>ne-(intOf iv).toNat)
 case atStart=>exact⟨0,0,I,[],rfl,by omega,aB (hcb2.out.cb3)⟩
 case round =>
  obtain⟨i,cw,Aw,vs,rfl,hi,hc3⟩:=hrel;obtain⟨wo,rfl⟩ : ∃x:World,x=wr:=⟨_,rfl⟩;have zb:=aS.cell hc3.out.box;have hbz:=hc3.out.bel.size;by_cases hlt:i<ne;rotate_left
  · have y1:decide ((i:Int)<(ne:Int))=false:=decide_eq_false aA;have hin:i=es.length:=by rw[HEL.out];omega
    have h3:=hc3.out;rw[hin,HES.out,HOS.out] at h3;obtain⟨hf1,hf2,hf3⟩:=BO.fin h3 HB0.out (by have:=HB0.out.prims.len;simpa using this) (fun j hj=>by rw[HPV.out];exact KY _ _ (by have:=HB0.out.prims.len;simp only at this;omega)) (O X bv) (Y A1 b.orders.length c1) (Y Aw b.entries.length cw) (O X bn) (Y A2 np c2);have HF1:=aB hf1;have HF2:=aB hf2;have zr:=aS.cell hf3;have zA:=aS.cell hc3.out.out;have zR:=aS.cell hc3.out.res;have zF:=aS.frozen hc3.out.res;have hol:os.length=b.orders.length:=by rw[HOS.out]
    have hil:i=b.entries.length:=by rw[hin,HES.out]
    rw[<-hol,<-hil] at HF1 HF2 zr;clear hf1 hf2 hf3 h3 hin hol hil;go_wp2_with fail;refine bodyPost_ret (v:=.agg #[O X bv,Y A1 os.length c1,Y Aw i cw,O X bn,Y A2 np c2]) (by simp[results,Tryz.results12,go_sem,zr]) rfl ⟨HF2.out,_,rfl,HF1.out⟩
  have y1:decide ((i:Int)<(ne:Int))=true:=decide_eq_true aA;obtain⟨be,oe,hAe,hbe,ev,h0,h1,h2,h3,h4,h5,h6,hec⟩:=(HBV.out wo hc3.out.bel).entries.at_ hlt;subst hAe;have hil:i<es.length:=by rw[HEL.out];exact hlt
  have hxm:es.getD i default ∈ es:=by
   rw[List.getD_eq_getElem?_getD,List.getElem?_eq_getElem hil];exact List.getElem_mem hil
  have htk:es.take (i+1)=es.take i++[es.getD i default]:=by
   rw[List.take_succ_eq_append_getElem hil,List.getD_eq_getElem?_getD,List.getElem?_eq_getElem hil];rfl
  have hsm:=HSM.out.rows (es.getD i default) (by rw[<-HES.out];exact hxm);rw[<-HES.out] at h0 hec;generalize es.getD i default=x at *;obtain⟨As,ns,cs,Ap1,np1,cp1,Ai,ni,ci,Ac,nc,cc,At,nt,ct,Ab,nb,cb⟩:=ev;simp only at h1 h2 h3 h4 h5 h6 hec;have HTK3:=aB htk;have hp6:np1<=1000000:=by have h1:=hec.params.len;have h2:=hsm.1;simp only at h1;omega
  have hi6:ni<=1000000:=by have h1:=hec.indices.len;have h2:=hsm.2.1;simp only at h1;omega
  have hc6:nc<=1000000:=by have h1:=hec.ctors.len;have h2:=hsm.2.2.1;simp only at h1;omega
  have HCS:=aB hsm.2.2.2;have Hsort:Hid (x.sort.length<=5864062014805):=aB (by have h1:=hec.sort.len;have h2:=hec.sort.few;omega);have Htype:Hid (x.type.length<=5864062014805):=aB (by have h1:=hec.type.len;have h2:=hec.type.few;omega);have Hbody:Hid (x.body.length<=5864062014805):=aB (by have h1:=hec.body.len;have h2:=hec.body.few;omega);have HK5:=aB (aS.new wo 68 #[O X x.kind,Y As ns cs,Y Ap1 np1 cp1,Y Ai ni ci,Y Ac nc cc,Y At nt ct,Y Ab nb cb]);have hb5:=aP wo (Z #[O X x.kind,Y As ns cs,Y Ap1 np1 cp1,Y Ai ni ci,Y Ac nc cc,Y At nt ct,Y Ab nb cb] 68);have HB5:=aB hb5;have hs5:wo.heap.size+1=(wo.alloc (Z #[O X x.kind,Y As ns cs,Y Ap1 np1 cp1,Y Ai ni ci,Y Ac nc cc,Y At nt ct,Y Ab nb cb] 68)).heap.size:=by simp
  have HEC:Hid (∀W',Below (wo.alloc (Z #[O X x.kind,Y As ns cs,Y Ap1 np1 cp1,Y Ai ni ci,Y Ac nc cc,Y At nt ct,Y Ab nb cb] 68)).heap.size (wo.alloc (Z #[O X x.kind,Y As ns cs,Y Ap1 np1 cp1,Y Ai ni ci,Y Ac nc cc,Y At nt ct,Y Ab nb cb] 68)) W'->tU W' ⟨As,ns,cs,Ap1,np1,cp1,Ai,ni,ci,Ac,nc,cc,At,nt,ct,Ab,nb,cb⟩ x):=aB (fun W' h=>hec.below (hb5.trans (h.mono hb5.size)));clear hsm hxm htk hil hec hb5;go_upto_region 6 with fail
  generalize hg:(wo.alloc (Z #[O X x.kind,Y As ns cs,Y Ap1 np1 cp1,Y Ai ni ci,Y Ac nc cc,Y At nt ct,Y Ab nb cb] 68))=W5 at *;clear hg zb h0 h1 h2 h3 h4 h5 h6;go_cut [6] (fun yv wx=>∃(g6:Nat) (u:eZ),yv=.pointer (J ⟨g6,0,I⟩)/\Hid (O2 W5 g6 u x wx))
  case first =>
   refine wp_region_held_drew (S:=(fun w'=>∀i,w'.cell? ⟨wo.heap.size,i,I⟩=(#[O X x.kind,Y As ns cs,Y Ap1 np1 cp1,Y Ai ni ci,Y Ac nc cc,Y At nt ct,Y Ab nb cb]:Array Value)[i]?)) aC ?_ (fun hZ => ?_)
   · (try dsimp only);exact HK5.out.cell
   have E1:Hid (lH W5 0 0 0 ⟨I,0,0,I,0,0,I,0,0,I,0,0,I,0,0,I,0,0⟩ x W5.drew):=aB (lH.start' _ _ _);generalize W5.drew=W1 at *;refine aL 0 hZ ?_;refine aL 1 hZ ?_;refine aL 2 hZ ?_;refine aL 3 hZ ?_;refine aL 5 hZ ?_;refine aL 6 hZ ?_;refine aL 8 hZ ?_;refine aL 9 hZ ?_;refine aL 11 hZ ?_;refine aL 12 hZ ?_;refine aL 14 hZ ?_;refine aL 15 hZ ?_;refine r2 4 18 (fun K hK => ?_) fun K hK => ?_;rotate_left
   · go_simp;refine hK.out _ _ (by exact (aS.below HK5.out (E1.out.a).bel HK5.out.lt).cell) fun hZ => ?_;clear hK K;have E22:=aB (E1.out.a);clear E1;generalize hg:(W1.alloc (Z L7 68))=W22 at *;clear hg;try simp only[p7]
     refine r1 4 fun K hK => ?_;go_simp;go_at_call 13
     refine (fI (HEC.out W22 E22.out.bel).sort).mono ?_;rintro e W23 ⟨hd,AW23,cW23,rfl,ho⟩;have E23:=aB (E22.out.n1 hd (eU ho Hsort.out));clear E22 hd ho;go_wp2_with fail;refine hK.out _ _ (by exact (aS.below HK5.out E23.out.bel HK5.out.lt).cell) fun hZ => ?_;clear hK K;try simp only[p7]
     refine r1 7 fun K hK => ?_;go_simp;go_at_call 28
     refine (fC (HEC.out W23 E23.out.bel).params hp6).mono ?_;rintro e W24 ⟨hd,AW24,nW24,cW24,rfl,ho⟩;have E24:=aB (E23.out.n2 hd ho);clear E23 hd ho;go_wp2_with fail;refine hK.out _ _ (by exact (aS.below HK5.out E24.out.bel HK5.out.lt).cell) fun hZ => ?_;clear hK K;try simp only[p7]
     refine r1 10 fun K hK => ?_;go_simp;go_at_call 28
     refine (fC (HEC.out W24 E24.out.bel).indices hi6).mono ?_;rintro e W25 ⟨hd,AW25,nW25,cW25,rfl,ho⟩;have E25:=aB (E24.out.n3 hd ho);clear E24 hd ho;go_wp2_with fail;refine hK.out _ _ (by exact (aS.below HK5.out E25.out.bel HK5.out.lt).cell) fun hZ => ?_;clear hK K;try simp only[p7]
     refine r1 13 fun K hK => ?_;go_simp;go_at_call 13
     refine (fI (HEC.out W25 E25.out.bel).type).mono ?_;rintro e W26 ⟨hd,AW26,cW26,rfl,ho⟩;have E26:=aB (E25.out.n4 hd (eU ho Htype.out));clear E25 hd ho;go_wp2_with fail;refine hK.out _ _ (by exact (aS.below HK5.out E26.out.bel HK5.out.lt).cell) fun hZ => ?_;clear hK K;try simp only[p7]
     refine r1 16 fun K hK => ?_;go_simp;go_at_call 13
     refine (fI (HEC.out W26 E26.out.bel).body).mono ?_;rintro e W27 ⟨hd,AW27,cW27,rfl,ho⟩;have E27:=aB (E26.out.n5 hd (eU ho Hbody.out));clear E26 hd ho;go_wp2_with fail;refine hK.out _ _ (by exact (aS.below HK5.out E27.out.bel HK5.out.lt).cell) fun hZ => ?_;clear hK K;try simp only[p7]
     refine aL 17 hZ ?_;refine r1 19 fun K hK => ?_;have zA:=aS.cell (E27.out.al rfl).1;have zF:=aS.frozen (E27.out.al rfl).1;go_simp;have hF:=lH.fin E27.out;have HF:=aB hF;clear hF
     (try simp only at HF)
     refine hK.out _ _ (by exact (aS.below HK5.out HF.out.bel HK5.out.lt).cell) fun hZ => ?_;clear hK K;try simp only[p7]
     refine wpAnyH_done aC ?_ _;go_wp2_with fail;go_meet;exact⟨_,_,rfl,HF⟩
   go_simp;go_at_call 13
   refine (fI (HEC.out W1 E1.out.bel).sort).mono ?_;rintro e W2 ⟨hd,AW2,cW2,rfl,ho⟩;have E2:=aB (E1.out.n1 hd (eU ho Hsort.out));clear E1 hd ho;go_wp2_with fail;refine hK.out _ _ (by exact (aS.below HK5.out E2.out.bel HK5.out.lt).cell) fun hZ => ?_;clear hK K;try simp only[p7]
   refine r2 7 18 (fun K hK => ?_) fun K hK => ?_;rotate_left
   · go_simp;refine hK.out _ _ (by exact (aS.below HK5.out (E2.out.a).bel HK5.out.lt).cell) fun hZ => ?_;clear hK K;have E17:=aB (E2.out.a);clear E2;generalize hg:(W2.alloc (Z L7 68))=W17 at *;clear hg;try simp only[p7]
     refine r1 7 fun K hK => ?_;go_simp;go_at_call 28
     refine (fC (HEC.out W17 E17.out.bel).params hp6).mono ?_;rintro e W18 ⟨hd,AW18,nW18,cW18,rfl,ho⟩;have E18:=aB (E17.out.n2 hd ho);clear E17 hd ho;go_wp2_with fail;refine hK.out _ _ (by exact (aS.below HK5.out E18.out.bel HK5.out.lt).cell) fun hZ => ?_;clear hK K;try simp only[p7]
     refine r1 10 fun K hK => ?_;go_simp;go_at_call 28
     refine (fC (HEC.out W18 E18.out.bel).indices hi6).mono ?_;rintro e W19 ⟨hd,AW19,nW19,cW19,rfl,ho⟩;have E19:=aB (E18.out.n3 hd ho);clear E18 hd ho;go_wp2_with fail;refine hK.out _ _ (by exact (aS.below HK5.out E19.out.bel HK5.out.lt).cell) fun hZ => ?_;clear hK K;try simp only[p7]
     refine r1 13 fun K hK => ?_;go_simp;go_at_call 13
     refine (fI (HEC.out W19 E19.out.bel).type).mono ?_;rintro e W20 ⟨hd,AW20,cW20,rfl,ho⟩;have E20:=aB (E19.out.n4 hd (eU ho Htype.out));clear E19 hd ho;go_wp2_with fail;refine hK.out _ _ (by exact (aS.below HK5.out E20.out.bel HK5.out.lt).cell) fun hZ => ?_;clear hK K;try simp only[p7]
     refine r1 16 fun K hK => ?_;go_simp;go_at_call 13
     refine (fI (HEC.out W20 E20.out.bel).body).mono ?_;rintro e W21 ⟨hd,AW21,cW21,rfl,ho⟩;have E21:=aB (E20.out.n5 hd (eU ho Hbody.out));clear E20 hd ho;go_wp2_with fail;refine hK.out _ _ (by exact (aS.below HK5.out E21.out.bel HK5.out.lt).cell) fun hZ => ?_;clear hK K;try simp only[p7]
     refine aL 17 hZ ?_;refine r1 19 fun K hK => ?_;have zA:=aS.cell (E21.out.al rfl).1;have zF:=aS.frozen (E21.out.al rfl).1;go_simp;have hF:=lH.fin E21.out;have HF:=aB hF;clear hF
     (try simp only at HF)
     refine hK.out _ _ (by exact (aS.below HK5.out HF.out.bel HK5.out.lt).cell) fun hZ => ?_;clear hK K;try simp only[p7]
     refine wpAnyH_done aC ?_ _;go_wp2_with fail;go_meet;exact⟨_,_,rfl,HF⟩
   go_simp;go_at_call 28
   refine (fC (HEC.out W2 E2.out.bel).params hp6).mono ?_;rintro e W3 ⟨hd,AW3,nW3,cW3,rfl,ho⟩;have E3:=aB (E2.out.n2 hd ho);clear E2 hd ho;go_wp2_with fail;refine hK.out _ _ (by exact (aS.below HK5.out E3.out.bel HK5.out.lt).cell) fun hZ => ?_;clear hK K;try simp only[p7]
   refine r2 10 18 (fun K hK => ?_) fun K hK => ?_;rotate_left
   · go_simp;refine hK.out _ _ (by exact (aS.below HK5.out (E3.out.a).bel HK5.out.lt).cell) fun hZ => ?_;clear hK K;have E13:=aB (E3.out.a);clear E3;generalize hg:(W3.alloc (Z L7 68))=W13 at *;clear hg;try simp only[p7]
     refine r1 10 fun K hK => ?_;go_simp;go_at_call 28
     refine (fC (HEC.out W13 E13.out.bel).indices hi6).mono ?_;rintro e W14 ⟨hd,AW14,nW14,cW14,rfl,ho⟩;have E14:=aB (E13.out.n3 hd ho);clear E13 hd ho;go_wp2_with fail;refine hK.out _ _ (by exact (aS.below HK5.out E14.out.bel HK5.out.lt).cell) fun hZ => ?_;clear hK K;try simp only[p7]
     refine r1 13 fun K hK => ?_;go_simp;go_at_call 13
     refine (fI (HEC.out W14 E14.out.bel).type).mono ?_;rintro e W15 ⟨hd,AW15,cW15,rfl,ho⟩;have E15:=aB (E14.out.n4 hd (eU ho Htype.out));clear E14 hd ho;go_wp2_with fail;refine hK.out _ _ (by exact (aS.below HK5.out E15.out.bel HK5.out.lt).cell) fun hZ => ?_;clear hK K;try simp only[p7]
     refine r1 16 fun K hK => ?_;go_simp;go_at_call 13
     refine (fI (HEC.out W15 E15.out.bel).body).mono ?_;rintro e W16 ⟨hd,AW16,cW16,rfl,ho⟩;have E16:=aB (E15.out.n5 hd (eU ho Hbody.out));clear E15 hd ho;go_wp2_with fail;refine hK.out _ _ (by exact (aS.below HK5.out E16.out.bel HK5.out.lt).cell) fun hZ => ?_;clear hK K;try simp only[p7]
     refine aL 17 hZ ?_;refine r1 19 fun K hK => ?_;have zA:=aS.cell (E16.out.al rfl).1;have zF:=aS.frozen (E16.out.al rfl).1;go_simp;have hF:=lH.fin E16.out;have HF:=aB hF;clear hF
     (try simp only at HF)
     refine hK.out _ _ (by exact (aS.below HK5.out HF.out.bel HK5.out.lt).cell) fun hZ => ?_;clear hK K;try simp only[p7]
     refine wpAnyH_done aC ?_ _;go_wp2_with fail;go_meet;exact⟨_,_,rfl,HF⟩
   go_simp;go_at_call 28
   refine (fC (HEC.out W3 E3.out.bel).indices hi6).mono ?_;rintro e W4 ⟨hd,AW4,nW4,cW4,rfl,ho⟩;have E4:=aB (E3.out.n3 hd ho);clear E3 hd ho;go_wp2_with fail;refine hK.out _ _ (by exact (aS.below HK5.out E4.out.bel HK5.out.lt).cell) fun hZ => ?_;clear hK K;try simp only[p7]
   refine r2 13 18 (fun K hK => ?_) fun K hK => ?_;rotate_left
   · go_simp;refine hK.out _ _ (by exact (aS.below HK5.out (E4.out.a).bel HK5.out.lt).cell) fun hZ => ?_;clear hK K;have E10:=aB (E4.out.a);clear E4;generalize hg:(W4.alloc (Z L7 68))=W10 at *;clear hg;try simp only[p7]
     refine r1 13 fun K hK => ?_;go_simp;go_at_call 13
     refine (fI (HEC.out W10 E10.out.bel).type).mono ?_;rintro e W11 ⟨hd,AW11,cW11,rfl,ho⟩;have E11:=aB (E10.out.n4 hd (eU ho Htype.out));clear E10 hd ho;go_wp2_with fail;refine hK.out _ _ (by exact (aS.below HK5.out E11.out.bel HK5.out.lt).cell) fun hZ => ?_;clear hK K;try simp only[p7]
     refine r1 16 fun K hK => ?_;go_simp;go_at_call 13
     refine (fI (HEC.out W11 E11.out.bel).body).mono ?_;rintro e W12 ⟨hd,AW12,cW12,rfl,ho⟩;have E12:=aB (E11.out.n5 hd (eU ho Hbody.out));clear E11 hd ho;go_wp2_with fail;refine hK.out _ _ (by exact (aS.below HK5.out E12.out.bel HK5.out.lt).cell) fun hZ => ?_;clear hK K;try simp only[p7]
     refine aL 17 hZ ?_;refine r1 19 fun K hK => ?_;have zA:=aS.cell (E12.out.al rfl).1;have zF:=aS.frozen (E12.out.al rfl).1;go_simp;have hF:=lH.fin E12.out;have HF:=aB hF;clear hF
     (try simp only at HF)
     refine hK.out _ _ (by exact (aS.below HK5.out HF.out.bel HK5.out.lt).cell) fun hZ => ?_;clear hK K;try simp only[p7]
     refine wpAnyH_done aC ?_ _;go_wp2_with fail;go_meet;exact⟨_,_,rfl,HF⟩
   go_simp;go_at_call 13
   refine (fI (HEC.out W4 E4.out.bel).type).mono ?_;rintro e W5 ⟨hd,AW5,cW5,rfl,ho⟩;have E5:=aB (E4.out.n4 hd (eU ho Htype.out));clear E4 hd ho;go_wp2_with fail;refine hK.out _ _ (by exact (aS.below HK5.out E5.out.bel HK5.out.lt).cell) fun hZ => ?_;clear hK K;try simp only[p7]
   refine r2 16 18 (fun K hK => ?_) fun K hK => ?_
   · go_simp;go_at_call 13
     refine (fI (HEC.out W5 E5.out.bel).body).mono ?_;rintro e W6 ⟨hd,AW6,cW6,rfl,ho⟩;have E6:=aB (E5.out.n5 hd (eU ho Hbody.out));clear E5 hd ho;go_wp2_with fail;refine hK.out _ _ (by exact (aS.below HK5.out E6.out.bel HK5.out.lt).cell) fun hZ => ?_;clear hK K;try simp only[p7]
     refine aL 17 hZ ?_;refine r1 18 fun K hK => ?_;go_simp;refine hK.out _ _ (by exact (aS.below HK5.out (E6.out.a).bel HK5.out.lt).cell) fun hZ => ?_;clear hK K;have E7:=aB (E6.out.a);clear E6;generalize hg:(W6.alloc (Z L7 68))=W7 at *;clear hg;try simp only[p7]
     refine r1 19 fun K hK => ?_;have zA:=aS.cell (E7.out.al rfl).1;have zF:=aS.frozen (E7.out.al rfl).1;go_simp;have hF:=lH.fin E7.out;have HF:=aB hF;clear hF
     (try simp only at HF)
     refine hK.out _ _ (by exact (aS.below HK5.out HF.out.bel HK5.out.lt).cell) fun hZ => ?_;clear hK K;try simp only[p7]
     refine wpAnyH_done aC ?_ _;go_wp2_with fail;go_meet;exact⟨_,_,rfl,HF⟩
   go_simp;refine hK.out _ _ (by exact (aS.below HK5.out (E5.out.a).bel HK5.out.lt).cell) fun hZ => ?_;clear hK K;have E8:=aB (E5.out.a);clear E5;generalize hg:(W5.alloc (Z L7 68))=W8 at *;clear hg;try simp only[p7]
   refine r1 16 fun K hK => ?_;go_simp;go_at_call 13
   refine (fI (HEC.out W8 E8.out.bel).body).mono ?_;rintro e W9 ⟨hd,AW9,cW9,rfl,ho⟩;have E9:=aB (E8.out.n5 hd (eU ho Hbody.out));clear E8 hd ho;go_wp2_with fail;refine hK.out _ _ (by exact (aS.below HK5.out E9.out.bel HK5.out.lt).cell) fun hZ => ?_;clear hK K;try simp only[p7]
   refine aL 17 hZ ?_;refine r1 19 fun K hK => ?_;have zA:=aS.cell (E9.out.al rfl).1;have zF:=aS.frozen (E9.out.al rfl).1;go_simp;have hF:=lH.fin E9.out;have HF:=aB hF;clear hF
   (try simp only at HF)
   refine hK.out _ _ (by exact (aS.below HK5.out HF.out.bel HK5.out.lt).cell) fun hZ => ?_;clear hK K;try simp only[p7]
   refine wpAnyH_done aC ?_ _;go_wp2_with fail;go_meet;exact⟨_,_,rfl,HF⟩
  case rest =>
  obtain⟨g6,u,rfl,hce2⟩:=hcut;obtain⟨wm,rfl⟩ : ∃x:World,x=wc:=⟨_,rfl⟩;have HK6:=aB (aS.below HK5.out hce2.out.bel HK5.out.lt);have zx:=aS.cell HK6.out;go_wp2_with fail;clear zx;go_loopw [7] (fun kv wr=>∃(k d:Nat) (B:Option Addr) (us:List Value),kv=O X (k:Int)/\k<=nc/\Hid (BM wm g6 u x k B d us wr)) (fun kv _=>nc-(intOf kv).toNat)
  case atStart=>exact⟨0,0,I,[],rfl,by omega,aB hce2.out.cb4⟩
  case round =>
   obtain⟨k,d,B,us,rfl,hk,hc4⟩:=hrel;have hmv:=hc4.out.mv.size;have hgm:g6<wm.heap.size:=hce2.out.y.lt;have hge6:=hce2.out.ge;have hb5r:=BM.bel hce2.out hc4.out;have HKx:=gK HK5 hb5r;have zx:=aS.cell HKx.out;have zy:=aS.cell hc4.out.y;by_cases hlt2:k<nc;rotate_left
   · have y3:decide ((k:Int)<(nc:Int))=false:=decide_eq_false aA;have y4:decide (k<nc)=false:=decide_eq_false hlt2;have hkn:k=nc:=aA;subst hkn;obtain⟨hq,hb6⟩:=BM.fin hce2.out hc4.out (by have:=(HEC.out W5 (Below.refl _ _)).ctors.len;simpa using this) aA;have hbo:=(HB5.out.trans (hb6.mono HB5.out.size));have hal:=aP wr (Z #[O X x.kind,Y u.As u.ns u.cs,Y u.Ap u.np u.cp,Y u.Ai u.ni u.ci,Y B k d,Y u.At u.nt u.ct,Y u.Ab u.nb u.cb] 68);have hbs:=hbo.size;have hb7:=hbo.trans (hal.mono hbs);have H3:=aB (hc3.out.below hb7);have hel:=fun {g:Nat}=>BO.eLt hc3.out (g:=g);have hgo:=hc3.out.out.lt;have HQ:Hid (I6 (fun q=>w.heap.size+2<=q/\q<(wr.alloc (Z #[O X x.kind,Y u.As u.ns u.cs,Y u.Ap u.np u.cp,Y u.Ai u.ni u.ci,Y B k d,Y u.At u.nt u.ct,Y u.Ab u.nb u.cb] 68)).heap.size/\(Value.slice Aw i cw).ownBlock ≠ J q/\q ≠ gA) (wr.alloc (Z #[O X x.kind,Y u.As u.ns u.cs,Y u.Ap u.np u.cp,Y u.Ai u.ni u.ci,Y B k d,Y u.At u.nt u.ct,Y u.Ab u.nb u.cb] 68)) { u with Ac:=B,nc:=k,cc:=d } x):=aB (hq.keep fun q hq=>⟨⟨by have:=hc3.out.res.lt;have:=hq.1;omega,by have:=hq.2;simp;omega,fun e=>by have:=(hel e).2;have:=hq.1;omega,by have:=hq.1;omega⟩,fun o=>hal.cell (p:=⟨q,o,I⟩) hq.2⟩);have zA:=aS.cell (hc3.out.out.below hbo hgo);have HBA:=aB H3.out.out;have HOE:=aB H3.out.e;have HEA:=aB H3.out.eA;have HBK3:=aB (aS.new wr 68 #[O X x.kind,Y u.As u.ns u.cs,Y u.Ap u.np u.cp,Y u.Ai u.ni u.ci,Y B k d,Y u.At u.nt u.ct,Y u.Ab u.nb u.cb]);have HNEW:=aB (rW HBK3.out);clear hq hb6 hbo hal hb7 hel;go_wp2_with (at_builtin;go_loud (refine bM rfl (aX (.tmp 79) (.tmp 81) 23 rfl (w.heap.size+2) 68 i3 _ 7 152 Tryz.underlying23 HI3a.out HI3b.out HI3c.out HI3d.out rfl aE (Y Aw i cw) i vs rfl HOE.out (J ⟨wr.heap.size,0,I⟩) 1 1 [O X x.kind,Y u.As u.ns u.cs,Y u.Ap u.np u.cp,Y u.Ai u.ni u.ci,Y B k d,Y u.At u.nt u.ct,Y u.Ab u.nb u.cb] rfl rfl (fun e=>by cases e) HNEW.out (by simp[Value.oneCell']) aJ aA aG ?_));intro A5 c5 w5 hap;have hB5:=HBA.out.grown hap.grown (fun e=>HEA.out e.symm);have hcg:=aS.cell hB5;have hfg:=aS.frozen hB5;have hsz5:=hap.grown.size;have HPU:=aB (BO.push H3.out HTK3.out HQ.out hap);clear hap hB5)
     go_roundw
     case rel=>exact⟨i+1,c5,A5,_,by go_num,by omega,HPU⟩
     case measure=>simp[intOf];omega
   have y3:decide ((k:Int)<(nc:Int))=true:=decide_eq_true aA;have y4:decide (k<nc)=true:=decide_eq_true hlt2;have hcv:=(HEC.out wr.drew (aV hb5r 1)).ctors;have hcl:=hcv.len;obtain⟨bc,oc,hAc,hbc,hcm⟩:=hcv.mem (by simp only;omega);obtain⟨B1,m1,e1,B2,m2,e2,ha0,hc0,hr1,hr2⟩:=hcm k hlt2;simp only at hAc hcl;subst hAc;have hkl:k<x.ctors.length:=aA;have htk:x.ctors.take (k+1)=x.ctors.take k++[x.ctors.getD k default]:=by
    rw[List.take_succ_eq_append_getElem hkl,List.getD_eq_getElem?_getD,List.getElem?_eq_getElem hkl];rfl
   have hcs:=HCS.out (x.ctors.getD k default) (by
    rw[List.getD_eq_getElem?_getD,List.getElem?_eq_getElem hkl];exact List.getElem_mem hkl)
   have hbc0:=(HEC.out W5 (Below.refl _ _)).ctors;have hbcm:bc<wm.heap.size:=by
    obtain⟨b2,o2,e3,h3,_⟩:=hbc0.mem (by simp only;omega);simp only[Option.some.injEq,Addr.mk.injEq] at e3;have:=hce2.out.bel.size;omega
   generalize x.ctors.getD k default=cx at *;have hm1:m1<=1000000:=by have h1:=hr1.len;have h2:=hcs.1;omega
   have hm2:m2<=1000000:=by have h1:=hr2.len;have h2:=hcs.2;omega
   have HR1:=aB hr1;have HR2:=aB hr2;have HTK:=aB htk;have HBL:Hid (bc<wr.drew.heap.size):=aB hbc;have HGL:Hid (g6<wr.drew.heap.size):=aB hc4.out.y.lt;have HXL:Hid (wo.heap.size<wr.drew.heap.size):=aB HKx.out.lt;have HBM:=aB hbcm;have HGM:=aB hgm;have HXM:Hid (wo.heap.size<wm.heap.size):=aB (by have:=hce2.out.bel.size;omega);have H4:Hid (BM wm g6 u x k B d us wr.drew):=aB hc4.out.drew;have hy0:wr.drew.cell? ⟨g6,4,I⟩=J (Y B k d):=zy 4;have hx0:wr.drew.cell? ⟨wo.heap.size,4,I⟩=J (Y (J ⟨bc,oc,I⟩) nc cc):=zx 4;have hvm:wm.heap.size<=wr.drew.heap.size:=hmv;clear hbc0 hcs htk hkl hcm hcv hr1 hr2 hbcm hcl zy hb5r hbc;go_wp2_with fail;clear zx;refine cP 20 (fun w'=>w'.cell? ⟨g6,4,I⟩=J (Y B k d)/\w'.cell? ⟨wo.heap.size,4,I⟩=J (Y (J ⟨bc,oc,I⟩) nc cc)/\w'.cell? ⟨bc,oc+k*2,I⟩=J (Y B1 m1 e1)/\w'.cell? ⟨bc,oc+k*2+1,I⟩=J (Y B2 m2 e2)) aC ?_ (fun hZ => ?_)
   · (try dsimp only);exact⟨hy0,hx0,ha0,hc0⟩
   generalize wr.drew=V0 at *;refine aN 0 hZ ?_;refine aN 1 hZ ?_;refine aN 2 hZ ?_;refine aN 3 hZ ?_;refine aN 4 hZ ?_;refine aN 5 hZ ?_;refine aN 6 hZ ?_;refine aN 7 hZ ?_;refine aN 9 hZ ?_;refine aN 10 hZ ?_;refine aN 11 hZ ?_;refine aN 12 hZ ?_;refine aN 13 hZ ?_;refine aN 14 hZ ?_;refine bA (i:=8) aC rfl rfl (fun K hK => ?_);go_simp;go_at_call 28
   refine (fC HR1.out hm1).mono ?_;rintro e V1 ⟨hd1,D1,q1,f1,rfl,ho1⟩;have hv1:=hd1.size;have hy1:=(Below.cell hd1 (p:=⟨g6,4,I⟩) (Nat.lt_of_lt_of_le HGL.out (Nat.le_refl _))).trans hy0;have hx1:=(Below.cell hd1 (p:=⟨wo.heap.size,4,I⟩) (Nat.lt_of_lt_of_le HXL.out (Nat.le_refl _))).trans hx0;have ha1:=(Below.cell hd1 (p:=⟨bc,oc+k*2,I⟩) (Nat.lt_of_lt_of_le HBL.out (Nat.le_refl _))).trans ha0;have hc1:=(Below.cell hd1 (p:=⟨bc,oc+k*2+1,I⟩) (Nat.lt_of_lt_of_le HBL.out (Nat.le_refl _))).trans hc0;have HD1:=aB hd1;have HP1:=aB ho1;clear hd1 ho1;go_wp2_with fail;refine hK.out _ _ (fun _ => ?_) ?_
   · (try dsimp only);exact⟨hy1,hx1,ha1,hc1⟩
   clear hK K;try simp only[p7]
   replace hZ:=(And.intro hy1 (And.intro hx1 (And.intro ha1 hc1)))
   refine bA (i:=15) aC rfl rfl (fun K hK => ?_);go_simp;go_at_call 28
   refine (fC (HR2.out.below HD1.out) hm2).mono ?_;rintro e V2 ⟨hd2,D2,q2,f2,rfl,ho2⟩;have hv2:=hd2.size;have hy2:=(Below.cell hd2 (p:=⟨g6,4,I⟩) (Nat.lt_of_lt_of_le HGL.out hv1)).trans hy1;have hx2:=(Below.cell hd2 (p:=⟨wo.heap.size,4,I⟩) (Nat.lt_of_lt_of_le HXL.out hv1)).trans hx1;have ha2:=(Below.cell hd2 (p:=⟨bc,oc+k*2,I⟩) (Nat.lt_of_lt_of_le HBL.out hv1)).trans ha1;have hc2:=(Below.cell hd2 (p:=⟨bc,oc+k*2+1,I⟩) (Nat.lt_of_lt_of_le HBL.out hv1)).trans hc1;have HD2:=aB hd2;have HP2:=aB ho2;clear hd2 ho2;go_wp2_with fail;refine hK.out _ _ (fun _ => ?_) ?_
   · (try dsimp only);exact⟨hy2,hx2,ha2,hc2⟩
   clear hK K;try simp only[p7]
   replace hZ:=(And.intro hy2 (And.intro hx2 (And.intro ha2 hc2)))
   refine aN 16 hZ ?_;have hv02:V0.heap.size<=V2.heap.size:=aA;have hal:=aP V2 (Z #[Y D1 q1 f1,Y D2 q2 f2] 71);have hy3:=(Below.cell hal (p:=⟨g6,4,I⟩) (Nat.lt_of_lt_of_le HGL.out hv02)).trans hy2;have hx3:=(Below.cell hal (p:=⟨wo.heap.size,4,I⟩) (Nat.lt_of_lt_of_le HXL.out hv02)).trans hx2;have ha3:=(Below.cell hal (p:=⟨bc,oc+k*2,I⟩) (Nat.lt_of_lt_of_le HBL.out hv02)).trans ha2;have hc3:=(Below.cell hal (p:=⟨bc,oc+k*2+1,I⟩) (Nat.lt_of_lt_of_le HBL.out hv02)).trans hc2;refine bA (i:=17) aC rfl rfl (fun K hK => ?_);go_simp;refine hK.out _ _ (fun _ => ?_) ?_
   · (try dsimp only);exact⟨hy3,hx3,ha3,hc3⟩
   clear hK K;try simp only[p7]
   replace hZ:=(And.intro hy3 (And.intro hx3 (And.intro ha3 hc3)))
   have HB3:Hid (Below V0.heap.size V0 (V2.alloc (Z #[Y D1 q1 f1,Y D2 q2 f2] 71))):=aB ((HD1.out.trans (HD2.out.mono hv1)).trans (hal.mono hv02));have HN1:Hid (dG (F0 V0 (V2.alloc (Z #[Y D1 q1 f1,Y D2 q2 f2] 71))) (V2.alloc (Z #[Y D1 q1 f1,Y D2 q2 f2] 71)) D1 q1 f1 cx.args):=aB (HP1.out.keep fun q hq=>⟨⟨hq.1,by have:=hq.2;simp;omega⟩,fun o=>(hal.cell (p:=⟨q,o,I⟩) (by have:=hq.2;simp;omega)).trans (HD2.out.cell (p:=⟨q,o,I⟩) hq.2)⟩);have HN2:Hid (dG (F0 V0 (V2.alloc (Z #[Y D1 q1 f1,Y D2 q2 f2] 71))) (V2.alloc (Z #[Y D1 q1 f1,Y D2 q2 f2] 71)) D2 q2 f2 cx.outs):=aB (HP2.out.keep fun q hq=>⟨⟨by have:=hq.1;omega,by have:=hq.2;simp;omega⟩,fun o=>hal.cell (p:=⟨q,o,I⟩) hq.2⟩);have HO3:=aB (bL H4.out.own HB3.out);have HBK3:=aB (aS.new V2 71 #[Y D1 q1 f1,Y D2 q2 f2]);have hnews:=rW HBK3.out;have HNEW:=aB hnews;have hv3:V2.heap.size+1=(V2.alloc (Z #[Y D1 q1 f1,Y D2 q2 f2] 71)).heap.size:=by simp
   have HY3:=aB (H4.out.y.below HB3.out H4.out.y.lt);clear hnews hal HD1 HD2 HP1 HP2 hv02;generalize hgV:(V2.alloc (Z #[Y D1 q1 f1,Y D2 q2 f2] 71))=V3 at *;clear hgV;refine bA (i:=18) aC rfl rfl (fun K hK => ?_);refine aX (.tmp 59) (.tmp 75) 66 rfl wm.heap.size 71 i4 _ 2 48 Tryz.underlying66 HI4a.out HI4b.out HI4c.out HI4d.out rfl aE (Y B k d) k us aF HO3.out (J ⟨V2.heap.size,0,I⟩) 1 1 [Y D1 q1 f1,Y D2 q2 f2] aF rfl (fun e=>by cases e) HNEW.out (by simp[Value.oneCell']) aJ aA aA ?_;intro A4 c4 V4 hap;have hnb:∀g,(Value.slice B k d).ownBlock=J g->wm.heap.size<=g:=fun g hg=>(aR HO3.out hg).1;have hy4:=(aU (hap.grown.block g6 (by have:=HGL.out;omega) (fun e=>by have:=hnb _ e.symm;have:=HGM.out;omega)) 4).trans hy3;have hx4:=(aU (hap.grown.block wo.heap.size (by have:=HXL.out;omega) (fun e=>by have:=hnb _ e.symm;have:=HXM.out;omega)) 4).trans hx3;have ha4:=(aU (hap.grown.block bc (by have:=HBL.out;omega) (fun e=>by have:=hnb _ e.symm;have:=HBM.out;omega)) (oc+k*2)).trans ha3;have hc4':=(aU (hap.grown.block bc (by have:=HBL.out;omega) (fun e=>by have:=hnb _ e.symm;have:=HBM.out;omega)) (oc+k*2+1)).trans hc3;have hyf:V4.frozen? ⟨g6,4,I⟩=false:=aS.frozen (HY3.out.grown hap.grown (fun e=>by have:=hnb _ e.symm;have:=HGM.out;omega)) 4;have HPU:=aB (BM.push H4.out HGM.out HTK.out HB3.out HN1.out HN2.out hap);clear hap hnb;refine hK.out _ _ (fun _ => ?_) ?_
   · (try dsimp only);exact⟨hy4,hx4,ha4,hc4'⟩
   clear hK K;try simp only[p7]
   replace hZ:=(And.intro hy4 (And.intro hx4 (And.intro ha4 hc4')))
   refine aN 19 hZ ?_;refine bA (i:=20) aC rfl rfl (fun K hK => ?_);go_simp;refine hK.out _ _ (fun h=>absurd rfl h) ?_;clear hK K;try simp only[p7]
   refine dE aC ?_ _;go_wp2_with fail;go_roundw
   case rel=>exact⟨k+1,c4,A4,us++[Y D1 q1 f1,Y D2 q2 f2],by go_num,by omega,HPU⟩
   case measure=>simp[intOf];omega
end Go.Proofs.YtjllmblbbgojbaaGreat
