/- Merged: SenseB, SenseV. -/
import Derived.Test.YtjllmblbbgojbaaGreatWGuarded
import Derived.Test.YtjllmblbbgojbaaGreatWSenseM
import Derived.Test.YtjllmblbbgojbaaGreatWShort3
namespace Go.Proofs.YtjllmblbbgojbaaGreat
open Go.Value renaming slice → O
open Option renaming none → X, some → Y
section
open Go.Lib (hid)
set_option maxHeartbeats 4000000
set_option maxRecDepth 100000
set_option linter.unusedVariables false
set_option linter.unusedSimpArgs false
open Go.RowKit
def GK (t:List Nd) (n:Nat):List Int->List TT->Prop
 | [],[]=>True
 | z::zs,y::ys=>(∃ g1 g2:Nat,z=(g1:Int)/\i7 t (g1:Int)=(g2:Int)/\g1<=g2/\g2<=n/\(t.take g2).drop g1=aJ y)/\GK t n zs ys
 | _,_=>False
theorem GK.add {t:List Nd} {n g1 g2:Nat} {y:TT} (h1:i7 t (g1:Int)=(g2:Int)) (h2:g1<=g2) (h3:g2<=n) (h4:(t.take g2).drop g1=aJ y) : ∀ {zs:List Int} {ys:List TT},GK t n zs ys->GK t n (zs++[(g1:Int)]) (ys++[y])
 | [],[],_=>⟨⟨g1,g2,rfl,h1,h2,h3,h4⟩,trivial⟩
 | [],_::_,h=>h.elim
 | _::_,[],h=>h.elim
 | _::_,_::_,h=>⟨h.1,h.2.add h1 h2 h3 h4⟩
theorem GK.at_ {t:List Nd} {n:Nat} : ∀ {zs:List Int} {ys:List TT} (j:Nat) (y:TT),GK t n zs ys->ys[j]? = Y y->∃ g1 g2:Nat,zs[j]? = Y (g1:Int)/\i7 t (g1:Int)=(g2:Int)/\g1<=g2/\g2<=n/\(t.take g2).drop g1=aJ y
 | [],[],j,y,_,h=>by simp at h
 | [],_::_,_,_,h,_=>h.elim
 | _::_,[],_,_,h,_=>h.elim
 | z::zs,x::ys,0,y,hb,h=>by
  simp only [List.getElem?_cons_zero,Option.some.injEq] at h;subst h;obtain ⟨g1,g2,rfl,h1⟩:=hb.1;exact ⟨g1,g2,rfl,h1⟩
 | z::zs,x::ys,j+1,y,hb,h=>by
  obtain ⟨g1,g2,e,h1⟩:=GK.at_ j y hb.2 (by simpa using h);exact ⟨g1,g2,by simpa using e,h1⟩
def C4 (x:TT) (n nb:Nat) (w:World) (e:Ending) (w':World):Prop:=Below w.heap.size w w'/\∃ A1 c1 A2 c2 bq,e=.returned (.tuple #[O A1 nb c1,O A2 nb c2])/\p9 w' w.heap.size A1 nb c1 (iJ x.2.2)/\p9 w' w.heap.size A2 nb c2 bq/\GK (aJ x) n bq (kH (cD x.2.2))
structure NW (tt:List Nd) (kk:Fo) (nb n q p:Nat) (dF:Fo) (L:List TT) (zq bq:List Int):Prop where
 at_:At tt p (MH (nb-q)) dF
 pl:zq++(bO dF).map (·.a)=iJ kk
 bd:L++kH (cD dF)=kH (cD kk)
 bp:GK tt n bq L
theorem pW {A:Option Addr} {n c nb:Nat} {x:TT} {w:World} (ht:aP w A n c (aJ x)) (hy:jK x) (h12:x.1.op=12) (hnb:x.1.b=(nb:Int)) :
 Calls Tryz.prog 56 #[O A n c] w (C4 x n nb w):=by
 have hok:=(Rt.wf hy).1;have hpl:=aF.1 (by simp only [dG,Bool.and_eq_true] at hok;exact hok.1.1);have hb1:1<=nb/\nb<=4:=aA;have hat:At (aJ x) 1 (ds x.1) x.2.2:=At.first (n:=x.1) (a:=x.2.1) (k:=x.2.2) hy aA;rw [MI h12 hnb] at hat;have hlenF:=ht.len;have hn4:n<=4096:=by rw [<-hlenF];exact Rt.few hy
 have hn0:0<n:=by rw [<-hlenF];simp [aJ]
 obtain ⟨bf,off,rfl,hbf,hc0,hc1,hc2⟩:=ht.at_ hn0;simp only [Nat.zero_mul,Nat.add_zero] at hc2;rw [show aQ (aJ x) 0=x.1 from rfl,hnb] at hc2;have HTF:=hid (fun (w':World) (h:Below w.heap.size w w')=>ht.below h);unfold C4;obtain ⟨tt,htt⟩ : ∃ tt,tt=aJ x:=⟨_,rfl⟩;rw [<-htt] at hat hlenF HTF ⊢;have HAT:=hid hat;have HLN:=hid hlenF;obtain ⟨nd,a,kk⟩:=x;simp only at HAT ⊢;obtain ⟨i0,hi,hz0,hz1,hz2⟩:=info_parts II;have HI0:=hid hi;have HY0:=hid hz0;have HY1:=hid hz1;have HY2:=hid hz2;clear hi hz0 hz1 hz2 hok hpl hat htt ht hy h12 hnb hc0 hc1 hlenF;go_in;go_wp2_with fail
 go_loopw [2,3,4,10] (fun ov bv av iv wr=>∃ (q p:Nat) (dF:Fo) (L:List TT) (zq bq:List Int) (A1 A2:Option Addr) (c1 c2:Nat),ov=O A1 q c1/\bv=O A2 q c2/\av=.int .i64 (p:Int)/\iv=.int .i64 (q:Int)/\q<=nb/\1+3*q<=p/\p<=n/\Hid (NW tt kk nb n q p dF L zq bq)/\Hid (p9 wr w.heap.size A1 q c1 zq)/\Hid (p9 wr w.heap.size A2 q c2 bq)/\Hid (GQ (O A1 q c1) (O A2 q c2))/\Hid (Below w.heap.size w wr)) (fun _ _ _ i _=>nb-(intOf i).toNat)
 case atStart=>exact ⟨0,1,kk,[],[],[],X,X,0,0,rfl,rfl,rfl,rfl,by omega,by omega,by omega,hid ⟨HAT.o,rfl,rfl,trivial⟩,hid (World.ownsRow_nil _ _ _ _),hid (World.ownsRow_nil _ _ _ _),hid (fun g hg=>by cases hg),hid (Below.refl _ _)⟩
 case round =>
  obtain ⟨q,p,dF,L,zq,bq,A1,A2,c1,c2,rfl,rfl,rfl,rfl,hqb,hp3,hpn,hs,ho1,ho2,hsep,hbw⟩:=hrel;obtain ⟨hAt,hZ,hD,hB⟩:=hs.o;by_cases hlt:q<nb;rotate_left
  · have y1':decide ((q:Int)<(nb:Int))=false:=decide_eq_false aA;obtain rfl:q=nb:=aA;have hdn:dF=.nil:=by
     rw [Nat.sub_self] at hAt;exact hAt.done
    subst hdn;have HZ:Hid (zq=iJ kk):=hid (by simpa [bO] using hZ);have HD:Hid (L=kH (cD kk)):=hid (by simpa [cD,kH] using hD);have HB:=hid hB;clear hlt hZ hD hB hAt hs;go_wp2_with fail
    go_ret2;refine ⟨hbw.o,A1,c1,A2,c2,bq,rfl,?_,ho2.o,?_⟩
    · rw [<-HZ.o];exact ho1.o
    rw [<-HD.o];exact HB.o
  have hfl:=vI _ hAt;obtain ⟨r,hr⟩ : ∃ r,nb-q=r+1:=⟨nb-q-1,by omega⟩;rw [hr] at hAt hfl;rw [show MH (r+1)=true::false::MH r from rfl] at hAt;obtain ⟨pre1,n1,a1,k1,nx1,rfl,s1⟩:=hAt.step;obtain ⟨pre2,n2',a2,k2,nx2,rfl,s2⟩:=s1.next.step;obtain ⟨fd,rfl,hfd,hnf⟩:=s1.fun_ rfl;have hpl2:pre2.length=0:=s2.plen;obtain rfl:=List.eq_nil_of_length_eq_zero hpl2;have hnx:=s2.next;have hfl2:=vI _ hnx;obtain ⟨e1,l1⟩:=(⟨s1.end_,s1.le⟩:_/\_);obtain ⟨e2,c2',l2⟩:=(⟨s2.end_,s2.cut,s2.le⟩:_/\_/\_);simp only [List.length_cons,List.length_nil,Nat.zero_add,Nat.add_zero] at e1 l1 e2 c2' l2 hnx hfl2;rw [rQ,rQ,List.nil_append,List.singleton_append,List.map_cons] at hZ;rw [show cD (.cons [fd] n1 a1 k1 (.cons [] n2' a2 k2 nx2))=(n1,a1,k1)::(n2',a2,k2)::cD nx2 from rfl] at hD;obtain ⟨y1,hy1⟩ : ∃ y1,y1=((n1,a1,k1):TT):=⟨_,rfl⟩;obtain ⟨y2,hy2⟩ : ∃ y2,y2=((n2',a2,k2):TT):=⟨_,rfl⟩;rw [<-hy1] at e1 l1 e2 c2' l2 hnx hD hfl2;rw [<-hy2] at e2 c2' l2 hnx hD hfl2;obtain ⟨g1,hg1⟩ : ∃ g,g=p+1+(aJ y1).length:=⟨_,rfl⟩;obtain ⟨g2,hg2⟩ : ∃ g,g=g1+(aJ y2).length:=⟨_,rfl⟩;rw [<-hg1] at e1 l1 e2 c2' l2 hnx hfl2;rw [<-hg2] at e2 c2' l2 hnx hfl2;rw [HLN.o] at l1 l2 hfl hfl2;have hpos1:0<(aJ y1).length:=by simp [aJ]
  have hpos2:0<(aJ y2).length:=by simp [aJ]
  rw [show ((p+1:Nat):Int)=(p:Int)+1 from by omega] at e1;have HEN1:=hid (fun (wr:World) (h:Below w.heap.size w wr)=>gG (HTF.o wr h) ((p:Int)+1));rw [e1] at HEN1;have HEN2:=hid (fun (wr:World) (h:Below w.heap.size w wr)=>gG (HTF.o wr h) (g1:Int));rw [e2] at HEN2;obtain ⟨b',o',e',_,_,hcp,_⟩:=aP.at_ (HTF.o w (Below.refl _ _)) (p:=p) aA;injection e' with e';injection e' with e1' e2';subst e1' e2';rw [hnf] at hcp;obtain ⟨fa,hfae⟩ : ∃ fa,fa=fd.a:=⟨_,rfl⟩;rw [<-hfae] at hcp hZ;have HPS:Hid (NW tt kk nb n (q+1) g2 nx2 (L++[y2]) (zq++[fa]) (bq++[(g1:Int)])):=hid ⟨by rw [show nb-(q+1)=r from by omega];exact hnx,by rw [List.append_assoc];exact hZ,by rw [List.append_assoc];exact hD,GK.add e2 aA aA c2' hB⟩;have hip:(0:Int)<=(p:Int):=aA;have hipn:(p:Int)<(n:Int):=aA;have y1':decide ((q:Int)<(nb:Int))=true:=decide_eq_true aA;obtain ⟨hpg,hgg,hgn,h3g⟩:p+1<=g1/\g1<=g2/\g2<=n/\1+3*(q+1)<=g2:=aA;have hcpr:=(hbw.o.cell (p:=⟨bf,off+p*3+1,X⟩) hbf).trans hcp;have hbs:=hbw.o.size;have hmz:Hid ((zq++[fa]).map (Value.int .i64)=zq.map (Value.int .i64)++[.int .i64 fa]):=hid (by simp);have hmb:Hid ((bq++[(g1:Int)]).map (Value.int .i64)=bq.map (Value.int .i64)++[.int .i64 (g1:Int)]):=hid (by simp);clear hAt hfl s1 s2 hpl2 hnx hfl2 e1 l1 e2 c2' l2 hy1 hy2 hg1 hg2 hr hnf hfd hfae hcp hZ hD hB hpos1 hpos2 hs;go_wp2_with (at_builtin;go_loud (refine a8 rfl (eR (.tmp 12) (.tmp 18) 106 3 rfl w.heap.size i0 _ 8 Tryz.underlying106 HI0.o HY0.o HY1.o HY2.o rfl (by decide) (O A1 q c1) q (zq.map (Value.int .i64)) (.int .i64 fa) rfl wr rfl rfl ho1.o _ rfl rfl aA aA ?_));intro A5 c5 w5 happ5)
  have HB5:=hid (hbw.o.grown happ5.grown hbs (fun g hg=>(aE ho1.o hg).1));have HO5:Hid (p9 w5 w.heap.size A5 (q+1) c5 (zq++[fa])):=hid (by unfold p9;rw [hmz.o];exact happ5.own);have HO6:Hid (p9 w5 w.heap.size A2 q c2 bq):=hid (DO ho2.o happ5.grown hsep.o.symm);have HS5:=hid (GQ.symm (GQ.app ho2.o hsep.o.symm happ5));clear happ5 hcpr;go_wp2_with fail
  refine (HEN1.o w5 HB5.o).mono ?_;rintro e w6 ⟨rfl,hd6⟩;have HB6:=cO HB5 hd6;have HO7:=hid (aY HO5.o hd6);have HO8:=hid (aY HO6.o hd6);have hb6:=HB6.o.size;clear hd6;go_wp2_with (at_builtin;go_loud (refine a8 rfl (eR (.tmp 24) (.tmp 26) 106 3 rfl w.heap.size i0 _ 8 Tryz.underlying106 HI0.o HY0.o HY1.o HY2.o rfl (by decide) (O A2 q c2) q (bq.map (Value.int .i64)) (.int .i64 (g1:Int)) rfl w6 rfl rfl HO8.o _ rfl rfl aA aA ?_));intro A9 c9 w9 happ9)
  have HB9:=hid (HB6.o.grown happ9.grown hb6 (fun g hg=>(aE HO8.o hg).1));have HO9:Hid (p9 w9 w.heap.size A9 (q+1) c9 (bq++[(g1:Int)])):=hid (by unfold p9;rw [hmb.o];exact happ9.own);have HO10:Hid (p9 w9 w.heap.size A5 (q+1) c5 (zq++[fa])):=hid (DO HO7.o happ9.grown HS5.o);have HS9:=hid (GQ.app HO7.o HS5.o happ9);clear happ9;go_wp2_with fail
  refine (HEN2.o w9 HB9.o).mono ?_;rintro e w10 ⟨rfl,hd10⟩;have HB10:=cO HB9 hd10;have HO11:=hid (aY HO9.o hd10);have HO12:=hid (aY HO10.o hd10);clear hd10;go_wp2_with fail
  go_roundw
  case rel=>exact ⟨q+1,g2,nx2,L++[y2],zq++[fa],bq++[(g1:Int)],A5,A9,c5,c9,rfl,rfl,rfl,by go_num,by omega,h3g,hgn,HPS,HO12,HO11,HS9,HB10⟩
  case measure=>simp [intOf];omega
theorem gR {w:World} {base j d z g:Nat} {e:TypeId} {xs:List Value} (h:w.ownsRow base e z (O (Y ⟨g,0,X⟩) j d) j xs) {i:Nat} {u:Value} (hu:xs[i]? = Y u):w.cell? ⟨g,i,X⟩=Y u:=by
 have h1:=World.ownsRow.cells h (g:=g) rfl i u hu;have ea:(⟨g,0,X⟩:Addr).add i=⟨g,i,X⟩:=by unfold Addr.add;split<;>simp_all
 rw [ea] at h1;exact h1
theorem p9.at_ {w:World} {base n c:Nat} {A:Option Addr} {zs:List Int} (h:p9 w base A n c zs) {i:Nat} {z:Int} (hz:zs[i]? = Y z) : ∃ g,A=Y ⟨g,0,X⟩/\g<w.heap.size/\base<=g/\w.cell? ⟨g,i,X⟩=Y (.int .i64 z)/\i<n:=by
 have hl:=h.1;have hi:i<zs.length:=(List.getElem?_eq_some_iff.1 hz).1;rw [List.length_map] at hl;rcases h.2 with ⟨_,h2⟩ | ⟨g,cap',cur,hv,hg,hh,_⟩
 · omega
 injection hv with e1 e2 e3;subst e1;have h3:=aE h (g:=g) rfl;have h4:=gR h (i:=i) (u:=.int .i64 z) (by rw [List.getElem?_map,hz];rfl);exact ⟨g,rfl,h3.2.1,h3.1,h4,by omega⟩
theorem oA {A:Option Addr} {n c:Nat} {x:TT} {w:World} (ht:aP w A n c (aJ x)) (hy:jK x) (h12:x.1.op=12) :
 Calls Tryz.prog 34 #[O A n c] w (fun e w'=>e=.returned (.int .i64 (dC x))/\Below w.heap.size w w'):=by
 have hOk:kJ x:=⟨(Rt.wf hy).1,(Rt.wf hy).2.1,(Rt.wf hy).2.2⟩;obtain ⟨f1,f2,f3,f4,_⟩:=fN hOk h12;obtain ⟨q1,_⟩:=MN hOk h12;obtain ⟨nb,hnb⟩ : ∃ nb:Nat,x.1.b=(nb:Int):=⟨x.1.b.toNat,by omega⟩;obtain ⟨ia,hia⟩ : ∃ ia:Nat,x.1.a=(ia:Int):=⟨x.1.a.toNat,by omega⟩;have hpl:(iJ x.2.2)[ia]? = Y (dC x):=by
  have hl:ia<(iJ x.2.2).length:=by unfold iJ;rw [List.length_map,q1];omega
  unfold dC;rw [show x.1.a.toNat=ia from by omega,List.getD_eq_getElem?_getD,List.getElem?_eq_getElem hl];rfl
 have hn0:0<n:=by rw [<-ht.len];simp [aJ]
 have HPL:=hid (pW ht hy h12 hnb);obtain ⟨bf,off,rfl,hbf,_,hc1,_⟩:=ht.at_ hn0;simp only [Nat.zero_mul,Nat.add_zero] at hc1;rw [show aQ (aJ x) 0=x.1 from rfl,hia] at hc1;have hin:ia<nb:=aA;have HP:=hid hpl;generalize dC x=pz at *;clear ht hy h12 hOk f1 f2 f3 f4 q1 hpl hia hnb;go_in;go_wp2_with fail
 refine (HPL.o).mono ?_;rintro e w2 ⟨hd,A1,c1,A2,c2,bq,rfl,ho1,ho2,_⟩;obtain ⟨g,rfl,hg,_,hcg,_⟩:=ho1.at_ HP.o;have hca:=(hd.cell (p:=⟨bf,off+1,X⟩) hbf).trans hc1;have hi0:(0:Int)<=(ia:Int):=aA;have hi1:(ia:Int)<(nb:Int):=aA;have HD:=hid hd;clear hd ho1 ho2 hc1;go_wp2_with fail
 go_ret;exact ⟨rfl,HD.o⟩
end
section
open Go.Lib (hid)
open Go.RowKit
theorem DM {w:World} {base z n c:Nat} {e:TypeId} {A:Option Addr} {vs:List Value} (h:w.ownsRow base e z (O A n c) n vs) {i:Nat} {u:Value} (hu:vs[i]? = Y u) : ∃ g,A=Y ⟨g,0,X⟩/\g<w.heap.size/\base<=g/\w.cell? ⟨g,i,X⟩=Y u:=by
 have hl:=h.1;have hi:i<vs.length:=(List.getElem?_eq_some_iff.1 hu).1;rcases h.2 with ⟨_,h2⟩ | ⟨g,cap',cur,hv,hg,hh,_⟩
 · subst h2;have:vs.length=0:=by simpa using hl
   omega
 injection hv with e1 e2 e3;subst e1;have h3:=aE h (g:=g) rfl;exact ⟨g,rfl,h3.2.1,h3.1,gR h hu⟩
theorem tZ {x:TT} (h:jK x):jK (cP x).1/\(cP x).1.1.op ≠ 6/\∀ y ∈ (cP x).2,jK y/\bU y<bU x:=by
 obtain ⟨e1,e2,_,e4,_⟩:=rG (bU x) x h (Nat.le_refl _);exact ⟨e1,e2,e4⟩
set_option linter.unusedSimpArgs false in
set_option linter.unusedVariables false in
set_option maxRecDepth 100000 in
set_option maxHeartbeats 8000000 in
theorem BO {m:Nat} (H:∀ (w:World) (A:Option Addr) (n c:Nat) (x:TT),aP w A n c (aJ x)->jK x->bU x<=m->Calls Tryz.prog 18 #[O A n c] w (fH (cJ x) w))
 {w:World} {A:Option Addr} {n c:Nat} {x:TT} (ht:aP w A n c (aJ x)) (hrt:jK x) (hm:bU x<=m+1) :
 Calls Tryz.prog 18 #[O A n c] w (fH (cJ x) w):=by
 have HAP:=hid (lF ht hrt);have hV:=lX x;obtain ⟨hr1,hr6,hr2⟩:=tZ hrt;have HR2:=hid (fun y hy=>(⟨(hr2 y hy).1,by have:=(hr2 y hy).2;omega⟩:jK y/\bU y<=m));have hpb:(cP x).1.1.op=12->0<=dC (cP x).1/\dC (cP x).1<16:=fun h12=>kV ⟨(Rt.wf hr1).1,(Rt.wf hr1).2.1,(Rt.wf hr1).2.2⟩ h12;have hLb:(cP x).2.length<=4096:=by
  have h3:(cP x).2.length<bU x:=jG (bU x) x hrt;have h4:bU x<=4096:=hrt.few;omega
 generalize cP x=qq at *;obtain ⟨F,L⟩:=qq;simp only at hV hr1 hr6 HR2 HAP hpb hLb;have HRF:=hid hr1;have HV:=hid hV;generalize cJ x=res at *;have HH:=hid H;have HT:=hid (fun (w':World) (h:Below w.heap.size w w')=>ht.below h);have HL0:Hid (L.isEmpty=((L.length:Int)==0)):=hid (by cases L<;>simp<;>omega);obtain ⟨k,hk⟩ : ∃ k,k=L.length:=⟨_,rfl⟩;have HK:=hid hk;unfold oF at HAP;simp only at HAP;rw [<-hk] at HAP hLb HL0;generalize aJ x=tx at *;clear hV hr1 hr2 H ht hrt hm hk;go_in;go_wp2_with fail
 refine (HAP.o).mono ?_;rintro e w1 ⟨hd1,A1,n1,c1,B,d,vs,rfl,hpc,hown,hps⟩;have hbs:=hd1.size;have HB2:=hid (hd1.trans ((aB w1 (.cells #[O A1 n1 c1,O B k d] 83)).mono hbs));have HKS:=hid (aD.new w1 83 #[O A1 n1 c1,O B k d]);have HOW:=hid (aY hown (aB w1 (.cells #[O A1 n1 c1,O B k d] 83)));have HPS:=hid hps;have htf:aP (w1.alloc (.cells #[O A1 n1 c1,O B k d] 83)) A1 n1 c1 (aJ F):=hpc _ _ (HT.o _ HB2.o);have HTF:=hid htf;have hn1:0<n1:=by rw [<-htf.len];simp [aJ]
 obtain ⟨bf,of,rfl,hbf,hcf,_,_⟩:=aP.at_ htf hn1;rw [Nat.zero_mul,Nat.add_zero,show aQ (aJ F) 0=F.1 from rfl] at hcf;obtain ⟨op,hop⟩ : ∃ op,op=F.1.op:=⟨_,rfl⟩;have HOP:=hid hop;rw [<-hop] at hcf hr6 hpb;have HV2:=HV.o;rw [<-hop] at HV2;have HV3:=hid HV2;have hn10:(0:Int)<(n1:Int):=aA;have hk0:(0:Int)<=(k:Int):=aA;clear hd1 hown hps htf HV2 hop hbs;by_cases ha:op=5\/op=4\/op=2
 · have HRES:Hid (res=((k:Int)==0)):=hid (by rw [HV3.o,if_pos ha,HL0.o]);rcases ha with rfl | rfl | rfl;all_goals
    go_wp2_with fail
    go_ret;rw [HRES.o];exact ⟨rfl,HB2.o⟩
 have b5:(op==5)=false:=beq_eq_false_iff_ne.2 aA;have b4:(op==4)=false:=beq_eq_false_iff_ne.2 aA;have b2:(op==2)=false:=beq_eq_false_iff_ne.2 aA;by_cases h12:op=12
 · obtain ⟨hp0,hp16⟩:=hpb h12;have HPO:=hid (fun (w':World) (h:Below w.heap.size w w')=>oA (hpc _ _ (HT.o w' h)) HRF.o (by rw [<-HOP.o];exact h12));have HV4:Hid (res=(decide ((k:Int)<=dC F)&&L.all cJ)):=hid (by rw [HV3.o,if_neg ha,if_pos h12,HK.o]);generalize dC F=pz at *;have b12:(op==12)=true:=beq_iff_eq.2 h12;have HBd:=hid (aI HB2.o 1);have HKd:=hid (HKS.o.drewN 1);have zk0:(w1.alloc (.cells #[O (Y ⟨bf,of,X⟩) n1 c1,O B k d] 83)).drew.cell? ⟨w1.heap.size,0,X⟩=Y (O (Y ⟨bf,of,X⟩) n1 c1):=HKd.o.cell 0;have zk1:(w1.alloc (.cells #[O (Y ⟨bf,of,X⟩) n1 c1,O B k d] 83)).drew.cell? ⟨w1.heap.size,1,X⟩=Y (O B k d):=HKd.o.cell 1;clear h12 ha hpb;go_wp2_with fail
   refine wp_region_held_drew (S:=(fun w'=>w'.cell? ⟨w1.heap.size,0,X⟩=Y (O (Y ⟨bf,of,X⟩) n1 c1)/\w'.cell? ⟨w1.heap.size,1,X⟩=Y (O B k d))) (by kernel_rfl) ?_ (fun hHeld => ?_)
   · (try dsimp only);exact ⟨zk0,zk1⟩
   refine tq 0 hHeld ?_;try simp only [p7]
   refine tq 1 hHeld ?_;try simp only [p7]
   refine tq 2 hHeld ?_;try simp only [p7]
   refine tq 3 hHeld ?_;try simp only [p7]
   refine tq 4 hHeld ?_;try simp only [p7]
   refine r1 5 fun K hK => ?_;go_simp;go_at_call 34
   refine (HPO.o _ HBd.o).mono ?_;rintro e W5 ⟨rfl,hd5⟩;have HB5:=cO HBd hd5;have HK5:=gU HKd hd5;have HD5:Hid (Below (w1.alloc (.cells #[O (Y ⟨bf,of,X⟩) n1 c1,O B k d] 83)).heap.size (w1.alloc (.cells #[O (Y ⟨bf,of,X⟩) n1 c1,O B k d] 83)) W5):=hid ((aI (Below.refl _ _) 1).trans hd5);clear hd5;go_wp2_with fail
   refine hK.o _ _ (by exact ⟨HK5.o.cell 0,HK5.o.cell 1⟩) fun hHeld => ?_;clear hK K;try simp only [p7]
   refine tq 6 hHeld ?_;try simp only [p7]
   refine wpAnyH_done (by kernel_rfl) ?_ _;by_cases hle:(k:Int)<=pz;case neg =>
    have d1:pz<(k:Int):=aA;have d2:decide ((k:Int)>pz)=true:=decide_eq_true d1;have HRES:Hid (res=false):=hid (by rw [HV4.o,decide_eq_false hle,Bool.false_and]);clear hle;go_wp2_with fail
    go_ret;rw [HRES.o];exact ⟨rfl,HB5.o⟩
   have d1:decide (pz<(k:Int))=false:=decide_eq_false aA;have d2:decide ((k:Int)>pz)=false:=decide_eq_false aA;have d3:(k:Int)<=pz:=hle;have HRES:Hid (res=L.all cJ):=hid (by rw [HV4.o,decide_eq_true hle,Bool.true_and]);have zk:=aD.cell HK5.o;have HOW5:=hid (aY HOW.o HD5.o);clear hle zk0 zk1 hcf;obtain ⟨w5,rfl⟩ : ∃ x:World,x=W5:=⟨_,rfl⟩;go_wp2_with fail
   (try simp only [d1])
   go_loopw [36] (fun iv wr=>∃ i:Nat,iv=.int .i64 (i:Int)/\i<=k/\Hid ((L.take i).all cJ=true)/\Hid (Below w.heap.size w wr)/\Hid (Below w5.heap.size w5 wr)) (fun iv _=>k-(intOf iv).toNat)
   case atStart=>exact ⟨0,rfl,by omega,hid rfl,HB5,hid (Below.refl _ _)⟩
   case round =>
    obtain ⟨i,rfl,hi,hall,hbw,hb5⟩:=hrel;by_cases hlt:i<k;rotate_left
    · have y1:decide ((i:Int)<(k:Int))=false:=decide_eq_false aA;have y2:decide (i<k)=false:=decide_eq_false hlt;have HRF2:Hid (res=true):=hid (by
       have h1:=hall.o;rw [List.take_of_length_le (by rw [<-HK.o];omega)] at h1;rw [HRES.o,h1])
      clear hlt;go_wp2_with fail
      go_ret;rw [HRF2.o];exact ⟨rfl,hbw.o⟩
    have y1:decide ((i:Int)<(k:Int))=true:=decide_eq_true aA;have y2:decide (i<k)=true:=decide_eq_true hlt;have hil:i<L.length:=by rw [<-HK.o];exact hlt
    obtain ⟨A3,n3,c3,hv,hp3⟩:=gC.at_ i HPS.o hil;obtain ⟨g,hBg,hg,_,hcg⟩:=DM HOW5.o hv;subst hBg;have hcg2:=(hb5.o.cell (p:=⟨g,i,X⟩) hg).trans hcg;have HRY:=HR2.o L[i] (List.getElem_mem hil);have HC:=hid (HH.o wr A3 n3 c3 L[i] (hp3 _ _ (HT.o wr hbw.o)) HRY.1 HRY.2);have htk:(L.take (i+1)).all cJ=((L.take i).all cJ&&cJ L[i]):=by
     rw [List.take_succ_eq_append_getElem hil,List.all_append];simp
    have hdr:L.all cJ=((L.take (i+1)).all cJ&&(L.drop (i+1)).all cJ):=by rw [<-List.all_append,List.take_append_drop]
    have HTK:=hid htk;have HDR:=hid hdr;have hi0:(0:Int)<=(i:Int):=aA;have hi1:(i:Int)<(k:Int):=aA;obtain ⟨vy,hvy⟩ : ∃ v,v=cJ L[i]:=⟨_,rfl⟩;rw [<-hvy] at HC HTK;clear hcg hv hp3 HRY htk hdr hvy hil;go_wp2_with fail
    refine (HC.o).mono ?_;rintro e w7 ⟨rfl,hd7⟩;have HB7:=cO hbw hd7;have HB57:=cO hb5 hd7;clear hd7 hcg2;cases vy with
    | true =>
     have HAL:Hid ((L.take (i+1)).all cJ=true):=hid (by rw [HTK.o,hall.o];rfl);go_wp2_with fail
     go_roundw
     case rel=>exact ⟨i+1,by go_num,by omega,HAL,HB7,HB57⟩
     case measure=>simp [intOf];omega
    | false =>
     have HRF2:Hid (res=false):=hid (by rw [HRES.o,HDR.o,HTK.o,Bool.and_false,Bool.false_and]);go_wp2_with fail
     go_ret;rw [HRF2.o];exact ⟨rfl,HB7.o⟩
 have b12:(op==12)=false:=beq_eq_false_iff_ne.2 h12;by_cases h9:op=9\/op=10;rotate_left
 · have b9:(op==9)=false:=beq_eq_false_iff_ne.2 aA;have b10:(op==10)=false:=beq_eq_false_iff_ne.2 aA;have HRES:Hid (res=false):=hid (by rw [HV3.o,if_neg ha,if_neg h12,if_neg h9]);clear ha h12 h9;go_wp2_with fail
   go_ret;rw [HRES.o];exact ⟨rfl,HB2.o⟩
 have HRES:Hid (res=L.all cJ):=hid (by rw [HV3.o,if_neg ha,if_neg h12,if_pos h9]);have HB5:=HB2;have HOW5:=HOW;have zk:=aD.cell HKS.o;rcases h9 with rfl | rfl;all_goals
  go_wp2_with fail
  go_loopw [36] (fun iv wr=>∃ i:Nat,iv=.int .i64 (i:Int)/\i<=k/\Hid ((L.take i).all cJ=true)/\Hid (Below w.heap.size w wr)/\Hid (Below (w1.alloc (.cells #[O (Y ⟨bf,of,X⟩) n1 c1,O B k d] 83)).heap.size (w1.alloc (.cells #[O (Y ⟨bf,of,X⟩) n1 c1,O B k d] 83)) wr)) (fun iv _=>k-(intOf iv).toNat)
  case atStart=>exact ⟨0,rfl,by omega,hid rfl,HB5,hid (Below.refl _ _)⟩
  case round =>
   obtain ⟨i,rfl,hi,hall,hbw,hb5⟩:=hrel;by_cases hlt:i<k;rotate_left
   · have y1:decide ((i:Int)<(k:Int))=false:=decide_eq_false aA;have y2:decide (i<k)=false:=decide_eq_false hlt;have HRF2:Hid (res=true):=hid (by
      have h1:=hall.o;rw [List.take_of_length_le (by rw [<-HK.o];omega)] at h1;rw [HRES.o,h1])
     clear hlt;go_wp2_with fail
     go_ret;rw [HRF2.o];exact ⟨rfl,hbw.o⟩
   have y1:decide ((i:Int)<(k:Int))=true:=decide_eq_true aA;have y2:decide (i<k)=true:=decide_eq_true hlt;have hil:i<L.length:=by rw [<-HK.o];exact hlt
   obtain ⟨A3,n3,c3,hv,hp3⟩:=gC.at_ i HPS.o hil;obtain ⟨g,hBg,hg,_,hcg⟩:=DM HOW5.o hv;subst hBg;have hcg2:=(hb5.o.cell (p:=⟨g,i,X⟩) hg).trans hcg;have HRY:=HR2.o L[i] (List.getElem_mem hil);have HC:=hid (HH.o wr A3 n3 c3 L[i] (hp3 _ _ (HT.o wr hbw.o)) HRY.1 HRY.2);have htk:(L.take (i+1)).all cJ=((L.take i).all cJ&&cJ L[i]):=by
    rw [List.take_succ_eq_append_getElem hil,List.all_append];simp
   have hdr:L.all cJ=((L.take (i+1)).all cJ&&(L.drop (i+1)).all cJ):=by rw [<-List.all_append,List.take_append_drop]
   have HTK:=hid htk;have HDR:=hid hdr;have hi0:(0:Int)<=(i:Int):=aA;have hi1:(i:Int)<(k:Int):=aA;obtain ⟨vy,hvy⟩ : ∃ v,v=cJ L[i]:=⟨_,rfl⟩;rw [<-hvy] at HC HTK;clear hcg hv hp3 HRY htk hdr hvy hil;go_wp2_with fail
   refine (HC.o).mono ?_;rintro e w7 ⟨rfl,hd7⟩;have HB7:=cO hbw hd7;have HB57:=cO hb5 hd7;clear hd7 hcg2;cases vy with
   | true =>
    have HAL:Hid ((L.take (i+1)).all cJ=true):=hid (by rw [HTK.o,hall.o];rfl);go_wp2_with fail
    go_roundw
    case rel=>exact ⟨i+1,by go_num,by omega,HAL,HB7,HB57⟩
    case measure=>simp [intOf];omega
   | false =>
    have HRF2:Hid (res=false):=hid (by rw [HRES.o,HDR.o,HTK.o,Bool.and_false,Bool.false_and]);go_wp2_with fail
    go_ret;rw [HRF2.o];exact ⟨rfl,HB7.o⟩
theorem oS:∀ (m:Nat) (w:World) (A:Option Addr) (n c:Nat) (x:TT),aP w A n c (aJ x)->jK x->bU x<=m->Calls Tryz.prog 18 #[O A n c] w (fH (cJ x) w)
 | 0,_,_,_,_,(n,a,k),_,_,h=>by rw [dJ] at h;omega
 | m+1,w,A,n,c,x,ht,hr,hm=>BO (oS m) ht hr hm
end
end Go.Proofs.YtjllmblbbgojbaaGreat
