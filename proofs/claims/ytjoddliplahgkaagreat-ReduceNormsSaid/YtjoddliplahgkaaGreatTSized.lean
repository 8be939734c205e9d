/- Merged: NmE, FuN, Sized. -/
import Derived.Test.YtjoddliplahgkaaGreatTFuD
namespace Go.Proofs.YtjoddliplahgkaaGreat
set_option linter.unusedVariables false
set_option linter.unusedSimpArgs false
open Go.RowKit
open Go.Value renaming int → O, slice → Y
open Go.IntKind renaming i64 → X
open Option renaming none → Z
open Go.Obj renaming cells → J
variable {b:Bk}{c cc cn n:Nat}{A cA:ZZ}{w:aAB}{v:bR}
section
open Go.Lib renaming hid->aB
set_option maxHeartbeats 4000000
set_option maxRecDepth 100000
def IU:uO->RQ
 | .bad z=>.bad z
 | .done y k=>.done (aW y) k
def PX(b:Bk)(cv:aAA)(x:TT)(F:Nat):RQ:=IU (UX b cv F x)
theorem MH{w0:aAB}{g:Nat}{cv:aAA}(hr:bU b=0)(hb:cE w0 v b){F:Nat}(hF:F<=100000)(hw:yO w0 g v b cA cn cc cv F w){p:Nat}{x:TT}(hp:aT w p 29 #[Y A n c])(ht:bF (fun q=>q<w.heap.size/\q≠g) w A n c (aW x))(hQ:GI b cv F x):
 Calls Tryz.prog 61 #[.pointer (some ⟨g,0,Z⟩),.pointer (some ⟨p,0,Z⟩)] w (UH g v b cA cn cc (PX b cv x F) w):=by
 have D:=sU (b:=b) hr (F*4097+bL x+1) cv F x hQ aA;have G:=MI (g:=g) hr hb (F*4097+bL x+1) w cA cn cc cv F A n c x hw ht hQ hF D.1;obtain⟨r,I⟩:=aAJ (UX b cv F x);have e9:jS b (F*4097+bL x+1) cv F x=r:=I.symm;rw[e9]at G;have a0:=aB G;have HQ:Hid (PX b cv x F=IU r):=aB (congrArg IU I.symm);have zp:=hp.cell;generalize PX b cv x F=rr at *;clear hr hb hw hp ht hQ D G I e9;go_in;go_wp2_with fail;refine (a0.o).mono ?_;rintro e w2 ⟨h,h2⟩;have U:=aB h;clear h;rcases h2 with⟨z,hz,rfl⟩|⟨y,k,A3,n3,c3,hd,rfl,ho,hk⟩
 . have s:Hid (rr=.bad z):=aB (HQ.o.trans (congrArg IU hz));clear hz;go_wp2_with fail;exact⟨rfl,U.o,.inl ⟨z,s.o,rfl⟩⟩
 have s:Hid (rr=.done (aW y) k):=aB (HQ.o.trans (congrArg IU hd));obtain⟨HO,HK⟩:=aAC ho hk;clear hd ho hk;go_wp2_with fail;go_ret;exact⟨U.o,.inr ⟨_,k,A3,n3,c3,s.o,rfl,HO.o,HK.o⟩⟩
theorem BW{cv:aAA}(hr:bU b=0)(hb:cE w v b)(U:jU (· < w.heap.size) w cA cn cc cv){x:TT}(ht:aX w A n c (aW x))(fuel:Int)(hQ:GI b cv (eR fuel) x):
 Calls Tryz.prog 35 #[.agg #[O X b.vars,Y v.Ao v.no v.co,Y v.Ae v.ne v.ce,O X b.nat,Y v.Ap v.np v.cp],Y cA cn cc,Y A n c,O X fuel] w (sA (PX b cv x (eR fuel)) w):=by
 obtain⟨s,F⟩:=aAJ ((w.alloc (J #[O X b.vars,Y v.Ao v.no v.co,Y v.Ae v.ne v.ce,O X b.nat,Y v.Ap v.np v.cp] 26)).alloc (J #[Y A n c] 29));have D:ZY w s:=by rw[F];exact bS _ _ _
 have k0:aT s w.heap.size 26 #[O X b.vars,Y v.Ao v.no v.co,Y v.Ae v.ne v.ce,O X b.nat,Y v.Ap v.np v.cp]:=by rw[F];exact (aT.new _ _ _).alloc _
 have k1:aT s (w.heap.size+1) 29 #[Y A n c]:=by rw[F];exact aT.new' aD
 have z0:=k0.cell;have z1:=k1.cell;have a2:w.heap.size+1<s.heap.size:=k1.lt;have I:eR fuel<=100000:=by unfold eR;omega
 have a0:=aB D;have a1:=aB (EB (A:=A) (n:=n) (c:=c) (hb.below D) (U.keep fun q h=>⟨XT h D.size,fun o=>D.cell (p:=⟨q,o,Z⟩) h⟩) fuel (fid:=61) (p:=w.heap.size+1) (r:=PX b cv x (eR fuel)) (fun _ _=>by kernel_rfl) (fun g W hB hM=>MH hr (hb.below D) I hM (k1.below hB a2) (bF.keep ht (R':=fun q=>q<W.heap.size/\q≠g) (w':=W) fun q h=>⟨⟨XT h (YE D.size hB.size),by have:=hM.ge;have:=D.size;omega⟩,fun o=>(D.trans (hB.mono D.size)).cell (p:=⟨q,o,Z⟩) h⟩) hQ));clear hr hb U ht hQ D k0 k1 I;generalize PX b cv x (eR fuel)=rr at *;go_in;go_upto_region 1 with fail
 rw[<-F];clear F;go_wp2_with fail;refine (a1.o).mono ?_;rintro e w2 h2;have h3:=h2.base a0.o;clear h2;obtain⟨G,h4⟩:=h3;rcases h4 with⟨z,hz,rfl⟩|⟨l,k,A7,n7,c7,hd,rfl,ho⟩
 . have HP:Hid (sA rr w (.returned (.tuple #[Y Z 0 0,O X 0,O X z])) w2):=aB ⟨G,.inl ⟨z,hz,rfl⟩⟩;clear hz G;go_wp2_with fail;go_ret3
   exact HP.o
 have HP:Hid (sA rr w (.returned (.tuple #[Y A7 n7 c7,O X (k:Int),O X 0])) w2):=aB ⟨G,.inr ⟨l,k,A7,n7,c7,hd,rfl,ho⟩⟩;clear hd G ho;go_wp2_with fail;go_ret3
 exact HP.o
def pQ(b:Bk)(bs:List (List Nd×List Nd))(l:List Nd)(fuel:Int):List Nd×Int×Int:=uN (iB b bs l) (PX b (zO bs) (cT l) (eR fuel))
theorem UY{bs:List (List Nd×List Nd)}{l:List Nd}{F:Nat}(h:iB b bs l=0)(hF:F<=480):GI b (zO bs) F (cT l):=by
 obtain⟨U,o,G,s,D⟩:=sI h;have I:bL (cT l)<=4096:=D.few;refine⟨G,D,?_⟩;unfold GE;rw[YR];omega
theorem NQ(hb:cE w v b){bs:List (List Nd×List Nd)}(s:kJ (· < w.heap.size) w cA cn cc bs){l:List Nd}(ht:aX w A n c l)(fuel:Int)(hF:eR fuel<=480):
 Calls Tryz.prog 16 #[.agg #[O X b.vars,Y v.Ao v.no v.co,Y v.Ae v.ne v.ce,O X b.nat,Y v.Ap v.np v.cp],Y cA cn cc,Y A n c,O X fuel] w (RY (pQ b bs l fuel) w):=by
 obtain⟨w1,F⟩:=aAJ (w.alloc (J #[O X b.vars,Y v.Ao v.no v.co,Y v.Ae v.ne v.ce,O X b.nat,Y v.Ap v.np v.cp] 26));have D:ZY w w1:=by rw[F];exact aQ _ _
 have h:aT w1 w.heap.size 26 #[O X b.vars,Y v.Ao v.no v.co,Y v.Ae v.ne v.ce,O X b.nat,Y v.Ap v.np v.cp]:=by rw[F];exact aT.new _ _ _
 have a0:=aB (FQ (hb.below D) (s.below D) (ht.below D) fuel (fid:=35) (r:=PX b (zO bs) (cT l) (eR fuel)) (fun _ _=>by kernel_rfl) (fun h0 W hB=>by
  obtain⟨q1,q2,q3,q4,q5⟩:=sI h0;have a1:cn<=256:=by have:=s.len;omega
  have G:=D.trans (hB.mono D.size);exact BW (w:=W) q1 (hb.below G) ((s.below G).vals aA) (by rw[<-q4];exact ht.below G) fuel (UY h0 hF)))
 have I:=aB D;have z1:=h.cell;unfold pQ;generalize uN (iB b bs l) (PX b (zO bs) (cT l) (eR fuel))=q at *;clear hb s ht D h hF;go_in;go_upto_region 1 with fail
 rw[<-F];clear F;go_wp2_with fail;refine (a0.o).mono ?_;rintro e w2 ⟨U,A',n',c',rfl,ho⟩;have z:=bY I U;have HO:=aB (gN ho I.o.size);clear U ho;go_wp2_with fail;go_ret3
 exact⟨z.o,A',n',c',rfl,HO.o⟩
end
section
open Go.Lib renaming hid->aB
set_option maxRecDepth 100000 in
set_option maxHeartbeats 4000000 in
theorem JH(hb:cE w v b){bs:List (List Nd×List Nd)}(hc:kJ (· < w.heap.size) w cA cn cc bs){l:List Nd}(ht:aX w A n c l)(fuel:Int)(hF:eR fuel<=480):
 Calls Tryz.prog 17 #[.agg #[O X b.vars,Y v.Ao v.no v.co,Y v.Ae v.ne v.ce,O X b.nat,Y v.Ap v.np v.cp],Y cA cn cc,Y A n c,O X fuel] w (VQ (pQ b bs l fuel) w):=by
 obtain⟨w1,I⟩:=aAJ (w.alloc (J #[O X b.vars,Y v.Ao v.no v.co,Y v.Ae v.ne v.ce,O X b.nat,Y v.Ap v.np v.cp] 26));have G:ZY w w1:=by rw[I];exact aQ _ _
 have a1:aT w1 w.heap.size 26 #[O X b.vars,Y v.Ao v.no v.co,Y v.Ae v.ne v.ce,O X b.nat,Y v.Ap v.np v.cp]:=by rw[I];exact aT.new _ _ _
 obtain⟨a3,a5⟩:=aAC (JF (hb.below G) (hc.below G) (ht.below G)) G;have a9:=a1.lt;have z1:=a1.cell;obtain⟨z,hz⟩:=aAJ (iB b bs l);rw[<-hz]at a3;by_cases h0:z=0;rotate_left
 . have d0:(z != 0)=true:=by simpa using h0
   have HQ:Hid (pQ b bs l fuel=([],0,z)):=aB (by unfold pQ uN;rw[<-hz,XP h0]);clear h0 hz hb hc ht G a1;go_in;go_upto_region 1 with fail
   rw[<-I];clear I;go_wp2_with fail;refine (a3.o).mono ?_;rintro e w2 ⟨rfl,D⟩;have F:=bY a5 D;clear D;go_wp2_with fail;go_ret3
   rw[HQ.o];exact⟨F.o,Z,0,0,rfl,aX.nil _⟩
 subst h0;obtain⟨q1,q2,q3,q4,q5⟩:=sI hz.symm;have b8:cn<=256:=by have:=hc.len;omega
 have HQ:Hid (pQ b bs l fuel=lH (UX b (zO bs) (eR fuel) (cT l))):=aB (by
  unfold pQ uN;rw[<-hz,XN aD];unfold PX;cases UX b (zO bs) (eR fuel) (cT l)<;>rfl)
 have a4:=UY hz.symm hF;have a7:=aB (fun (W:aAB) (hB:ZY w W)=>JG q1 (eR fuel*4097+bL (cT l)+1) W cA cn cc (zO bs) (eR fuel) A n c (cT l) (hb.below hB) ((hc.below hB).vals aA) (by rw[<-q4];exact ht.below hB) a4 (by unfold eR;omega) (sU q1 _ _ _ _ a4 aA).1);obtain⟨b7,s⟩:=aAJ (lH (UX b (zO bs) (eR fuel) (cT l)));have a0:b7=lH (jS b (eR fuel*4097+bL (cT l)+1) (zO bs) (eR fuel) (cT l)):=s;rw[<-s]at HQ;rw[<-a0]at a7;rw[HQ.o];clear hz hb hc ht G a1 q1 q3 q4 q5 HQ s a0 a4;go_in;go_upto_region 1 with fail
 rw[<-I];clear I;go_wp2_with fail;refine (a3.o).mono ?_;rintro e w2 ⟨rfl,D⟩;have F:=bY a5 D;have z2:=fun i=>(D.cell (p:=⟨w.heap.size,i,Z⟩) a9).trans (z1 i);have h:=XT a9 D.size;clear D;go_upto_region 4 with fail
 refine wp_region_held_drew (S:=(fun w'=>ZY w2 w')) aC ?_ (fun U=>?_)
 . (try dsimp only);exact aU (XS _ _) 1
 have a2:Hid (ZY w2 w2.drew):=aB (aU (XS _ _) 1);generalize w2.drew=W1 at *;refine tk 0 ?_ (fun wq hSw=>?_) U ?_;rotate_left
 . have b0:=(hSw.cell (p:=⟨w.heap.size,0,Z⟩) h).trans (z2 0);have b1:=(hSw.cell (p:=⟨w.heap.size,1,Z⟩) h).trans (z2 1);have b2:=(hSw.cell (p:=⟨w.heap.size,2,Z⟩) h).trans (z2 2);have b3:=(hSw.cell (p:=⟨w.heap.size,3,Z⟩) h).trans (z2 3);have b4:=(hSw.cell (p:=⟨w.heap.size,4,Z⟩) h).trans (z2 4);go_simp;try with_reducible rfl
 try simp only[p7]
 refine aL 1 U ?_;refine aL 2 U ?_;refine aL 3 U ?_;refine r1 4 fun K hK=>?_;go_simp;go_at_call 34
 refine NK.mono ?_;rintro e wq ⟨rfl,rfl⟩;go_wp2_with fail;refine hK.o _ _ (by exact a2.o) fun U=>?_;clear hK K;try simp only[p7]
 refine r1 5 fun K hK=>?_;go_simp;go_at_call 36
 refine (a7.o _ (F.o.trans (a2.o.mono F.o.size))).mono ?_;rintro e w3 ⟨a8,A3,n3,c3,rfl,b5⟩;have a6:=bY a2 a8;have b6:Hid (aX w3 A3 n3 c3 _):=aB (b5.keep fun q hq=>⟨hq.2,fun _=>rfl⟩);clear a8 b5;go_wp2_with fail;refine hK.o _ _ (by exact a6.o) fun U=>?_;clear hK K;try simp only[p7]
 refine aL 6 U ?_;refine aL 7 U ?_;refine aL 8 U ?_;refine aL 9 U ?_;refine aL 10 U ?_;refine aL 11 U ?_;refine wpAnyH_done aC ?_ _;go_wp2_with fail;go_ret3
 exact⟨F.o.trans (a6.o.mono F.o.size),A3,n3,c3,rfl,b6.o⟩
end
section
open Go.Lib renaming hid->aB
set_option maxHeartbeats 4000000
set_option maxRecDepth 100000
def iT(D:Int):List (List Nd)->Int->Int
 | [],n=>n
 | l::r,n=>if n<D then iT D r (n+1+(l.length:Int)) else n
theorem FX(D:Int):∀(r:aAA)(n:Int),(∀l∈r,l.length<=5864062014805)->n<=iT D r n/\(iT D r n<=n\/iT D r n<=D+5864062014805)
 | [],n,_=>⟨YI _,.inl (YI _)⟩
 | l::r,n,h=>by
  simp only[iT];split
  . rename_i F
    have I:=h l aD;have:=FX D r (n+1+(l.length:Int)) (fun x G=>h x (by simp[G]));omega
  . exact⟨YI _,.inl (YI _)⟩
theorem pH{ls:aAA}(ht:fP w A n c ls)(F:Int)(a8:F<=1000000000000000):
 Calls Tryz.prog 39 #[Y A n c,O X F] w (fun e w'=>e=.returned (O X (iT F ls 0))/\w'=w):=by
 have a7:=ht.len;have a6:=ht.few;have HT:=aB (fun (k:Nat) (hk:k<n)=>ht.at_ hk);obtain⟨a5,I⟩:=aAJ (iT F ls 0);rw[<-I];have z:=aB I;clear ht I;go_in;go_wp2_with fail;go_loopw [5,6] (fun nv iv wr=>∃(i:Nat)(m:Int),nv=O X m/\iv=O X (i:Int)/\i<=n/\0<=m/\m<=1010000000000000/\Hid (iT F (ls.drop i) m=a5)/\wr=w) (fun _ i _=>n-(intOf i).toNat)
 case atStart=>exact⟨0,0,rfl,rfl,by omega,by omega,by omega,aB z.o.symm,rfl⟩
 case round =>
  obtain⟨i,m,rfl,rfl,hi,b1,b2,U,rfl⟩:=hrel;by_cases a3:i<n;rotate_left
  . have a2:decide ((i:Int)<(n:Int))=false:=XQ aA;have D:=U.o;rw[YY aA]at D;simp only[iT]at D;have G:=aB D;clear D U;go_wp2_with fail;go_ret;rw[<-G.o];exact⟨rfl,rfl⟩
  have a2:decide ((i:Int)<(n:Int))=true:=XR aA;obtain⟨b',off,A',n',c',rfl,a9,b0,h⟩:=HT.o i a3;have a0:i<ls.length:=aA;have s:=h.len;have a1:=h.few;have D:=U.o;rw[YX a0,show ls[i]=ls.getD i [] from by rw[YD,YB a0];rfl]at D;simp only[iT]at D;rw[s]at D;by_cases hm:m<F
  . have a4:decide (m<F)=true:=XR hm;rw[XP hm]at D;have G:=aB D;clear D U h;go_wp2_with fail;go_roundw
    case rel=>exact⟨i+1,m+1+n',by go_num,by go_num,by omega,by omega,by omega,G,by first|trivial|rfl⟩
    case measure=>simp[intOf];omega
  have a4:decide (m<F)=false:=XQ hm;rw[XN hm]at D;have G:=aB D;clear D U h;go_wp2_with fail;go_ret;rw[<-G.o];exact⟨rfl,rfl⟩
def AW(D:Int):List Ct->Int->Int
 | [],n=>n
 | c::r,n=>if n<D then AW D r (n+1+iT D c.args 0+iT D c.outs 0) else n
def AX(D:Int):List En->Int->Int
 | [],n=>n
 | x::r,n=>if n<D then AX D r (AW D x.ctors (n+1+(x.sort.length:Int)+(x.type.length:Int)+(x.body.length:Int)+iT D x.params 0+iT D x.indices 0)) else n
def AV(D:Int)(b:Bk):Int:=AX D b.entries ((b.orders.length:Int)+(b.prims.length:Int))
theorem fP.lens{ls:aAA}(h:fP w A n c ls):∀l∈ls,l.length<=5864062014805:=by
 intro l G;obtain⟨i,F,rfl⟩:=ZL G;obtain⟨b,off,I,s,U,_,_,_,ht⟩:=h.at_ (k:=i) (by have:=h.len;omega);have D:=ht.len;have o:=ht.few;rw[YD,YB F]at D;simp only[Option.getD_some]at D;omega
theorem fP.size_le{ls:aAA}(h:fP w A n c ls)(D:Int)(F:D<=1000000000000000):0<=iT D ls 0/\iT D ls 0<=1005864062014805:=by
 have:=FX D ls 0 h.lens;omega
theorem vJ.at_{cs:List Ct}(h:vJ w A n c cs){k:Nat}(I:k<n):∃b off,A=some ⟨b,off,Z⟩/\b<w.heap.size/\∃D n1 c1 F n2 c2,w.cell? ⟨b,off+k*2,Z⟩=some (Y D n1 c1)/\w.cell? ⟨b,off+k*2+1,Z⟩=some (Y F n2 c2)/\fP w D n1 c1 (cs.getD k default).args/\fP w F n2 c2 (cs.getD k default).outs:=by
 obtain⟨b,off,e,G,U⟩:=h.mem aA;exact⟨b,off,e,G,U k I⟩
theorem QV(hb:cE w v b)(G:Int)(z:G<=1000000000000000):
 Calls Tryz.prog 23 #[.agg #[O X b.vars,Y v.Ao v.no v.co,Y v.Ae v.ne v.ce,O X b.nat,Y v.Ap v.np v.cp],O X G] w (fun e w'=>e=.returned (O X (AV G b))/\ZY w w'):=by
 have b9:=hb.orders.few;have c4:=hb.prims.few;have b8:=hb.entries.few;obtain⟨b3,d1,d0,d2⟩:=aAE hb.entries.len (fun (w':aAB) (h:ZY w w')=>hb.entries.below h) (aQ w (J #[O X b.vars,Y v.Ao v.no v.co,Y v.Ae v.ne v.ce,O X b.nat,Y v.Ap v.np v.cp] 26)) (aT.new w 26 #[O X b.vars,Y v.Ao v.no v.co,Y v.Ae v.ne v.ce,O X b.nat,Y v.Ap v.np v.cp]);have b5:Hid (AV G b=AX G b.entries ((b.orders.length:Int)+(b.prims.length:Int))):=aB rfl;rw[hb.orders.len,hb.prims.len]at b5;generalize AV G b=res at *;obtain⟨Ao,no,co,Ae,ne,ce,Ap,np,cp⟩:=v;simp only at d1 d0 d2 b5 b3 b9 c4 b8 ⊢;clear hb;generalize b.vars=bv at *;generalize b.nat=bn at *;generalize b.entries=es at *;clear b;go_in;go_wp2_with fail;go_loopw [5,6] (fun nv iv wr=>∃(i:Nat)(m:Int),nv=O X m/\iv=O X (i:Int)/\i<=ne/\0<=m/\m<=6000000000000000/\Hid (AX G (es.drop i) m=res)/\Hid (aT wr w.heap.size 26 #[O X bv,Y Ao no co,Y Ae ne ce,O X bn,Y Ap np cp])/\Hid (ZY w wr)) (fun _ i _=>ne-(intOf i).toNat)
 case atStart=>exact⟨0,(no:Int)+(np:Int),by go_num,rfl,by omega,by omega,by omega,aB b5.o.symm,d2,d0⟩
 case round =>
  obtain⟨i,m,rfl,rfl,hi,h3,h4,a7,b7,a5⟩:=hrel;have zk:=aT.cell b7.o;have h0:=b7.o.lt;by_cases e3:i<ne;case neg =>
   have s:=a7.o;rw[YY (by rw[b3.o];omega)]at s;simp only[AX]at s;have HQ:=aB s;clear s a7;go_wp2_with fail;go_ret;rw[<-HQ.o];exact⟨rfl,a5.o⟩
  have e0:i<es.length:=by rw[b3.o];exact e3
  have s:=a7.o;rw[YX e0,show es[i]=es.getD i default from by rw[YD,YB e0];rfl]at s;simp only[AX]at s;by_cases e4:m<G;case neg =>
   rw[XN e4]at s;have HQ:=aB s;clear s a7;go_wp2_with fail;go_ret;rw[<-HQ.o];exact⟨rfl,a5.o⟩
  rw[XP e4]at s;obtain⟨be,oe,rfl,g9,D,h1,f4,f5,f6,f7,f8,f9,d9⟩:=(d1.o wr a5.o).at_ e3;generalize es.getD i default=x at *;obtain⟨b0,b2,a9⟩:=aAF (a5.o.trans ((aQ wr (J #[O X x.kind,Y D.As D.ns D.cs,Y D.Ap D.np D.cp,Y D.Ai D.ni D.ci,Y D.Ac D.nc D.cc,Y D.At D.nt D.ct,Y D.Ab D.nb D.cb] 61)).mono a5.o.size)) (b7.o.alloc (J #[O X x.kind,Y D.As D.ns D.cs,Y D.Ap D.np D.cp,Y D.Ai D.ni D.ci,Y D.Ac D.nc D.cc,Y D.At D.nt D.ct,Y D.Ab D.nb D.cb] 61)) (aT.new wr 61 #[O X x.kind,Y D.As D.ns D.cs,Y D.Ap D.np D.cp,Y D.Ai D.ni D.ci,Y D.Ac D.nc D.cc,Y D.At D.nt D.ct,Y D.Ab D.nb D.cb]);have U:=d9.below (aQ wr (J #[O X x.kind,Y D.As D.ns D.cs,Y D.Ap D.np D.cp,Y D.Ai D.ni D.ci,Y D.Ac D.nc D.cc,Y D.At D.nt D.ct,Y D.Ab D.nb D.cb] 61));generalize x.kind=kd at *;obtain⟨As,ns,cs,a0,a3,a1,Ai,ni,ci,Ac,nc,cc,At,nt,ct,Ab,nb,cb⟩:=D;simp only at f4 f5 f6 f7 f8 f9 b0 b2 a9 U;have c7:=U.sort.len;have g2:=U.sort.few;have c8:=U.type.len;have g3:=U.type.few;have c9:=U.body.len;have g4:=U.body.few;obtain⟨b4,b1,a4⟩:=aAF U.params U.indices U.ctors;simp only at c7 g2 c8 g3 c9 g4 b4 b1 a4;clear d9 U;rw[c7,c8,c9]at s;have h2:=a4.o.few;have c0:=b4.o.size_le G z;have c3:=b1.o.size_le G z;obtain⟨d6,d5⟩:=aAC (fun w' h=>pH (b4.o.below (w':=w') h) G z) (fun w' h=>pH (b1.o.below (w':=w') h) G z);generalize iT G x.params 0=P at *;generalize iT G x.indices 0=I at *;obtain⟨e5,e6⟩:=c0;obtain⟨e7,e8⟩:=c3;have HQ:=aB s;have w1:IntKind.i64.wrap (m+1)=m+1:=by rw[XV];omega
  have w2:IntKind.i64.wrap (m+1+(ns:Int))=m+1+(ns:Int):=by rw[XV];omega
  have w3:IntKind.i64.wrap (m+1+(ns:Int)+(nt:Int))=m+1+(ns:Int)+(nt:Int):=by rw[XV];omega
  have w4:IntKind.i64.wrap (m+1+(ns:Int)+(nt:Int)+(nb:Int))=m+1+(ns:Int)+(nt:Int)+(nb:Int):=by rw[XV];omega
  have w5:IntKind.i64.wrap (m+1+(ns:Int)+(nt:Int)+(nb:Int)+P)=m+1+(ns:Int)+(nt:Int)+(nb:Int)+P:=by rw[XV];omega
  have w6:IntKind.i64.wrap (m+1+(ns:Int)+(nt:Int)+(nb:Int)+P+I)=m+1+(ns:Int)+(nt:Int)+(nb:Int)+P+I:=by rw[XV];omega
  have d7:=aB (And.intro w1 (And.intro w2 (And.intro w3 (And.intro w4 (And.intro w5 w6)))));clear s a7 c7 c8 c9 w1 w2 w3 w4 w5 w6;have b6:Hid (Below (wr.alloc (J #[O X kd,Y As ns cs,Y a0 a3 a1,Y Ai ni ci,Y Ac nc cc,Y At nt ct,Y Ab nb cb] 61)).heap.size (wr.alloc (J #[O X kd,Y As ns cs,Y a0 a3 a1,Y Ai ni ci,Y Ac nc cc,Y At nt ct,Y Ab nb cb] 61)) (wr.alloc (J #[O X kd,Y As ns cs,Y a0 a3 a1,Y Ai ni ci,Y Ac nc cc,Y At nt ct,Y Ab nb cb] 61)).drew):=aB (cF (XS _ _));have a8:=aT.cell a9.o;go_wp2_with fail;refine wp_region_held_drew (S:=(fun w'=>w'.cell? ⟨wr.heap.size,1,Z⟩=some (Y As ns cs)/\w'.cell? ⟨wr.heap.size,5,Z⟩=some (Y At nt ct)/\w'.cell? ⟨wr.heap.size,6,Z⟩=some (Y Ab nb cb)/\w'.cell? ⟨wr.heap.size,2,Z⟩=some (Y a0 a3 a1)/\w'.cell? ⟨wr.heap.size,3,Z⟩=some (Y Ai ni ci)/\Below (wr.alloc (J #[O X kd,Y As ns cs,Y a0 a3 a1,Y Ai ni ci,Y Ac nc cc,Y At nt ct,Y Ab nb cb] 61)).heap.size (wr.alloc (J #[O X kd,Y As ns cs,Y a0 a3 a1,Y Ai ni ci,Y Ac nc cc,Y At nt ct,Y Ab nb cb] 61)) w')) aC ?_ (fun F=>?_)
  . (try dsimp only);exact⟨a8 1,a8 5,a8 6,a8 2,a8 3,b6.o⟩
  refine aL 0 F ?_;refine aL 1 F ?_;refine aL 2 F ?_;refine aL 3 F ?_;refine aL 4 F ?_;refine aL 5 F ?_;refine aL 6 F ?_;refine aL 7 F ?_;refine aL 8 F ?_;refine aL 9 F ?_;refine aL 10 F ?_;refine aL 11 F ?_;refine aL 12 F ?_;refine aL 13 F ?_;refine aL 14 F ?_;refine aL 15 F ?_;refine aL 16 F ?_;refine aL 19 F ?_;refine aL 20 F ?_;refine aL 21 F ?_;refine r1 17 fun K hK=>?_;go_simp;refine (d6.o _ F.2.2.2.2.2).mono ?_;rintro e w3 ⟨rfl,rfl⟩;go_wp2_with fail;refine hK.o _ _ (by exact F) fun F=>?_;clear hK K;try simp only[p7]
  refine aL 18 F ?_;refine r1 22 fun K hK=>?_;go_simp;refine (d5.o _ F.2.2.2.2.2).mono ?_;rintro e w3 ⟨rfl,rfl⟩;go_wp2_with fail;refine hK.o _ _ (by exact F) fun F=>?_;clear hK K;try simp only[p7]
  refine aL 23 F ?_;refine aL 24 F ?_;refine wpAnyH_done aC ?_ _;clear d6 d5;have F:=b6.o;go_wp2_with fail;obtain⟨wo,rfl⟩:=aAJ wr;go_loopw [5,8] (fun nv kv w2=>∃(k:Nat)(q:Int),nv=O X q/\kv=O X (k:Int)/\k<=nc/\0<=q/\q<=6000000000000000/\Hid (AW G (x.ctors.drop k) q=AW G x.ctors (m+1+(ns:Int)+(nt:Int)+(nb:Int)+P+I))/\Hid (Below (wo.alloc (J #[O X kd,Y As ns cs,Y a0 a3 a1,Y Ai ni ci,Y Ac nc cc,Y At nt ct,Y Ab nb cb] 61)).heap.size (wo.alloc (J #[O X kd,Y As ns cs,Y a0 a3 a1,Y Ai ni ci,Y Ac nc cc,Y At nt ct,Y Ab nb cb] 61)) w2)) (fun _ k _=>nc-(intOf k).toNat)
  case atStart=>exact⟨0,m+1+(ns:Int)+(nt:Int)+(nb:Int)+P+I,by first|(obtain⟨w1,w2,w3,w4,w5,w6⟩:=d7.o;rw[w1,w2,w3,w4,w5,w6])|(obtain⟨w1,w2,w3,w4,w5,w6⟩:=d7.o;simp only[w1,w2,w3,w4,w5,w6]),rfl,by omega,by omega,by omega,aB rfl,b6⟩
  case round =>
   obtain⟨k,q,rfl,rfl,hk,h5,h6,a6,f3⟩:=hrel;have a2:=f3.o;have g5:=aT.cell (aT.below a9.o a2 a9.o.lt);have g7:=a2.size;by_cases e2:k<nc;case neg =>
    have s:=a6.o;rw[YY (by rw[a4.o.len];omega)]at s;simp only[AW]at s;rw[<-s]at HQ;clear s a6;go_wp2_with fail;go_roundw
    case rel=>exact⟨i+1,q,rfl,by go_num,by omega,by omega,by omega,HQ,j8 b2 a2,bY b0 a2⟩
    case measure=>simp[intOf];omega
   have s:=a6.o;have e1:k<x.ctors.length:=by rw[a4.o.len];exact e2
   rw[YX e1,show x.ctors[k]=x.ctors.getD k default from by rw[YD,YB e1];rfl]at s;simp only[AW]at s;by_cases e9:q<G;case neg =>
    rw[XN e9]at s;rw[<-s]at HQ;clear s a6;go_wp2_with fail;go_roundw
    case rel=>exact⟨i+1,q,rfl,by go_num,by omega,by omega,by omega,HQ,j8 b2 a2,bY b0 a2⟩
    case measure=>simp[intOf];omega
   rw[XP e9]at s;obtain⟨bc,oc,rfl,g8,A1,n1,c1,A2,n2,c2,g0,g1,c5,c6⟩:=(a4.o.below a2).at_ e2;have c0:=c5.size_le G z;have c3:=c6.size_le G z;obtain⟨d3,d4⟩:=aAC (fun w' h=>pH (c5.below (w':=w') h) G z) (fun w' h=>pH (c6.below (w':=w') h) G z);generalize x.ctors.getD k default=ct2 at *;generalize iT G ct2.args 0=P1 at *;generalize iT G ct2.outs 0=I1 at *;obtain⟨e5,e6⟩:=c0;obtain⟨e7,e8⟩:=c3;have y1:IntKind.i64.wrap (q+1)=q+1:=by rw[XV];omega
   have y2:IntKind.i64.wrap (q+1+P1)=q+1+P1:=by rw[XV];omega
   have y3:IntKind.i64.wrap (q+1+P1+I1)=q+1+P1+I1:=by rw[XV];omega
   obtain⟨d8,f0⟩:=aAC (And.intro y1 (And.intro y2 y3)) s;have g6:=g5 4;have f1:=aB (cF a2);have f2:Hid (ZY wr wr.drew):=aB (cF (XS _ _));clear s a6 y1 y2 y3 c5 c6;go_wp2_with fail;refine wp_region_held_drew (S:=(fun w'=>w'.cell? ⟨wo.heap.size,4,Z⟩=some (Y (some ⟨bc,oc,Z⟩) nc cc)/\w'.cell? ⟨bc,oc+k*2,Z⟩=some (Y A1 n1 c1)/\w'.cell? ⟨bc,oc+k*2+1,Z⟩=some (Y A2 n2 c2)/\ZY wr w')) aC ?_ (fun F=>?_)
   . (try dsimp only);exact⟨g6,g0,g1,f2.o⟩
   refine aL 0 F ?_;refine aL 1 F ?_;refine aL 2 F ?_;refine aL 3 F ?_;refine aL 4 F ?_;refine aL 5 F ?_;refine aL 6 F ?_;refine aL 7 F ?_;refine aL 8 F ?_;refine aL 11 F ?_;refine aL 12 F ?_;refine aL 13 F ?_;refine aL 14 F ?_;refine aL 15 F ?_;refine aL 16 F ?_;refine aL 17 F ?_;refine r1 9 fun K hK=>?_;go_simp;refine (d3.o _ F.2.2.2).mono ?_;rintro e w3 ⟨rfl,rfl⟩;go_wp2_with fail;refine hK.o _ _ (by exact F) fun F=>?_;clear hK K;try simp only[p7]
   refine aL 10 F ?_;refine r1 18 fun K hK=>?_;go_simp;refine (d4.o _ F.2.2.2).mono ?_;rintro e w3 ⟨rfl,rfl⟩;go_wp2_with fail;refine hK.o _ _ (by exact F) fun F=>?_;clear hK K;try simp only[p7]
   refine aL 19 F ?_;refine aL 20 F ?_;refine wpAnyH_done aC ?_ _;clear d3 d4;go_wp2_with fail;go_roundw
   case rel=>exact⟨k+1,q+1+P1+I1,by first|(obtain⟨w1,w2,w3⟩:=d8.o;rw[w1,w2,w3])|(obtain⟨w1,w2,w3⟩:=d8.o;simp only[w1,w2,w3]),by go_num,by omega,by omega,by omega,f0,f1⟩
   case measure=>simp[intOf];omega
end
end Go.Proofs.YtjoddliplahgkaaGreat
