/- Merged: Sized, WhH. -/
import Derived.Test.YtlahmbhimhmoaaaVCvL
namespace Go.Proofs.Ytlahmbhimhmoaaa
set_option linter.unusedVariables false
set_option linter.unusedSimpArgs false
open Go.RowKit
open Go.Value renaming int → O, slice → Y
open Go.IntKind renaming i64 → X
variable {c n:Nat}{A:OC}{w:OE}
section
open Go.Lib renaming hid->aB
set_option maxHeartbeats 4000000
set_option maxRecDepth 100000
def eW(D:Int):List (List Nd)->Int->Int
 | [],n=>n
 | l::r,n=>if n<D then eW D r (n+1+(l.length:Int)) else n
theorem wA(D:Int):∀(r:OD)(n:Int),(∀l∈r,l.length<=5864062014805)->n<=eW D r n/\(eW D r n<=n\/eW D r n<=D+5864062014805)
 | [],n,_=>⟨MR _,.inl (MR _)⟩
 | l::r,n,h=>by
  simp only[eW];split
  . rename_i F
    have I:=h l aD;have:=wA D r (n+1+(l.length:Int)) (fun x G=>h x (by simp[G]));omega
  . exact⟨MR _,.inl (MR _)⟩
theorem j9{ls:OD}(ht:dO w A n c ls)(F:Int)(a7:F<=1000000000000000):
 Calls Try.prog 14 #[Y A n c,O X F] w (fun e w'=>e=.returned (O X (eW F ls 0))/\w'=w):=by
 have a6:=ht.len;have a5:=ht.few;have HT:=aB (fun (k:Nat) (hk:k<n)=>ht.at_ hk);obtain⟨a4,I⟩:=OM (eW F ls 0);rw[<-I];have s:=aB I;clear ht I;go_in;go_wp2_with fail;go_loopw [5,6] (fun nv iv wr=>∃(i:Nat)(m:Int),nv=O X m/\iv=O X (i:Int)/\i<=n/\0<=m/\m<=1010000000000000/\Hid (eW F (ls.drop i) m=a4)/\wr=w) (fun _ i _=>n-(intOf i).toNat)
 case atStart=>exact⟨0,0,rfl,rfl,by omega,by omega,by omega,aB s.o.symm,rfl⟩
 case round =>
  obtain⟨i,m,rfl,rfl,hi,b0,b1,U,rfl⟩:=hrel;by_cases a2:i<n;rotate_left
  . have a1:decide ((i:Int)<(n:Int))=false:=MA aA;have D:=U.o;rw[NB aA]at D;simp only[eW]at D;have G:=aB D;clear D U;go_wp2_with fail;go_ret;rw[<-G.o];exact⟨rfl,rfl⟩
  have a1:decide ((i:Int)<(n:Int))=true:=MB aA;obtain⟨b',off,A',n',c',rfl,a8,a9,Z⟩:=HT.o i a2;have z:i<ls.length:=aA;have h:=Z.len;have a0:=Z.few;have D:=U.o;rw[MT z,show ls[i]=ls.getD i [] from by rw[MK,MI z];rfl]at D;simp only[eW]at D;rw[h]at D;by_cases hm:m<F
  . have a3:decide (m<F)=true:=MB hm;rw[LZ hm]at D;have G:=aB D;clear D U Z;go_wp2_with fail;go_roundw
    case rel=>exact⟨i+1,m+1+n',by go_num,by go_num,by omega,by omega,by omega,G,by first|trivial|rfl⟩
    case measure=>simp[intOf];omega
  have a3:decide (m<F)=false:=MA hm;rw[aN hm]at D;have G:=aB D;clear D U Z;go_wp2_with fail;go_ret;rw[<-G.o];exact⟨rfl,rfl⟩
def sC(D:Int):List Ct->Int->Int
 | [],n=>n
 | c::r,n=>if n<D then sC D r (n+1+eW D c.args 0+eW D c.outs 0) else n
def sD(D:Int):List En->Int->Int
 | [],n=>n
 | x::r,n=>if n<D then sD D r (sC D x.ctors (n+1+(x.sort.length:Int)+(x.type.length:Int)+(x.body.length:Int)+eW D x.params 0+eW D x.indices 0)) else n
def sB(D:Int)(b:Bk):Int:=sD D b.entries ((b.orders.length:Int)+(b.prims.length:Int))
theorem dO.lens{ls:OD}(h:dO w A n c ls):∀l∈ls,l.length<=5864062014805:=by
 intro l G;obtain⟨i,F,rfl⟩:=NZ G;obtain⟨b,off,I,o,U,_,_,_,ht⟩:=h.at_ (k:=i) (by have:=h.len;omega);have D:=ht.len;have Z:=ht.few;rw[MK,MI F]at D;simp only[Option.getD_some]at D;omega
theorem dO.size_le{ls:OD}(h:dO w A n c ls)(D:Int)(F:D<=1000000000000000):0<=eW D ls 0/\eW D ls 0<=1005864062014805:=by
 have:=wA D ls 0 h.lens;omega
theorem sM.at_{cs:List Ct}(h:sM w A n c cs){k:Nat}(Z:k<n):∃b off,A=some ⟨b,off,none⟩/\b<w.heap.size/\∃D n1 G F n2 I,w.cell? ⟨b,off+k*2,none⟩=some (Y D n1 G)/\w.cell? ⟨b,off+k*2+1,none⟩=some (Y F n2 I)/\dO w D n1 G (cs.getD k default).args/\dO w F n2 I (cs.getD k default).outs:=by
 obtain⟨b,off,e,U,o⟩:=h.mem aA;exact⟨b,off,e,U,o k Z⟩
theorem FJ{v:bA}{b:Bk}(hb:bO w v b)(G:Int)(s:G<=1000000000000000):
 Calls Try.prog 11 #[.agg #[O X b.vars,Y v.Ao v.no v.co,Y v.Ae v.ne v.ce,O X b.nat,Y v.Ap v.np v.cp],O X G] w (fun e w'=>e=.returned (O X (sB G b))/\OB w w'):=by
 have c0:=hb.orders.few;have c5:=hb.prims.few;have b9:=hb.entries.few;obtain⟨b4,d2,d1,d3⟩:=OI hb.entries.len (fun (w':OE) (h:OB w w')=>hb.entries.below h) (aQ w (.cells #[O X b.vars,Y v.Ao v.no v.co,Y v.Ae v.ne v.ce,O X b.nat,Y v.Ap v.np v.cp] 26)) (aW.new w 26 #[O X b.vars,Y v.Ao v.no v.co,Y v.Ae v.ne v.ce,O X b.nat,Y v.Ap v.np v.cp]);have b6:Hid (sB G b=sD G b.entries ((b.orders.length:Int)+(b.prims.length:Int))):=aB rfl;rw[hb.orders.len,hb.prims.len]at b6;generalize sB G b=res at *;obtain⟨Ao,no,co,Ae,ne,ce,Ap,np,cp⟩:=v;simp only at d2 d1 d3 b6 b4 c0 c5 b9 ⊢;clear hb;generalize b.vars=bv at *;generalize b.nat=bn at *;generalize b.entries=es at *;clear b;go_in;go_wp2_with fail;go_loopw [5,6] (fun nv iv wr=>∃(i:Nat)(m:Int),nv=O X m/\iv=O X (i:Int)/\i<=ne/\0<=m/\m<=6000000000000000/\Hid (sD G (es.drop i) m=res)/\Hid (aW wr w.heap.size 26 #[O X bv,Y Ao no co,Y Ae ne ce,O X bn,Y Ap np cp])/\Hid (OB w wr)) (fun _ i _=>ne-(intOf i).toNat)
 case atStart=>exact⟨0,(no:Int)+(np:Int),by go_num,rfl,by omega,by omega,by omega,aB b6.o.symm,d3,d1⟩
 case round =>
  obtain⟨i,m,rfl,rfl,hi,h6,h7,a6,b8,a4⟩:=hrel;have zk:=aW.cell b8.o;have h3:=b8.o.lt;by_cases e4:i<ne;case neg =>
   have f9:decide ((i:Int)<(ne:Int))=false:=MA aA;have Z:=a6.o;rw[NB (by rw[b4.o];omega)]at Z;simp only[sD]at Z;have HQ:=aB Z;clear Z a6;go_wp2_with fail;go_ret;rw[<-HQ.o];exact⟨rfl,a4.o⟩
  have f9:decide ((i:Int)<(ne:Int))=true:=MB aA;have e1:i<es.length:=by rw[b4.o];exact e4
  have Z:=a6.o;rw[MT e1,show es[i]=es.getD i default from by rw[MK,MI e1];rfl]at Z;simp only[sD]at Z;by_cases a9:m<G;case neg =>
   have g3:decide (m<G)=false:=MA a9;rw[aN a9]at Z;have HQ:=aB Z;clear Z a6;go_wp2_with fail;go_ret;rw[<-HQ.o];exact⟨rfl,a4.o⟩
  have g3:decide (m<G)=true:=MB a9;rw[LZ a9]at Z;obtain⟨be,oe,rfl,h2,D,h4,f3,f4,f5,f6,f7,f8,e0⟩:=(d2.o wr a4.o).at_ e4;generalize es.getD i default=x at *;obtain⟨b1,b3,a8⟩:=OK (a4.o.trans ((aQ wr (.cells #[O X x.kind,Y D.As D.ns D.cs,Y D.Ap D.np D.cp,Y D.Ai D.ni D.ci,Y D.Ac D.nc D.cc,Y D.At D.nt D.ct,Y D.Ab D.nb D.cb] 49)).mono a4.o.size)) (b8.o.alloc (.cells #[O X x.kind,Y D.As D.ns D.cs,Y D.Ap D.np D.cp,Y D.Ai D.ni D.ci,Y D.Ac D.nc D.cc,Y D.At D.nt D.ct,Y D.Ab D.nb D.cb] 49)) (aW.new wr 49 #[O X x.kind,Y D.As D.ns D.cs,Y D.Ap D.np D.cp,Y D.Ai D.ni D.ci,Y D.Ac D.nc D.cc,Y D.At D.nt D.ct,Y D.Ab D.nb D.cb]);have U:=e0.below (aQ wr (.cells #[O X x.kind,Y D.As D.ns D.cs,Y D.Ap D.np D.cp,Y D.Ai D.ni D.ci,Y D.Ac D.nc D.cc,Y D.At D.nt D.ct,Y D.Ab D.nb D.cb] 49));generalize x.kind=kd at *;obtain⟨As,ns,cs,z,a2,a0,Ai,ni,ci,Ac,nc,cc,At,nt,ct,Ab,nb,cb⟩:=D;simp only at f3 f4 f5 f6 f7 f8 b1 b3 a8 U;have c8:=U.sort.len;have g5:=U.sort.few;have c9:=U.type.len;have g6:=U.type.few;have d0:=U.body.len;have g7:=U.body.few;obtain⟨b5,b2,a3⟩:=OK U.params U.indices U.ctors;simp only at c8 g5 c9 g6 d0 g7 b5 b2 a3;clear e0 U;rw[c8,c9,d0]at Z;have h5:=a3.o.few;have c3:=b5.o.size_le G s;have c4:=b2.o.size_le G s;obtain⟨d7,d6⟩:=OF (fun w' h=>j9 (b5.o.below (w':=w') h) G s) (fun w' h=>j9 (b2.o.below (w':=w') h) G s);generalize eW G x.params 0=P at *;generalize eW G x.indices 0=I at *;obtain⟨e5,e6⟩:=c3;obtain⟨e7,e8⟩:=c4;have HQ:=aB Z;have w1:IntKind.i64.wrap (m+1)=m+1:=by rw[MP];omega
  have w2:IntKind.i64.wrap (m+1+(ns:Int))=m+1+(ns:Int):=by rw[MP];omega
  have w3:IntKind.i64.wrap (m+1+(ns:Int)+(nt:Int))=m+1+(ns:Int)+(nt:Int):=by rw[MP];omega
  have w4:IntKind.i64.wrap (m+1+(ns:Int)+(nt:Int)+(nb:Int))=m+1+(ns:Int)+(nt:Int)+(nb:Int):=by rw[MP];omega
  have w5:IntKind.i64.wrap (m+1+(ns:Int)+(nt:Int)+(nb:Int)+P)=m+1+(ns:Int)+(nt:Int)+(nb:Int)+P:=by rw[MP];omega
  have w6:IntKind.i64.wrap (m+1+(ns:Int)+(nt:Int)+(nb:Int)+P+I)=m+1+(ns:Int)+(nt:Int)+(nb:Int)+P+I:=by rw[MP];omega
  have d8:=aB (And.intro w1 (And.intro w2 (And.intro w3 (And.intro w4 (And.intro w5 w6)))));clear Z a6 c8 c9 d0 w1 w2 w3 w4 w5 w6;have b7:Hid (Below (wr.alloc (.cells #[O X kd,Y As ns cs,Y z a2 a0,Y Ai ni ci,Y Ac nc cc,Y At nt ct,Y Ab nb cb] 49)).heap.size (wr.alloc (.cells #[O X kd,Y As ns cs,Y z a2 a0,Y Ai ni ci,Y Ac nc cc,Y At nt ct,Y Ab nb cb] 49)) (wr.alloc (.cells #[O X kd,Y As ns cs,Y z a2 a0,Y Ai ni ci,Y Ac nc cc,Y At nt ct,Y Ab nb cb] 49)).drew):=aB (bH (MC _ _));have a7:=aW.cell a8.o;go_wp2_with fail;refine wp_region_held_drew (S:=(fun w'=>w'.cell? ⟨wr.heap.size,1,none⟩=some (Y As ns cs)/\w'.cell? ⟨wr.heap.size,5,none⟩=some (Y At nt ct)/\w'.cell? ⟨wr.heap.size,6,none⟩=some (Y Ab nb cb)/\w'.cell? ⟨wr.heap.size,2,none⟩=some (Y z a2 a0)/\w'.cell? ⟨wr.heap.size,3,none⟩=some (Y Ai ni ci)/\Below (wr.alloc (.cells #[O X kd,Y As ns cs,Y z a2 a0,Y Ai ni ci,Y Ac nc cc,Y At nt ct,Y Ab nb cb] 49)).heap.size (wr.alloc (.cells #[O X kd,Y As ns cs,Y z a2 a0,Y Ai ni ci,Y Ac nc cc,Y At nt ct,Y Ab nb cb] 49)) w')) aC ?_ (fun F=>?_)
  . (try dsimp only);exact⟨a7 1,a7 5,a7 6,a7 2,a7 3,b7.o⟩
  refine aL 0 F ?_;refine aL 1 F ?_;refine aL 2 F ?_;refine aL 3 F ?_;refine aL 4 F ?_;refine aL 5 F ?_;refine aL 6 F ?_;refine aL 7 F ?_;refine aL 8 F ?_;refine aL 9 F ?_;refine aL 10 F ?_;refine aL 11 F ?_;refine aL 12 F ?_;refine aL 13 F ?_;refine aL 14 F ?_;refine aL 15 F ?_;refine aL 16 F ?_;refine aL 19 F ?_;refine aL 20 F ?_;refine aL 21 F ?_;refine r1 17 fun K hK=>?_;go_simp;refine (d7.o _ F.2.2.2.2.2).mono ?_;rintro e w3 ⟨rfl,rfl⟩;go_wp2_with fail;refine hK.o _ _ (by exact F) fun F=>?_;clear hK K;try simp only[p7]
  refine aL 18 F ?_;refine r1 22 fun K hK=>?_;go_simp;refine (d6.o _ F.2.2.2.2.2).mono ?_;rintro e w3 ⟨rfl,rfl⟩;go_wp2_with fail;refine hK.o _ _ (by exact F) fun F=>?_;clear hK K;try simp only[p7]
  refine aL 23 F ?_;refine aL 24 F ?_;refine wpAnyH_done aC ?_ _;clear d7 d6;have F:=b7.o;go_wp2_with fail;obtain⟨wo,rfl⟩:=OM wr;go_loopw [5,8] (fun nv kv w2=>∃(k:Nat)(q:Int),nv=O X q/\kv=O X (k:Int)/\k<=nc/\0<=q/\q<=6000000000000000/\Hid (sC G (x.ctors.drop k) q=sC G x.ctors (m+1+(ns:Int)+(nt:Int)+(nb:Int)+P+I))/\Hid (Below (wo.alloc (.cells #[O X kd,Y As ns cs,Y z a2 a0,Y Ai ni ci,Y Ac nc cc,Y At nt ct,Y Ab nb cb] 49)).heap.size (wo.alloc (.cells #[O X kd,Y As ns cs,Y z a2 a0,Y Ai ni ci,Y Ac nc cc,Y At nt ct,Y Ab nb cb] 49)) w2)) (fun _ k _=>nc-(intOf k).toNat)
  case atStart=>exact⟨0,m+1+(ns:Int)+(nt:Int)+(nb:Int)+P+I,by first|(obtain⟨w1,w2,w3,w4,w5,w6⟩:=d8.o;rw[w1,w2,w3,w4,w5,w6])|(obtain⟨w1,w2,w3,w4,w5,w6⟩:=d8.o;simp only[w1,w2,w3,w4,w5,w6]),rfl,by omega,by omega,by omega,aB rfl,b7⟩
  case round =>
   obtain⟨k,q,rfl,rfl,hk,h8,h9,a5,f2⟩:=hrel;have a1:=f2.o;have g8:=aW.cell (aW.below a8.o a1 a8.o.lt);have h0:=a1.size;by_cases e3:k<nc;case neg =>
    have g2:decide ((k:Int)<(nc:Int))=false:=MA aA;have Z:=a5.o;rw[NB (by rw[a3.o.len];omega)]at Z;simp only[sC]at Z;rw[<-Z]at HQ;have i0:=HQ.o;clear Z a5;go_wp2_with fail;go_roundw
    case rel=>exact⟨i+1,q,rfl,by go_num,by omega,by omega,by omega,HQ,IS b3 a1,bK b1 a1⟩
    case measure=>simp[intOf];omega
   have g2:decide ((k:Int)<(nc:Int))=true:=MB aA;have Z:=a5.o;have e2:k<x.ctors.length:=by rw[a3.o.len];exact e3
   rw[MT e2,show x.ctors[k]=x.ctors.getD k default from by rw[MK,MI e2];rfl]at Z;simp only[sC]at Z;by_cases b0:q<G;case neg =>
    have g4:decide (q<G)=false:=MA b0;rw[aN b0]at Z;rw[<-Z]at HQ;clear Z a5;go_wp2_with fail;go_roundw
    case rel=>exact⟨i+1,q,rfl,by go_num,by omega,by omega,by omega,HQ,IS b3 a1,bK b1 a1⟩
    case measure=>simp[intOf];omega
   have g4:decide (q<G)=true:=MB b0;rw[LZ b0]at Z;obtain⟨bc,oc,rfl,h1,A1,n1,c1,A2,n2,c2,g0,g1,c6,c7⟩:=(a3.o.below a1).at_ e3;have c3:=c6.size_le G s;have c4:=c7.size_le G s;obtain⟨d4,d5⟩:=OF (fun w' h=>j9 (c6.below (w':=w') h) G s) (fun w' h=>j9 (c7.below (w':=w') h) G s);generalize x.ctors.getD k default=ct2 at *;generalize eW G ct2.args 0=P1 at *;generalize eW G ct2.outs 0=I1 at *;obtain⟨e5,e6⟩:=c3;obtain⟨e7,e8⟩:=c4;have y1:IntKind.i64.wrap (q+1)=q+1:=by rw[MP];omega
   have y2:IntKind.i64.wrap (q+1+P1)=q+1+P1:=by rw[MP];omega
   have y3:IntKind.i64.wrap (q+1+P1+I1)=q+1+P1+I1:=by rw[MP];omega
   obtain⟨d9,e9⟩:=OF (And.intro y1 (And.intro y2 y3)) Z;have g9:=g8 4;have f0:=aB (bH a1);have f1:Hid (OB wr wr.drew):=aB (bH (MC _ _));clear Z a5 y1 y2 y3 c6 c7;go_wp2_with fail;refine wp_region_held_drew (S:=(fun w'=>w'.cell? ⟨wo.heap.size,4,none⟩=some (Y (some ⟨bc,oc,none⟩) nc cc)/\w'.cell? ⟨bc,oc+k*2,none⟩=some (Y A1 n1 c1)/\w'.cell? ⟨bc,oc+k*2+1,none⟩=some (Y A2 n2 c2)/\OB wr w')) aC ?_ (fun F=>?_)
   . (try dsimp only);exact⟨g9,g0,g1,f1.o⟩
   refine aL 0 F ?_;refine aL 1 F ?_;refine aL 2 F ?_;refine aL 3 F ?_;refine aL 4 F ?_;refine aL 5 F ?_;refine aL 6 F ?_;refine aL 7 F ?_;refine aL 8 F ?_;refine aL 11 F ?_;refine aL 12 F ?_;refine aL 13 F ?_;refine aL 14 F ?_;refine aL 15 F ?_;refine aL 16 F ?_;refine aL 17 F ?_;refine r1 9 fun K hK=>?_;go_simp;refine (d4.o _ F.2.2.2).mono ?_;rintro e w3 ⟨rfl,rfl⟩;go_wp2_with fail;refine hK.o _ _ (by exact F) fun F=>?_;clear hK K;try simp only[p7]
   refine aL 10 F ?_;refine r1 18 fun K hK=>?_;go_simp;refine (d5.o _ F.2.2.2).mono ?_;rintro e w3 ⟨rfl,rfl⟩;go_wp2_with fail;refine hK.o _ _ (by exact F) fun F=>?_;clear hK K;try simp only[p7]
   refine aL 19 F ?_;refine aL 20 F ?_;refine wpAnyH_done aC ?_ _;clear d4 d5;go_wp2_with fail;go_roundw
   case rel=>exact⟨k+1,q+1+P1+I1,by first|(obtain⟨w1,w2,w3⟩:=d9.o;rw[w1,w2,w3])|(obtain⟨w1,w2,w3⟩:=d9.o;simp only[w1,w2,w3]),by go_num,by omega,by omega,by omega,e9,f0⟩
   case measure=>simp[intOf];omega
end
section
open Go.Lib renaming hid->aB
def jP(D:Int):Nat->List (List Nd×List Nd)->Nat
 | n,[]=>n
 | n,x::r=>if (n:Int)<D then jP D (n+1+x.1.length+x.2.length) r else n
set_option maxRecDepth 100000 in
set_option maxHeartbeats 4000000 in
theorem wB{cA:OC}{cn cc:Nat}{bs:List (List Nd×List Nd)}(hc:gZ (· < w.heap.size) w cA cn cc bs)(F:Int)(b1:F<=1000000):
 Calls Try.prog 12 #[Y cA cn cc,O X F] w (fun e w'=>e=.returned (O X (jP F 0 bs:Int))/\OB w w'):=by
 have a1:=hc.len;have b0:=hc.few;obtain⟨HC,a0⟩:=OF hc a1;obtain⟨a3,z⟩:=OM (jP F 0 bs);rw[<-z];have a5:=aB z;clear hc a1 z;go_in;go_wp2_with fail;go_loopw [5,6] (fun sv iv wr=>∃i s:Nat,i<=cn/\s<=20000000000000/\iv=O X (i:Int)/\sv=O X (s:Int)/\Hid (a3=jP F s (bs.drop i))/\Hid (OB w wr)) (fun _ iv _=>cn-(intOf iv).toNat)
 case atStart=>exact⟨0,0,by omega,by omega,rfl,rfl,aB a5.o,aB (MC _ _)⟩
 case round =>
  obtain⟨i,s,hi,hs,rfl,rfl,Z,D⟩:=hrel;by_cases G:i<cn;rotate_left
  . have e1:decide ((i:Int)<(cn:Int))=false:=MA aA;have e2:decide (i<cn)=false:=MA G;have HR:Hid (a3=s):=aB (by
     have h:=Z.o;rw[NB (by rw[a0.o];omega)]at h;exact h)
    have U:=aB D.o;clear Z D G;go_wp2_with fail;go_ret;rw[HR.o];exact⟨rfl,U.o⟩
  have e1:decide ((i:Int)<(cn:Int))=true:=MB aA;have e2:decide (i<cn)=true:=MB G;have e3:(i:Int)<(cn:Int):=aA;have il:i<bs.length:=by rw[a0.o];exact G
  have a2:bs.drop i=bs.getD i ([],[])::bs.drop (i+1):=by
   rw[MT il,MK,MI il];rfl
  have h9:=Z.o;rw[a2]at h9;simp only[jP]at h9;by_cases I:(s:Int)<F;rotate_left
  . have e4:decide ((s:Int)<F)=false:=MA I;have HR:Hid (a3=s):=aB (by rw[aN I]at h9;exact h9);have U:=aB D.o;clear Z D G h9 a2 il I;go_wp2_with fail;go_ret;rw[HR.o];exact⟨rfl,U.o⟩
  have e4:decide ((s:Int)<F)=true:=MB I;rw[LZ I]at h9;obtain⟨bb,oo,a8,a6,hm⟩:=HC.o.mem aA;obtain⟨A1,n1,c1,A2,n2,c2,y1,y2,t1,t2⟩:=hm i G;generalize bs.getD i ([],[])=x at *;have l1:x.1.length=n1:=t1.len;have l2:x.2.length=n2:=t2.len;have g1:=t1.few;have g2:=t2.few;rw[l1,l2]at h9;have a4:=aB h9;have u1:=(D.o.cell (p:=⟨bb,oo+i*2,none⟩) a6).trans y1;have u2:=(D.o.cell (p:=⟨bb,oo+i*2+1,none⟩) a6).trans y2;have U:=aB D.o;obtain⟨s2,a7⟩:=OM (s+1+n1+n2);have v1:IntKind.i64.wrap ((s:Int)+1)=(s:Int)+1:=by rw[MP];omega
  have v2:IntKind.i64.wrap ((s:Int)+1+(n1:Int))=(s:Int)+1+(n1:Int):=by rw[MP];omega
  have v3:IntKind.i64.wrap ((s:Int)+1+(n1:Int)+(n2:Int))=(s2:Int):=by rw[MP];omega
  rw[<-a7]at a4;have a9:s2<=20000000000000:=aA;clear Z D hm y1 y2 t1 t2 h9 a2 il l1 l2 a7 I;subst a8;go_upto_region 5 with fail
  go_quiet (fail)
  go_wp2_with fail;go_roundw
  case rel=>exact⟨i+1,s2,by omega,a9,by go_num,rfl,a4,aB (aU U.o _)⟩
  case measure=>simp[intOf];omega
end
end Go.Proofs.Ytlahmbhimhmoaaa
