/- Merged: Sizes, Size. -/
import Derived.Test.YtjoddliplahgkaaGreatPRegist
namespace Go.Proofs.YtjoddliplahgkaaGreat
set_option linter.unusedVariables false
set_option linter.unusedSimpArgs false
open Go.RowKit
open Go.Value renaming int → O, slice → Y
open Go.IntKind renaming i64 → X
open Go.Lib renaming hid->aB
set_option maxHeartbeats 4000000
set_option maxRecDepth 100000
def iD (lid:Int):List (List Nd)->Int->Int
 | [],n=>n
 | l::r,n=>if n<lid then iD lid r (n+1+(l.length:Int)) else n
theorem C8 (lid:Int) : ∀(r:List (List Nd)) (n:Int),(∀l ∈ r,l.length<=5864062014805)->n<=iD lid r n/\(iD lid r n<=n\/iD lid r n<=lid+5864062014805)
 | [],n,_=>⟨Int.le_refl _,.inl (Int.le_refl _)⟩
 | l::r,n,h=>by
  simp only[iD];split
  · rename_i hlt
    have hl:=h l aD;have:=C8 lid r (n+1+(l.length:Int)) (fun x hx=>h x (by simp[hx]));omega
  · exact⟨Int.le_refl _,.inl (Int.le_refl _)⟩
theorem nW {w:World} {A:Option Addr} {n c:Nat} {ls:List (List Nd)} (ht:fF w A n c ls) (lid:Int) (hlid:lid<=1000000000000000) :
 Calls Tryz.prog 39 #[Y A n c,O X lid] w (fun e w'=>e=.returned (O X (iD lid ls 0))/\w'=w):=by
 have b0:=ht.len;have b2:=ht.few;have HT:=aB (fun (k:Nat) (hk:k<n)=>ht.at_ hk);obtain⟨res,a1⟩ : ∃res,res=iD lid ls 0:=⟨_,rfl⟩;rw[<-a1];have a6:=aB a1;clear ht a1;go_in;go_wp2_with fail;go_loopw [5,6] (fun nv iv wr=>∃(i:Nat) (m:Int),nv=O X m/\iv=O X (i:Int)/\i<=n/\0<=m/\m<=1010000000000000/\Hid (iD lid (ls.drop i) m=res)/\wr=w) (fun _ i _=>n-(intOf i).toNat)
 case atStart=>exact⟨0,0,rfl,rfl,by omega,by omega,by omega,aB a6.o.symm,rfl⟩
 case round =>
  obtain⟨i,m,rfl,rfl,hi,b4,b3,a2,rfl⟩:=hrel;by_cases hlt:i<n;rotate_left
  · have b1:decide ((i:Int)<(n:Int))=false:=decide_eq_false aA;have a0:=a2.o;rw[List.drop_of_length_le aA] at a0;simp only[iD] at a0;have a4:=aB a0;clear a0 a2;go_wp2_with fail;go_ret;rw[<-a4.o];exact⟨rfl,rfl⟩
  have b1:decide ((i:Int)<(n:Int))=true:=decide_eq_true aA;obtain⟨b',off,A',n',c',rfl,b6,b5,a5⟩:=HT.o i hlt;have a7:i<ls.length:=aA;have a3:=a5.len;have a8:=a5.few;have a0:=a2.o;rw[List.drop_eq_getElem_cons a7,show ls[i]=ls.getD i [] from by rw[List.getD_eq_getElem?_getD,List.getElem?_eq_getElem a7];rfl] at a0;simp only[iD] at a0;rw[a3] at a0;by_cases hm:m<lid
  · have a9:decide (m<lid)=true:=decide_eq_true hm;rw[if_pos hm] at a0;have a4:=aB a0;clear a0 a2 a5;go_wp2_with fail;go_roundw
    case rel=>exact⟨i+1,m+1+n',by go_num,by go_num,by omega,by omega,by omega,a4,by first | trivial | rfl⟩
    case measure=>simp[intOf];omega
  have a9:decide (m<lid)=false:=decide_eq_false hm;rw[if_neg hm] at a0;have a4:=aB a0;clear a0 a2 a5;go_wp2_with fail;go_ret;rw[<-a4.o];exact⟨rfl,rfl⟩
def xW (lid:Int):List Ct->Int->Int
 | [],n=>n
 | c::r,n=>if n<lid then xW lid r (n+1+iD lid c.args 0+iD lid c.outs 0) else n
def xX (lid:Int):List En->Int->Int
 | [],n=>n
 | x::r,n=>if n<lid then xX lid r (xW lid x.ctors (n+1+(x.sort.length:Int)+(x.type.length:Int)+(x.body.length:Int)+iD lid x.params 0+iD lid x.indices 0)) else n
def xV (lid:Int) (b:Bk):Int:=xX lid b.entries ((b.orders.length:Int)+(b.prims.length:Int))
theorem fF.lens {w:World} {A:Option Addr} {n c:Nat} {ls:List (List Nd)} (h:fF w A n c ls) : ∀l ∈ ls,l.length<=5864062014805:=by
 intro l hl;obtain⟨i,hi,rfl⟩:=List.getElem_of_mem hl;obtain⟨b,off,A',n',c',_,_,_,ht⟩:=h.at_ (k:=i) (by have:=h.len;omega);have h1:=ht.len;have h2:=ht.few;rw[List.getD_eq_getElem?_getD,List.getElem?_eq_getElem hi] at h1;simp only[Option.getD_some] at h1;omega
theorem fF.size_le {w:World} {A:Option Addr} {n c:Nat} {ls:List (List Nd)} (h:fF w A n c ls) (lid:Int) (hlid:lid<=1000000000000000):0<=iD lid ls 0/\iD lid ls 0<=1005864062014805:=by
 have:=C8 lid ls 0 h.lens;omega
theorem s8.at_ {w:World} {A:Option Addr} {n c:Nat} {cs:List Ct} (h:s8 w A n c cs) {k:Nat} (hk:k<n) : ∃b off,A=some ⟨b,off,none⟩/\b<w.heap.size/\∃A1 n1 c1 A2 n2 c2,w.cell? ⟨b,off+k*2,none⟩=some (Y A1 n1 c1)/\w.cell? ⟨b,off+k*2+1,none⟩=some (Y A2 n2 c2)/\fF w A1 n1 c1 (cs.getD k default).args/\fF w A2 n2 c2 (cs.getD k default).outs:=by
 obtain⟨b,off,e,hb,hm⟩:=h.mem aA;exact⟨b,off,e,hb,hm k hk⟩
theorem NK {w:World} {v:bO} {b:Bk} (hb:bX w v b) (lid:Int) (hlid:lid<=1000000000000000) :
 Calls Tryz.prog 23 #[.agg #[O X b.vars,Y v.Ao v.no v.co,Y v.Ae v.ne v.ce,O X b.nat,Y v.Ap v.np v.cp],O X lid] w (fun e w'=>e=.returned (O X (xV lid b))/\Below w.heap.size w w'):=by
 have a4:=hb.orders.few;have a3:=hb.prims.few;have a6:=hb.entries.few;have c8:=aB hb.entries.len;have e2:=aB (fun (w':World) (h:Below w.heap.size w w')=>hb.entries.below h);have e3:=aB (aP w (.cells #[O X b.vars,Y v.Ao v.no v.co,Y v.Ae v.ne v.ce,O X b.nat,Y v.Ap v.np v.cp] 26));have e1:=aB (aS.new w 26 #[O X b.vars,Y v.Ao v.no v.co,Y v.Ae v.ne v.ce,O X b.nat,Y v.Ap v.np v.cp]);have c6:Hid (xV lid b=xX lid b.entries ((b.orders.length:Int)+(b.prims.length:Int))):=aB rfl;rw[hb.orders.len,hb.prims.len] at c6;generalize xV lid b=res at *;obtain⟨Ao,no,co,Ae,ne,ce,Ap,np,cp⟩:=v;simp only at e2 e3 e1 c6 c8 a4 a3 a6 ⊢;clear hb;generalize b.vars=bv at *;generalize b.nat=bn at *;generalize b.entries=es at *;clear b;go_in;go_wp2_with fail;go_loopw [5,6] (fun nv iv wr=>∃(i:Nat) (m:Int),nv=O X m/\iv=O X (i:Int)/\i<=ne/\0<=m/\m<=6000000000000000/\Hid (xX lid (es.drop i) m=res)/\Hid (aS wr w.heap.size 26 #[O X bv,Y Ao no co,Y Ae ne ce,O X bn,Y Ap np cp])/\Hid (Below w.heap.size w wr)) (fun _ i _=>ne-(intOf i).toNat)
 case atStart=>exact⟨0,(no:Int)+(np:Int),by go_num,rfl,by omega,by omega,by omega,aB c6.o.symm,e1,e3⟩
 case round =>
  obtain⟨i,m,rfl,rfl,hi,g5,g4,a5,c4,a8⟩:=hrel;have zk:=aS.cell c4.o;have g8:=c4.o.lt;by_cases hlt:i<ne;case neg =>
   have hq:=a5.o;rw[List.drop_of_length_le (by rw[c8.o];omega)] at hq;simp only[xX] at hq;have HQ:=aB hq;clear hq a5;go_wp2_with fail;go_ret;rw[<-HQ.o];exact⟨rfl,a8.o⟩
  have d3:i<es.length:=by rw[c8.o];exact hlt
  have hq:=a5.o;rw[List.drop_eq_getElem_cons d3,show es[i]=es.getD i default from by rw[List.getD_eq_getElem?_getD,List.getElem?_eq_getElem d3];rfl] at hq;simp only[xX] at hq;by_cases hml:m<lid;case neg =>
   rw[if_neg hml] at hq;have HQ:=aB hq;clear hq a5;go_wp2_with fail;go_ret;rw[<-HQ.o];exact⟨rfl,a8.o⟩
  rw[if_pos hml] at hq;obtain⟨be,oe,rfl,g9,ev,g7,f6,f5,f4,f3,f2,f1,d4⟩:=(e2.o wr a8.o).at_ hlt;generalize es.getD i default=x at *;have d1:=aB (a8.o.trans ((aP wr (.cells #[O X x.kind,Y ev.As ev.ns ev.cs,Y ev.Ap ev.np ev.cp,Y ev.Ai ev.ni ev.ci,Y ev.Ac ev.nc ev.cc,Y ev.At ev.nt ev.ct,Y ev.Ab ev.nb ev.cb] 61)).mono a8.o.size));have c9:=aB (c4.o.alloc (.cells #[O X x.kind,Y ev.As ev.ns ev.cs,Y ev.Ap ev.np ev.cp,Y ev.Ai ev.ni ev.ci,Y ev.Ac ev.nc ev.cc,Y ev.At ev.nt ev.ct,Y ev.Ab ev.nb ev.cb] 61));have b0:=aB (aS.new wr 61 #[O X x.kind,Y ev.As ev.ns ev.cs,Y ev.Ap ev.np ev.cp,Y ev.Ai ev.ni ev.ci,Y ev.Ac ev.nc ev.cc,Y ev.At ev.nt ev.ct,Y ev.Ab ev.nb ev.cb]);have a0:=d4.below (aP wr (.cells #[O X x.kind,Y ev.As ev.ns ev.cs,Y ev.Ap ev.np ev.cp,Y ev.Ai ev.ni ev.ci,Y ev.Ac ev.nc ev.cc,Y ev.At ev.nt ev.ct,Y ev.Ab ev.nb ev.cb] 61));generalize x.kind=kd at *;obtain⟨As,ns,cs,Ap2,np2,cp2,Ai,ni,ci,Ac,nc,cc,At,nt,ct,Ab,nb,cb⟩:=ev;simp only at f6 f5 f4 f3 f2 f1 d1 c9 b0 a0;have b3:=a0.sort.len;have e8:=a0.sort.few;have b2:=a0.type.len;have e7:=a0.type.few;have b1:=a0.body.len;have e6:=a0.body.few;have c7:=aB a0.params;have d0:=aB a0.indices;have a9:=aB a0.ctors;simp only at b3 e8 b2 e7 b1 e6 c7 d0 a9;clear d4 a0;rw[b3,b2,b1] at hq;have g6:=a9.o.few;have c3:=c7.o.size_le lid hlid;have b8:=d0.o.size_le lid hlid;have d7:=aB (fun w' h=>nW (c7.o.below (w':=w') h) lid hlid);have d8:=aB (fun w' h=>nW (d0.o.below (w':=w') h) lid hlid);generalize iD lid x.params 0=P at *;generalize iD lid x.indices 0=I at *;obtain⟨c0,b9⟩:=c3;obtain⟨b7,b6⟩:=b8;have HQ:=aB hq;have w1:IntKind.i64.wrap (m+1)=m+1:=by rw[IntKind.wrap_i64];omega
  have w2:IntKind.i64.wrap (m+1+(ns:Int))=m+1+(ns:Int):=by rw[IntKind.wrap_i64];omega
  have w3:IntKind.i64.wrap (m+1+(ns:Int)+(nt:Int))=m+1+(ns:Int)+(nt:Int):=by rw[IntKind.wrap_i64];omega
  have w4:IntKind.i64.wrap (m+1+(ns:Int)+(nt:Int)+(nb:Int))=m+1+(ns:Int)+(nt:Int)+(nb:Int):=by rw[IntKind.wrap_i64];omega
  have w5:IntKind.i64.wrap (m+1+(ns:Int)+(nt:Int)+(nb:Int)+P)=m+1+(ns:Int)+(nt:Int)+(nb:Int)+P:=by rw[IntKind.wrap_i64];omega
  have w6:IntKind.i64.wrap (m+1+(ns:Int)+(nt:Int)+(nb:Int)+P+I)=m+1+(ns:Int)+(nt:Int)+(nb:Int)+P+I:=by rw[IntKind.wrap_i64];omega
  have d6:=aB (And.intro w1 (And.intro w2 (And.intro w3 (And.intro w4 (And.intro w5 w6)))));clear hq a5 b3 b2 b1 w1 w2 w3 w4 w5 w6;have c5:Hid (Below (wr.alloc (.cells #[O X kd,Y As ns cs,Y Ap2 np2 cp2,Y Ai ni ci,Y Ac nc cc,Y At nt ct,Y Ab nb cb] 61)).heap.size (wr.alloc (.cells #[O X kd,Y As ns cs,Y Ap2 np2 cp2,Y Ai ni ci,Y Ac nc cc,Y At nt ct,Y Ab nb cb] 61)) (wr.alloc (.cells #[O X kd,Y As ns cs,Y Ap2 np2 cp2,Y Ai ni ci,Y Ac nc cc,Y At nt ct,Y Ab nb cb] 61)).drew):=aB (cF (Below.refl _ _));have a2:=aS.cell b0.o;go_wp2_with fail;refine wp_region_held_drew (S:=(fun w'=>w'.cell? ⟨wr.heap.size,1,none⟩=some (Y As ns cs)/\w'.cell? ⟨wr.heap.size,5,none⟩=some (Y At nt ct)/\w'.cell? ⟨wr.heap.size,6,none⟩=some (Y Ab nb cb)/\w'.cell? ⟨wr.heap.size,2,none⟩=some (Y Ap2 np2 cp2)/\w'.cell? ⟨wr.heap.size,3,none⟩=some (Y Ai ni ci)/\Below (wr.alloc (.cells #[O X kd,Y As ns cs,Y Ap2 np2 cp2,Y Ai ni ci,Y Ac nc cc,Y At nt ct,Y Ab nb cb] 61)).heap.size (wr.alloc (.cells #[O X kd,Y As ns cs,Y Ap2 np2 cp2,Y Ai ni ci,Y Ac nc cc,Y At nt ct,Y Ab nb cb] 61)) w')) aC ?_ (fun hZ => ?_)
  · (try dsimp only);exact⟨a2 1,a2 5,a2 6,a2 2,a2 3,c5.o⟩
  refine aL 0 hZ ?_;refine aL 1 hZ ?_;refine aL 2 hZ ?_;refine aL 3 hZ ?_;refine aL 4 hZ ?_;refine aL 5 hZ ?_;refine aL 6 hZ ?_;refine aL 7 hZ ?_;refine aL 8 hZ ?_;refine aL 9 hZ ?_;refine aL 10 hZ ?_;refine aL 11 hZ ?_;refine aL 12 hZ ?_;refine aL 13 hZ ?_;refine aL 14 hZ ?_;refine aL 15 hZ ?_;refine aL 16 hZ ?_;refine aL 19 hZ ?_;refine aL 20 hZ ?_;refine aL 21 hZ ?_;refine r1 17 fun K hK => ?_;go_simp;refine (d7.o _ hZ.2.2.2.2.2).mono ?_;rintro e w3 ⟨rfl,rfl⟩;go_wp2_with fail;refine hK.o _ _ (by exact hZ) fun hZ => ?_;clear hK K;try simp only[p7]
  refine aL 18 hZ ?_;refine r1 22 fun K hK => ?_;go_simp;refine (d8.o _ hZ.2.2.2.2.2).mono ?_;rintro e w3 ⟨rfl,rfl⟩;go_wp2_with fail;refine hK.o _ _ (by exact hZ) fun hZ => ?_;clear hK K;try simp only[p7]
  refine aL 23 hZ ?_;refine aL 24 hZ ?_;refine wpAnyH_done aC ?_ _;clear d7 d8;have hZ:=c5.o;go_wp2_with fail;obtain⟨wo,rfl⟩ : ∃wo:World,wo=wr:=⟨_,rfl⟩;go_loopw [5,8] (fun nv kv w2=>∃(k:Nat) (q:Int),nv=O X q/\kv=O X (k:Int)/\k<=nc/\0<=q/\q<=6000000000000000/\Hid (xW lid (x.ctors.drop k) q=xW lid x.ctors (m+1+(ns:Int)+(nt:Int)+(nb:Int)+P+I))/\Hid (Below (wo.alloc (.cells #[O X kd,Y As ns cs,Y Ap2 np2 cp2,Y Ai ni ci,Y Ac nc cc,Y At nt ct,Y Ab nb cb] 61)).heap.size (wo.alloc (.cells #[O X kd,Y As ns cs,Y Ap2 np2 cp2,Y Ai ni ci,Y Ac nc cc,Y At nt ct,Y Ab nb cb] 61)) w2)) (fun _ k _=>nc-(intOf k).toNat)
  case atStart=>exact⟨0,m+1+(ns:Int)+(nt:Int)+(nb:Int)+P+I,by first | (obtain⟨w1,w2,w3,w4,w5,w6⟩:=d6.o;rw[w1,w2,w3,w4,w5,w6]) | (obtain⟨w1,w2,w3,w4,w5,w6⟩:=d6.o;simp only[w1,w2,w3,w4,w5,w6]),rfl,by omega,by omega,by omega,aB rfl,c5⟩
  case round =>
   obtain⟨k,q,rfl,rfl,hk,g3,g2,a7,f8⟩:=hrel;have a1:=f8.o;have e5:=aS.cell (aS.below b0.o a1 b0.o.lt);have f7:=a1.size;by_cases hlk:k<nc;case neg =>
    have hq:=a7.o;rw[List.drop_of_length_le (by rw[a9.o.len];omega)] at hq;simp only[xW] at hq;rw[<-hq] at HQ;clear hq a7;go_wp2_with fail;go_roundw
    case rel=>exact⟨i+1,q,rfl,by go_num,by omega,by omega,by omega,HQ,jL c9 a1,bZ d1 a1⟩
    case measure=>simp[intOf];omega
   have hq:=a7.o;have d2:k<x.ctors.length:=by rw[a9.o.len];exact hlk
   rw[List.drop_eq_getElem_cons d2,show x.ctors[k]=x.ctors.getD k default from by rw[List.getD_eq_getElem?_getD,List.getElem?_eq_getElem d2];rfl] at hq;simp only[xW] at hq;by_cases hql:q<lid;case neg =>
    rw[if_neg hql] at hq;rw[<-hq] at HQ;clear hq a7;go_wp2_with fail;go_roundw
    case rel=>exact⟨i+1,q,rfl,by go_num,by omega,by omega,by omega,HQ,jL c9 a1,bZ d1 a1⟩
    case measure=>simp[intOf];omega
   rw[if_pos hql] at hq;obtain⟨bc,oc,rfl,h0,A1,n1,c1,A2,n2,c2,f0,e9,b5,b4⟩:=(a9.o.below a1).at_ hlk;have c3:=b5.size_le lid hlid;have b8:=b4.size_le lid hlid;have e0:=aB (fun w' h=>nW (b5.below (w':=w') h) lid hlid);have d9:=aB (fun w' h=>nW (b4.below (w':=w') h) lid hlid);generalize x.ctors.getD k default=ct2 at *;generalize iD lid ct2.args 0=P1 at *;generalize iD lid ct2.outs 0=I1 at *;obtain⟨c0,b9⟩:=c3;obtain⟨b7,b6⟩:=b8;have y1:IntKind.i64.wrap (q+1)=q+1:=by rw[IntKind.wrap_i64];omega
   have y2:IntKind.i64.wrap (q+1+P1)=q+1+P1:=by rw[IntKind.wrap_i64];omega
   have y3:IntKind.i64.wrap (q+1+P1+I1)=q+1+P1+I1:=by rw[IntKind.wrap_i64];omega
   have d5:=aB (And.intro y1 (And.intro y2 y3));have g1:=aB hq;have e4:=e5 4;have g0:=aB (cF a1);have f9:Hid (Below wr.heap.size wr wr.drew):=aB (cF (Below.refl _ _));clear hq a7 y1 y2 y3 b5 b4;go_wp2_with fail;refine wp_region_held_drew (S:=(fun w'=>w'.cell? ⟨wo.heap.size,4,none⟩=some (Y (some ⟨bc,oc,none⟩) nc cc)/\w'.cell? ⟨bc,oc+k*2,none⟩=some (Y A1 n1 c1)/\w'.cell? ⟨bc,oc+k*2+1,none⟩=some (Y A2 n2 c2)/\Below wr.heap.size wr w')) aC ?_ (fun hZ => ?_)
   · (try dsimp only);exact⟨e4,f0,e9,f9.o⟩
   refine aL 0 hZ ?_;refine aL 1 hZ ?_;refine aL 2 hZ ?_;refine aL 3 hZ ?_;refine aL 4 hZ ?_;refine aL 5 hZ ?_;refine aL 6 hZ ?_;refine aL 7 hZ ?_;refine aL 8 hZ ?_;refine aL 11 hZ ?_;refine aL 12 hZ ?_;refine aL 13 hZ ?_;refine aL 14 hZ ?_;refine aL 15 hZ ?_;refine aL 16 hZ ?_;refine aL 17 hZ ?_;refine r1 9 fun K hK => ?_;go_simp;refine (e0.o _ hZ.2.2.2).mono ?_;rintro e w3 ⟨rfl,rfl⟩;go_wp2_with fail;refine hK.o _ _ (by exact hZ) fun hZ => ?_;clear hK K;try simp only[p7]
   refine aL 10 hZ ?_;refine r1 18 fun K hK => ?_;go_simp;refine (d9.o _ hZ.2.2.2).mono ?_;rintro e w3 ⟨rfl,rfl⟩;go_wp2_with fail;refine hK.o _ _ (by exact hZ) fun hZ => ?_;clear hK K;try simp only[p7]
   refine aL 19 hZ ?_;refine aL 20 hZ ?_;refine wpAnyH_done aC ?_ _;clear e0 d9;go_wp2_with fail;go_roundw
   case rel=>exact⟨k+1,q+1+P1+I1,by first | (obtain⟨w1,w2,w3⟩:=d5.o;rw[w1,w2,w3]) | (obtain⟨w1,w2,w3⟩:=d5.o;simp only[w1,w2,w3]),by go_num,by omega,by omega,by omega,g1,g0⟩
   case measure=>simp[intOf];omega
end Go.Proofs.YtjoddliplahgkaaGreat
