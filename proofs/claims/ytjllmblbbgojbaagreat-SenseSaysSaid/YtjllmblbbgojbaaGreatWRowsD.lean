/- Merged: Rights, Deeps, PutG, RowsD. -/
import Derived.Test.YtjllmblbbgojbaaGreatWRegist
import Derived.Test.YtjllmblbbgojbaaGreatWShort3
import Derived.Test.YtjllmblbbgojbaaGreatWSubst1
import Derived.Test.YtjllmblbbgojbaaGreatWLeafs
import Derived.Test.YtjllmblbbgojbaaGreatWErr18
import Derived.Test.YtjllmblbbgojbaaGreatWBase
namespace Go.Proofs.YtjllmblbbgojbaaGreat
open Go.Value renaming int → O, slice → Y
open Go.IntKind renaming i64 → X
open Option renaming none → Z, some → I
section
open Go.Lib (hid)
set_option maxHeartbeats 4000000
set_option maxRecDepth 100000
set_option linter.unusedVariables false
set_option linter.unusedSimpArgs false
section
open Go.RowKit
theorem s9 {b:Bk} {i:Nat} {x:En} {r:List En}:bZ b i (x::r)=if bX b i x ≠ 0 then bX b i x else bZ b (i+1) r:=rfl
theorem FX {w:World} {v:aZ} {b:Bk} (hb:bM w v b) :
 Calls Tryz.prog 31 #[.agg #[O X b.vars,Y v.Ao v.no v.co,Y v.Ae v.ne v.ce,O X b.nat,Y v.Ap v.np v.cp]] w (gN (bY b) w):=by
 have hlen:=hb.entries.len;have hefew:=hb.entries.few;have HCHK:=hid (fun (w':World) (h:Below w.heap.size w w')=>ER hb.vars (hb.orders.below h));have HEN:=hid (fun (w':World) (h:Below w.heap.size w w')=>hb.entries.below h);have HENT:=hid (fun (w':World) (i:Nat) (ev:iF) (x:En) (h:Below w.heap.size w w') (h1:i<=b.entries.length) (h2:xF w' ev x)=>AP (hb.below h) (i:Int) aA h2);have HREG:=hid (fun (w':World) (h:Below w.heap.size w w')=>rW (hb.below h));have HB0:=hid (aB w (.cells #[O X b.vars,Y v.Ao v.no v.co,Y v.Ae v.ne v.ce,O X b.nat,Y v.Ap v.np v.cp] 26));have HK0:=hid (aD.new w 26 #[O X b.vars,Y v.Ao v.no v.co,Y v.Ae v.ne v.ce,O X b.nat,Y v.Ap v.np v.cp]);have HR0:Hid (bY b=if (nA b.vars b.orders).1 ≠ 0 then (nA b.vars b.orders).1
 else if 64<b.entries.length then 5
 else if bZ b 0 b.entries ≠ 0 then bZ b 0 b.entries
 else if CE b then 0 else 22):=hid rfl
 generalize bY b=res at *;generalize (nA b.vars b.orders).1=ck at *;rw [hlen] at HR0 HENT;have HLN:=hid hlen;obtain ⟨Ao,no,co,Ae,ne,ce,Ap,np,cp⟩:=v;simp only at HCHK HEN HENT HREG HB0 HK0 HR0 HLN hefew ⊢;clear hb hlen;generalize b.vars=bv at *;generalize b.nat=bn at *;by_cases h1:ck=0;case neg =>
  rw [if_pos h1] at HR0;have d1:(ck != 0)=true:=by simpa using h1
  clear h1;go_in;go_wp2_with fail
  refine (HCHK.o _ HB0.o).mono ?_;rintro e w2 ⟨rfl,hb2⟩;have HB2:=cO HB0 hb2;clear hb2;go_wp2_with fail
  go_ret;rw [HR0.o];exact ⟨rfl,HB2.o⟩
 subst h1;rw [if_neg (by simp)] at HR0;by_cases h2:64<ne
 · rw [if_pos h2] at HR0;have d2:decide ((ne:Int)>64)=true:=decide_eq_true aA;clear h2;go_in;go_wp2_with fail
   refine (HCHK.o _ HB0.o).mono ?_;rintro e w2 ⟨rfl,hb2⟩;have HB2:=cO HB0 hb2;have zk2:=aD.cell (aD.below HK0.o hb2 (by simp));clear hb2;go_wp2_with fail
   go_ret;rw [HR0.o];exact ⟨rfl,HB2.o⟩
 rw [if_neg h2] at HR0;have d2:decide ((ne:Int)>64)=false:=decide_eq_false aA;clear h2;go_in;go_wp2_with fail
 refine (HCHK.o _ HB0.o).mono ?_;rintro e w2 ⟨rfl,hb2⟩;have HB2:=cO HB0 hb2;have HK2:=hid (aD.below HK0.o hb2 (by simp));have zk2:=aD.cell HK2.o;clear hb2;go_wp2_with fail
 clear zk2;go_loopw [22] (fun iv wr=>∃ i:Nat,iv=O X (i:Int)/\i<=ne/\Hid (bZ b i (b.entries.drop i)=bZ b 0 b.entries)/\Hid (aD wr w.heap.size 26 #[O X bv,Y Ao no co,Y Ae ne ce,O X bn,Y Ap np cp])/\Hid (Below w.heap.size w wr)) (fun i _=>ne-(intOf i).toNat)
 case atStart=>exact ⟨0,rfl,by omega,hid rfl,HK2,HB2⟩
 case round =>
  obtain ⟨i,rfl,hi,hes,hbk,hbw⟩:=hrel;by_cases hlt:i<ne;rotate_left
  · have hib:decide ((i:Int)<(ne:Int))=false:=decide_eq_false aA;have hq:=hes.o;rw [List.drop_of_length_le (by rw [HLN.o];omega)] at hq;have HRF:Hid (res=if CE b then 0 else 22):=hid (by rw [HR0.o,<-hq];rfl);have HC:=hid (HREG.o wr hbw.o);have zk:=aD.cell hbk.o;generalize CE b=rb at *;clear hq;cases rb with
    | true =>
     rw [if_pos rfl] at HRF;go_wp2_with fail
     refine (HC.o).mono ?_;rintro e w4 ⟨rfl,hb4⟩;have HB4:=cO hbw hb4;clear hb4 zk;go_wp2_with fail
     go_ret;rw [HRF.o];exact ⟨rfl,HB4.o⟩
    | false =>
     rw [if_neg (by simp)] at HRF;go_wp2_with fail
     refine (HC.o).mono ?_;rintro e w4 ⟨rfl,hb4⟩;have HB4:=cO hbw hb4;clear hb4 zk;go_wp2_with fail
     go_ret;rw [HRF.o];exact ⟨rfl,HB4.o⟩
  have hib:decide ((i:Int)<(ne:Int))=true:=decide_eq_true aA;obtain ⟨be,oe,rfl,hbe,ev,hc0,hc1,hc2,hc3,hc4,hc5,hc6,hec⟩:=(HEN.o wr hbw.o).at_ hlt;have hil:i<b.entries.length:=by rw [HLN.o];exact hlt
  have hq:=hes.o;rw [List.drop_eq_getElem_cons hil,show b.entries[i]=b.entries.getD i default from by rw [List.getD_eq_getElem?_getD,List.getElem?_eq_getElem hil];rfl,s9] at hq;generalize b.entries.getD i default=x at *;have HBa:=hid (hbw.o.trans ((aB wr (.cells #[O X x.kind,Y ev.As ev.ns ev.cs,Y ev.Ap ev.np ev.cp,Y ev.Ai ev.ni ev.ci,Y ev.Ac ev.nc ev.cc,Y ev.At ev.nt ev.ct,Y ev.Ab ev.nb ev.cb] 68)).mono hbw.o.size));have HKa:=hid (hbk.o.alloc (.cells #[O X x.kind,Y ev.As ev.ns ev.cs,Y ev.Ap ev.np ev.cp,Y ev.Ai ev.ni ev.ci,Y ev.Ac ev.nc ev.cc,Y ev.At ev.nt ev.ct,Y ev.Ab ev.nb ev.cb] 68));have HC:=hid (HENT.o _ i ev x HBa.o aA (hec.below (aB wr (.cells #[O X x.kind,Y ev.As ev.ns ev.cs,Y ev.Ap ev.np ev.cp,Y ev.Ai ev.ni ev.ci,Y ev.Ac ev.nc ev.cc,Y ev.At ev.nt ev.ct,Y ev.Ab ev.nb ev.cb] 68))));generalize x.kind=kd at *;generalize bX b i x=ee at *;have zk:=aD.cell hbk.o;have hbl:=hbk.o.lt;obtain ⟨As,ns,cs,Ap2,np2,cp2,Ai,ni,ci,Ac,nc,cc,At,nt,ct,Ab,nb,cb⟩:=ev;simp only at hc1 hc2 hc3 hc4 hc5 hc6 HBa HKa HC;clear hec;by_cases h3:ee=0
  · subst h3;rw [if_neg (by simp)] at hq;have HQ:=hid hq;clear hq;go_wp2_with fail
    refine (HC.o).mono ?_;rintro e w4 ⟨rfl,hb4⟩;have HB4:=cO HBa hb4;have HK4:=gU HKa hb4;clear hb4 zk;go_wp2_with fail
    go_roundw
    case rel=>exact ⟨i+1,by go_num,by omega,HQ,HK4,HB4⟩
    case measure=>simp [intOf];omega
  rw [if_pos h3] at hq;have HRF:Hid (res=ee):=hid (by rw [HR0.o,<-hq,if_pos h3]);have d3:(ee != 0)=true:=by simpa using h3
  clear hq h3;go_wp2_with fail
  refine (HC.o).mono ?_;rintro e w4 ⟨rfl,hb4⟩;have HB4:=cO HBa hb4;clear hb4 zk;go_wp2_with fail
  go_ret;rw [HRF.o];exact ⟨rfl,HB4.o⟩
theorem x9 {w:World} {v:aZ} {b:Bk} (hb:bM w v b) (free:Int) {A:Option Addr} {n c:Nat} {l:List Nd} (ht:aP w A n c l) :
 Calls Tryz.prog 17 #[.agg #[O X b.vars,Y v.Ao v.no v.co,Y v.Ae v.ne v.ce,O X b.nat,Y v.Ap v.np v.cp],O X free,Y A n c] w (gN (eM b free l) w):=by
 have hlen:=hb.entries.len;have HRT:=hid (fun (w':World) (h:Below w.heap.size w w')=>FX (hb.below h));have HRW:=hid (fun (w':World) (h:Below w.heap.size w w')=>wO (hb.below h) (b.entries.length:Int) (-1) aA (ht.below h) free);have HB0:=hid (aB w (.cells #[O X b.vars,Y v.Ao v.no v.co,Y v.Ae v.ne v.ce,O X b.nat,Y v.Ap v.np v.cp] 26));have HK0:=hid (aD.new w 26 #[O X b.vars,Y v.Ao v.no v.co,Y v.Ae v.ne v.ce,O X b.nat,Y v.Ap v.np v.cp]);have HR0:Hid (eM b free l=if bY b ≠ 0 then bY b else if free<0 then 1 else eP b b.entries.length (-1) l free):=hid rfl;generalize eM b free l=res at *;generalize bY b=re at *;generalize eP b b.entries.length (-1) l free=ro at *;rw [hlen] at HRW;obtain ⟨Ao,no,co,Ae,ne,ce,Ap,np,cp⟩:=v;simp only at HRT HRW HB0 HK0 ⊢;clear hb ht hlen;generalize b.vars=bv at *;generalize b.nat=bn at *;by_cases h1:re=0;case neg =>
  rw [if_pos h1] at HR0;have d1:(re != 0)=true:=by simpa using h1
  clear h1;go_in;go_wp2_with fail
  refine (HRT.o _ HB0.o).mono ?_;rintro e w2 ⟨rfl,hb2⟩;have HB2:=cO HB0 hb2;clear hb2;go_wp2_with fail
  go_ret;rw [HR0.o];exact ⟨rfl,HB2.o⟩
 subst h1;rw [if_neg (by simp)] at HR0;by_cases h2:free<0
 · rw [if_pos h2] at HR0;have d2:decide (free<0)=true:=decide_eq_true h2;clear h2;go_in;go_wp2_with fail
   refine (HRT.o _ HB0.o).mono ?_;rintro e w2 ⟨rfl,hb2⟩;have HB2:=cO HB0 hb2;clear hb2;go_wp2_with fail
   go_ret;rw [HR0.o];exact ⟨rfl,HB2.o⟩
 rw [if_neg h2] at HR0;have d2:decide (free<0)=false:=decide_eq_false h2;clear h2;go_in;go_wp2_with fail
 refine (HRT.o _ HB0.o).mono ?_;rintro e w2 ⟨rfl,hb2⟩;have HB2:=cO HB0 hb2;have zk2:=aD.cell (aD.below HK0.o hb2 (by simp));clear hb2;go_wp2_with fail
 refine (HRW.o _ HB2.o).mono ?_;rintro e w3 ⟨rfl,hb3⟩;have HB3:=cO HB2 hb3;clear hb3 zk2;go_wp2_with fail
 go_ret;rw [HR0.o];exact ⟨rfl,HB3.o⟩
end
section
open Go.RowKit
end
end
section
section
open Go.RowKit
theorem NG {v:Int} (h0:0<=v) (h1:v<=1048576):dG ⟨1,v,0⟩=true:=by
 simp [dG,bD];omega
def pz (x a:Int):Bool:=decide (max 0 0<=x-a)
def mD:Bk:=⟨0,[],[⟨1,[⟨2,1,1⟩,⟨3,0,0⟩],[],[],[⟨[],[]⟩,⟨[[⟨9,0,0⟩]],[]⟩],[],[]⟩],0,[]⟩
end
section
open Go.RowKit
def MP (l:List Nd):Array Value:=(iD l).toArray
theorem rK {w:World} {g:Nat} {l:List Nd} {n c:Nat} (h:aD w g 40 (MP l)) (hl:l.length=n) (hc:n<=c) (hf:n<=5864062014805):aP w (I ⟨g,0,Z⟩) n c l:=by
 refine ⟨hl,hc,hf,(fun e=>by cases e),fun hn=>⟨g,0,rfl,h.lt,fun k hk => ?_⟩⟩;obtain ⟨h1,h2,h3⟩:=j7 l k hk;have hcell:=h.cell;rw [Nat.zero_add,hcell,hcell,hcell];simp only [MP,List.getElem?_toArray];exact ⟨h1,h2,h3⟩
theorem bE.termV {w:World} {base:Nat} {A:Option Addr} {n c:Nat} {l:List Nd} (h:bE w base (Y A n c) l) (hl:l.length<=5864062014805):aP w A n c l:=by
 obtain ⟨A',n',c',e,ht⟩:=bE.termS h hl;injection e with e1 e2 e3;subst e1 e2 e3;exact ht.keep fun b hb=>⟨(aE h hb).2.1,fun _=>rfl⟩
theorem nF {w:World} {g:Nat} {t:TypeId} {cs:Array Value} (h:g=w.heap.size):aD (w.alloc (.cells cs t)) g t cs:=by
 subst h;exact aD.new _ _ _
theorem dM.nil (w:World):dM w Z 0 0 []:=⟨rfl,by decide,fun h=>absurd h (by decide)⟩
theorem FD {w:World} {g1 g2 g3 g4 g5:Nat} (h1:aD w g1 40 #[O X 2,O X 1,O X 1,O X 3,O X 0,O X 0]) (h2:aD w g2 40 #[O X 9,O X 0,O X 0]) (h3:aD w g3 28 #[Y (I ⟨g2,0,Z⟩) 1 1])
 (h4:aD w g4 71 #[Y Z 0 0,Y Z 0 0,Y (I ⟨g3,0,Z⟩) 1 1,Y Z 0 0])
 (h5:aD w g5 68 #[O X 1,Y (I ⟨g1,0,Z⟩) 2 2,Y Z 0 0,Y Z 0 0,Y (I ⟨g4,0,Z⟩) 2 2,Y Z 0 0,Y Z 0 0]):bM w ⟨Z,0,0,I ⟨g5,0,Z⟩,1,1,Z,0,0⟩ mD:=by
 have e2:aP w (I ⟨g1,0,Z⟩) 2 2 [⟨2,1,1⟩,⟨3,0,0⟩]:=rK (l:=[⟨2,1,1⟩,⟨3,0,0⟩]) h1 rfl (by decide) (by decide);have e3:aP w (I ⟨g2,0,Z⟩) 1 1 [⟨9,0,0⟩]:=rK (l:=[⟨9,0,0⟩]) h2 rfl (by decide) (by decide);have e4:dM w (I ⟨g3,0,Z⟩) 1 1 [[⟨9,0,0⟩]]:=⟨rfl,by decide,fun _=>⟨g3,0,rfl,h3.lt,fun k hk=>by
  obtain rfl:k=0:=aA;exact ⟨I ⟨g2,0,Z⟩,1,1,h3.cell 0,e3⟩⟩⟩
 have e5:nC w (I ⟨g4,0,Z⟩) 2 2 [⟨[],[]⟩,⟨[[⟨9,0,0⟩]],[]⟩]:=⟨rfl,by decide,fun _=>⟨g4,0,rfl,h4.lt,fun k hk=>by
  have hk2:k=0\/k=1:=aA;rcases hk2 with rfl | rfl
  · exact ⟨Z,0,0,Z,0,0,h4.cell 0,h4.cell 1,dM.nil w,dM.nil w⟩
  exact ⟨I ⟨g3,0,Z⟩,1,1,Z,0,0,h4.cell 2,h4.cell 3,e4,dM.nil w⟩⟩⟩
 have e6:sZ w (I ⟨g5,0,Z⟩) 1 1 mD.entries:=⟨rfl,by decide,fun _=>⟨g5,0,rfl,h5.lt,fun k hk=>by
  obtain rfl:k=0:=aA;exact ⟨⟨I ⟨g1,0,Z⟩,2,2,Z,0,0,Z,0,0,I ⟨g4,0,Z⟩,2,2,Z,0,0,Z,0,0⟩,h5.cell 0,h5.cell 1,h5.cell 2,h5.cell 3,h5.cell 4,h5.cell 5,h5.cell 6,⟨e2,dM.nil w,dM.nil w,e5,aP.nil w,aP.nil w⟩⟩⟩⟩
 have e7:xK w Z 0 0 mD.prims:=⟨rfl,by decide,fun h=>absurd h (by decide)⟩;exact ⟨aP.nil w,e6,e7,by decide,by decide,by decide,by decide⟩
end
section
open Go.RowKit
end
end
section
open Go.RowKit
theorem IG {Q:TT->Prop} (hq:∀ n a p n1 a1 k1 q n2 a2 k2 r,n.op=6->Q (n,a,.cons p n1 a1 k1 (.cons q n2 a2 k2 r))->Q (n1,a1,k1)/\Q (n2,a2,k2)) : ∀ (s:Nat) (x:TT),bU x<=s->Q x->Q (cP x).1/\∀ y ∈ (cP x).2,Q y
 | 0,(n,a,k),h,_=>by rw [dJ] at h;omega
 | s+1,(n,a,k),h,hb=>by
  by_cases h6:n.op=6
  · match k,h,hb with
    | .nil,_,hb=>rw [lJ (by simp [cD])];exact ⟨hb,fun y hy=>by cases hy⟩
    | .cons p n1 a1 k1 .nil,_,hb=>rw [lJ (by simp [cD])];exact ⟨hb,fun y hy=>by cases hy⟩
    | .cons p n1 a1 k1 (.cons q n2 a2 k2 r),hs,hb =>
     rw [nO h6];have h0:bU (n,a,.cons p n1 a1 k1 (.cons q n2 a2 k2 r))=1+a.length+(p.length+bU (n1,a1,k1)+(q.length+bU (n2,a2,k2)+(row r).length)):=by rw [dJ,fC,fC]
     obtain ⟨b1,b2⟩:=hq n a p n1 a1 k1 q n2 a2 k2 r h6 hb;obtain ⟨i1,i2⟩:=IG hq s (n1,a1,k1) aA b1;refine ⟨i1,fun y hy => ?_⟩;rcases List.mem_append.1 hy with hy | hy
     · exact i2 y hy
     · rw [List.mem_singleton] at hy;subst hy;exact b2
  · rw [kR h6];exact ⟨hb,fun y hy=>by cases hy⟩
def pf (zs:List Int) (v z:Int):Bool:=decide (z<=v/\100<=M8 zs (v-z))
theorem oJ {p q:Int->Int->Bool} {c:Int} (h:∀ v z,q v z=true->p v (z+c)=true) (pop pb:Int) : ∀ (j:Nat) (a:Int) (F:Fo),lZ q pop pb j a F=true->lZ p pop pb j (a+c) F=true
 | _,_,.nil,hh=>by simp [lZ] at hh
 | j,a,.cons pr n ats k x,hh=>by
  simp only [lZ,Bool.or_eq_true,Bool.and_eq_true] at hh ⊢;have e:a+c+aC pop pb (j:Int)=a+aC pop pb (j:Int)+c:=aA;rw [e];rcases hh with (hh | hh) | hh
  · exact .inl (.inl ⟨hh.1,h _ _ hh.2⟩)
  · exact .inl (.inr (oJ h n.op n.b 0 _ k hh))
  · exact .inr (oJ h pop pb (j+1) a x hh)
theorem oK {p q:Int->Int->Bool} {c:Int} (h:∀ v z,q v z=true->p v (z+c)=true) {a:Int} {n:Nd} {k:Fo} (hh:mB p (a+c) n k=false):mB q a n k=false:=by
 cases he:mB q a n k with
 | false=>rfl
 | true =>
  have:mB p (a+c) n k=true:=by
   unfold mB at he ⊢;simp only [Bool.or_eq_true,Bool.and_eq_true] at he ⊢;rcases he with he | he
   · exact .inl ⟨he.1,h _ _ he.2⟩
   exact .inr (oJ h n.op n.b 0 _ k he)
  rw [this] at hh;cases hh
theorem IA {p:Int->Int->Bool} {pop pb:Int} : ∀ {k:Fo} {j:Nat} {a:Int},lZ p pop pb j a k=false->∀ i y,(cD k)[i]? = I y->mB p (a+aC pop pb ((j+i:Nat):Int)) y.1 y.2.2=false
 | .nil,_,_,_,i,y,h=>by simp [cD] at h
 | .cons pr n ats k x,j,a,hh,i,y,h=>by
  rw [eF,Bool.or_eq_false_iff] at hh;rw [lK] at h;cases i with
  | zero =>
   simp only [List.getElem?_cons_zero,Option.some.injEq] at h;subst h;exact hh.1
  | succ i =>
   have:=IA hh.2 i y (by simpa using h);rw [show j+(i+1)=j+1+i from by omega];exact this
theorem j6 {p:Int->Int->Bool} {a:Int} {n:Nd} {k:Fo} (h:mB p a n k=false):(n.op=1->p n.a a=false)/\lZ p n.op n.b 0 a k=false:=by
 unfold mB at h;rw [Bool.or_eq_false_iff] at h;refine ⟨fun h1 => ?_,h.2⟩;have:=h.1;rw [decide_eq_true h1,Bool.true_and] at this;exact this
def far (a v z:Int):Bool:=decide (z<=v/\v-z<a)
def AC (u:TT) (a:Int):TT:=(iK a 0 u.1 0,u.2.1,jA a 0 u.1.op u.1.b 0 0 u.2.2)
structure kJ (u:TT):Prop where
 ok:dG u.1=true
 at_:gW u.1 u.2.1
 wf:Wf (ds u.1) u.2.2
theorem kJ.one {u:TT} (h:kJ u):Wf [false] (.cons [] u.1 u.2.1 u.2.2 .nil):=⟨rfl,h.ok,h.at_,h.wf,trivial⟩
def pX (u:TT) (a:Int) (n:Nd):TT:=if n.a=a then AC u a else if a<n.a then (⟨n.op,n.a-1,n.b⟩,[],.nil) else (n,[],.nil)
theorem wD (u:TT) (pop pb:Int) : ∀ (j:Nat) (a:Int) (F:Fo),M6 F->(i8 ⟨u.1,u.2.1,u.2.2⟩ 0).E pop pb j a () F=row (tJ (pX u) pop pb j a F)
 | _,_,.nil,_=>rfl
 | j,a,.cons p n ats k x,h=>by
  obtain ⟨h1,h2,h3⟩:=h;have e:∀ s:Unit,s=():=fun _=>rfl;rw [i5,bV.E_cons,bV.E1,e ((i8 ⟨u.1,u.2.1,u.2.2⟩ 0).nx () n _),e ((i8 ⟨u.1,u.2.1,u.2.2⟩ 0).S1 _ () n k),wD u n.op n.b 0 _ k h2,wD u pop pb (j+1) a x h3];have key:(i8 ⟨u.1,u.2.1,u.2.2⟩ 0).em () n (a+aC pop pb j)++(ats++row (tJ (pX u) n.op n.b 0 (a+aC pop pb j) k))=aJ (xI (pX u) (a+aC pop pb j) (n,ats,k)):=by
   by_cases hv:n.op=1
   · obtain ⟨rfl,rfl⟩:=h1 hv;rw [lW (x:=(n,[],.nil)) hv];simp only [i8,pX,tJ,row,List.append_nil,Int.zero_add];by_cases h2:n.a=a+aC pop pb j
     · rw [if_pos ⟨hv,h2⟩,if_pos h2,jT];rfl
     rw [if_neg (fun h=>h2 h.2),if_neg h2];by_cases h3:a+aC pop pb j<n.a
     · rw [if_pos ⟨hv,h3⟩,if_pos h3];rfl
     rw [if_neg (fun h=>h3 h.2),if_neg h3];rfl
   rw [iP (x:=(n,ats,k)) hv];simp only [i8];rw [if_neg (fun h=>hv h.1),if_neg (fun h=>hv h.1)];rfl
  rw [key];simp [row,aJ]
theorem M0 (u:TT) (a:Int):bU (AC u a)=bU u:=by
 have h:=qO a 0 u.1.op u.1.b 0 0 u.2.2;rw [qP] at h;unfold AC bU aJ;simp only [List.length_cons,List.length_append,h]
theorem CR (u:TT) (pop pb:Int) : ∀ (j:Nat) (a:Int) (F:Fo),M6 F->((row (tJ (pX u) pop pb j a F)).length:Int)=(row F).length+s8 0 pop pb j a F*((bU u:Int)-1)
 | _,_,.nil,_=>by simp [tJ,row,s8]
 | j,a,.cons p n ats k x,h=>by
  obtain ⟨h1,h2,h3⟩:=h;have ix:=CR u pop pb (j+1) a x h3;have ik:=CR u n.op n.b 0 (a+aC pop pb j) k h2;rw [i5,fC,fC];simp only [s8];rw [Int.add_mul,Int.add_mul];by_cases hv:n.op=1
  · obtain ⟨rfl,rfl⟩:=h1 hv;rw [lW (x:=(n,[],.nil)) hv];simp only;have e1:bU (n,[],Fo.nil)=1:=rfl;have e2:s8 0 n.op n.b 0 (a+aC pop pb j) .nil=0:=rfl;have e3:pX u (a+aC pop pb j) n=if n.a=a+aC pop pb j then AC u (a+aC pop pb j) else if a+aC pop pb j<n.a then (⟨n.op,n.a-1,n.b⟩,[],.nil) else (n,[],.nil):=rfl;rw [e1,e2,e3];have e4:(row Fo.nil).length=0:=rfl;rw [e4] at ik;clear e1 e2 e3 e4;by_cases h2:n.a=a+aC pop pb j
    · rw [if_pos h2,if_pos ⟨hv,by omega⟩];have:=M0 u (a+aC pop pb j);rw [show ((AC u (a+aC pop pb j)).1,(AC u (a+aC pop pb j)).2.1,(AC u (a+aC pop pb j)).2.2)=AC u (a+aC pop pb j) from rfl,this]
      push_cast
      omega
    have hne:¬ (n.op=1/\n.a-(a+aC pop pb (j:Int))=0):=aA;rw [if_neg h2,if_neg hne];split
    · have e1:bU (⟨n.op,n.a-1,n.b⟩,[],Fo.nil)=1:=rfl;simp only;rw [e1]
      push_cast
      omega
    have e1:bU (n,[],Fo.nil)=1:=rfl;simp only;rw [e1]
    push_cast
    omega
  · rw [iP (x:=(n,ats,k)) hv,if_neg (fun h=>hv h.1)];simp only;rw [dJ,dJ]
    push_cast
    omega
theorem qN {B up:Int} (h0:0<=up) (pop pb:Int) (hp:∀ j:Int,0<=aC pop pb j/\aC pop pb j<=4) : ∀ (j:Nat) (z:Int) (F:Fo) (dl:List Bool),Wf dl F->lZ (fun v z=>decide (B<=v-z)) pop pb j z F=false->B+z+4*((row F).length:Int)+up<=1048577->(fJ up 0).G pop pb j z () F=true
 | _,_,.nil,_,_,_,_=>rfl
 | j,z,.cons p n ats k x,[],h,_,_=>h.elim
 | j,z,.cons p n ats k x,d::dr,h,he,hb=>by
  obtain ⟨_,hok,_,hk,hx⟩:=h;rw [eF,Bool.or_eq_false_iff] at he;obtain ⟨he1,he2⟩:=he;obtain ⟨t1,t2⟩:=j6 he1;have hl:((row (.cons p n ats k x)).length:Int)=p.length+(1+ats.length+(row k).length)+(row x).length:=by rw [fC,dJ];push_cast;omega
  have ha:=hp (j:Int);rw [bV.G_cons,bV.G1,Bool.and_eq_true,Bool.and_eq_true];refine ⟨⟨?_,qN h0 n.op n.b (cV hok) 0 _ k _ hk t2 aA⟩,qN h0 pop pb hp (j+1) z x _ hx he2 aA⟩;simp only [fJ];split
  · rename_i hh
    have:=t1 hh.1;rw [decide_eq_false_iff_not] at this;rw [decide_eq_true_eq];omega
  · rfl
def MD (u:TT) (M:Int):Prop:=∀ a:Int,0<=a->a<=M->(fJ a 0).G1 0 () u.1 u.2.2=true
theorem I3 {u:TT} {M:Int} (hu:MD u M) (pop pb:Int) (hp:∀ j:Int,0<=aC pop pb j/\aC pop pb j<=4) : ∀ (j:Nat) (a:Int) (F:Fo) (dl:List Bool),Wf dl F->0<=a->a+4*((row F).length:Int)<=M->(i8 ⟨u.1,u.2.1,u.2.2⟩ 0).D pop pb j a () F
 | _,_,.nil,_,_,_,_=>trivial
 | j,a,.cons p n ats k x,[],h,_,_=>h.elim
 | j,a,.cons p n ats k x,d::dr,h,h0,hb=>by
  obtain ⟨_,hok,_,hk,hx⟩:=h;have hl:((row (.cons p n ats k x)).length:Int)=p.length+(1+ats.length+(row k).length)+(row x).length:=by rw [fC,dJ];push_cast;omega
  have ha:=hp (j:Int);rw [bV.D_cons,bV.D1];refine ⟨⟨fun hh => ?_,I3 hu n.op n.b (cV hok) 0 _ k _ hk aA aA⟩,I3 hu pop pb hp (j+1) a x _ hx h0 aA⟩;rw [Int.zero_add];exact hu _ aA aA
theorem M4 {u:TT} (hu:kJ u) {a:Int} (h0:0<=a) (hg:(fJ a 0).G1 0 () u.1 u.2.2=true):kJ (AC u a):=by
 rw [bV.G1,Bool.and_eq_true] at hg;have hs:=fL a 0 u.1 0;have hds:ds (iK a 0 u.1 0)=ds u.1:=by simp only [ds,hs.1,hs.2]
 refine ⟨CB hu.ok h0 hg.1,?_,?_⟩
 · have:=hu.at_;show gW (iK a 0 u.1 0) u.2.1;unfold gW at this ⊢;rw [hs.1,hs.2];exact this
 show Wf (ds (iK a 0 u.1 0)) (jA a 0 u.1.op u.1.b 0 0 u.2.2);rw [hds];exact wG h0 u.1.op u.1.b u.2.2 (ds u.1) 0 0 hu.wf hg.2
theorem JO {u:TT} (hu:kJ u) {M:Int} (hM:MD u M) (pop pb:Int) (hp:∀ j:Int,0<=aC pop pb j/\aC pop pb j<=4) : ∀ (j:Nat) (a:Int) (F:Fo) (dl:List Bool),Wf dl F->0<=a->a+4*((row F).length:Int)<=M->Wf dl (tJ (pX u) pop pb j a F)
 | _,_,.nil,_,h,_,_=>h
 | j,a,.cons p n ats k x,[],h,_,_=>h.elim
 | j,a,.cons p n ats k x,d::dr,h,h0,hb=>by
  obtain ⟨hpr,hok,hat,hk,hx⟩:=h;have hl:((row (.cons p n ats k x)).length:Int)=p.length+(1+ats.length+(row k).length)+(row x).length:=by rw [fC,dJ];push_cast;omega
  have ha:=hp (j:Int);have ix:=JO hu hM pop pb hp (j+1) a x dr hx h0 aA;rw [i5];have key:kJ (xI (pX u) (a+aC pop pb j) (n,ats,k)):=by
   by_cases hv:n.op=1;rotate_left
   · rw [iP (x:=(n,ats,k)) hv];exact ⟨hok,hat,JO hu hM n.op n.b (cV hok) 0 _ k (ds n) hk aA aA⟩
   rw [lW (x:=(n,ats,k)) hv];unfold pX;split
   · exact M4 hu aA (hM _ aA aA)
   obtain ⟨rfl,rfl⟩:=(show ats=[]/\k=.nil from (pL (.cons [] n ats k .nil) [false] ⟨rfl,hok,hat,hk,trivial⟩).1 hv);have hds:∀ m:Nd,m.op=1->ds m=[]:=fun m h=>C8 h;split
   rotate_left
   · exact ⟨hok,hat,hk⟩
   rename_i h1 h2
   simp only at h1 h2;refine ⟨?_,?_,?_⟩
   · simp only;simp only [dG,Bool.and_eq_true] at hok;have h3:=aF.1 hok.1.1;have h4:n.b=0/\n.a<=1048576:=aA;rw [hv,h4.1];exact NG aA aA
   · show gW ⟨n.op,n.a-1,n.b⟩ [];unfold gW;rw [if_neg (by simp only;omega)]
   show Wf (ds ⟨n.op,n.a-1,n.b⟩) .nil;rw [hds ⟨n.op,n.a-1,n.b⟩ hv];trivial
  exact ⟨hpr,key.ok,key.at_,key.wf,ix⟩
theorem BH {B c:Int} (hB:0<=B) (pop pb:Int) : ∀ (j:Nat) (z:Int) (F:Fo),0<=c->lZ (fun v z=>decide (B<=v-z)) pop pb j (z+c) (jA c 0 pop pb j z F)=true->lZ (fun v z=>decide (B<=v-z)) pop pb j z F=true
 | _,_,.nil,_,h=>by simp [jA,lZ] at h
 | j,z,.cons p n ats k x,h0,h=>by
  have hs:=fL c 0 n (z+aC pop pb j);simp only [jA,lZ,hs.1,hs.2,Bool.or_eq_true,Bool.and_eq_true,decide_eq_true_eq] at h ⊢;have e:z+c+aC pop pb (j:Int)=z+aC pop pb (j:Int)+c:=aA;rw [e] at h;rcases h with (⟨h1,h2⟩ | h) | h
  · refine .inl (.inl ⟨h1,?_⟩);unfold iK at h2;split at h2
    · simp only at h2;omega
    omega
  · exact .inl (.inr (BH hB n.op n.b 0 _ k h0 h))
  · exact .inr (BH hB pop pb (j+1) z x h0 h)
theorem JN {u:TT} {B:Int} (hB:0<=B) (hu:mB (fun v z=>decide (B<=v-z)) 0 u.1 u.2.2=false) (pop pb:Int) (hp:∀ j:Int,0<=aC pop pb j) : ∀ (j:Nat) (a:Int) (F:Fo),M6 F->NL F->0<=a->lZ (fun v z=>decide (B+1<=v-z)) pop pb j a F=false->lZ (fun v z=>decide (B<=v-z)) pop pb j a (tJ (pX u) pop pb j a F)=false
 | _,_,.nil,_,_,_,_=>rfl
 | j,a,.cons p n ats k x,hk,hb,h0,he=>by
  obtain ⟨k1,k2,k3⟩:=hk;obtain ⟨b1,b2,b3⟩:=hb;have ha:=hp (j:Int);rw [eF,Bool.or_eq_false_iff] at he;obtain ⟨t1,t2⟩:=j6 he.1;rw [i5,eF,JN hB hu pop pb hp (j+1) a x k3 b3 h0 he.2,Bool.or_false];by_cases hv:n.op=1
  · rw [lW (x:=(n,ats,k)) hv];have t3:=t1 hv;rw [decide_eq_false_iff_not] at t3;unfold pX;split
    · cases hh:mB (fun v z=>decide (B<=v-z)) (a+aC pop pb j) (AC u (a+aC pop pb j)).1 (AC u (a+aC pop pb j)).2.2 with
      | false=>rfl
      | true =>
       have e1:lZ (fun v z=>decide (B<=v-z)) 0 0 0 (0+(a+aC pop pb j)) (jA (a+aC pop pb j) 0 0 0 0 0 (.cons [] u.1 u.2.1 u.2.2 .nil))=true:=by
        rw [DV,eF,Int.zero_add];have hz:aC 0 0 ((0:Nat):Int)=0:=by decide
        rw [hz,Int.add_zero,Bool.or_eq_true];exact .inl hh
       have e2:=BH hB 0 0 0 0 _ aA e1;have hz:aC 0 0 ((0:Nat):Int)=0:=by decide
       rw [eF,hz,Int.add_zero,hu] at e2;simp [lZ] at e2
    split
    · simp only [mB,lZ,Bool.or_false];rw [decide_eq_true hv,Bool.true_and];exact decide_eq_false (by simp only at *;omega)
    simp only [mB,lZ,Bool.or_false];rw [decide_eq_true hv,Bool.true_and];exact decide_eq_false (by simp only at *;omega)
  · rw [iP (x:=(n,ats,k)) hv];simp only [mB];rw [decide_eq_false hv,Bool.false_and,Bool.false_or];exact JN hB hu n.op n.b (EK b1) 0 _ k k2 b2 aA t2
theorem sM {u:TT} (P:Nd->Prop) (hv:∀ m:Nd,m.op=1->P m) (hu:∀ m ∈ aJ u,P m) (pop pb:Int) : ∀ (j:Nat) (a:Int) (F:Fo),(∀ m ∈ row F,P m)->∀ m ∈ row (tJ (pX u) pop pb j a F),P m
 | _,_,.nil,_,m,hm=>by simp [tJ,row] at hm
 | j,a,.cons p n ats k x,h,m,hm=>by
  have hrow:row (.cons p n ats k x)=p++(aJ (n,ats,k)++row x):=by simp [row,aJ]
  rw [hrow] at h;have hrow2:∀ (y:TT) (F:Fo),row (.cons p y.1 y.2.1 y.2.2 F)=p++(aJ y++row F):=fun y F=>by simp [row,aJ]
  rw [i5,hrow2,List.mem_append,List.mem_append] at hm;rcases hm with hm | hm | hm
  · exact h m (by simp [hm])
  · by_cases h1:n.op=1
    · rw [lW (x:=(n,ats,k)) h1] at hm;unfold pX at hm;split at hm
      · have h2:=CJ (up:=a+aC pop pb j) (fr:=0) 0 0 0 0 (.cons [] u.1 u.2.1 u.2.2 .nil) m (by
         rw [DV];simpa [row,aJ,AC] using hm)
        rcases h2 with h2 | h2
        · exact hu m (by simpa [row,aJ] using h2)
        exact hv m h2
      split at hm
      · simp only [aJ,row,List.append_nil,List.mem_singleton] at hm;subst hm;exact hv _ h1
      simp only [aJ,row,List.append_nil,List.mem_singleton] at hm;subst hm;exact hv _ h1
    rw [iP (x:=(n,ats,k)) h1] at hm;simp only [aJ,List.mem_cons,List.mem_append] at hm;rcases hm with rfl | hm | hm
    · exact h _ (by simp [aJ])
    · exact h m (by simp [aJ,hm])
    exact sM P hv hu n.op n.b 0 _ k (fun m hm=>h m (by simp [aJ,hm])) m hm
  · exact sM P hv hu pop pb (j+1) a x (fun m hm=>h m (by simp [hm])) m hm
end
section
open Go.RowKit
structure fD (R:Nat->Prop) (w:World) (A:Option Addr) (n c:Nat) (ls:List (List Nd)):Prop where
 len:ls.length=n
 few:n<=5864062014805
 mem:0<n->∃ b off,A=I ⟨b,off,Z⟩/\R b/\∀ k,k<n->∃ A' n' c',w.cell? ⟨b,off+k,Z⟩=I (Y A' n' c')/\bA R w A' n' c' (ls.getD k [])
theorem fD.keep {R R':Nat->Prop} {w w':World} {A:Option Addr} {n c:Nat} {ls:List (List Nd)} (h:fD R w A n c ls) (hR:∀ b,R b->R' b/\∀ o,w'.cell? ⟨b,o,Z⟩=w.cell? ⟨b,o,Z⟩):fD R' w' A n c ls:=by
 refine ⟨h.len,h.few,fun hn => ?_⟩;obtain ⟨b,off,e,hb,hk⟩:=h.mem hn;refine ⟨b,off,e,(hR b hb).1,fun k hkn => ?_⟩;obtain ⟨A',n',c',hc,ht⟩:=hk k hkn;exact ⟨A',n',c',by rw [(hR b hb).2];exact hc,ht.keep hR⟩
def eJ (S:Nat->Prop) (w:World):List Value->List (List Nd)->Prop
 | [],[]=>True
 | x::xs,l::ls=>(∃ A n c,x=Y A n c/\bA S w A n c l)/\eJ S w xs ls
 | _,_=>False
theorem eJ.keep {S S':Nat->Prop} {w w':World} (hS:∀ b,S b->S' b/\∀ o,w'.cell? ⟨b,o,Z⟩=w.cell? ⟨b,o,Z⟩) : ∀ {xs:List Value} {ls:List (List Nd)},eJ S w xs ls->eJ S' w' xs ls
 | [],[],_=>trivial
 | [],_::_,h=>h.elim
 | _::_,[],h=>h.elim
 | x::xs,l::ls,h=>by
  obtain ⟨⟨A,n,c,e,ht⟩,h2⟩:=h;exact ⟨⟨A,n,c,e,ht.keep hS⟩,h2.keep hS⟩
theorem eJ.add {S:Nat->Prop} {w:World} {A:Option Addr} {n c:Nat} {m:List Nd} (ht:bA S w A n c m) : ∀ {xs:List Value} {ls:List (List Nd)},eJ S w xs ls->eJ S w (xs++[Y A n c]) (ls++[m])
 | [],[],_=>⟨⟨A,n,c,rfl,ht⟩,trivial⟩
 | [],_::_,h=>h.elim
 | _::_,[],h=>h.elim
 | _::_,_::_,h=>⟨h.1,h.2.add ht⟩
theorem eJ.len {S:Nat->Prop} {w:World} : ∀ {xs:List Value} {ls:List (List Nd)},eJ S w xs ls->xs.length=ls.length
 | [],[],_=>rfl
 | [],_::_,h=>h.elim
 | _::_,[],h=>h.elim
 | x::xs,l::ls,h=>by simp [eJ.len h.2]
theorem eJ.at_ {S:Nat->Prop} {w:World} : ∀ {xs:List Value} {ls:List (List Nd)} (k:Nat),eJ S w xs ls->k<ls.length->∃ A n c,xs[k]? = I (Y A n c)/\bA S w A n c (ls.getD k [])
 | [],[],_,_,hk=>absurd hk (by simp)
 | [],_::_,_,h,_=>h.elim
 | _::_,[],_,h,_=>h.elim
 | x::xs,l::ls,0,h,_=>by
  obtain ⟨⟨A,n,c,e,ht⟩,_⟩:=h;exact ⟨A,n,c,by simp [e],ht⟩
 | x::xs,l::ls,k+1,h,hk=>by
  obtain ⟨A,n,c,e,ht⟩:=eJ.at_ k h.2 (by simpa using hk);exact ⟨A,n,c,by simpa using e,by simpa using ht⟩
theorem IY {w:World} {base n c:Nat} {A:Option Addr} {xs:List Value} {ls:List (List Nd)} {S:Nat->Prop} (h:w.ownsRow base 28 1 (Y A n c) n xs) (hn:n=ls.length) (hf:n<=5864062014805) (hr:eJ S w xs ls) (hS:∀ b,S b->b<w.heap.size):fD (· < w.heap.size) w A n c ls:=by
 refine ⟨hn.symm,hf,fun hpos => ?_⟩;have h0:=h;obtain ⟨_,hcase⟩:=h;rcases hcase with ⟨_,h2⟩ | ⟨g,cap',cur,hv,hg,hh,_⟩
 · omega
 injection hv with e1 e2 e3;subst e1;refine ⟨g,0,rfl,(aE h0 rfl).2.1,fun k hk => ?_⟩;obtain ⟨A',n',c',hx,ht⟩:=hr.at_ k aA;refine ⟨A',n',c',?_,ht.keep fun b hb=>⟨hS b hb,fun _=>rfl⟩⟩;rw [Nat.zero_add,h0.cellAt k aA];exact hx
def LW (B:Nat) (w:World) (v:Value) (b:Nat):Prop:=B<=b/\b<w.heap.size/\v.ownBlock ≠ I b
theorem oW {w:World} {base n c:Nat} {A:Option Addr} {xs:List Value} {ls:List (List Nd)} {S R:Nat->Prop} (h:w.ownsRow base 28 1 (Y A n c) n xs) (hn:n=ls.length) (hf:n<=5864062014805) (hr:eJ S w xs ls) (hS:∀ b,S b->R b) (hv:∀ g,(Value.slice A n c).ownBlock=I g->R g):fD R w A n c ls:=by
 refine ⟨hn.symm,hf,fun hpos => ?_⟩;have h0:=h;obtain ⟨_,hcase⟩:=h;rcases hcase with ⟨_,h2⟩ | ⟨g,cap',cur,hv2,hg,hh,_⟩
 · omega
 injection hv2 with e1 e2 e3;subst e1;refine ⟨g,0,rfl,hv g rfl,fun k hk => ?_⟩;obtain ⟨A',n',c',hx,ht⟩:=hr.at_ k aA;refine ⟨A',n',c',?_,ht.keep fun b hb=>⟨hS b hb,fun _=>rfl⟩⟩;rw [Nat.zero_add,h0.cellAt k aA];exact hx
end
end Go.Proofs.YtjllmblbbgojbaaGreat
