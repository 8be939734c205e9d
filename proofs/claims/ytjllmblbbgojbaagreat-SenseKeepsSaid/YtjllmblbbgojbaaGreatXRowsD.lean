/- Merged: Rights, Deeps, PutG, RowsD. -/
import Derived.Test.YtjllmblbbgojbaaGreatXRegist
import Derived.Test.YtjllmblbbgojbaaGreatXErr18
namespace Go.Proofs.YtjllmblbbgojbaaGreat
set_option linter.unusedVariables false
set_option linter.unusedSimpArgs false
open Go.RowKit
open Go.Value renaming int → O, slice → Y
open Go.IntKind renaming i64 → X
open Option renaming none → Z, some → I
section
open Go.Lib renaming hid->aB
set_option maxHeartbeats 4000000
set_option maxRecDepth 100000
theorem uE {b:Bk} {i:Nat} {x:En} {r:List En}:cR b i (x::r)=if cO b i x ≠ 0 then cO b i x else cR b (i+1) r:=rfl
theorem IK {w:World} {v:bN} {b:Bk} (hb:bV w v b) :
 Calls Tryz.prog 31 #[.agg #[O X b.vars,Y v.Ao v.no v.co,Y v.Ae v.ne v.ce,O X b.nat,Y v.Ap v.np v.cp]] w (iK (cT b) w):=by
 have hlen:=hb.entries.len;have hefew:=hb.entries.few;have HCHK:=aB (fun (w':World) (h:Below w.heap.size w w')=>GJ hb.vars (hb.orders.below h));have HEN:=aB (fun (w':World) (h:Below w.heap.size w w')=>hb.entries.below h);have HENT:=aB (fun (w':World) (i:Nat) (ev:eZ) (x:En) (h:Below w.heap.size w w') (h1:i<=b.entries.length) (h2:tU w' ev x)=>B6 (hb.below h) (i:Int) aA h2);have HREG:=aB (fun (w':World) (h:Below w.heap.size w w')=>sW (hb.below h));have HB0:=aB (aP w (.cells #[O X b.vars,Y v.Ao v.no v.co,Y v.Ae v.ne v.ce,O X b.nat,Y v.Ap v.np v.cp] 26));have HK0:=aB (aS.new w 26 #[O X b.vars,Y v.Ao v.no v.co,Y v.Ae v.ne v.ce,O X b.nat,Y v.Ap v.np v.cp]);have HR0:Hid (cT b=if (nV b.vars b.orders).1 ≠ 0 then (nV b.vars b.orders).1
 else if 64<b.entries.length then 5
 else if cR b 0 b.entries ≠ 0 then cR b 0 b.entries
 else if DO b then 0 else 22):=aB rfl
 generalize cT b=res at *;generalize (nV b.vars b.orders).1=ck at *;rw[hlen] at HR0 HENT;have HLN:=aB hlen;obtain⟨Ao,no,co,Ae,ne,ce,Ap,np,cp⟩:=v;simp only at HCHK HEN HENT HREG HB0 HK0 HR0 HLN hefew ⊢;clear hb hlen;generalize b.vars=bv at *;generalize b.nat=bn at *;by_cases h1:ck=0;case neg =>
  rw[if_pos h1] at HR0;have d1:(ck != 0)=true:=by simpa using h1
  clear h1;go_in;go_wp2_with fail;refine (HCHK.o _ HB0.o).mono ?_;rintro e w2 ⟨rfl,hb2⟩;have HB2:=dA HB0 hb2;clear hb2;go_wp2_with fail;go_ret;rw[HR0.o];exact⟨rfl,HB2.o⟩
 subst h1;rw[if_neg aD] at HR0;by_cases h2:64<ne
 · rw[if_pos h2] at HR0;have d2:decide ((ne:Int)>64)=true:=decide_eq_true aA;clear h2;go_in;go_wp2_with fail;refine (HCHK.o _ HB0.o).mono ?_;rintro e w2 ⟨rfl,hb2⟩;have HB2:=dA HB0 hb2;have zk2:=aS.cell (aS.below HK0.o hb2 aD);clear hb2;go_wp2_with fail;go_ret;rw[HR0.o];exact⟨rfl,HB2.o⟩
 rw[if_neg h2] at HR0;have d2:decide ((ne:Int)>64)=false:=decide_eq_false aA;clear h2;go_in;go_wp2_with fail;refine (HCHK.o _ HB0.o).mono ?_;rintro e w2 ⟨rfl,hb2⟩;have HB2:=dA HB0 hb2;have HK2:=aB (aS.below HK0.o hb2 aD);have zk2:=aS.cell HK2.o;clear hb2;go_wp2_with fail;clear zk2;go_loopw [22] (fun iv wr=>∃i:Nat,iv=O X (i:Int)/\i<=ne/\Hid (cR b i (b.entries.drop i)=cR b 0 b.entries)/\Hid (aS wr w.heap.size 26 #[O X bv,Y Ao no co,Y Ae ne ce,O X bn,Y Ap np cp])/\Hid (Below w.heap.size w wr)) (fun i _=>ne-(intOf i).toNat)
 case atStart=>exact⟨0,rfl,by omega,aB rfl,HK2,HB2⟩
 case round =>
  obtain⟨i,rfl,hi,hes,hbk,hbw⟩:=hrel;by_cases hlt:i<ne;rotate_left
  · have hib:decide ((i:Int)<(ne:Int))=false:=decide_eq_false aA;have hq:=hes.o;rw[List.drop_of_length_le (by rw[HLN.o];omega)] at hq;have HRF:Hid (res=if DO b then 0 else 22):=aB (by rw[HR0.o,<-hq];rfl);have HC:=aB (HREG.o wr hbw.o);have zk:=aS.cell hbk.o;generalize DO b=rb at *;clear hq;cases rb with
    | true =>
     rw[if_pos rfl] at HRF;go_wp2_with fail;refine (HC.o).mono ?_;rintro e w4 ⟨rfl,hb4⟩;have HB4:=dA hbw hb4;clear hb4 zk;go_wp2_with fail;go_ret;rw[HRF.o];exact⟨rfl,HB4.o⟩
    | false =>
     rw[if_neg aD] at HRF;go_wp2_with fail;refine (HC.o).mono ?_;rintro e w4 ⟨rfl,hb4⟩;have HB4:=dA hbw hb4;clear hb4 zk;go_wp2_with fail;go_ret;rw[HRF.o];exact⟨rfl,HB4.o⟩
  have hib:decide ((i:Int)<(ne:Int))=true:=decide_eq_true aA;obtain⟨be,oe,rfl,hbe,ev,hc0,hc1,hc2,hc3,hc4,hc5,hc6,hec⟩:=(HEN.o wr hbw.o).at_ hlt;have hil:i<b.entries.length:=by rw[HLN.o];exact hlt
  have hq:=hes.o;rw[List.drop_eq_getElem_cons hil,show b.entries[i]=b.entries.getD i default from by rw[List.getD_eq_getElem?_getD,List.getElem?_eq_getElem hil];rfl,uE] at hq;generalize b.entries.getD i default=x at *;have HBa:=aB (hbw.o.trans ((aP wr (.cells #[O X x.kind,Y ev.As ev.ns ev.cs,Y ev.Ap ev.np ev.cp,Y ev.Ai ev.ni ev.ci,Y ev.Ac ev.nc ev.cc,Y ev.At ev.nt ev.ct,Y ev.Ab ev.nb ev.cb] 68)).mono hbw.o.size));have HKa:=aB (hbk.o.alloc (.cells #[O X x.kind,Y ev.As ev.ns ev.cs,Y ev.Ap ev.np ev.cp,Y ev.Ai ev.ni ev.ci,Y ev.Ac ev.nc ev.cc,Y ev.At ev.nt ev.ct,Y ev.Ab ev.nb ev.cb] 68));have HC:=aB (HENT.o _ i ev x HBa.o aA (hec.below (aP wr (.cells #[O X x.kind,Y ev.As ev.ns ev.cs,Y ev.Ap ev.np ev.cp,Y ev.Ai ev.ni ev.ci,Y ev.Ac ev.nc ev.cc,Y ev.At ev.nt ev.ct,Y ev.Ab ev.nb ev.cb] 68))));generalize x.kind=kd at *;generalize cO b i x=ee at *;have zk:=aS.cell hbk.o;have hbl:=hbk.o.lt;obtain⟨As,ns,cs,Ap2,np2,cp2,Ai,ni,ci,Ac,nc,cc,At,nt,ct,Ab,nb,cb⟩:=ev;simp only at hc1 hc2 hc3 hc4 hc5 hc6 HBa HKa HC;clear hec;by_cases h3:ee=0
  · subst h3;rw[if_neg aD] at hq;have HQ:=aB hq;clear hq;go_wp2_with fail;refine (HC.o).mono ?_;rintro e w4 ⟨rfl,hb4⟩;have HB4:=dA HBa hb4;have HK4:=gK HKa hb4;clear hb4 zk;go_wp2_with fail;go_roundw
    case rel=>exact⟨i+1,by go_num,by omega,HQ,HK4,HB4⟩
    case measure=>simp[intOf];omega
  rw[if_pos h3] at hq;have HRF:Hid (res=ee):=aB (by rw[HR0.o,<-hq,if_pos h3]);have d3:(ee != 0)=true:=by simpa using h3
  clear hq h3;go_wp2_with fail;refine (HC.o).mono ?_;rintro e w4 ⟨rfl,hb4⟩;have HB4:=dA HBa hb4;clear hb4 zk;go_wp2_with fail;go_ret;rw[HRF.o];exact⟨rfl,HB4.o⟩
theorem zM {w:World} {v:bN} {b:Bk} (hb:bV w v b) (free:Int) {A:Option Addr} {n c:Nat} {l:List Nd} (ht:bB w A n c l) :
 Calls Tryz.prog 17 #[.agg #[O X b.vars,Y v.Ao v.no v.co,Y v.Ae v.ne v.ce,O X b.nat,Y v.Ap v.np v.cp],O X free,Y A n c] w (iK (fT b free l) w):=by
 have hlen:=hb.entries.len;have HRT:=aB (fun (w':World) (h:Below w.heap.size w w')=>IK (hb.below h));have HRW:=aB (fun (w':World) (h:Below w.heap.size w w')=>x9 (hb.below h) (b.entries.length:Int) (-1) aA (ht.below h) free);have HB0:=aB (aP w (.cells #[O X b.vars,Y v.Ao v.no v.co,Y v.Ae v.ne v.ce,O X b.nat,Y v.Ap v.np v.cp] 26));have HK0:=aB (aS.new w 26 #[O X b.vars,Y v.Ao v.no v.co,Y v.Ae v.ne v.ce,O X b.nat,Y v.Ap v.np v.cp]);have HR0:Hid (fT b free l=if cT b ≠ 0 then cT b else if free<0 then 1 else fM b b.entries.length (-1) l free):=aB rfl;generalize fT b free l=res at *;generalize cT b=re at *;generalize fM b b.entries.length (-1) l free=ro at *;rw[hlen] at HRW;obtain⟨Ao,no,co,Ae,ne,ce,Ap,np,cp⟩:=v;simp only at HRT HRW HB0 HK0 ⊢;clear hb ht hlen;generalize b.vars=bv at *;generalize b.nat=bn at *;by_cases h1:re=0;case neg =>
  rw[if_pos h1] at HR0;have d1:(re != 0)=true:=by simpa using h1
  clear h1;go_in;go_wp2_with fail;refine (HRT.o _ HB0.o).mono ?_;rintro e w2 ⟨rfl,hb2⟩;have HB2:=dA HB0 hb2;clear hb2;go_wp2_with fail;go_ret;rw[HR0.o];exact⟨rfl,HB2.o⟩
 subst h1;rw[if_neg aD] at HR0;by_cases h2:free<0
 · rw[if_pos h2] at HR0;have d2:decide (free<0)=true:=decide_eq_true h2;clear h2;go_in;go_wp2_with fail;refine (HRT.o _ HB0.o).mono ?_;rintro e w2 ⟨rfl,hb2⟩;have HB2:=dA HB0 hb2;clear hb2;go_wp2_with fail;go_ret;rw[HR0.o];exact⟨rfl,HB2.o⟩
 rw[if_neg h2] at HR0;have d2:decide (free<0)=false:=decide_eq_false h2;clear h2;go_in;go_wp2_with fail;refine (HRT.o _ HB0.o).mono ?_;rintro e w2 ⟨rfl,hb2⟩;have HB2:=dA HB0 hb2;have zk2:=aS.cell (aS.below HK0.o hb2 aD);clear hb2;go_wp2_with fail;refine (HRW.o _ HB2.o).mono ?_;rintro e w3 ⟨rfl,hb3⟩;have HB3:=dA HB2 hb3;clear hb3 zk2;go_wp2_with fail;go_ret;rw[HR0.o];exact⟨rfl,HB3.o⟩

end
section
theorem PK {v:Int} (h0:0<=v) (h1:v<=1048576):eE ⟨1,v,0⟩=true:=by
 simp[eE,bW];omega
def pz (x a:Int):Bool:=decide (max 0 0<=x-a)
def m7:Bk:=⟨0,[],[⟨1,[⟨2,1,1⟩,⟨3,0,0⟩],[],[],[⟨[],[]⟩,⟨[[⟨9,0,0⟩]],[]⟩],[],[]⟩],0,[]⟩
def OP (l:List Nd):Array Value:=(fS l).toArray
theorem sK {w:World} {g:Nat} {l:List Nd} {n c:Nat} (h:aS w g 40 (OP l)) (hl:l.length=n) (hc:n<=c) (hf:n<=5864062014805):bB w (I ⟨g,0,Z⟩) n c l:=by
 refine⟨hl,hc,hf,(fun e=>by cases e),fun hn=>⟨g,0,rfl,h.lt,fun k hk => ?_⟩⟩;obtain⟨h1,h2,h3⟩:=j4 l k hk;have hcell:=h.cell;rw[Nat.zero_add,hcell,hcell,hcell];simp only[OP,List.getElem?_toArray];exact⟨h1,h2,h3⟩
theorem bR.termV {w:World} {base:Nat} {A:Option Addr} {n c:Nat} {l:List Nd} (h:bR w base (Y A n c) l) (hl:l.length<=5864062014805):bB w A n c l:=by
 obtain⟨A',n',c',e,ht⟩:=bR.termS h hl;injection e with e1 e2 e3;subst e1 e2 e3;exact ht.keep fun b hb=>⟨(aR h hb).2.1,fun _=>rfl⟩
theorem oB {w:World} {g:Nat} {t:TypeId} {cs:Array Value} (h:g=w.heap.size):aS (w.alloc (.cells cs t)) g t cs:=by
 subst h;exact aS.new _ _ _
theorem dO.nil (w:World):dO w Z 0 0 []:=⟨rfl,by decide,fun h=>absurd h aE⟩
theorem G6 {w:World} {g1 g2 g3 g4 g5:Nat} (h1:aS w g1 40 #[O X 2,O X 1,O X 1,O X 3,O X 0,O X 0]) (h2:aS w g2 40 #[O X 9,O X 0,O X 0]) (h3:aS w g3 28 #[Y (I ⟨g2,0,Z⟩) 1 1])
 (h4:aS w g4 71 #[Y Z 0 0,Y Z 0 0,Y (I ⟨g3,0,Z⟩) 1 1,Y Z 0 0])
 (h5:aS w g5 68 #[O X 1,Y (I ⟨g1,0,Z⟩) 2 2,Y Z 0 0,Y Z 0 0,Y (I ⟨g4,0,Z⟩) 2 2,Y Z 0 0,Y Z 0 0]):bV w ⟨Z,0,0,I ⟨g5,0,Z⟩,1,1,Z,0,0⟩ m7:=by
 have e2:bB w (I ⟨g1,0,Z⟩) 2 2 [⟨2,1,1⟩,⟨3,0,0⟩]:=sK (l:=[⟨2,1,1⟩,⟨3,0,0⟩]) h1 rfl aE aE;have e3:bB w (I ⟨g2,0,Z⟩) 1 1 [⟨9,0,0⟩]:=sK (l:=[⟨9,0,0⟩]) h2 rfl aE aE;have e4:dO w (I ⟨g3,0,Z⟩) 1 1 [[⟨9,0,0⟩]]:=⟨rfl,by decide,fun _=>⟨g3,0,rfl,h3.lt,fun k hk=>by
  obtain rfl:k=0:=aA;exact⟨I ⟨g2,0,Z⟩,1,1,h3.cell 0,e3⟩⟩⟩
 have e5:lI w (I ⟨g4,0,Z⟩) 2 2 [⟨[],[]⟩,⟨[[⟨9,0,0⟩]],[]⟩]:=⟨rfl,by decide,fun _=>⟨g4,0,rfl,h4.lt,fun k hk=>by
  have hk2:k=0\/k=1:=aA;rcases hk2 with rfl | rfl
  · exact⟨Z,0,0,Z,0,0,h4.cell 0,h4.cell 1,dO.nil w,dO.nil w⟩
  exact⟨I ⟨g3,0,Z⟩,1,1,Z,0,0,h4.cell 2,h4.cell 3,e4,dO.nil w⟩⟩⟩
 have e6:rP w (I ⟨g5,0,Z⟩) 1 1 m7.entries:=⟨rfl,by decide,fun _=>⟨g5,0,rfl,h5.lt,fun k hk=>by
  obtain rfl:k=0:=aA;exact⟨⟨I ⟨g1,0,Z⟩,2,2,Z,0,0,Z,0,0,I ⟨g4,0,Z⟩,2,2,Z,0,0,Z,0,0⟩,h5.cell 0,h5.cell 1,h5.cell 2,h5.cell 3,h5.cell 4,h5.cell 5,h5.cell 6,⟨e2,dO.nil w,dO.nil w,e5,bB.nil w,bB.nil w⟩⟩⟩⟩
 have e7:tZ w Z 0 0 m7.prims:=⟨rfl,by decide,fun h=>absurd h aE⟩;exact⟨bB.nil w,e6,e7,by decide,by decide,by decide,by decide⟩

end
theorem KA {Q:TT->Prop} (hq:∀n a p n1 a1 k1 q n2 a2 k2 r,n.op=6->Q (n,a,.cons p n1 a1 k1 (.cons q n2 a2 k2 r))->Q (n1,a1,k1)/\Q (n2,a2,k2)) : ∀(s:Nat) (x:TT),cL x<=s->Q x->Q (dL x).1/\∀y ∈ (dL x).2,Q y
 | 0,(n,a,k),h,_=>by rw[eI] at h;omega
 | s+1,(n,a,k),h,hb=>by
  by_cases h6:n.op=6
  · match k,h,hb with
    | .nil,_,hb=>rw[mF (by simp[cW])];exact⟨hb,fun y hy=>by cases hy⟩
    | .cons p n1 a1 k1 .nil,_,hb=>rw[mF (by simp[cW])];exact⟨hb,fun y hy=>by cases hy⟩
    | .cons p n1 a1 k1 (.cons q n2 a2 k2 r),hs,hb =>
     rw[oN h6];have h0:cL (n,a,.cons p n1 a1 k1 (.cons q n2 a2 k2 r))=1+a.length+(p.length+cL (n1,a1,k1)+(q.length+cL (n2,a2,k2)+(row r).length)):=by rw[eI,gI,gI]
     obtain⟨b1,b2⟩:=hq n a p n1 a1 k1 q n2 a2 k2 r h6 hb;obtain⟨i1,i2⟩:=KA hq s (n1,a1,k1) aA b1;refine⟨i1,fun y hy => ?_⟩;rcases List.mem_append.1 hy with hy | hy
     · exact i2 y hy
     · rw[List.mem_singleton] at hy;subst hy;exact b2
  · rw[lQ h6];exact⟨hb,fun y hy=>by cases hy⟩
def pf (zs:List Int) (v z:Int):Bool:=decide (z<=v/\100<=PJ zs (v-z))
theorem pI {p q:Int->Int->Bool} {c:Int} (h:∀v z,q v z=true->p v (z+c)=true) (pop pb:Int) : ∀(j:Nat) (a:Int) (F:Fo),oF q pop pb j a F=true->oF p pop pb j (a+c) F=true
 | _,_,.nil,hh=>by simp[oF] at hh
 | j,a,.cons pr n ats k x,hh=>by
  simp only[oF,Bool.or_eq_true,Bool.and_eq_true] at hh ⊢;have e:a+c+aQ pop pb (j:Int)=a+aQ pop pb (j:Int)+c:=aA;rw[e];rcases hh with (hh | hh) | hh
  · exact .inl (.inl ⟨hh.1,h _ _ hh.2⟩)
  · exact .inl (.inr (pI h n.op n.b 0 _ k hh))
  · exact .inr (pI h pop pb (j+1) a x hh)
theorem pJ {p q:Int->Int->Bool} {c:Int} (h:∀v z,q v z=true->p v (z+c)=true) {a:Int} {n:Nd} {k:Fo} (hh:nW p (a+c) n k=false):nW q a n k=false:=by
 cases he:nW q a n k with
 | false=>rfl
 | true =>
  have:nW p (a+c) n k=true:=by
   unfold nW at he ⊢;simp only[Bool.or_eq_true,Bool.and_eq_true] at he ⊢;rcases he with he | he
   · exact .inl ⟨he.1,h _ _ he.2⟩
   exact .inr (pI h n.op n.b 0 _ k he)
  rw[this] at hh;cases hh
theorem J4 {p:Int->Int->Bool} {pop pb:Int} : ∀{k:Fo} {j:Nat} {a:Int},oF p pop pb j a k=false->∀i y,(cW k)[i]? = I y->nW p (a+aQ pop pb ((j+i:Nat):Int)) y.1 y.2.2=false
 | .nil,_,_,_,i,y,h=>by simp[cW] at h
 | .cons pr n ats k x,j,a,hh,i,y,h=>by
  rw[fB,Bool.or_eq_false_iff] at hh;rw[mG] at h;cases i with
  | zero =>
   simp only[List.getElem?_cons_zero,Option.some.injEq] at h;subst h;exact hh.1
  | succ i =>
   have:=J4 hh.2 i y (by simpa using h);rw[show j+(i+1)=j+1+i from by omega];exact this
theorem kV {p:Int->Int->Bool} {a:Int} {n:Nd} {k:Fo} (h:nW p a n k=false):(n.op=1->p n.a a=false)/\oF p n.op n.b 0 a k=false:=by
 unfold nW at h;rw[Bool.or_eq_false_iff] at h;refine⟨fun h1 => ?_,h.2⟩;have:=h.1;rw[decide_eq_true h1,Bool.true_and] at this;exact this
def far (a v z:Int):Bool:=decide (z<=v/\v-z<a)
def BN (u:TT) (a:Int):TT:=(rH a 0 u.1 0,u.2.1,sS a 0 u.1.op u.1.b 0 0 u.2.2)
structure mW (u:TT):Prop where
 ok:eE u.1=true
 at_:iY u.1 u.2.1
 wf:Wf (ds u.1) u.2.2
theorem mW.one {u:TT} (h:mW u):Wf [false] (.cons [] u.1 u.2.1 u.2.2 .nil):=⟨rfl,h.ok,h.at_,h.wf,trivial⟩
def qW (u:TT) (a:Int) (n:Nd):TT:=if n.a=a then BN u a else if a<n.a then (⟨n.op,n.a-1,n.b⟩,[],.nil) else (n,[],.nil)
theorem xT (u:TT) (pop pb:Int) : ∀(j:Nat) (a:Int) (F:Fo),O4 F->(nB ⟨u.1,u.2.1,u.2.2⟩ 0).E pop pb j a () F=row (uP (qW u) pop pb j a F)
 | _,_,.nil,_=>rfl
 | j,a,.cons p n ats k x,h=>by
  obtain⟨h1,h2,h3⟩:=h;have e:∀s:Unit,s=():=fun _=>rfl;rw[jU,cV.E_cons,cV.E1,e ((nB ⟨u.1,u.2.1,u.2.2⟩ 0).nx () n _),e ((nB ⟨u.1,u.2.1,u.2.2⟩ 0).S1 _ () n k),xT u n.op n.b 0 _ k h2,xT u pop pb (j+1) a x h3];have key:(nB ⟨u.1,u.2.1,u.2.2⟩ 0).em () n (a+aQ pop pb j)++(ats++row (uP (qW u) n.op n.b 0 (a+aQ pop pb j) k))=aY (yP (qW u) (a+aQ pop pb j) (n,ats,k)):=by
   by_cases hv:n.op=1
   · obtain⟨rfl,rfl⟩:=h1 hv;rw[mU (x:=(n,[],.nil)) hv];simp only[nB,qW,uP,row,List.append_nil,Int.zero_add];by_cases h2:n.a=a+aQ pop pb j
     · rw[if_pos ⟨hv,h2⟩,if_pos h2,AN];rfl
     rw[if_neg (fun h=>h2 h.2),if_neg h2];by_cases h3:a+aQ pop pb j<n.a
     · rw[if_pos ⟨hv,h3⟩,if_pos h3];rfl
     rw[if_neg (fun h=>h3 h.2),if_neg h3];rfl
   rw[jG (x:=(n,ats,k)) hv];simp only[nB];rw[if_neg (fun h=>hv h.1),if_neg (fun h=>hv h.1)];rfl
  rw[key];simp[row,aY]
theorem O0 (u:TT) (a:Int):cL (BN u a)=cL u:=by
 have h:=rJ a 0 u.1.op u.1.b 0 0 u.2.2;rw[rK] at h;unfold BN cL aY;simp only[List.length_cons,List.length_append,h]
theorem D3 (u:TT) (pop pb:Int) : ∀(j:Nat) (a:Int) (F:Fo),O4 F->((row (uP (qW u) pop pb j a F)).length:Int)=(row F).length+wZ 0 pop pb j a F*((cL u:Int)-1)
 | _,_,.nil,_=>by simp[uP,row,wZ]
 | j,a,.cons p n ats k x,h=>by
  obtain⟨h1,h2,h3⟩:=h;have ix:=D3 u pop pb (j+1) a x h3;have ik:=D3 u n.op n.b 0 (a+aQ pop pb j) k h2;rw[jU,gI,gI];simp only[wZ];rw[Int.add_mul,Int.add_mul];by_cases hv:n.op=1
  · obtain⟨rfl,rfl⟩:=h1 hv;rw[mU (x:=(n,[],.nil)) hv];simp only;have e1:cL (n,[],Fo.nil)=1:=rfl;have e2:wZ 0 n.op n.b 0 (a+aQ pop pb j) .nil=0:=rfl;have e3:qW u (a+aQ pop pb j) n=if n.a=a+aQ pop pb j then BN u (a+aQ pop pb j) else if a+aQ pop pb j<n.a then (⟨n.op,n.a-1,n.b⟩,[],.nil) else (n,[],.nil):=rfl;rw[e1,e2,e3];have e4:(row Fo.nil).length=0:=rfl;rw[e4] at ik;clear e1 e2 e3 e4;by_cases h2:n.a=a+aQ pop pb j
    · rw[if_pos h2,if_pos ⟨hv,by omega⟩];have:=O0 u (a+aQ pop pb j);rw[show ((BN u (a+aQ pop pb j)).1,(BN u (a+aQ pop pb j)).2.1,(BN u (a+aQ pop pb j)).2.2)=BN u (a+aQ pop pb j) from rfl,this]
      push_cast
      omega
    have hne:¬ (n.op=1/\n.a-(a+aQ pop pb (j:Int))=0):=aA;rw[if_neg h2,if_neg hne];split
    · have e1:cL (⟨n.op,n.a-1,n.b⟩,[],Fo.nil)=1:=rfl;simp only;rw[e1]
      push_cast
      omega
    have e1:cL (n,[],Fo.nil)=1:=rfl;simp only;rw[e1]
    push_cast
    omega
  · rw[jG (x:=(n,ats,k)) hv,if_neg (fun h=>hv h.1)];simp only;rw[eI,eI]
    push_cast
    omega
theorem rI {B up:Int} (h0:0<=up) (pop pb:Int) (hp:∀j:Int,0<=aQ pop pb j/\aQ pop pb j<=4) : ∀(j:Nat) (z:Int) (F:Fo) (dl:List Bool),Wf dl F->oF (fun v z=>decide (B<=v-z)) pop pb j z F=false->B+z+4*((row F).length:Int)+up<=1048577->(jB up 0).G pop pb j z () F=true
 | _,_,.nil,_,_,_,_=>rfl
 | j,z,.cons p n ats k x,[],h,_,_=>h.elim
 | j,z,.cons p n ats k x,d::dr,h,he,hb=>by
  obtain⟨_,hok,_,hk,hx⟩:=h;rw[fB,Bool.or_eq_false_iff] at he;obtain⟨he1,he2⟩:=he;obtain⟨t1,t2⟩:=kV he1;have hl:((row (.cons p n ats k x)).length:Int)=p.length+(1+ats.length+(row k).length)+(row x).length:=by rw[gI,eI];push_cast;omega
  have ha:=hp (j:Int);rw[cV.G_cons,cV.G1,Bool.and_eq_true,Bool.and_eq_true];refine⟨⟨?_,rI h0 n.op n.b (dW hok) 0 _ k _ hk t2 aA⟩,rI h0 pop pb hp (j+1) z x _ hx he2 aA⟩;simp only[jB];split
  · rename_i hh
    have:=t1 hh.1;rw[decide_eq_false_iff_not] at this;rw[decide_eq_true_eq];omega
  · rfl
def N9 (u:TT) (M:Int):Prop:=∀a:Int,0<=a->a<=M->(jB a 0).G1 0 () u.1 u.2.2=true
theorem LB {u:TT} {M:Int} (hu:N9 u M) (pop pb:Int) (hp:∀j:Int,0<=aQ pop pb j/\aQ pop pb j<=4) : ∀(j:Nat) (a:Int) (F:Fo) (dl:List Bool),Wf dl F->0<=a->a+4*((row F).length:Int)<=M->(nB ⟨u.1,u.2.1,u.2.2⟩ 0).D pop pb j a () F
 | _,_,.nil,_,_,_,_=>trivial
 | j,a,.cons p n ats k x,[],h,_,_=>h.elim
 | j,a,.cons p n ats k x,d::dr,h,h0,hb=>by
  obtain⟨_,hok,_,hk,hx⟩:=h;have hl:((row (.cons p n ats k x)).length:Int)=p.length+(1+ats.length+(row k).length)+(row x).length:=by rw[gI,eI];push_cast;omega
  have ha:=hp (j:Int);rw[cV.D_cons,cV.D1];refine⟨⟨fun hh => ?_,LB hu n.op n.b (dW hok) 0 _ k _ hk aA aA⟩,LB hu pop pb hp (j+1) a x _ hx h0 aA⟩;rw[Int.zero_add];exact hu _ aA aA
theorem O1 {u:TT} (hu:mW u) {a:Int} (h0:0<=a) (hg:(jB a 0).G1 0 () u.1 u.2.2=true):mW (BN u a):=by
 rw[cV.G1,Bool.and_eq_true] at hg;have hs:=sT a 0 u.1 0;have hds:ds (rH a 0 u.1 0)=ds u.1:=by simp only[ds,hs.1,hs.2]
 refine⟨LD hu.ok h0 hg.1,?_,?_⟩
 · have:=hu.at_;show iY (rH a 0 u.1 0) u.2.1;unfold iY at this ⊢;rw[hs.1,hs.2];exact this
 show Wf (ds (rH a 0 u.1 0)) (sS a 0 u.1.op u.1.b 0 0 u.2.2);rw[hds];exact DL h0 u.1.op u.1.b u.2.2 (ds u.1) 0 0 hu.wf hg.2
theorem LU {u:TT} (hu:mW u) {M:Int} (hM:N9 u M) (pop pb:Int) (hp:∀j:Int,0<=aQ pop pb j/\aQ pop pb j<=4) : ∀(j:Nat) (a:Int) (F:Fo) (dl:List Bool),Wf dl F->0<=a->a+4*((row F).length:Int)<=M->Wf dl (uP (qW u) pop pb j a F)
 | _,_,.nil,_,h,_,_=>h
 | j,a,.cons p n ats k x,[],h,_,_=>h.elim
 | j,a,.cons p n ats k x,d::dr,h,h0,hb=>by
  obtain⟨hpr,hok,hat,hk,hx⟩:=h;have hl:((row (.cons p n ats k x)).length:Int)=p.length+(1+ats.length+(row k).length)+(row x).length:=by rw[gI,eI];push_cast;omega
  have ha:=hp (j:Int);have ix:=LU hu hM pop pb hp (j+1) a x dr hx h0 aA;rw[jU];have key:mW (yP (qW u) (a+aQ pop pb j) (n,ats,k)):=by
   by_cases hv:n.op=1;rotate_left
   · rw[jG (x:=(n,ats,k)) hv];exact⟨hok,hat,LU hu hM n.op n.b (dW hok) 0 _ k (ds n) hk aA aA⟩
   rw[mU (x:=(n,ats,k)) hv];unfold qW;split
   · exact O1 hu aA (hM _ aA aA)
   obtain⟨rfl,rfl⟩:=(show ats=[]/\k=.nil from (qI (.cons [] n ats k .nil) [false] ⟨rfl,hok,hat,hk,trivial⟩).1 hv);have hds:∀m:Nd,m.op=1->ds m=[]:=fun m h=>EN h;split
   rotate_left
   · exact⟨hok,hat,hk⟩
   rename_i h1 h2
   simp only at h1 h2;refine⟨?_,?_,?_⟩
   · simp only;simp only[eE,Bool.and_eq_true] at hok;have h3:=aT.1 hok.1.1;have h4:n.b=0/\n.a<=1048576:=aA;rw[hv,h4.1];exact PK aA aA
   · show iY ⟨n.op,n.a-1,n.b⟩ [];unfold iY;rw[if_neg (by simp only;omega)]
   show Wf (ds ⟨n.op,n.a-1,n.b⟩) .nil;rw[hds ⟨n.op,n.a-1,n.b⟩ hv];trivial
  exact⟨hpr,key.ok,key.at_,key.wf,ix⟩
theorem CR {B c:Int} (hB:0<=B) (pop pb:Int) : ∀(j:Nat) (z:Int) (F:Fo),0<=c->oF (fun v z=>decide (B<=v-z)) pop pb j (z+c) (sS c 0 pop pb j z F)=true->oF (fun v z=>decide (B<=v-z)) pop pb j z F=true
 | _,_,.nil,_,h=>by simp[sS,oF] at h
 | j,z,.cons p n ats k x,h0,h=>by
  have hs:=sT c 0 n (z+aQ pop pb j);simp only[sS,oF,hs.1,hs.2,Bool.or_eq_true,Bool.and_eq_true,decide_eq_true_eq] at h ⊢;have e:z+c+aQ pop pb (j:Int)=z+aQ pop pb (j:Int)+c:=aA;rw[e] at h;rcases h with (⟨h1,h2⟩ | h) | h
  · refine .inl (.inl ⟨h1,?_⟩);unfold rH at h2;split at h2
    · simp only at h2;omega
    omega
  · exact .inl (.inr (CR hB n.op n.b 0 _ k h0 h))
  · exact .inr (CR hB pop pb (j+1) z x h0 h)
theorem LT {u:TT} {B:Int} (hB:0<=B) (hu:nW (fun v z=>decide (B<=v-z)) 0 u.1 u.2.2=false) (pop pb:Int) (hp:∀j:Int,0<=aQ pop pb j) : ∀(j:Nat) (a:Int) (F:Fo),O4 F->PQ F->0<=a->oF (fun v z=>decide (B+1<=v-z)) pop pb j a F=false->oF (fun v z=>decide (B<=v-z)) pop pb j a (uP (qW u) pop pb j a F)=false
 | _,_,.nil,_,_,_,_=>rfl
 | j,a,.cons p n ats k x,hk,hb,h0,he=>by
  obtain⟨k1,k2,k3⟩:=hk;obtain⟨b1,b2,b3⟩:=hb;have ha:=hp (j:Int);rw[fB,Bool.or_eq_false_iff] at he;obtain⟨t1,t2⟩:=kV he.1;rw[jU,fB,LT hB hu pop pb hp (j+1) a x k3 b3 h0 he.2,Bool.or_false];by_cases hv:n.op=1
  · rw[mU (x:=(n,ats,k)) hv];have t3:=t1 hv;rw[decide_eq_false_iff_not] at t3;unfold qW;split
    · cases hh:nW (fun v z=>decide (B<=v-z)) (a+aQ pop pb j) (BN u (a+aQ pop pb j)).1 (BN u (a+aQ pop pb j)).2.2 with
      | false=>rfl
      | true =>
       have e1:oF (fun v z=>decide (B<=v-z)) 0 0 0 (0+(a+aQ pop pb j)) (sS (a+aQ pop pb j) 0 0 0 0 0 (.cons [] u.1 u.2.1 u.2.2 .nil))=true:=by
        rw[FJ,fB,Int.zero_add];have hz:aQ 0 0 ((0:Nat):Int)=0:=by decide
        rw[hz,Int.add_zero,Bool.or_eq_true];exact .inl hh
       have e2:=CR hB 0 0 0 0 _ aA e1;have hz:aQ 0 0 ((0:Nat):Int)=0:=by decide
       rw[fB,hz,Int.add_zero,hu] at e2;simp[oF] at e2
    split
    · simp only[nW,oF,Bool.or_false];rw[decide_eq_true hv,Bool.true_and];exact decide_eq_false (by simp only at *;omega)
    simp only[nW,oF,Bool.or_false];rw[decide_eq_true hv,Bool.true_and];exact decide_eq_false (by simp only at *;omega)
  · rw[jG (x:=(n,ats,k)) hv];simp only[nW];rw[decide_eq_false hv,Bool.false_and,Bool.false_or];exact LT hB hu n.op n.b (GA b1) 0 _ k k2 b2 aA t2
theorem tJ {u:TT} (P:Nd->Prop) (hv:∀m:Nd,m.op=1->P m) (hu:∀m ∈ aY u,P m) (pop pb:Int) : ∀(j:Nat) (a:Int) (F:Fo),(∀m ∈ row F,P m)->∀m ∈ row (uP (qW u) pop pb j a F),P m
 | _,_,.nil,_,m,hm=>by simp[uP,row] at hm
 | j,a,.cons p n ats k x,h,m,hm=>by
  have hrow:row (.cons p n ats k x)=p++(aY (n,ats,k)++row x):=by simp[row,aY]
  rw[hrow] at h;have hrow2:∀(y:TT) (F:Fo),row (.cons p y.1 y.2.1 y.2.2 F)=p++(aY y++row F):=fun y F=>by simp[row,aY]
  rw[jU,hrow2,List.mem_append,List.mem_append] at hm;rcases hm with hm | hm | hm
  · exact h m (by simp[hm])
  · by_cases h1:n.op=1
    · rw[mU (x:=(n,ats,k)) h1] at hm;unfold qW at hm;split at hm
      · have h2:=DT (up:=a+aQ pop pb j) (fr:=0) 0 0 0 0 (.cons [] u.1 u.2.1 u.2.2 .nil) m (by
         rw[FJ];simpa[row,aY,BN] using hm)
        rcases h2 with h2 | h2
        · exact hu m (by simpa[row,aY] using h2)
        exact hv m h2
      split at hm
      · simp only[aY,row,List.append_nil,List.mem_singleton] at hm;subst hm;exact hv _ h1
      simp only[aY,row,List.append_nil,List.mem_singleton] at hm;subst hm;exact hv _ h1
    rw[jG (x:=(n,ats,k)) h1] at hm;simp only[aY,List.mem_cons,List.mem_append] at hm;rcases hm with rfl | hm | hm
    · exact h _ (by simp[aY])
    · exact h m (by simp[aY,hm])
    exact tJ P hv hu n.op n.b 0 _ k (fun m hm=>h m (by simp[aY,hm])) m hm
  · exact tJ P hv hu pop pb (j+1) a x (fun m hm=>h m (by simp[hm])) m hm
structure dG (R:Nat->Prop) (w:World) (A:Option Addr) (n c:Nat) (ls:List (List Nd)):Prop where
 len:ls.length=n
 few:n<=5864062014805
 mem:0<n->∃b off,A=I ⟨b,off,Z⟩/\R b/\∀k,k<n->∃A' n' c',w.cell? ⟨b,off+k,Z⟩=I (Y A' n' c')/\bP R w A' n' c' (ls.getD k [])
theorem dG.keep {R R':Nat->Prop} {w w':World} {A:Option Addr} {n c:Nat} {ls:List (List Nd)} (h:dG R w A n c ls) (hR:∀b,R b->R' b/\∀o,w'.cell? ⟨b,o,Z⟩=w.cell? ⟨b,o,Z⟩):dG R' w' A n c ls:=by
 refine⟨h.len,h.few,fun hn => ?_⟩;obtain⟨b,off,e,hb,hk⟩:=h.mem hn;refine⟨b,off,e,(hR b hb).1,fun k hkn => ?_⟩;obtain⟨A',n',c',hc,ht⟩:=hk k hkn;exact⟨A',n',c',by rw[(hR b hb).2];exact hc,ht.keep hR⟩
def eL (S:Nat->Prop) (w:World):List Value->List (List Nd)->Prop
 | [],[]=>True
 | x::xs,l::ls=>(∃A n c,x=Y A n c/\bP S w A n c l)/\eL S w xs ls
 | _,_=>False
theorem eL.keep {S S':Nat->Prop} {w w':World} (hS:∀b,S b->S' b/\∀o,w'.cell? ⟨b,o,Z⟩=w.cell? ⟨b,o,Z⟩) : ∀{xs:List Value} {ls:List (List Nd)},eL S w xs ls->eL S' w' xs ls
 | [],[],_=>trivial
 | [],_::_,h=>h.elim
 | _::_,[],h=>h.elim
 | x::xs,l::ls,h=>by
  obtain⟨⟨A,n,c,e,ht⟩,h2⟩:=h;exact⟨⟨A,n,c,e,ht.keep hS⟩,h2.keep hS⟩
theorem eL.add {S:Nat->Prop} {w:World} {A:Option Addr} {n c:Nat} {m:List Nd} (ht:bP S w A n c m) : ∀{xs:List Value} {ls:List (List Nd)},eL S w xs ls->eL S w (xs++[Y A n c]) (ls++[m])
 | [],[],_=>⟨⟨A,n,c,rfl,ht⟩,trivial⟩
 | [],_::_,h=>h.elim
 | _::_,[],h=>h.elim
 | _::_,_::_,h=>⟨h.1,h.2.add ht⟩
theorem eL.len {S:Nat->Prop} {w:World} : ∀{xs:List Value} {ls:List (List Nd)},eL S w xs ls->xs.length=ls.length
 | [],[],_=>rfl
 | [],_::_,h=>h.elim
 | _::_,[],h=>h.elim
 | x::xs,l::ls,h=>by simp[eL.len h.2]
theorem eL.at_ {S:Nat->Prop} {w:World} : ∀{xs:List Value} {ls:List (List Nd)} (k:Nat),eL S w xs ls->k<ls.length->∃A n c,xs[k]? = I (Y A n c)/\bP S w A n c (ls.getD k [])
 | [],[],_,_,hk=>absurd hk aD
 | [],_::_,_,h,_=>h.elim
 | _::_,[],_,h,_=>h.elim
 | x::xs,l::ls,0,h,_=>by
  obtain⟨⟨A,n,c,e,ht⟩,_⟩:=h;exact⟨A,n,c,by simp[e],ht⟩
 | x::xs,l::ls,k+1,h,hk=>by
  obtain⟨A,n,c,e,ht⟩:=eL.at_ k h.2 (by simpa using hk);exact⟨A,n,c,by simpa using e,by simpa using ht⟩
theorem KU {w:World} {base n c:Nat} {A:Option Addr} {xs:List Value} {ls:List (List Nd)} {S:Nat->Prop} (h:w.ownsRow base 28 1 (Y A n c) n xs) (hn:n=ls.length) (hf:n<=5864062014805) (hr:eL S w xs ls) (hS:∀b,S b->b<w.heap.size):dG (· < w.heap.size) w A n c ls:=by
 refine⟨hn.symm,hf,fun hpos => ?_⟩;have h0:=h;obtain⟨_,hcase⟩:=h;rcases hcase with⟨_,h2⟩ | ⟨g,cap',cur,hv,hg,hh,_⟩
 · omega
 injection hv with e1 e2 e3;subst e1;refine⟨g,0,rfl,(aR h0 rfl).2.1,fun k hk => ?_⟩;obtain⟨A',n',c',hx,ht⟩:=hr.at_ k aA;refine⟨A',n',c',?_,ht.keep fun b hb=>⟨hS b hb,fun _=>rfl⟩⟩;rw[Nat.zero_add,h0.cellAt k aA];exact hx
def yQ (B:Nat) (w:World) (v:Value) (b:Nat):Prop:=B<=b/\b<w.heap.size/\v.ownBlock ≠ I b
theorem mI {w:World} {base n c:Nat} {A:Option Addr} {xs:List Value} {ls:List (List Nd)} {S R:Nat->Prop} (h:w.ownsRow base 28 1 (Y A n c) n xs) (hn:n=ls.length) (hf:n<=5864062014805) (hr:eL S w xs ls) (hS:∀b,S b->R b) (hv:∀g,(Value.slice A n c).ownBlock=I g->R g):dG R w A n c ls:=by
 refine⟨hn.symm,hf,fun hpos => ?_⟩;have h0:=h;obtain⟨_,hcase⟩:=h;rcases hcase with⟨_,h2⟩ | ⟨g,cap',cur,hv2,hg,hh,_⟩
 · omega
 injection hv2 with e1 e2 e3;subst e1;refine⟨g,0,rfl,hv g rfl,fun k hk => ?_⟩;obtain⟨A',n',c',hx,ht⟩:=hr.at_ k aA;refine⟨A',n',c',?_,ht.keep fun b hb=>⟨hS b hb,fun _=>rfl⟩⟩;rw[Nat.zero_add,h0.cellAt k aA];exact hx
end Go.Proofs.YtjllmblbbgojbaaGreat
