/- The types of families and constructors (core, book). -/
import Derived.Test.YtplecfbdchmogaaGreatDShort2
import Derived.Test.YtplecfbdchmogaaGreatDVars
import Derived.Test.YtplecfbdchmogaaGreatDRdO
import Derived.Test.YtplecfbdchmogaaGreatDWrt
import Derived.Test.YtplecfbdchmogaaGreatDSameB
import Derived.Deep.RegionHeld
namespace Go.Proofs.YtplecfbdchmogaaGreat
open Go.Value renaming int → O, slice → Y
open Go.IntKind renaming i64 → X
open Option renaming none → Z, some → J
open Go.Obj renaming cells → I
open Go.Lib (hid)
set_option maxHeartbeats 8000000
set_option maxRecDepth 100000
set_option linter.unusedVariables false
set_option linter.unusedSimpArgs false
open Go.RowKit
def nH (b:Bk) (e:Int):Int:=if cZ b ≠ 0 then cZ b else if e<0\/(b.entries.length:Int)<=e\/(aT b e).kind ≠ 1 then 1 else 0
def IL (b:Bk) (e:Int) (w:World) (en:Ending) (w':World):Prop:=Below w.heap.size w w'/\∃ (u:eQ) (kd:Int),en=.returned (.tuple #[.agg #[O X kd,Y u.As u.ns u.cs,Y u.Ap u.np u.cp,Y u.Ai u.ni u.ci,Y u.Ac u.nc u.cc,Y u.At u.nt u.ct,Y u.Ab u.nb u.cb],O X (nH b e)])/\(nH b e=0->kd=1/\p9 w' u (aT b e))
theorem jA {w:World} {g:Nat} {c0 c1 c2 c3 c4 c5 c6 z:Value} {tmps:Array Value} (h:aE w g 57 #[c0,c1,c2,c3,c4,c5,c6]) (ht:tmps.getD 4 undef=.pointer (J ⟨g,0,Z⟩)) (hz:tmps.getD 5 undef=z) :
 (results Tryz.f62 tmps).run Tryz.prog w=.ok (.tuple #[.agg #[c0,c1,c2,c3,c4,c5,c6],z]) w:=by
 have hc:=h.cell;have ht':tmps[4]?.getD undef=.pointer (J ⟨g,0,Z⟩):=by rw [<-ht];simp
 have hz':tmps[5]?.getD undef=z:=by rw [<-hz];simp
 simp [results,Tryz.results62,go_sem,ht',hz',hc]
theorem pS {w:World} {v:cP} {b:Bk} (hb:bY w v b) (e:Int) (he1 : -9223372036854775808<=e) (he2:e<=9223372036854775807) :
 Calls Tryz.prog 62 #[.agg #[O X b.vars,Y v.Ao v.no v.co,Y v.Ae v.ne v.ce,O X b.nat,Y v.Ap v.np v.cp],O X e] w (IL b e w):=by
 have hb2:=dS w (I #[O X b.vars,Y v.Ao v.no v.co,Y v.Ae v.ne v.ce,O X b.nat,Y v.Ap v.np v.cp] 26) (I #[O X 0,Y Z 0 0,Y Z 0 0,Y Z 0 0,Y Z 0 0,Y Z 0 0,Y Z 0 0] 57);have HRT:=hid (mS (hb.below hb2));have HB2:=hid hb2;have HKE:Hid (aE ((w.alloc (I #[O X b.vars,Y v.Ao v.no v.co,Y v.Ae v.ne v.ce,O X b.nat,Y v.Ap v.np v.cp] 26)).alloc (I #[O X 0,Y Z 0 0,Y Z 0 0,Y Z 0 0,Y Z 0 0,Y Z 0 0,Y Z 0 0] 57)) (w.heap.size+1) 57 #[O X 0,Y Z 0 0,Y Z 0 0,Y Z 0 0,Y Z 0 0,Y Z 0 0,Y Z 0 0]):=hid (aE.new' (by simp));have HKB:=hid ((aE.new w 26 #[O X b.vars,Y v.Ao v.no v.co,Y v.Ae v.ne v.ce,O X b.nat,Y v.Ap v.np v.cp]).alloc (I #[O X 0,Y Z 0 0,Y Z 0 0,Y Z 0 0,Y Z 0 0,Y Z 0 0,Y Z 0 0] 57));have HBK:=hid hb;obtain ⟨fz,hfz⟩ : ∃ z,z=nH b e:=⟨_,rfl⟩;have HFZ:=hid hfz;have hel:=hb.entries.len;have hef:=hb.entries.few;unfold IL;rw [<-hfz];obtain ⟨rz,hrz⟩ : ∃ z,z=cZ b:=⟨_,rfl⟩;rw [<-hrz] at HRT;have HRZ:=hid hrz;have z0:=HKB.o.cell;clear hb hb2 hfz hrz;go_in;go_wp2_with fail
 refine (HRT.o).mono ?_;rintro en w2 ⟨rfl,hb3⟩;have HBL:=cN HB2 hb3;have HBE:=hid (HKE.o.below hb3 HKE.o.lt);clear z0;have z0:=(HKB.o.below hb3 HKB.o.lt).cell;have yb:=HBE.o.cell;have yf:=HBE.o.frozen;clear hb3;by_cases hr:rz=0;rotate_left
 · have hd:(rz != 0)=true:=by simpa using hr
   have HF2:Hid (fz=rz):=hid (by rw [HFZ.o,HRZ.o];unfold nH;rw [if_pos (by rw [<-HRZ.o];exact hr)]);have HZN:=hid hr;clear hr;go_wp2_with fail
   rw [HF2.o];refine bodyPost_ret (v:=.tuple #[.agg #[O X 0,Y Z 0 0,Y Z 0 0,Y Z 0 0,Y Z 0 0,Y Z 0 0,Y Z 0 0],O X rz]) (jA (g:=w.heap.size+1) (z:=O X rz) (by have:=(((((((HBE.o.set_ 0 (O X 0)).set_ 1 (Y Z 0 0)).set_ 2 (Y Z 0 0)).set_ 3 (Y Z 0 0)).set_ 4 (Y Z 0 0)).set_ 5 (Y Z 0 0)).set_ 6 (Y Z 0 0));simpa using this) (by simp) (by simp)) rfl ⟨?_,⟨Z,0,0,Z,0,0,Z,0,0,Z,0,0,Z,0,0,Z,0,0⟩,0,rfl,fun h=>absurd h HZN.o⟩;exact HBL.o.grown (bA _ (w.heap.size+1) (O X 0) (Y Z 0 0) (Y Z 0 0) (Y Z 0 0) (Y Z 0 0) (Y Z 0 0) (Y Z 0 0)) HBL.o.size (fun b e=>by injection e with e;omega)
 have hd:(rz != 0)=false:=by rw [hr];rfl
 have HF2:Hid (fz=if e<0\/(b.entries.length:Int)<=e\/(aT b e).kind ≠ 1 then 1 else 0):=hid (by rw [HFZ.o];unfold nH;rw [if_neg (by rw [<-HRZ.o,hr];decide)]);clear hr;have HZN:Hid (¬ (1:Int)=0):=hid (by decide);by_cases h1:e<0
 · have d1:decide (e<0)=true:=decide_eq_true h1;have HF3:Hid (fz=1):=hid (by rw [HF2.o,if_pos (Or.inl h1)]);clear h1;go_wp2_with fail
   rw [HF3.o];refine bodyPost_ret (v:=.tuple #[.agg #[O X 0,Y Z 0 0,Y Z 0 0,Y Z 0 0,Y Z 0 0,Y Z 0 0,Y Z 0 0],O X 1]) (jA (g:=w.heap.size+1) (z:=O X 1) (by have:=(((((((HBE.o.set_ 0 (O X 0)).set_ 1 (Y Z 0 0)).set_ 2 (Y Z 0 0)).set_ 3 (Y Z 0 0)).set_ 4 (Y Z 0 0)).set_ 5 (Y Z 0 0)).set_ 6 (Y Z 0 0));simpa using this) (by simp) (by simp)) rfl ⟨?_,⟨Z,0,0,Z,0,0,Z,0,0,Z,0,0,Z,0,0,Z,0,0⟩,0,rfl,fun h=>absurd h HZN.o⟩;exact HBL.o.grown (bA _ (w.heap.size+1) (O X 0) (Y Z 0 0) (Y Z 0 0) (Y Z 0 0) (Y Z 0 0) (Y Z 0 0) (Y Z 0 0)) HBL.o.size (fun b e=>by injection e with e;omega)
 have d1:decide (e<0)=false:=decide_eq_false h1;obtain ⟨i,rfl⟩ : ∃ i:Nat,e=(i:Int):=⟨e.toNat,by omega⟩;clear h1;by_cases h2:v.ne<=i
 · have d2:decide ((i:Int) ≥ (v.ne:Int))=true:=decide_eq_true aA;have d3:decide ((v.ne:Int)<=(i:Int))=true:=decide_eq_true aA;have d4:decide (v.ne<=i)=true:=decide_eq_true h2;have HF3:Hid (fz=1):=hid (by rw [HF2.o,if_pos (Or.inr (Or.inl aA))]);clear h2;go_wp2_with fail
   rw [HF3.o];refine bodyPost_ret (v:=.tuple #[.agg #[O X 0,Y Z 0 0,Y Z 0 0,Y Z 0 0,Y Z 0 0,Y Z 0 0,Y Z 0 0],O X 1]) (jA (g:=w.heap.size+1) (z:=O X 1) (by have:=(((((((HBE.o.set_ 0 (O X 0)).set_ 1 (Y Z 0 0)).set_ 2 (Y Z 0 0)).set_ 3 (Y Z 0 0)).set_ 4 (Y Z 0 0)).set_ 5 (Y Z 0 0)).set_ 6 (Y Z 0 0));simpa using this) (by simp) (by simp)) rfl ⟨?_,⟨Z,0,0,Z,0,0,Z,0,0,Z,0,0,Z,0,0,Z,0,0⟩,0,rfl,fun h=>absurd h HZN.o⟩;exact HBL.o.grown (bA _ (w.heap.size+1) (O X 0) (Y Z 0 0) (Y Z 0 0) (Y Z 0 0) (Y Z 0 0) (Y Z 0 0) (Y Z 0 0)) HBL.o.size (fun b e=>by injection e with e;omega)
 have d2:decide ((i:Int) ≥ (v.ne:Int))=false:=decide_eq_false aA;have d3:decide ((v.ne:Int)<=(i:Int))=false:=decide_eq_false aA;have d4:decide (v.ne<=i)=false:=decide_eq_false h2;have hin:i<v.ne:=aA;have hin2:(i:Int)<(v.ne:Int):=aA;obtain ⟨bb,off,ea,hlb,u,c0,c1,c2,c3,c4,c5,c6,hec⟩:=HBK.o.entries.at_ hin;rw [ea] at z0 ⊢;have HEC:Hid (p9 w u (aT b (i:Int))):=hid hec;have HKD:Hid ((aT b (i:Int)).kind=(b.entries.getD i default).kind):=hid rfl;obtain ⟨kd,hkd⟩ : ∃ k,k=(b.entries.getD i default).kind:=⟨_,rfl⟩;rw [<-hkd] at c0 HKD;have k0:=(HBL.o.cell (p:=⟨bb,off+i*7,Z⟩) hlb).trans c0;have k1:=(HBL.o.cell (p:=⟨bb,off+i*7+1,Z⟩) hlb).trans c1;have k2:=(HBL.o.cell (p:=⟨bb,off+i*7+2,Z⟩) hlb).trans c2;have k3:=(HBL.o.cell (p:=⟨bb,off+i*7+3,Z⟩) hlb).trans c3;have k4:=(HBL.o.cell (p:=⟨bb,off+i*7+4,Z⟩) hlb).trans c4;have k5:=(HBL.o.cell (p:=⟨bb,off+i*7+5,Z⟩) hlb).trans c5;have k6:=(HBL.o.cell (p:=⟨bb,off+i*7+6,Z⟩) hlb).trans c6;clear hec hkd h2 ea c0 c1 c2 c3 c4 c5 c6;by_cases hk:kd=1;rotate_left
 · have d5:(kd != 1)=true:=by simpa using hk
   have HF3:Hid (fz=1):=hid (by rw [HF2.o,if_pos (Or.inr (Or.inr (by rw [HKD.o];exact hk)))]);clear hk;go_wp2_with fail
   rw [HF3.o];refine bodyPost_ret (v:=.tuple #[.agg #[O X 0,Y Z 0 0,Y Z 0 0,Y Z 0 0,Y Z 0 0,Y Z 0 0,Y Z 0 0],O X 1]) (jA (g:=w.heap.size+1) (z:=O X 1) (by have:=(((((((HBE.o.set_ 0 (O X 0)).set_ 1 (Y Z 0 0)).set_ 2 (Y Z 0 0)).set_ 3 (Y Z 0 0)).set_ 4 (Y Z 0 0)).set_ 5 (Y Z 0 0)).set_ 6 (Y Z 0 0));simpa using this) (by simp) (by simp)) rfl ⟨?_,⟨Z,0,0,Z,0,0,Z,0,0,Z,0,0,Z,0,0,Z,0,0⟩,0,rfl,fun h=>absurd h HZN.o⟩;exact HBL.o.grown (bA _ (w.heap.size+1) (O X 0) (Y Z 0 0) (Y Z 0 0) (Y Z 0 0) (Y Z 0 0) (Y Z 0 0) (Y Z 0 0)) HBL.o.size (fun b e=>by injection e with e;omega)
 have HF3:Hid (fz=0):=hid (by rw [HF2.o,if_neg (by rw [HKD.o];rintro (h | h | h);omega;omega;exact h hk)]);subst hk;go_wp2_with fail
 have hF:=bA w2 (w.heap.size+1) (O X 1) (Y u.As u.ns u.cs) (Y u.Ap u.np u.cp) (Y u.Ai u.ni u.ci) (Y u.Ac u.nc u.cc) (Y u.At u.nt u.ct) (Y u.Ab u.nb u.cb);rw [HF3.o];refine bodyPost_ret (v:=.tuple #[.agg #[O X 1,Y u.As u.ns u.cs,Y u.Ap u.np u.cp,Y u.Ai u.ni u.ci,Y u.Ac u.nc u.cc,Y u.At u.nt u.ct,Y u.Ab u.nb u.cb],O X 0]) (jA (g:=w.heap.size+1) (z:=O X 0) (by have:=(((((((HBE.o.set_ 0 (O X 1)).set_ 1 (Y u.As u.ns u.cs)).set_ 2 (Y u.Ap u.np u.cp)).set_ 3 (Y u.Ai u.ni u.ci)).set_ 4 (Y u.Ac u.nc u.cc)).set_ 5 (Y u.At u.nt u.ct)).set_ 6 (Y u.Ab u.nb u.cb));simpa using this) (by simp) (by simp)) rfl ⟨?_,u,1,rfl,fun _=>⟨rfl,?_⟩⟩
 · exact HBL.o.grown hF HBL.o.size (fun b e=>by injection e with e;omega)
 exact HEC.o.below (HBL.o.grown hF HBL.o.size (fun b e=>by injection e with e;omega))
theorem qF {P:Program} {w:World} (base:Nat) (t ty e:TypeId) (i:TypeInfo) (size c:Nat) (ht:P.underlying t=J (.slice e)) (hi:P.info? e=J i)
 (v:Value) (n:Nat) (xs:List Value) (hown:w.ownsRow base e size v n xs) :
 (Builtin.append_ #[t,t] ty #[v,Y Z 0 c]).run P w=.ok v w:=by
 rcases hown.2 with ⟨rfl,rfl⟩ | ⟨g,cap,cur,rfl,_,_,hnc,_⟩
 · simp [Builtin.append_,run_underlying ht,sizeOf,typeInfo,hi,Builtin.lenOf,Builtin.firstCells]
 simp [Builtin.append_,run_underlying ht,sizeOf,typeInfo,hi,Builtin.lenOf,Builtin.firstCells,hnc,storeCells]
theorem jF {P:Program} {o:Oper} {a:Act} {w:World} {K:Act->World->Prop} {Q:Exit->Act->World->Prop}
 (s x:Operand) (t:TypeId) (hop:o.op=Op.call { callee:=Callee.builtin Builtin.append,args:=#[s,x],argTypes:=#[t,t] })
 (base:Nat) (e:TypeId) (i:TypeInfo) (z:Value) (size bytes:Nat) (h1:P.underlying t=J (.slice e)) (h2:P.info? e=J i) (h3:i.zero=J z) (h4:i.size=size) (h5:i.bytes=bytes) (h6:z.cells.size=size) (h7:0<size)
 (B:Option Addr) (n d:Nat) (xs:List Value) (hs:a.eval s=Y B n d) (hown:w.ownsRow base e size (Y B n d) n xs)
 (A:Option Addr) (m c:Nat) (news:List Value) (hx:a.eval x=Y A m c) (hn:news.length=m*size) (hnone:A=Z->m=0) (hc:∀ ad,A=J ad->∀ j u,news[j]? = J u->w.cell? (ad.add j)=J u) (h1c:∀ u ∈ news,u.oneCell'=true)
 (b1:n+m<=maxLen) (b2:(n+m)*bytes<=140737488355328) (b3:base<=w.heap.size)
 (hK:∀ A' c' w',dQ w w' base e size (Y B n d) A' (n+m) c' (xs++news)->K (a.put o.dst (Y A' (n+m) c')) w'):Oper.wp P o a w K Q:=by
 cases A with
 | none =>
  obtain rfl:=hnone rfl;obtain rfl:news=[]:=List.eq_nil_of_length_eq_zero (by simpa using hn);have hrun:=qF (P:=P) base t o.type e i size c h1 h2 (Y B n d) n xs hown;unfold Oper.wp;simp [execOp,hop,resolve,invoke,builtin,hs,hx,hrun,Result.andThen];exact hK B d w ⟨by simpa using hown,World.grownBy.refl _ _,fun g hg=>.inl hg⟩
 | some ad=>exact cR s x t hop base e i z size bytes h1 h2 h3 h4 h5 h6 h7 (Y B n d) n xs hs hown (J ad) m c news hx hn (fun e=>by cases e) hc h1c b1 b2 b3 hK
theorem cV.append {S:Nat->Prop} {w:World} : ∀ {xs ys:List Value} {ls ms:List (List Nd)},cV S w xs ls->cV S w ys ms->cV S w (xs++ys) (ls++ms)
 | [],_,[],_,_,h2=>h2
 | [],_,_::_,_,h,_=>h.elim
 | _::_,_,[],_,h,_=>h.elim
 | _::_,_,_::_,_,h,h2=>⟨h.1,h.2.append h2⟩
theorem cE.rowsR {w:World} {A:Option Addr} {n c:Nat} {ls:List (List Nd)} (h:cE w A n c ls):cW (· < w.heap.size) w A n c ls:=⟨h.len,h.few,h.mem⟩
theorem qS {base low n m d:Nat} {W w6:World} {B A8:Option Addr} {c8:Nat} {vs xs:List Value} {ls outs:List (List Nd)} (hw:low<=base) (hbs:base<=W.heap.size) (hR:cV (dR base W (Y B n d)) W vs ls) (hx:cV (· < low) W xs outs) (ho:W.ownsRow base 28 1 (Y B n d) n vs) (hl:ls.length=n) (hm:outs.length=m) (hb:n+m<=1000000) (ha:dQ W w6 base 28 1 (Y B n d) A8 (n+m) c8 (vs++xs)):cW (· < w6.heap.size) w6 A8 (n+m) c8 (ls++outs):=by
 have hg:=ha.grown;have hs:=hg.size;have h1:cV (· < w6.heap.size) w6 vs ls:=cV.keep (fun q hq=>⟨by have:=hq.2.1;omega,fun o=>aF (hg.block q hq.2.1 (fun e=>hq.2.2 e.symm)) o⟩) hR;have h2:cV (· < w6.heap.size) w6 xs outs:=cV.keep (fun q hq=>⟨by omega,fun o=>aF (hg.block q aA (fun e=>by have:=(aC ho e.symm).1;omega)) o⟩) hx;exact pF ha.own (by rw [List.length_append,hl,hm]) aA (h1.append h2) (fun q hq=>hq) (fun g hg=>(aC ha.own hg).2.1)
def t9 (q:List Nd×Int) (f:List Nd->List Nd×Int):List Nd×Int:=if q.2 ≠ 0 then ([],q.2) else f q.1
def LP (b:Bk) (e k:Nat):List Nd×Int:=t9 (jQ [⟨9,e,0⟩] (mI (aT b e).params.length ((aT b e).ctors.getD k default).args.length++((aT b e).ctors.getD k default).outs)) fun t=>t9 (eZ 4 ((aT b e).ctors.getD k default).args t) fun t=>eZ 4 (aT b e).params t
def LS (b:Bk) (e:Nat):List Nd×Int:=t9 (eZ 4 (aT b e).indices (aT b e).sort) fun t=>eZ 4 (aT b e).params t
theorem ET {w w':World} {A:Option Addr} {n c:Nat} {ls:List (List Nd)} (h:cW (· < w.heap.size) w A n c ls) (hb:Below w.heap.size w w'):cW (· < w'.heap.size) w' A n c ls:=h.keep fun q hq=>⟨Nat.lt_of_lt_of_le hq hb.size,fun o=>hb.cell (p:=⟨q,o,Z⟩) hq⟩
theorem CW {w:World} {v:cP} {b:Bk} (hb:bY w v b) (e k:Nat) (he:e<b.entries.length) (hk:k<(aT b e).ctors.length) (hp:(aT b e).params.length<=16) (hc1:((aT b e).ctors.getD k default).args.length<=16) (hc2:((aT b e).ctors.getD k default).outs.length<=16) :
 Calls Tryz.prog 65 #[.agg #[O X b.vars,Y v.Ao v.no v.co,Y v.Ae v.ne v.ce,O X b.nat,Y v.Ap v.np v.cp],O X (e:Int),O X (k:Int)] w (jP (LP b e k) w):=by
 obtain ⟨i0,hi,hy0,hy1,hy2⟩:=info_parts wQ;have HI0:=hid hi;have HY0:=hid hy0;have HY1:=hid hy1;have HY2:=hid hy2;have hel:=hb.entries.len;have hef:=hb.entries.few;have hen:e<v.ne:=aA;have hen2:(e:Int)<(v.ne:Int):=aA;have hen3:decide ((e:Int)<(v.ne:Int))=true:=decide_eq_true hen2;have hen4:decide (e<v.ne)=true:=decide_eq_true hen;obtain ⟨bb,off,ea,hlb,u,g0,g1,g2,g3,g4,g5,g6,hec⟩:=hb.entries.at_ hen;have hx:b.entries.getD e default=aT b (e:Int):=rfl;rw [hx] at g0 hec;obtain ⟨res,hres⟩ : ∃ r,r=LP b e k:=⟨_,rfl⟩;rw [<-hres];have HRES:=hid hres;unfold LP at HRES;obtain ⟨x,hxx⟩ : ∃ x,x=aT b (e:Int):=⟨_,rfl⟩;rw [<-hxx] at g0 hec hk hp hc1 hc2 HRES;have hcl:=hec.ctors.len;have hcf:=hec.ctors.few;have hkn:k<u.nc:=aA;have hkn2:(k:Int)<(u.nc:Int):=aA;have hkn3:decide ((k:Int)<(u.nc:Int))=true:=decide_eq_true hkn2;have hkn4:decide (k<u.nc)=true:=decide_eq_true hkn;obtain ⟨bc,oc,ec,hlc,A1,n1,c1,A2,n2,c2,f0,f1,hr1,hr2⟩:=hec.ctors.both hkn;obtain ⟨c,hcc⟩ : ∃ c,c=x.ctors.getD k default:=⟨_,rfl⟩;rw [<-hcc] at hr1 hr2 hc1 hc2 HRES;obtain ⟨kd,hkd⟩ : ∃ kd,kd=x.kind:=⟨_,rfl⟩;rw [<-hkd] at g0;have hpl:=hec.params.len;have ha1:=hr1.len;have ha2:=hr2.len;have hnp:u.np<=16:=aA;have hn1:n1<=16:=aA;have hn2:n2<=16:=aA;have HPR:=hid hec.params;have HR1:=hid hr1;have HR2:=hid hr2;obtain ⟨va,hva⟩ : ∃ q,q=mI x.params.length c.args.length:=⟨_,rfl⟩;rw [<-hva] at HRES;have hv:=fun W:World=>IC (w:=W) u.np n1 aA aA;rw [show mI u.np n1=va from by rw [hva,hpl,ha1]] at hv;have hvl:va.length=u.np:=by rw [hva,jO,hpl]
 have HV:=hid hv;have HVL:=hid hvl;have HA2:=hid ha2;obtain ⟨ap,hap⟩ : ∃ q,q=jQ [⟨9,e,0⟩] (va++c.outs):=⟨_,rfl⟩;rw [<-hap] at HRES;obtain ⟨al,az⟩:=ap;have HAP:=hid hap;have hb3:Below w.heap.size w (((w.alloc (I #[O X b.vars,Y v.Ao v.no v.co,Y v.Ae v.ne v.ce,O X b.nat,Y v.Ap v.np v.cp] 26)).alloc (I #[O X kd,Y u.As u.ns u.cs,Y u.Ap u.np u.cp,Y u.Ai u.ni u.ci,Y u.Ac u.nc u.cc,Y u.At u.nt u.ct,Y u.Ab u.nb u.cb] 57)).alloc (I #[Y A1 n1 c1,Y A2 n2 c2] 66)):=((dS w _ _)).alloc (by simp;omega) _;have HB3:=hid hb3;have HB3d:=hid (cB hb3);have HK1:Hid (aE (((w.alloc (I #[O X b.vars,Y v.Ao v.no v.co,Y v.Ae v.ne v.ce,O X b.nat,Y v.Ap v.np v.cp] 26)).alloc (I #[O X kd,Y u.As u.ns u.cs,Y u.Ap u.np u.cp,Y u.Ai u.ni u.ci,Y u.Ac u.nc u.cc,Y u.At u.nt u.ct,Y u.Ab u.nb u.cb] 57)).alloc (I #[Y A1 n1 c1,Y A2 n2 c2] 66)).drew (w.heap.size+1) 57 #[O X kd,Y u.As u.ns u.cs,Y u.Ap u.np u.cp,Y u.Ai u.ni u.ci,Y u.Ac u.nc u.cc,Y u.At u.nt u.ct,Y u.Ab u.nb u.cb]):=hid (cX ((aE.new' (by simp)).alloc _));have HK2:Hid (aE (((w.alloc (I #[O X b.vars,Y v.Ao v.no v.co,Y v.Ae v.ne v.ce,O X b.nat,Y v.Ap v.np v.cp] 26)).alloc (I #[O X kd,Y u.As u.ns u.cs,Y u.Ap u.np u.cp,Y u.Ai u.ni u.ci,Y u.Ac u.nc u.cc,Y u.At u.nt u.ct,Y u.Ab u.nb u.cb] 57)).alloc (I #[Y A1 n1 c1,Y A2 n2 c2] 66)).drew (w.heap.size+1+1) 66 #[Y A1 n1 c1,Y A2 n2 c2]):=hid (cX (aE.new' (by simp)));have HS3:Hid ((((w.alloc (I #[O X b.vars,Y v.Ao v.no v.co,Y v.Ae v.ne v.ce,O X b.nat,Y v.Ap v.np v.cp] 26)).alloc (I #[O X kd,Y u.As u.ns u.cs,Y u.Ap u.np u.cp,Y u.Ai u.ni u.ci,Y u.Ac u.nc u.cc,Y u.At u.nt u.ct,Y u.Ab u.nb u.cb] 57)).alloc (I #[Y A1 n1 c1,Y A2 n2 c2] 66)).drew.heap.size=w.heap.size+1+1+1):=hid (by simp);rw [ea] at HB3 HB3d HK1 HK2 HS3 ⊢;rw [ec] at g4 HB3 HB3d HK1 HK2 HS3;clear hi hy0 hy1 hy2 hel hb hec hx hres hxx hcl hk hp hc1 hc2 hr1 hr2 hcc hkd hpl ha1 ha2 hva hv hvl hap hb3 ea ec;go_in;go_wp2_with fail
 have hv' : ∀ W:World,Calls Tryz.prog 116 #[O X (u.np:Int),O X (n1:Int)] W (fun e w'=>Below W.heap.size W w'/\∃ B d vs,e=.returned (Y B u.np d)/\w'.ownsRow W.heap.size 28 1 (Y B u.np d) u.np vs/\cV (dR W.heap.size w' (Y B u.np d)) w' vs va):=fun W=>by
  have h:=HV.o W;unfold KA at h
  rwa [HVL.o] at h
 have HVV:=hid hv';have HBA:Hid (Below w.heap.size w ((((w.alloc (I #[O X b.vars,Y v.Ao v.no v.co,Y (J ⟨bb,off,Z⟩) v.ne v.ce,O X b.nat,Y v.Ap v.np v.cp] 26)).alloc (I #[O X kd,Y u.As u.ns u.cs,Y u.Ap u.np u.cp,Y u.Ai u.ni u.ci,Y (J ⟨bc,oc,Z⟩) u.nc u.cc,Y u.At u.nt u.ct,Y u.Ab u.nb u.cb] 57)).alloc (I #[Y A1 n1 c1,Y A2 n2 c2] 66)).alloc (I #[O X 9,O X (e:Int),O X 0] 53)).drew):=hid (cB (HB3.o.alloc HB3.o.size _));have HKA1:Hid (aE ((((w.alloc (I #[O X b.vars,Y v.Ao v.no v.co,Y (J ⟨bb,off,Z⟩) v.ne v.ce,O X b.nat,Y v.Ap v.np v.cp] 26)).alloc (I #[O X kd,Y u.As u.ns u.cs,Y u.Ap u.np u.cp,Y u.Ai u.ni u.ci,Y (J ⟨bc,oc,Z⟩) u.nc u.cc,Y u.At u.nt u.ct,Y u.Ab u.nb u.cb] 57)).alloc (I #[Y A1 n1 c1,Y A2 n2 c2] 66)).alloc (I #[O X 9,O X (e:Int),O X 0] 53)).drew (w.heap.size+1) 57 _):=hid (cX (aE.alloc HK1.o _));have HKA2:Hid (aE ((((w.alloc (I #[O X b.vars,Y v.Ao v.no v.co,Y (J ⟨bb,off,Z⟩) v.ne v.ce,O X b.nat,Y v.Ap v.np v.cp] 26)).alloc (I #[O X kd,Y u.As u.ns u.cs,Y u.Ap u.np u.cp,Y u.Ai u.ni u.ci,Y (J ⟨bc,oc,Z⟩) u.nc u.cc,Y u.At u.nt u.ct,Y u.Ab u.nb u.cb] 57)).alloc (I #[Y A1 n1 c1,Y A2 n2 c2] 66)).alloc (I #[O X 9,O X (e:Int),O X 0] 53)).drew (w.heap.size+1+1) 66 _):=hid (cX (aE.alloc HK2.o _));have HKA3:Hid (aE ((((w.alloc (I #[O X b.vars,Y v.Ao v.no v.co,Y (J ⟨bb,off,Z⟩) v.ne v.ce,O X b.nat,Y v.Ap v.np v.cp] 26)).alloc (I #[O X kd,Y u.As u.ns u.cs,Y u.Ap u.np u.cp,Y u.Ai u.ni u.ci,Y (J ⟨bc,oc,Z⟩) u.nc u.cc,Y u.At u.nt u.ct,Y u.Ab u.nb u.cb] 57)).alloc (I #[Y A1 n1 c1,Y A2 n2 c2] 66)).alloc (I #[O X 9,O X (e:Int),O X 0] 53)).drew (w.heap.size+1+1+1) 53 #[O X 9,O X (e:Int),O X 0]):=hid (cX (aE.new' (by simp)));clear hv';refine wp_region_held_drew (S:=(fun w'=>w'.cell? ⟨w.heap.size+1,2,Z⟩=J (Y u.Ap u.np u.cp)/\w'.cell? ⟨w.heap.size+1+1,0,Z⟩=J (Y A1 n1 c1)/\w'.cell? ⟨w.heap.size+1+1,1,Z⟩=J (Y A2 n2 c2))) (by kernel_rfl) ?_ (fun hHeld => ?_)
 · (try dsimp only);exact ⟨HK1.o.cell 2,HK2.o.cell 0,HK2.o.cell 1⟩
 refine tq 0 hHeld ?_;try simp only [p7]
 refine tq 1 hHeld ?_;try simp only [p7]
 refine tq 3 hHeld ?_;try simp only [p7]
 refine tq 4 hHeld ?_;try simp only [p7]
 refine tq 5 hHeld ?_;try simp only [p7]
 refine tq 6 hHeld ?_;try simp only [p7]
 refine tq 7 hHeld ?_;try simp only [p7]
 refine tq 8 hHeld ?_;try simp only [p7]
 refine tq 10 hHeld ?_;try simp only [p7]
 refine tq 11 hHeld ?_;try simp only [p7]
 refine wpAnyH_ready (rs:=[2,9]) (by kernel_rfl) (by simp) ?_;refine AllReadyH.cons rfl (fun K hK => ?_) (AllReadyH.cons rfl (fun K hK => ?_) (AllReadyH.nil))
 · go_simp;refine hK.o _ _ (by exact ⟨HKA1.o.cell 2,HKA2.o.cell 0,HKA2.o.cell 1⟩) fun hHeld => ?_;clear hK K;try simp only [p7]
   refine r1 9 fun K hK => ?_;go_simp;go_at_call 116
   refine (HVV.o _).mono ?_;rintro e5 w5 ⟨hb5,B5,d5,vs5,rfl,ho5,hr5⟩;have HB5:=cN HBA hb5;have HK5a:=hid (HKA1.o.below hb5 HKA1.o.lt);have HK5b:=hid (HKA2.o.below hb5 HKA2.o.lt);have HK5n:=hid (HKA3.o.below hb5 HKA3.o.lt);have HO5:=hid ho5;have HR5:=hid hr5;have HSB5:=hid hb5.size;have HLO:=hid (HBA.o.size);clear hb5 ho5 hr5;go_wp2_with fail
   refine hK.o _ _ (by exact ⟨HK5a.o.cell 2,HK5b.o.cell 0,HK5b.o.cell 1⟩) fun hHeld => ?_;clear hK K;try simp only [p7]
   refine r1 12 fun K hK => ?_;obtain ⟨xs5,hxl,hxc,hxr,hx1⟩:=((HR2.o.rowsR).keep (R':=(· < w.heap.size)) (w':=w5) (fun q hq=>⟨hq,fun o=>HB5.o.cell (p:=⟨q,o,Z⟩) hq⟩)).values;have HXL:=hid hxl;have HXC:=hid hxc;have HXR:=hid hxr;have HX1:=hid hx1;clear hxl hxc hxr hx1;refine jF (.tmp 32) (.tmp 34) 54 rfl _ 28 i0 _ 1 24 Tryz.underlying54 HI0.o HY0.o HY1.o HY2.o rfl (by decide) B5 u.np d5 vs5 rfl HO5.o A2 n2 c2 xs5 rfl (by rw [HXL.o,Nat.mul_one]) (fun e=>by have:=HR2.o.mem;rw [e] at this;by_cases h:0<n2;(obtain ⟨b,o,e2,_⟩:=this h;cases e2);omega) HXC.o HX1.o (by unfold maxLen;omega) aA HSB5.o ?_;intro A8 c8 w6 happ;have HARG:=hid (qS HLO.o HSB5.o HR5.o HXR.o HO5.o HVL.o HA2.o aA happ);have HNUL:=hid (jU happ.own);have HB6:=hid (HB5.o.grown happ.grown HB5.o.size (fun g hg=>Nat.le_trans HLO.o ((aC HO5.o hg).1)));have HK6a:=hid (HK5a.o.grown happ.grown (iG HO5.o (Nat.lt_of_lt_of_le (by simp) (Nat.le_refl _))));have HK6b:=hid (HK5b.o.grown happ.grown (iG HO5.o (by simp)));have HK6n:=hid (HK5n.o.grown happ.grown (iG HO5.o (by simp)));clear happ;refine hK.o _ _ (by exact ⟨HK6a.o.cell 2,HK6b.o.cell 0,HK6b.o.cell 1⟩) fun hHeld => ?_;clear hK K;try simp only [p7]
   refine r1 13 fun K hK => ?_;go_simp;have hac:=oY (i8 (l:=[(⟨9,(e:Int),0⟩:Nd)]) (g:=w.heap.size+1+1+1) HK6n.o rfl (Nat.le_refl 1) (by simp)) HARG.o HNUL.o;rw [<-HAP.o] at hac;go_at_call 115
   refine hac.mono ?_;rintro e7 w7 ⟨hb7,A7,n7,c7,rfl,ht7⟩;clear hac;go_wp2_with fail
   refine hK.o _ _ (by exact ⟨(HK6a.o.below hb7 HK6a.o.lt).cell 2,(HK6b.o.below hb7 HK6b.o.lt).cell 0,(HK6b.o.below hb7 HK6b.o.lt).cell 1⟩) fun hHeld => ?_;clear hK K;try simp only [p7]
   refine tq 14 hHeld ?_;try simp only [p7]
   refine tq 15 hHeld ?_;try simp only [p7]
   refine tq 16 hHeld ?_;try simp only [p7]
   refine tq 17 hHeld ?_;try simp only [p7]
   refine tq 18 hHeld ?_;try simp only [p7]
   refine wpAnyH_done (by kernel_rfl) ?_ _;have HB7:=cN HB6 hb7;have HK7a:=hid (HK6a.o.below hb7 HK6a.o.lt);have HK7b:=hid (HK6b.o.below hb7 HK6b.o.lt);have HT7:=hid (ht7.keep (R':=fresh w w7) fun q hq=>⟨⟨Nat.le_trans HB6.o.size hq.1,hq.2⟩,fun _=>rfl⟩);have y1:=HK7b.o.cell;clear hb7 ht7;by_cases hz1:az=0;rotate_left
   · have dz:(az != 0)=true:=by simpa using hz1
     have HR9:Hid (res=([],az)):=hid (HRES.o.trans (if_pos hz1));clear hz1;go_wp2_with fail
     go_ret2;exact dN HR9.o HB7.o
   have dz:(az != 0)=false:=by rw [hz1];rfl
   have HR9:=hid (HRES.o.trans (if_neg (show ¬ (al,az).2 ≠ 0 from fun h=>h hz1)));clear hz1;have hbd:=i6 (op:=4) (HT7.o.keep (R':=(· < w7.heap.size)) fun q hq=>⟨hq.2,fun _=>rfl⟩) (HR1.o.below HB7.o).rowsR;obtain ⟨bd,hbq⟩ : ∃ q,q=eZ 4 c.args al:=⟨_,rfl⟩;rw [<-hbq] at hbd;have HR10:Hid (res=t9 bd fun t=>eZ 4 x.params t):=hid (by rw [HR9.o,hbq]);obtain ⟨bl,bz⟩:=bd;have HBD:=hid hbd;clear hbd hbq;go_wp2_with fail
   refine (HBD.o).mono ?_;rintro e8 w8 ⟨hb8,A8b,n8,c8b,rfl,ht8⟩;have HB8:=cN HB7 hb8;have HK8a:=hid (HK7a.o.below hb8 HK7a.o.lt);have HT8:=hid (ht8.keep (R':=fresh w w8) fun q hq=>⟨⟨Nat.le_trans HB7.o.size hq.1,hq.2⟩,fun _=>rfl⟩);clear hb8 ht8 y1;have y2:=HK8a.o.cell;by_cases hz2:bz=0;rotate_left
   · have dz2:(bz != 0)=true:=by simpa using hz2
     have HR11:Hid (res=([],bz)):=hid (HR10.o.trans (if_pos hz2));clear hz2;go_wp2_with fail
     go_ret2;exact dN HR11.o HB8.o
   have dz2:(bz != 0)=false:=by rw [hz2];rfl
   have HR11:Hid (res=eZ 4 x.params bl):=hid (HR10.o.trans (if_neg (show ¬ (bl,bz).2 ≠ 0 from fun h=>h hz2)));clear hz2;have hbd2:=i6 (op:=4) (HT8.o.keep (R':=(· < w8.heap.size)) fun q hq=>⟨hq.2,fun _=>rfl⟩) (HPR.o.below HB8.o).rowsR;rw [<-HR11.o] at hbd2;have HBD2:=hid hbd2;clear hbd2;obtain ⟨rl,rz⟩:=res;go_wp2_with fail
   refine (HBD2.o).mono ?_;rintro e9 w9 ⟨hb9,A9,n9,c9,rfl,ht9⟩;have HB9:=cN HB8 hb9;have HT9:=hid (ht9.keep (R':=fresh w w9) fun q hq=>⟨⟨Nat.le_trans HB8.o.size hq.1,hq.2⟩,fun _=>rfl⟩);clear hb9 ht9;go_wp2_with fail
   go_ret2;exact ⟨HB9.o,A9,n9,c9,rfl,HT9.o⟩
 go_simp;go_at_call 116
 refine (HVV.o _).mono ?_;rintro e5 w5 ⟨hb5,B5,d5,vs5,rfl,ho5,hr5⟩;have HB5:=cN HB3d hb5;have HK5a:=hid (HK1.o.below hb5 HK1.o.lt);have HK5b:=hid (HK2.o.below hb5 HK2.o.lt);have HO5:=hid ho5;have HR5:=hid hr5;have HSB5:=hid hb5.size;have HLO:=hid (HB3d.o.size);clear hb5 ho5 hr5;go_wp2_with fail
 refine hK.o _ _ (by exact ⟨HK5a.o.cell 2,HK5b.o.cell 0,HK5b.o.cell 1⟩) fun hHeld => ?_;clear hK K;try simp only [p7]
 have HBn:=hid (HB5.o.alloc HB5.o.size (I #[O X 9,O X (e:Int),O X 0] 53));have HK5a2:=hid (HK5a.o.alloc (I #[O X 9,O X (e:Int),O X 0] 53));have HK5b2:=hid (HK5b.o.alloc (I #[O X 9,O X (e:Int),O X 0] 53));have HKn:=hid (aE.new w5 53 #[O X 9,O X (e:Int),O X 0]);have HO5n:=hid (World.ownsRow.alloc HO5.o (I #[O X 9,O X (e:Int),O X 0] 53));have HR5n:Hid (cV (dR _ (w5.alloc (I #[O X 9,O X (e:Int),O X 0] 53)) (Y B5 u.np d5)) (w5.alloc (I #[O X 9,O X (e:Int),O X 0] 53)) vs5 va):=hid (cV.keep (fun q hq=>⟨⟨hq.1,by have:=hq.2.1;simp;omega,hq.2.2⟩,fun o=>(aB w5 (I #[O X 9,O X (e:Int),O X 0] 53)).cell (p:=⟨q,o,Z⟩) hq.2.1⟩) HR5.o);have HSB5n:=hid (Nat.le_trans HSB5.o (aB w5 (I #[O X 9,O X (e:Int),O X 0] 53)).size);refine wpAnyH_ready (rs:=[2,12]) (by kernel_rfl) (by simp) ?_;refine AllReadyH.cons rfl (fun K hK => ?_) (AllReadyH.cons rfl (fun K hK => ?_) (AllReadyH.nil))
 · go_simp;refine hK.o _ _ (by exact ⟨HK5a2.o.cell 2,HK5b2.o.cell 0,HK5b2.o.cell 1⟩) fun hHeld => ?_;clear hK K;try simp only [p7]
   refine r1 12 fun K hK => ?_;obtain ⟨xs5,hxl,hxc,hxr,hx1⟩:=((HR2.o.rowsR).keep (R':=(· < w.heap.size)) (w':=(w5.alloc (I #[O X 9,O X (e:Int),O X 0] 53))) (fun q hq=>⟨hq,fun o=>HBn.o.cell (p:=⟨q,o,Z⟩) hq⟩)).values;have HXL:=hid hxl;have HXC:=hid hxc;have HXR:=hid hxr;have HX1:=hid hx1;clear hxl hxc hxr hx1;refine jF (.tmp 32) (.tmp 34) 54 rfl _ 28 i0 _ 1 24 Tryz.underlying54 HI0.o HY0.o HY1.o HY2.o rfl (by decide) B5 u.np d5 vs5 rfl HO5n.o A2 n2 c2 xs5 rfl (by rw [HXL.o,Nat.mul_one]) (fun e=>by have:=HR2.o.mem;rw [e] at this;by_cases h:0<n2;(obtain ⟨b,o,e2,_⟩:=this h;cases e2);omega) HXC.o HX1.o (by unfold maxLen;omega) aA HSB5n.o ?_;intro A8 c8 w6 happ;have HARG:=hid (qS HLO.o HSB5n.o HR5n.o HXR.o HO5n.o HVL.o HA2.o aA happ);have HNUL:=hid (jU happ.own);have HB6:=hid (HBn.o.grown happ.grown HBn.o.size (fun g hg=>Nat.le_trans HLO.o ((aC HO5n.o hg).1)));have HK6a:=hid (HK5a2.o.grown happ.grown (iG HO5n.o (by simp)));have HK6b:=hid (HK5b2.o.grown happ.grown (iG HO5n.o (by simp)));have HK6n:=hid (HKn.o.grown happ.grown (fun e9=>by have:=(aC HO5.o e9.symm).2.1;omega));clear happ;refine hK.o _ _ (by exact ⟨HK6a.o.cell 2,HK6b.o.cell 0,HK6b.o.cell 1⟩) fun hHeld => ?_;clear hK K;try simp only [p7]
   refine r1 13 fun K hK => ?_;go_simp;have hac:=oY (i8 (l:=[(⟨9,(e:Int),0⟩:Nd)]) (g:=w5.heap.size) HK6n.o rfl (Nat.le_refl 1) (by simp)) HARG.o HNUL.o;rw [<-HAP.o] at hac;go_at_call 115
   refine hac.mono ?_;rintro e7 w7 ⟨hb7,A7,n7,c7,rfl,ht7⟩;clear hac;go_wp2_with fail
   refine hK.o _ _ (by exact ⟨(HK6a.o.below hb7 HK6a.o.lt).cell 2,(HK6b.o.below hb7 HK6b.o.lt).cell 0,(HK6b.o.below hb7 HK6b.o.lt).cell 1⟩) fun hHeld => ?_;clear hK K;try simp only [p7]
   refine tq 14 hHeld ?_;try simp only [p7]
   refine tq 15 hHeld ?_;try simp only [p7]
   refine tq 16 hHeld ?_;try simp only [p7]
   refine tq 17 hHeld ?_;try simp only [p7]
   refine tq 18 hHeld ?_;try simp only [p7]
   refine wpAnyH_done (by kernel_rfl) ?_ _;have HB7:=cN HB6 hb7;have HK7a:=hid (HK6a.o.below hb7 HK6a.o.lt);have HK7b:=hid (HK6b.o.below hb7 HK6b.o.lt);have HT7:=hid (ht7.keep (R':=fresh w w7) fun q hq=>⟨⟨Nat.le_trans HB6.o.size hq.1,hq.2⟩,fun _=>rfl⟩);have y1:=HK7b.o.cell;clear hb7 ht7;by_cases hz1:az=0;rotate_left
   · have dz:(az != 0)=true:=by simpa using hz1
     have HR9:Hid (res=([],az)):=hid (HRES.o.trans (if_pos hz1));clear hz1;go_wp2_with fail
     go_ret2;exact dN HR9.o HB7.o
   have dz:(az != 0)=false:=by rw [hz1];rfl
   have HR9:=hid (HRES.o.trans (if_neg (show ¬ (al,az).2 ≠ 0 from fun h=>h hz1)));clear hz1;have hbd:=i6 (op:=4) (HT7.o.keep (R':=(· < w7.heap.size)) fun q hq=>⟨hq.2,fun _=>rfl⟩) (HR1.o.below HB7.o).rowsR;obtain ⟨bd,hbq⟩ : ∃ q,q=eZ 4 c.args al:=⟨_,rfl⟩;rw [<-hbq] at hbd;have HR10:Hid (res=t9 bd fun t=>eZ 4 x.params t):=hid (by rw [HR9.o,hbq]);obtain ⟨bl,bz⟩:=bd;have HBD:=hid hbd;clear hbd hbq;go_wp2_with fail
   refine (HBD.o).mono ?_;rintro e8 w8 ⟨hb8,A8b,n8,c8b,rfl,ht8⟩;have HB8:=cN HB7 hb8;have HK8a:=hid (HK7a.o.below hb8 HK7a.o.lt);have HT8:=hid (ht8.keep (R':=fresh w w8) fun q hq=>⟨⟨Nat.le_trans HB7.o.size hq.1,hq.2⟩,fun _=>rfl⟩);clear hb8 ht8 y1;have y2:=HK8a.o.cell;by_cases hz2:bz=0;rotate_left
   · have dz2:(bz != 0)=true:=by simpa using hz2
     have HR11:Hid (res=([],bz)):=hid (HR10.o.trans (if_pos hz2));clear hz2;go_wp2_with fail
     go_ret2;exact dN HR11.o HB8.o
   have dz2:(bz != 0)=false:=by rw [hz2];rfl
   have HR11:Hid (res=eZ 4 x.params bl):=hid (HR10.o.trans (if_neg (show ¬ (bl,bz).2 ≠ 0 from fun h=>h hz2)));clear hz2;have hbd2:=i6 (op:=4) (HT8.o.keep (R':=(· < w8.heap.size)) fun q hq=>⟨hq.2,fun _=>rfl⟩) (HPR.o.below HB8.o).rowsR;rw [<-HR11.o] at hbd2;have HBD2:=hid hbd2;clear hbd2;obtain ⟨rl,rz⟩:=res;go_wp2_with fail
   refine (HBD2.o).mono ?_;rintro e9 w9 ⟨hb9,A9,n9,c9,rfl,ht9⟩;have HB9:=cN HB8 hb9;have HT9:=hid (ht9.keep (R':=fresh w w9) fun q hq=>⟨⟨Nat.le_trans HB8.o.size hq.1,hq.2⟩,fun _=>rfl⟩);clear hb9 ht9;go_wp2_with fail
   go_ret2;exact ⟨HB9.o,A9,n9,c9,rfl,HT9.o⟩
 obtain ⟨xs5,hxl,hxc,hxr,hx1⟩:=((HR2.o.rowsR).keep (R':=(· < w.heap.size)) (w':=w5) (fun q hq=>⟨hq,fun o=>HB5.o.cell (p:=⟨q,o,Z⟩) hq⟩)).values;have HXL:=hid hxl;have HXC:=hid hxc;have HXR:=hid hxr;have HX1:=hid hx1;clear hxl hxc hxr hx1;refine jF (.tmp 32) (.tmp 34) 54 rfl _ 28 i0 _ 1 24 Tryz.underlying54 HI0.o HY0.o HY1.o HY2.o rfl (by decide) B5 u.np d5 vs5 rfl HO5.o A2 n2 c2 xs5 rfl (by rw [HXL.o,Nat.mul_one]) (fun e=>by have:=HR2.o.mem;rw [e] at this;by_cases h:0<n2;(obtain ⟨b,o,e2,_⟩:=this h;cases e2);omega) HXC.o HX1.o (by unfold maxLen;omega) aA HSB5.o ?_;intro A8 c8 w6 happ;have HARG:=hid (qS HLO.o HSB5.o HR5.o HXR.o HO5.o HVL.o HA2.o aA happ);have HNUL:=hid (jU happ.own);have HB6:=hid (HB5.o.grown happ.grown HB5.o.size (fun g hg=>Nat.le_trans HLO.o ((aC HO5.o hg).1)));have HK6a:=hid (HK5a.o.grown happ.grown (iG HO5.o (by simp)));have HK6b:=hid (HK5b.o.grown happ.grown (iG HO5.o (by simp)));clear happ;refine hK.o _ _ (by exact ⟨HK6a.o.cell 2,HK6b.o.cell 0,HK6b.o.cell 1⟩) fun hHeld => ?_;clear hK K;try simp only [p7]
 have HB6n:=hid (HB6.o.alloc HB6.o.size (I #[O X 9,O X (e:Int),O X 0] 53));have HK6a2:=hid (HK6a.o.alloc (I #[O X 9,O X (e:Int),O X 0] 53));have HK6b2:=hid (HK6b.o.alloc (I #[O X 9,O X (e:Int),O X 0] 53));have HKn:=hid (aE.new w6 53 #[O X 9,O X (e:Int),O X 0]);have HARG2:=hid (ET HARG.o (aB w6 (I #[O X 9,O X (e:Int),O X 0] 53)))
 replace HARG:=HARG2
 refine r1 2 fun K hK => ?_;go_simp;refine hK.o _ _ (by exact ⟨HK6a2.o.cell 2,HK6b2.o.cell 0,HK6b2.o.cell 1⟩) fun hHeld => ?_;clear hK K;try simp only [p7]
 refine r1 13 fun K hK => ?_;go_simp;have hac:=oY (i8 (l:=[(⟨9,(e:Int),0⟩:Nd)]) (g:=w6.heap.size) HKn.o rfl (Nat.le_refl 1) (by simp)) HARG.o HNUL.o;rw [<-HAP.o] at hac;go_at_call 115
 refine hac.mono ?_;rintro e7 w7 ⟨hb7,A7,n7,c7,rfl,ht7⟩;clear hac;go_wp2_with fail
 refine hK.o _ _ (by exact ⟨(HK6a2.o.below hb7 HK6a2.o.lt).cell 2,(HK6b2.o.below hb7 HK6b2.o.lt).cell 0,(HK6b2.o.below hb7 HK6b2.o.lt).cell 1⟩) fun hHeld => ?_;clear hK K;try simp only [p7]
 refine tq 14 hHeld ?_;try simp only [p7]
 refine tq 15 hHeld ?_;try simp only [p7]
 refine tq 16 hHeld ?_;try simp only [p7]
 refine tq 17 hHeld ?_;try simp only [p7]
 refine tq 18 hHeld ?_;try simp only [p7]
 refine wpAnyH_done (by kernel_rfl) ?_ _;have HB7:=cN HB6n hb7;have HK7a:=hid (HK6a2.o.below hb7 HK6a2.o.lt);have HK7b:=hid (HK6b2.o.below hb7 HK6b2.o.lt);have HT7:=hid (ht7.keep (R':=fresh w w7) fun q hq=>⟨⟨Nat.le_trans HB6n.o.size hq.1,hq.2⟩,fun _=>rfl⟩);have y1:=HK7b.o.cell;clear hb7 ht7;by_cases hz1:az=0;rotate_left
 · have dz:(az != 0)=true:=by simpa using hz1
   have HR9:Hid (res=([],az)):=hid (HRES.o.trans (if_pos hz1));clear hz1;go_wp2_with fail
   go_ret2;exact dN HR9.o HB7.o
 have dz:(az != 0)=false:=by rw [hz1];rfl
 have HR9:=hid (HRES.o.trans (if_neg (show ¬ (al,az).2 ≠ 0 from fun h=>h hz1)));clear hz1;have hbd:=i6 (op:=4) (HT7.o.keep (R':=(· < w7.heap.size)) fun q hq=>⟨hq.2,fun _=>rfl⟩) (HR1.o.below HB7.o).rowsR;obtain ⟨bd,hbq⟩ : ∃ q,q=eZ 4 c.args al:=⟨_,rfl⟩;rw [<-hbq] at hbd;have HR10:Hid (res=t9 bd fun t=>eZ 4 x.params t):=hid (by rw [HR9.o,hbq]);obtain ⟨bl,bz⟩:=bd;have HBD:=hid hbd;clear hbd hbq;go_wp2_with fail
 refine (HBD.o).mono ?_;rintro e8 w8 ⟨hb8,A8b,n8,c8b,rfl,ht8⟩;have HB8:=cN HB7 hb8;have HK8a:=hid (HK7a.o.below hb8 HK7a.o.lt);have HT8:=hid (ht8.keep (R':=fresh w w8) fun q hq=>⟨⟨Nat.le_trans HB7.o.size hq.1,hq.2⟩,fun _=>rfl⟩);clear hb8 ht8 y1;have y2:=HK8a.o.cell;by_cases hz2:bz=0;rotate_left
 · have dz2:(bz != 0)=true:=by simpa using hz2
   have HR11:Hid (res=([],bz)):=hid (HR10.o.trans (if_pos hz2));clear hz2;go_wp2_with fail
   go_ret2;exact dN HR11.o HB8.o
 have dz2:(bz != 0)=false:=by rw [hz2];rfl
 have HR11:Hid (res=eZ 4 x.params bl):=hid (HR10.o.trans (if_neg (show ¬ (bl,bz).2 ≠ 0 from fun h=>h hz2)));clear hz2;have hbd2:=i6 (op:=4) (HT8.o.keep (R':=(· < w8.heap.size)) fun q hq=>⟨hq.2,fun _=>rfl⟩) (HPR.o.below HB8.o).rowsR;rw [<-HR11.o] at hbd2;have HBD2:=hid hbd2;clear hbd2;obtain ⟨rl,rz⟩:=res;go_wp2_with fail
 refine (HBD2.o).mono ?_;rintro e9 w9 ⟨hb9,A9,n9,c9,rfl,ht9⟩;have HB9:=cN HB8 hb9;have HT9:=hid (ht9.keep (R':=fresh w w9) fun q hq=>⟨⟨Nat.le_trans HB8.o.size hq.1,hq.2⟩,fun _=>rfl⟩);clear hb9 ht9;go_wp2_with fail
 go_ret2;exact ⟨HB9.o,A9,n9,c9,rfl,HT9.o⟩
end Go.Proofs.YtplecfbdchmogaaGreat
