/- Merged: Sizes, Size. -/
import Derived.Test.YtplecfbdchmogaaGreatDBooks
import Derived.Test.YtplecfbdchmogaaGreatDShort2
import Derived.Test.YtplecfbdchmogaaGreatDRegist
namespace Go.Proofs.YtplecfbdchmogaaGreat
open Go.Value renaming int → O, slice → Y
open Go.IntKind renaming i64 → X
open Go.Lib (hid)
set_option maxHeartbeats 4000000
set_option maxRecDepth 100000
set_option linter.unusedVariables false
set_option linter.unusedSimpArgs false
section
open Go.RowKit
def hZ (lid:Int):List (List Nd)->Int->Int
 | [],n=>n
 | l::r,n=>if n<lid then hZ lid r (n+1+(l.length:Int)) else n
theorem yF (lid:Int) : ∀ (r:List (List Nd)) (n:Int),(∀ l ∈ r,l.length<=5864062014805)->n<=hZ lid r n/\(hZ lid r n<=n\/hZ lid r n<=lid+5864062014805)
 | [],n,_=>⟨Int.le_refl _,.inl (Int.le_refl _)⟩
 | l::r,n,h=>by
  simp only [hZ];split
  · rename_i hlt
    have hl:=h l (by simp);have:=yF lid r (n+1+(l.length:Int)) (fun x hx=>h x (by simp [hx]));omega
  · exact ⟨Int.le_refl _,.inl (Int.le_refl _)⟩
theorem mX {w:World} {A:Option Addr} {n c:Nat} {ls:List (List Nd)} (ht:cE w A n c ls) (lid:Int) (hlid:lid<=1000000000000000) :
 Calls Tryz.prog 68 #[Y A n c,O X lid] w (fun e w'=>e=.returned (O X (hZ lid ls 0))/\w'=w):=by
 have hlen:=ht.len;have hfew:=ht.few;have HT:=hid (fun (k:Nat) (hk:k<n)=>ht.at_ hk);obtain ⟨res,hres⟩ : ∃ res,res=hZ lid ls 0:=⟨_,rfl⟩;rw [<-hres];have HRES:=hid hres;clear ht hres;go_in;go_wp2_with fail
 go_loopw [5,6] (fun nv iv wr=>∃ (i:Nat) (m:Int),nv=O X m/\iv=O X (i:Int)/\i<=n/\0<=m/\m<=1010000000000000/\Hid (hZ lid (ls.drop i) m=res)/\wr=w) (fun _ i _=>n-(intOf i).toNat)
 case atStart=>exact ⟨0,0,rfl,rfl,by omega,by omega,by omega,hid HRES.o.symm,rfl⟩
 case round =>
  obtain ⟨i,m,rfl,rfl,hi,hm0,hm1,hrs,rfl⟩:=hrel;by_cases hlt:i<n;rotate_left
  · have hib:decide ((i:Int)<(n:Int))=false:=decide_eq_false aA;have hrs2:=hrs.o;rw [List.drop_of_length_le aA] at hrs2;simp only [hZ] at hrs2;have HRN:=hid hrs2;clear hrs2 hrs;go_wp2_with fail
    go_ret;rw [<-HRN.o];exact ⟨rfl,rfl⟩
  have hib:decide ((i:Int)<(n:Int))=true:=decide_eq_true aA;obtain ⟨b',off,A',n',c',rfl,hb',hc0,ht'⟩:=HT.o i hlt;have hil:i<ls.length:=aA;have hlen':=ht'.len;have hfew':=ht'.few;have hrs2:=hrs.o;rw [List.drop_eq_getElem_cons hil,show ls[i]=ls.getD i [] from by rw [List.getD_eq_getElem?_getD,List.getElem?_eq_getElem hil];rfl] at hrs2;simp only [hZ] at hrs2;rw [hlen'] at hrs2;by_cases hm:m<lid
  · have hmb:decide (m<lid)=true:=decide_eq_true hm;rw [if_pos hm] at hrs2;have HRN:=hid hrs2;clear hrs2 hrs ht';go_wp2_with fail
    go_roundw
    case rel=>exact ⟨i+1,m+1+n',by go_num,by go_num,by omega,by omega,by omega,HRN,by first | trivial | rfl⟩
    case measure=>simp [intOf];omega
  have hmb:decide (m<lid)=false:=decide_eq_false hm;rw [if_neg hm] at hrs2;have HRN:=hid hrs2;clear hrs2 hrs ht';go_wp2_with fail
  go_ret;rw [<-HRN.o];exact ⟨rfl,rfl⟩
end
section
open Go.RowKit
def tZ (lid:Int):List Ct->Int->Int
 | [],n=>n
 | c::r,n=>if n<lid then tZ lid r (n+1+hZ lid c.args 0+hZ lid c.outs 0) else n
def t7 (lid:Int):List En->Int->Int
 | [],n=>n
 | x::r,n=>if n<lid then t7 lid r (tZ lid x.ctors (n+1+(x.sort.length:Int)+(x.type.length:Int)+(x.body.length:Int)+hZ lid x.params 0+hZ lid x.indices 0)) else n
def tY (lid:Int) (b:Bk):Int:=t7 lid b.entries ((b.orders.length:Int)+(b.prims.length:Int))
theorem cE.lens {w:World} {A:Option Addr} {n c:Nat} {ls:List (List Nd)} (h:cE w A n c ls) : ∀ l ∈ ls,l.length<=5864062014805:=by
 intro l hl;obtain ⟨i,hi,rfl⟩:=List.getElem_of_mem hl;obtain ⟨b,off,A',n',c',_,_,_,ht⟩:=h.at_ (k:=i) (by have:=h.len;omega);have h1:=ht.len;have h2:=ht.few;rw [List.getD_eq_getElem?_getD,List.getElem?_eq_getElem hi] at h1;simp only [Option.getD_some] at h1;omega
theorem cE.size_le {w:World} {A:Option Addr} {n c:Nat} {ls:List (List Nd)} (h:cE w A n c ls) (lid:Int) (hlid:lid<=1000000000000000):0<=hZ lid ls 0/\hZ lid ls 0<=1005864062014805:=by
 have:=yF lid ls 0 h.lens;omega
theorem nW.at_ {w:World} {A:Option Addr} {n c:Nat} {cs:List Ct} (h:nW w A n c cs) {k:Nat} (hk:k<n) : ∃ b off,A=some ⟨b,off,none⟩/\b<w.heap.size/\∃ A1 n1 c1 A2 n2 c2,w.cell? ⟨b,off+k*2,none⟩=some (Y A1 n1 c1)/\w.cell? ⟨b,off+k*2+1,none⟩=some (Y A2 n2 c2)/\cE w A1 n1 c1 (cs.getD k default).args/\cE w A2 n2 c2 (cs.getD k default).outs:=by
 obtain ⟨b,off,e,hb,hm⟩:=h.mem aA;exact ⟨b,off,e,hb,hm k hk⟩
theorem H7 {w:World} {v:cP} {b:Bk} (hb:bY w v b) (lid:Int) (hlid:lid<=1000000000000000) :
 Calls Tryz.prog 24 #[.agg #[O X b.vars,Y v.Ao v.no v.co,Y v.Ae v.ne v.ce,O X b.nat,Y v.Ap v.np v.cp],O X lid] w (fun e w'=>e=.returned (O X (tY lid b))/\Below w.heap.size w w'):=by
 have hofew:=hb.orders.few;have hpfew:=hb.prims.few;have hefew:=hb.entries.few;have HLN:=hid hb.entries.len;have HEN:=hid (fun (w':World) (h:Below w.heap.size w w')=>hb.entries.below h);have HB0:=hid (aB w (.cells #[O X b.vars,Y v.Ao v.no v.co,Y v.Ae v.ne v.ce,O X b.nat,Y v.Ap v.np v.cp] 26));have HK0:=hid (aE.new w 26 #[O X b.vars,Y v.Ao v.no v.co,Y v.Ae v.ne v.ce,O X b.nat,Y v.Ap v.np v.cp]);have HR0:Hid (tY lid b=t7 lid b.entries ((b.orders.length:Int)+(b.prims.length:Int))):=hid rfl;rw [hb.orders.len,hb.prims.len] at HR0;generalize tY lid b=res at *;obtain ⟨Ao,no,co,Ae,ne,ce,Ap,np,cp⟩:=v;simp only at HEN HB0 HK0 HR0 HLN hofew hpfew hefew ⊢;clear hb;generalize b.vars=bv at *;generalize b.nat=bn at *;generalize b.entries=es at *;clear b;go_in;go_wp2_with fail
 go_loopw [5,6] (fun nv iv wr=>∃ (i:Nat) (m:Int),nv=O X m/\iv=O X (i:Int)/\i<=ne/\0<=m/\m<=6000000000000000/\Hid (t7 lid (es.drop i) m=res)/\Hid (aE wr w.heap.size 26 #[O X bv,Y Ao no co,Y Ae ne ce,O X bn,Y Ap np cp])/\Hid (Below w.heap.size w wr)) (fun _ i _=>ne-(intOf i).toNat)
 case atStart=>exact ⟨0,(no:Int)+(np:Int),by go_num,rfl,by omega,by omega,by omega,hid HR0.o.symm,HK0,HB0⟩
 case round =>
  obtain ⟨i,m,rfl,rfl,hi,hm0,hm1,hes,hbk,hbw⟩:=hrel;have zk:=aE.cell hbk.o;have hbl:=hbk.o.lt;by_cases hlt:i<ne;case neg =>
   have hib:decide ((i:Int)<(ne:Int))=false:=decide_eq_false aA;have hq:=hes.o;rw [List.drop_of_length_le (by rw [HLN.o];omega)] at hq;simp only [t7] at hq;have HQ:=hid hq;clear hq hes;go_wp2_with fail
   go_ret;rw [<-HQ.o];exact ⟨rfl,hbw.o⟩
  have hib:decide ((i:Int)<(ne:Int))=true:=decide_eq_true aA;have hil:i<es.length:=by rw [HLN.o];exact hlt
  have hq:=hes.o;rw [List.drop_eq_getElem_cons hil,show es[i]=es.getD i default from by rw [List.getD_eq_getElem?_getD,List.getElem?_eq_getElem hil];rfl] at hq;simp only [t7] at hq;by_cases hml:m<lid;case neg =>
   have hmb:decide (m<lid)=false:=decide_eq_false hml;rw [if_neg hml] at hq;have HQ:=hid hq;clear hq hes;go_wp2_with fail
   go_ret;rw [<-HQ.o];exact ⟨rfl,hbw.o⟩
  have hmb:decide (m<lid)=true:=decide_eq_true hml;rw [if_pos hml] at hq;obtain ⟨be,oe,rfl,hbe,ev,hc0,hc1,hc2,hc3,hc4,hc5,hc6,hec⟩:=(HEN.o wr hbw.o).at_ hlt;generalize es.getD i default=x at *;have HBa:=hid (hbw.o.trans ((aB wr (.cells #[O X x.kind,Y ev.As ev.ns ev.cs,Y ev.Ap ev.np ev.cp,Y ev.Ai ev.ni ev.ci,Y ev.Ac ev.nc ev.cc,Y ev.At ev.nt ev.ct,Y ev.Ab ev.nb ev.cb] 57)).mono hbw.o.size));have HKa:=hid (hbk.o.alloc (.cells #[O X x.kind,Y ev.As ev.ns ev.cs,Y ev.Ap ev.np ev.cp,Y ev.Ai ev.ni ev.ci,Y ev.Ac ev.nc ev.cc,Y ev.At ev.nt ev.ct,Y ev.Ab ev.nb ev.cb] 57));have HEa:=hid (aE.new wr 57 #[O X x.kind,Y ev.As ev.ns ev.cs,Y ev.Ap ev.np ev.cp,Y ev.Ai ev.ni ev.ci,Y ev.Ac ev.nc ev.cc,Y ev.At ev.nt ev.ct,Y ev.Ab ev.nb ev.cb]);have hec2:=hec.below (aB wr (.cells #[O X x.kind,Y ev.As ev.ns ev.cs,Y ev.Ap ev.np ev.cp,Y ev.Ai ev.ni ev.ci,Y ev.Ac ev.nc ev.cc,Y ev.At ev.nt ev.ct,Y ev.Ab ev.nb ev.cb] 57));generalize x.kind=kd at *;obtain ⟨As,ns,cs,Ap2,np2,cp2,Ai,ni,ci,Ac,nc,cc,At,nt,ct,Ab,nb,cb⟩:=ev;simp only at hc1 hc2 hc3 hc4 hc5 hc6 HBa HKa HEa hec2;have hsl:=hec2.sort.len;have hsf:=hec2.sort.few;have htl:=hec2.type.len;have htf:=hec2.type.few;have hyl:=hec2.body.len;have hyf:=hec2.body.few;have HPR:=hid hec2.params;have HIR:=hid hec2.indices;have HCR:=hid hec2.ctors;simp only at hsl hsf htl htf hyl hyf HPR HIR HCR;clear hec hec2;rw [hsl,htl,hyl] at hq;have hcf:=HCR.o.few;have hp1:=HPR.o.size_le lid hlid;have hp2:=HIR.o.size_le lid hlid;have HSP:=hid (fun w' h=>mX (HPR.o.below (w':=w') h) lid hlid);have HSI:=hid (fun w' h=>mX (HIR.o.below (w':=w') h) lid hlid);generalize hZ lid x.params 0=P at *;generalize hZ lid x.indices 0=I at *;obtain ⟨hp10,hp11⟩:=hp1;obtain ⟨hp20,hp21⟩:=hp2;have HQ:=hid hq;have w1:IntKind.i64.wrap (m+1)=m+1:=by rw [IntKind.wrap_i64];omega
  have w2:IntKind.i64.wrap (m+1+(ns:Int))=m+1+(ns:Int):=by rw [IntKind.wrap_i64];omega
  have w3:IntKind.i64.wrap (m+1+(ns:Int)+(nt:Int))=m+1+(ns:Int)+(nt:Int):=by rw [IntKind.wrap_i64];omega
  have w4:IntKind.i64.wrap (m+1+(ns:Int)+(nt:Int)+(nb:Int))=m+1+(ns:Int)+(nt:Int)+(nb:Int):=by rw [IntKind.wrap_i64];omega
  have w5:IntKind.i64.wrap (m+1+(ns:Int)+(nt:Int)+(nb:Int)+P)=m+1+(ns:Int)+(nt:Int)+(nb:Int)+P:=by rw [IntKind.wrap_i64];omega
  have w6:IntKind.i64.wrap (m+1+(ns:Int)+(nt:Int)+(nb:Int)+P+I)=m+1+(ns:Int)+(nt:Int)+(nb:Int)+P+I:=by rw [IntKind.wrap_i64];omega
  have HWS:=hid (And.intro w1 (And.intro w2 (And.intro w3 (And.intro w4 (And.intro w5 w6)))));clear hq hes hsl htl hyl w1 w2 w3 w4 w5 w6;have HW0:Hid (Below (wr.alloc (.cells #[O X kd,Y As ns cs,Y Ap2 np2 cp2,Y Ai ni ci,Y Ac nc cc,Y At nt ct,Y Ab nb cb] 57)).heap.size (wr.alloc (.cells #[O X kd,Y As ns cs,Y Ap2 np2 cp2,Y Ai ni ci,Y Ac nc cc,Y At nt ct,Y Ab nb cb] 57)) (wr.alloc (.cells #[O X kd,Y As ns cs,Y Ap2 np2 cp2,Y Ai ni ci,Y Ac nc cc,Y At nt ct,Y Ab nb cb] 57)).drew):=hid (bB (Below.refl _ _));have zke:=aE.cell HEa.o;go_wp2_with fail
  refine wp_region_held_drew (S:=(fun w'=>w'.cell? ⟨wr.heap.size,1,none⟩=some (Y As ns cs)/\w'.cell? ⟨wr.heap.size,5,none⟩=some (Y At nt ct)/\w'.cell? ⟨wr.heap.size,6,none⟩=some (Y Ab nb cb)/\w'.cell? ⟨wr.heap.size,2,none⟩=some (Y Ap2 np2 cp2)/\w'.cell? ⟨wr.heap.size,3,none⟩=some (Y Ai ni ci)/\Below (wr.alloc (.cells #[O X kd,Y As ns cs,Y Ap2 np2 cp2,Y Ai ni ci,Y Ac nc cc,Y At nt ct,Y Ab nb cb] 57)).heap.size (wr.alloc (.cells #[O X kd,Y As ns cs,Y Ap2 np2 cp2,Y Ai ni ci,Y Ac nc cc,Y At nt ct,Y Ab nb cb] 57)) w')) (by kernel_rfl) ?_ (fun hHeld => ?_)
  · (try dsimp only);exact ⟨zke 1,zke 5,zke 6,zke 2,zke 3,HW0.o⟩
  refine tq 0 hHeld ?_;try simp only [p7]
  refine tq 1 hHeld ?_;try simp only [p7]
  refine tq 2 hHeld ?_;try simp only [p7]
  refine tq 3 hHeld ?_;try simp only [p7]
  refine tq 4 hHeld ?_;try simp only [p7]
  refine tq 5 hHeld ?_;try simp only [p7]
  refine tq 6 hHeld ?_;try simp only [p7]
  refine tq 7 hHeld ?_;try simp only [p7]
  refine tq 8 hHeld ?_;try simp only [p7]
  refine tq 9 hHeld ?_;try simp only [p7]
  refine tq 10 hHeld ?_;try simp only [p7]
  refine tq 11 hHeld ?_;try simp only [p7]
  refine tq 12 hHeld ?_;try simp only [p7]
  refine tq 13 hHeld ?_;try simp only [p7]
  refine tq 14 hHeld ?_;try simp only [p7]
  refine tq 15 hHeld ?_;try simp only [p7]
  refine tq 16 hHeld ?_;try simp only [p7]
  refine tq 19 hHeld ?_;try simp only [p7]
  refine tq 20 hHeld ?_;try simp only [p7]
  refine tq 21 hHeld ?_;try simp only [p7]
  refine r1 17 fun K hK => ?_;go_simp;refine (HSP.o _ hHeld.2.2.2.2.2).mono ?_;rintro e w3 ⟨rfl,rfl⟩;go_wp2_with fail
  refine hK.o _ _ (by exact hHeld) fun hHeld => ?_;clear hK K;try simp only [p7]
  refine tq 18 hHeld ?_;try simp only [p7]
  refine r1 22 fun K hK => ?_;go_simp;refine (HSI.o _ hHeld.2.2.2.2.2).mono ?_;rintro e w3 ⟨rfl,rfl⟩;go_wp2_with fail
  refine hK.o _ _ (by exact hHeld) fun hHeld => ?_;clear hK K;try simp only [p7]
  refine tq 23 hHeld ?_;try simp only [p7]
  refine tq 24 hHeld ?_;try simp only [p7]
  refine wpAnyH_done (by kernel_rfl) ?_ _;clear HSP HSI;have hHeld:=HW0.o;go_wp2_with fail
  obtain ⟨wo,rfl⟩ : ∃ wo:World,wo=wr:=⟨_,rfl⟩;go_loopw [5,8] (fun nv kv w2=>∃ (k:Nat) (q:Int),nv=O X q/\kv=O X (k:Int)/\k<=nc/\0<=q/\q<=6000000000000000/\Hid (tZ lid (x.ctors.drop k) q=tZ lid x.ctors (m+1+(ns:Int)+(nt:Int)+(nb:Int)+P+I))/\Hid (Below (wo.alloc (.cells #[O X kd,Y As ns cs,Y Ap2 np2 cp2,Y Ai ni ci,Y Ac nc cc,Y At nt ct,Y Ab nb cb] 57)).heap.size (wo.alloc (.cells #[O X kd,Y As ns cs,Y Ap2 np2 cp2,Y Ai ni ci,Y Ac nc cc,Y At nt ct,Y Ab nb cb] 57)) w2)) (fun _ k _=>nc-(intOf k).toNat)
  case atStart=>exact ⟨0,m+1+(ns:Int)+(nt:Int)+(nb:Int)+P+I,by first | (obtain ⟨w1,w2,w3,w4,w5,w6⟩:=HWS.o;rw [w1,w2,w3,w4,w5,w6]) | (obtain ⟨w1,w2,w3,w4,w5,w6⟩:=HWS.o;simp only [w1,w2,w3,w4,w5,w6]),rfl,by omega,by omega,by omega,hid rfl,HW0⟩
  case round =>
   obtain ⟨k,q,rfl,rfl,hk,hq0,hq1,hcs,hb2⟩:=hrel;have hb3:=hb2.o;have zk2:=aE.cell (aE.below HEa.o hb3 HEa.o.lt);have hbl2:=hb3.size;by_cases hlk:k<nc;case neg =>
    have hkb:decide ((k:Int)<(nc:Int))=false:=decide_eq_false aA;have hq:=hcs.o;rw [List.drop_of_length_le (by rw [HCR.o.len];omega)] at hq;simp only [tZ] at hq;rw [<-hq] at HQ;have hq9:=HQ.o;clear hq hcs;go_wp2_with fail
    go_roundw
    case rel=>exact ⟨i+1,q,rfl,by go_num,by omega,by omega,by omega,HQ,gJ HKa hb3,cN HBa hb3⟩
    case measure=>simp [intOf];omega
   have hkb:decide ((k:Int)<(nc:Int))=true:=decide_eq_true aA;have hq:=hcs.o;have hkl:k<x.ctors.length:=by rw [HCR.o.len];exact hlk
   rw [List.drop_eq_getElem_cons hkl,show x.ctors[k]=x.ctors.getD k default from by rw [List.getD_eq_getElem?_getD,List.getElem?_eq_getElem hkl];rfl] at hq;simp only [tZ] at hq;by_cases hql:q<lid;case neg =>
    have hqb:decide (q<lid)=false:=decide_eq_false hql;rw [if_neg hql] at hq;rw [<-hq] at HQ;clear hq hcs;go_wp2_with fail
    go_roundw
    case rel=>exact ⟨i+1,q,rfl,by go_num,by omega,by omega,by omega,HQ,gJ HKa hb3,cN HBa hb3⟩
    case measure=>simp [intOf];omega
   have hqb:decide (q<lid)=true:=decide_eq_true hql;rw [if_pos hql] at hq;obtain ⟨bc,oc,rfl,hbc,A1,n1,c1,A2,n2,c2,hk1,hk2,hr1,hr2⟩:=(HCR.o.below hb3).at_ hlk;have hp1:=hr1.size_le lid hlid;have hp2:=hr2.size_le lid hlid;have HS1:=hid (fun w' h=>mX (hr1.below (w':=w') h) lid hlid);have HS2:=hid (fun w' h=>mX (hr2.below (w':=w') h) lid hlid);generalize x.ctors.getD k default=ct2 at *;generalize hZ lid ct2.args 0=P1 at *;generalize hZ lid ct2.outs 0=I1 at *;obtain ⟨hp10,hp11⟩:=hp1;obtain ⟨hp20,hp21⟩:=hp2;have y1:IntKind.i64.wrap (q+1)=q+1:=by rw [IntKind.wrap_i64];omega
   have y2:IntKind.i64.wrap (q+1+P1)=q+1+P1:=by rw [IntKind.wrap_i64];omega
   have y3:IntKind.i64.wrap (q+1+P1+I1)=q+1+P1+I1:=by rw [IntKind.wrap_i64];omega
   have HWT:=hid (And.intro y1 (And.intro y2 y3));have HC2:=hid hq;have zk4:=zk2 4;have HD2:=hid (bB hb3);have HD3:Hid (Below wr.heap.size wr wr.drew):=hid (bB (Below.refl _ _));clear hq hcs y1 y2 y3 hr1 hr2;go_wp2_with fail
   refine wp_region_held_drew (S:=(fun w'=>w'.cell? ⟨wo.heap.size,4,none⟩=some (Y (some ⟨bc,oc,none⟩) nc cc)/\w'.cell? ⟨bc,oc+k*2,none⟩=some (Y A1 n1 c1)/\w'.cell? ⟨bc,oc+k*2+1,none⟩=some (Y A2 n2 c2)/\Below wr.heap.size wr w')) (by kernel_rfl) ?_ (fun hHeld => ?_)
   · (try dsimp only);exact ⟨zk4,hk1,hk2,HD3.o⟩
   refine tq 0 hHeld ?_;try simp only [p7]
   refine tq 1 hHeld ?_;try simp only [p7]
   refine tq 2 hHeld ?_;try simp only [p7]
   refine tq 3 hHeld ?_;try simp only [p7]
   refine tq 4 hHeld ?_;try simp only [p7]
   refine tq 5 hHeld ?_;try simp only [p7]
   refine tq 6 hHeld ?_;try simp only [p7]
   refine tq 7 hHeld ?_;try simp only [p7]
   refine tq 8 hHeld ?_;try simp only [p7]
   refine tq 11 hHeld ?_;try simp only [p7]
   refine tq 12 hHeld ?_;try simp only [p7]
   refine tq 13 hHeld ?_;try simp only [p7]
   refine tq 14 hHeld ?_;try simp only [p7]
   refine tq 15 hHeld ?_;try simp only [p7]
   refine tq 16 hHeld ?_;try simp only [p7]
   refine tq 17 hHeld ?_;try simp only [p7]
   refine r1 9 fun K hK => ?_;go_simp;refine (HS1.o _ hHeld.2.2.2).mono ?_;rintro e w3 ⟨rfl,rfl⟩;go_wp2_with fail
   refine hK.o _ _ (by exact hHeld) fun hHeld => ?_;clear hK K;try simp only [p7]
   refine tq 10 hHeld ?_;try simp only [p7]
   refine r1 18 fun K hK => ?_;go_simp;refine (HS2.o _ hHeld.2.2.2).mono ?_;rintro e w3 ⟨rfl,rfl⟩;go_wp2_with fail
   refine hK.o _ _ (by exact hHeld) fun hHeld => ?_;clear hK K;try simp only [p7]
   refine tq 19 hHeld ?_;try simp only [p7]
   refine tq 20 hHeld ?_;try simp only [p7]
   refine wpAnyH_done (by kernel_rfl) ?_ _;clear HS1 HS2;go_wp2_with fail
   go_roundw
   case rel=>exact ⟨k+1,q+1+P1+I1,by first | (obtain ⟨w1,w2,w3⟩:=HWT.o;rw [w1,w2,w3]) | (obtain ⟨w1,w2,w3⟩:=HWT.o;simp only [w1,w2,w3]),by go_num,by omega,by omega,by omega,HC2,HD2⟩
   case measure=>simp [intOf];omega
end
end Go.Proofs.YtplecfbdchmogaaGreat
