/- Bytes in memory, and the writing of numbers (octet). -/
import Derived.Test.YtplecfbdchmogaaGreatDOctP
import Derived.Test.YtplecfbdchmogaaGreatDLeafs
import Derived.Lib.Hide
import Derived.Lib.SliceRun
import Derived.Lib.Zigzag
namespace Go.Proofs.YtplecfbdchmogaaGreat
open Go.Value renaming slice → O
open Option renaming some → S
open Go.Lib (hid)
set_option maxHeartbeats 2000000
set_option maxRecDepth 100000
open Go.RowKit
theorem lJ {P:Program} {o:Oper} {a:Act} {w:World} {K:Act->World->Prop} {Q:Exit->Act->World->Prop}
 (s x:Operand) (t e:TypeId) (hop:o.op=Op.call { callee:=Callee.builtin Builtin.append,args:=#[s,x],argTypes:=#[t,t] })
 (base:Nat) (i:TypeInfo) (z:Value) (bytes:Nat) (h1:P.underlying t=S (.slice e)) (h2:P.info? e=S i) (h3:i.zero=S z) (h4:i.size=1) (h5:i.bytes=bytes) (h6:z.cells.size=1) (hby:bytes<=24)
 (v:Value) (n:Nat) (xs:List Value) (u:Value) (hone:u.oneCell'=true) (W:World) (hW:w=W.alloc (.cells #[u] e)) (hs:a.eval s=v) (hown:W.ownsRow base e 1 v n xs)
 (g:Nat) (hx:a.eval x=O (S ⟨g,0,none⟩) 1 1) (hgW:g=W.heap.size) (b1:n+1<=5864062014805) (b3:base<=W.heap.size)
 (hK:∀ A' c' w',dQ W w' base e 1 v A' (n+1) c' (xs++[u])->K (a.put o.dst (O A' (n+1) c')) w'):Oper.wp P o a w K Q:=by
 subst hW;subst hgW;refine cR s x t hop base _ i _ 1 bytes h1 h2 h3 h4 h5 h6 (by decide) v n xs hs (World.ownsRow.alloc hown _) _ 1 1 [u] hx (by simp) (fun e=>by cases e) (fun ad e j u' hu => ?_) (fun q hq=>by simp at hq;subst hq;exact hone) (by unfold maxLen;omega) ?_ (by simp;omega) ?_
 · injection e with e;subst e;have ea:(⟨W.heap.size,0,none⟩:Addr).add j=⟨W.heap.size,j,none⟩:=by unfold Addr.add;split<;>simp_all
   rw [ea,World.cell?_alloc_new,<-hu];simp
 · exact Nat.le_trans (Nat.mul_le_mul b1 hby) (by decide)
 intro A' c' w' h;refine hK A' c' w' ⟨h.own,?_,fun g hg=>(h.new g hg).imp id (fun hh=>by simp at hh;omega)⟩;refine ⟨h.grown.os,h.grown.tape,h.grown.output,Nat.le_trans (by simp) h.grown.size,fun k hk hne => ?_⟩;rw [h.grown.block k (by simp;omega) hne];exact Below.heap_alloc _ _ _ hk
def sJ (bs:List Nat):List Value:=bs.map fun (x:Nat)=>Value.int .u8 (x:Int)
structure jC (R:Nat->Prop) (w:World) (A:Option Addr) (n c:Nat) (bs:List Nat):Prop where
 len:bs.length=n
 cap:n<=c
 few:n<=140737488355328
 nul:A=none->c=0
 byte:∀ x ∈ bs,x<256
 mem:0<n->∃ b off,A=S ⟨b,off,none⟩/\R b/\∀ k,k<n->w.cell? ⟨b,off+k,none⟩=S (.int .u8 ((bs.getD k 0:Nat):Int))
abbrev gC (w:World) (A:Option Addr) (n c:Nat) (bs:List Nat):Prop:=jC (· < w.heap.size) w A n c bs
theorem jC.keep {R R':Nat->Prop} {w w':World} {A:Option Addr} {n c:Nat} {bs:List Nat} (h:jC R w A n c bs) (hR:∀ b,R b->R' b/\∀ o,w'.cell? ⟨b,o,none⟩=w.cell? ⟨b,o,none⟩):jC R' w' A n c bs :=
 ⟨h.len,h.cap,h.few,h.nul,h.byte,fun hn=>by
  obtain ⟨b,off,e,hb,hk⟩:=h.mem hn;exact ⟨b,off,e,(hR b hb).1,fun k hkn=>by rw [(hR b hb).2];exact hk k hkn⟩⟩
theorem jC.below {w w':World} {A:Option Addr} {n c:Nat} {bs:List Nat} (h:gC w A n c bs) (hb:Below w.heap.size w w'):gC w' A n c bs :=
 h.keep fun b hb'=>⟨Nat.lt_of_lt_of_le hb' hb.size,fun o=>hb.cell (p:=⟨b,o,none⟩) hb'⟩
def bM (w:World) (base:Nat) (v:Value) (bs:List Nat):Prop:=w.ownsRow base 5 1 v bs.length (sJ bs)
theorem uS:(Tryz.prog.info? 5).map (fun i=>(i.zero,i.size,i.bytes))=S (S (.int .u8 0),1,1):=by kernel_rfl
theorem yJ (bs:List Nat) (x:Nat):sJ bs++[.int .u8 (x:Int)]=sJ (bs++[x]):=by simp [sJ]
theorem LX:∀ x:Fin 256,bits .or .u8 (x.val:Int) 128=((x.val % 128+128:Nat):Int):=by decide +kernel
theorem JK (k:Nat):bits .or .u8 ((k:Int) % 256) 128=((k % 128+128:Nat):Int):=by
 have h:=LX ⟨k % 256,Nat.mod_lt _ aA⟩;have e:((k:Int) % 256)=((k % 256:Nat):Int):=aA;rw [e,h];simp only
 congr 2
 omega
def LG (A:Option Addr) (c:Nat) (bs:List Nat) (m base:Nat) (w:World) (e:Ending) (w':World):Prop :=
 Below base w w'/\aG (fun _=>False) (Value.slice A bs.length c).ownBlock w w'/\∃ A' c',e=.returned (O A' (bs++aH m).length c')/\bM w' base (O A' (bs++aH m).length c') (bs++aH m)/\∀ g,(Value.slice A' (bs++aH m).length c').ownBlock=S g->(Value.slice A bs.length c).ownBlock=S g\/w.heap.size<=g
theorem mM {w:World} {base:Nat} {A:Option Addr} {c:Nat} {bs:List Nat} (ho:bM w base (O A bs.length c) bs) (hbase:base<=w.heap.size) (hb:bs.length<=5000000000000) {m:Nat} (hm:m<18446744073709551616) :
 Calls Tryz.prog 125 #[O A bs.length c,.int .u64 (m:Int)] w (LG A c bs m base w):=by
 obtain ⟨i0,hi,hy0,hy1,hy2⟩:=info_parts uS;have HI0:=hid hi;have HY0:=hid hy0;have HY1:=hid hy1;have HY2:=hid hy2;have HB0:=hid (Below.refl base w);have HO:=hid ho;obtain ⟨row,hrow⟩ : ∃ r,r=(Value.slice A bs.length c).ownBlock:=⟨_,rfl⟩;have HROW:=hid hrow;have HM0:Hid (aG (fun _=>False) row w w):=hid (aG.refl _ _ _);clear hi hy0 hy1 hy2 ho hrow;go_in;go_wp2_with fail
 go_loopw [0,1] (fun sv mv wr=>∃ (A1:Option Addr) (c1:Nat) (l:List Nat) (k:Nat),sv=O A1 l.length c1/\mv=.int .u64 (k:Int)/\k<18446744073709551616/\l.length+(aH k).length=bs.length+(aH m).length/\Hid (l++aH k=bs++aH m)/\Hid (bM wr base (O A1 l.length c1) l)/\Hid (Below base w wr)/\Hid (aG (fun _=>False) row w wr)/\Hid (∀ g,(Value.slice A1 l.length c1).ownBlock=S g->row=S g\/w.heap.size<=g)) (fun _ mv _=>(intOf mv).toNat)
 case atStart=>exact ⟨A,c,bs,m,rfl,rfl,hm,rfl,hid rfl,HO,HB0,HM0,hid (fun g hg=>Or.inl (HROW.o.trans hg))⟩
 case round =>
  obtain ⟨A1,c1,l,k,rfl,rfl,hk,hll,HE,HO1,HB1,HM1,HR1⟩:=hrel;have hfl:=aW m;have hfk:=aW k;have hln:l.length<=5000000000010:=aA;have HB2:=hid (Nat.le_trans hbase HB1.o.size);by_cases h1:128<=k
  · have d1:decide ((k:Int) ≥ 128)=true:=decide_eq_true aA;have d2:decide (128<=(k:Int))=true:=decide_eq_true aA;have d3:decide (128<=k)=true:=decide_eq_true h1;have HS:=hid (rF h1 hk);obtain ⟨x,hx⟩ : ∃ x:Nat,x=k % 128+128:=⟨_,rfl⟩;have hor:bits BinOp.or IntKind.u8 ((k:Int) % 256) 128=(x:Int):=by rw [hx];exact JK k
    rw [<-hx] at HS;have HX:=hid hx;clear hx;go_wp2_with (at_builtin;go_loud (refine aN rfl (lJ (.tmp 7) (.tmp 11) 37 5 rfl base i0 _ 1 Tryz.underlying37 HI0.o HY0.o HY1.o HY2.o rfl (by decide) (O A1 l.length c1) l.length (sJ l) (.int .u8 (x:Int)) rfl wr rfl rfl HO1.o _ rfl rfl aA HB2.o ?_));intro A5 c5 w5 hap;have HAP:=hid hap;clear hap)
    have hlen:(l++[x]).length=l.length+1:=by simp
    have hown5:bM w5 base (O A5 (l++[x]).length c5) (l++[x]):=by
     have h:=HAP.o.own;rw [yJ] at h;unfold bM;rw [hlen];exact h
    have hb5:Below base w w5:=HB1.o.grown HAP.o.grown HB2.o (fun g e=>(aC HO1.o e).1);have hm5:aG (fun _=>False) row w w5:=HM1.o.trans (aG.of_grown HAP.o.grown) HR1.o;have hr5:∀ g,(Value.slice A5 (l.length+1) c5).ownBlock=S g->row=S g\/w.heap.size<=g:=fun g hg=>by
     rcases HAP.o.new g hg with h | h
     · exact HR1.o g h
     exact Or.inr (Nat.le_trans HM1.o.size h)
    have hd:(((k / 128:Nat):Int))=(k:Int) / 128:=aA;refine ⟨⟨A5,c5,l++[x],k / 128,by rw [hlen],by rw [hd],by omega,?_,hid ?_,hid hown5,hid hb5,hid hm5,hid (by rw [hlen];exact hr5)⟩,?_⟩
    · have:=congrArg List.length HS.o;simp only [List.length_cons] at this;rw [hlen];omega
    · rw [List.append_assoc];have e:=HE.o;rw [HS.o] at e;exact e
    simp [intOf];omega
  have d1:decide ((k:Int) ≥ 128)=false:=decide_eq_false aA;have d2:decide (128<=(k:Int))=false:=decide_eq_false aA;have d3:decide (128<=k)=false:=decide_eq_false h1;have HS:=hid (pU (n:=k) aA);have hkm:(k:Int) % 256=(k:Int):=aA;go_wp2_with (at_builtin;go_loud (refine aN rfl (lJ (.tmp 15) (.tmp 18) 37 5 rfl base i0 _ 1 Tryz.underlying37 HI0.o HY0.o HY1.o HY2.o rfl (by decide) (O A1 l.length c1) l.length (sJ l) (.int .u8 (k:Int)) rfl wr rfl rfl HO1.o _ rfl rfl aA HB2.o ?_));intro A5 c5 w5 hap;have HAP:=hid hap;clear hap)
  go_ret;have hlen:(l++[k]).length=l.length+1:=by simp
  have e:l++[k]=bs++aH m:=by
   have e:=HE.o;rw [HS.o] at e;exact e
  have hb5:Below base w w5:=HB1.o.grown HAP.o.grown HB2.o (fun g e=>(aC HO1.o e).1);have hm5:aG (fun _=>False) row w w5:=HM1.o.trans (aG.of_grown HAP.o.grown) HR1.o;have hr5:∀ g,(Value.slice A5 (l.length+1) c5).ownBlock=S g->row=S g\/w.heap.size<=g:=fun g hg=>by
   rcases HAP.o.new g hg with h | h
   · exact HR1.o g h
   exact Or.inr (Nat.le_trans HM1.o.size h)
  rw [HROW.o] at hm5 hr5;refine ⟨hb5,hm5,A5,c5,?_,?_,?_⟩
  · rw [<-e,hlen];rfl
  · rw [<-e];have h:=HAP.o.own;rw [yJ] at h;unfold bM;rw [hlen];exact h
  rw [<-e,hlen];exact hr5
theorem rG {w:World} {base:Nat} {A:Option Addr} {c:Nat} {bs:List Nat} (ho:bM w base (O A bs.length c) bs) (hbase:base<=w.heap.size) (hb:bs.length<=5000000000000) {m:Nat} (hm:m<18446744073709551616) :
 Calls Tryz.prog 125 #[O A bs.length c,.int .u64 (m:Int)] w (fun e w'=>Below base w w'/\∃ A' c',e=.returned (O A' (bs++aH m).length c')/\bM w' base (O A' (bs++aH m).length c') (bs++aH m)) :=
 (mM ho hbase hb hm).mono fun _ _ ⟨h1,_,A',c',h2,h3,_⟩=>⟨h1,A',c',h2,h3⟩
theorem bM.nil (w:World) (base:Nat):bM w base (O none 0 0) []:=World.ownsRow_nil w base _ _
theorem bM.below {w w':World} {base:Nat} {v:Value} {bs:List Nat} (h:bM w base v bs) (hb:Below w.heap.size w w'):bM w' base v bs:=fD h hb
theorem IB {bs:List Nat} {k:Nat} (h:k<bs.length):(sJ bs)[k]? = S (.int .u8 ((bs.getD k 0:Nat):Int)):=by
 simp [sJ,List.getD_eq_getElem?_getD,List.getElem?_eq_getElem h]
theorem vK (bs:List Nat):(sJ bs).length=bs.length:=by simp [sJ]
theorem CM (bs:List Nat) : ∀ u ∈ sJ bs,u.oneCell'=true:=by
 intro u hu;simp only [sJ,List.mem_map] at hu;obtain ⟨x,_,rfl⟩:=hu;rfl
theorem jC.cells {w:World} {A:Option Addr} {n c:Nat} {bs:List Nat} (h:gC w A n c bs) : ∀ ad,A=S ad->∀ j u,(sJ bs)[j]? = S u->w.cell? (ad.add j)=S u:=by
 intro ad hA j u hu;have hj:j<bs.length:=by
  have:=(List.getElem?_eq_some_iff.1 hu).1
  rwa [vK] at this
 obtain ⟨b,off,e,_,hk⟩:=h.mem (by have:=h.len;omega);rw [hA] at e;injection e with e;subst e;have ea:(⟨b,off,none⟩:Addr).add j=⟨b,off+j,none⟩:=by unfold Addr.add;split<;>simp_all
 rw [ea,hk j (by have:=h.len;omega),<-hu,IB hj]
theorem bM.byt {w:World} {base:Nat} {A:Option Addr} {c:Nat} {bs:List Nat} (h:bM w base (O A bs.length c) bs) (hb:∀ x ∈ bs,x<256) (hl:bs.length<=140737488355328):jC (fun b=>base<=b/\b<w.heap.size) w A bs.length c bs:=by
 have hc:=fun g hg=>World.ownsRow.cells h (g:=g) hg;rcases h.2 with ⟨e,h0⟩ | ⟨g,cap,cur,e,hbg,hgg,hcap,_⟩
 · injection e with e1 e2 e3;subst e1 e3;exact ⟨rfl,by omega,hl,fun _=>rfl,hb,fun hn=>absurd hn aA⟩
 injection e with e1 e2 e3;subst e1 e3;refine ⟨rfl,hcap,hl,(fun e=>by cases e),hb,fun _=>⟨g,0,rfl,⟨hbg,(Array.getElem?_eq_some_iff.1 hgg).1⟩,fun k hk => ?_⟩⟩;have ea:(⟨g,0,none⟩:Addr).add k=⟨g,0+k,none⟩:=by unfold Addr.add;split<;>simp_all
 rw [<-ea];exact hc g rfl k _ (IB hk)
theorem j4 {A:Option Addr} {n c:Nat} {bs:List Nat} {w:World} (h:gC w A n c bs) :
 Calls Tryz.prog 104 #[O A n c] w (fun e w'=>Below w.heap.size w w'/\∃ A c,e=.returned (O A bs.length c)/\bM w' w.heap.size (O A bs.length c) bs):=by
 have q22:∀ (w:World) (a:Option Addr) (n c n' c':Nat),(binOp .eql 37 (O a n c) (O none n' c')).run Tryz.prog w=.ok (.bool a.isNone) w:=fun w a n c n' c'=>Lib.run_eql_slice_nil w _ _ a n c n' c' Tryz.underlying37;have hln:=h.len;cases A with
 | none =>
  obtain rfl:=h.nul rfl;obtain rfl:n=0:=by have:=h.cap;omega
  have hl:bs=[]:=List.eq_nil_of_length_eq_zero h.len;subst hl;go_in;go_wp2_with fail
  go_ret;exact ⟨Below.refl _ _,none,0,rfl,bM.nil _ _⟩
 | some a =>
  obtain ⟨i0,hi,hy0,hy1,hy2⟩:=info_parts uS;have HI0:=hid hi;have HY0:=hid hy0;have HY1:=hid hy1;have HY2:=hid hy2;clear hi hy0 hy1 hy2;have hfew:=h.few;have hb0:=aB w (.cells #[] 5);have hm:gC (w.alloc (.cells #[] 5)) (S a) n c bs:=h.below hb0;have hown:(w.alloc (.cells #[] 5)).ownsRow w.heap.size 5 1 (O (S ⟨w.heap.size,0,none⟩) 0 0) 0 []:=World.ownsRow_made w #[] 0 (Nat.le_refl _) (Nat.zero_le _) rfl;have HM:=hid hm;have HOWN:=hid hown;have HB:=hid hb0;have HN:=hid hln;clear hm hown hb0 h hln;go_in;go_wp2_with (at_builtin;go_loud (refine aN rfl (cR (.tmp 5) (.tmp 6) 37 rfl w.heap.size 5 i0 _ 1 1 Tryz.underlying37 HI0.o HY0.o HY1.o HY2.o rfl (by decide) (O (S ⟨w.heap.size,0,none⟩) 0 0) 0 [] rfl HOWN.o (S a) n c (sJ bs) rfl (by rw [vK,HN.o];omega) (fun e=>by cases e) HM.o.cells (CM bs) (by unfold maxLen;omega) aA HB.o.size ?_));intro A4 c4 w4 hap;have HAP:=hid hap;clear hap)
  go_ret;have h:=HAP.o.own;rw [List.nil_append,Nat.zero_add,<-HN.o] at h;refine ⟨HB.o.grown HAP.o.grown HB.o.size (fun g hg=>(aC HOWN.o hg).1),A4,c4,?_,h⟩;rw [HN.o,<-Nat.zero_add n];rfl
def qE (bs:List Nat) (zs:List Int):List Nat×Int:=if zs.all (fun z=>decide (0<=z)) then (bs++cO zs,0) else ([],1)
def pN (q:List Nat×Int) (w:World) (e:Ending) (w':World):Prop:=Below w.heap.size w w'/\∃ A c,e=.returned (.tuple #[O A q.1.length c,.int .i64 q.2])/\bM w' w.heap.size (O A q.1.length c) q.1
theorem zP (zs:List Int):(cO zs).length<=10*zs.length:=by
 induction zs with
 | nil=>simp [cO]
 | cons z r ih =>
  have h:=(aW z.toNat).2;simp only [cO,List.flatMap_cons,List.length_append,List.length_cons] at ih ⊢;omega
theorem EI {l:List Nat} {z:Nat} {r:List Int}:qE l ((z:Int)::r)=qE (l++aH z) r:=by
 unfold qE;have e:((z:Int)::r).all (fun z=>decide (0<=z))=r.all (fun z=>decide (0<=z)):=by simp
 rw [e];simp [cO]
theorem G7 (l:List Nat):qE l []=(l,0):=by simp [qE,cO]
theorem JU {w:World} {A B:Option Addr} {n c m d:Nat} {bs:List Nat} {zs:List Int} (h:gC w A n c bs) (hz:iZ (· < w.heap.size) w B m d zs) (hw:∀ z ∈ zs,z<=9223372036854775807) (hn:n<=4500000000000) (hm:m<=1000000) :
 Calls Tryz.prog 94 #[O A n c,O B m d] w (pN (qE bs zs) w):=by
 have HCL:=hid (j4 h);have HZ:=hid hz;have HW:=hid hw;obtain rfl:=h.len;obtain rfl:=hz.len;have hlo:=HZ.o.few;obtain ⟨q,hq⟩ : ∃ q,q=qE bs zs:=⟨_,rfl⟩;rw [<-hq];have HQ:=hid hq;clear h hz hw hq;go_in;go_wp2_with fail
 refine (HCL.o).mono ?_;rintro e w1 ⟨hb1,A1,c1,rfl,ho1⟩;have HB1:=hid hb1;have HO1:=hid ho1;clear hb1 ho1;go_wp2_with fail
 go_loopw [6,13] (fun sv iv wr=>∃ (A2:Option Addr) (c2 k:Nat) (l:List Nat),sv=O A2 l.length c2/\iv=.int .i64 (k:Int)/\k<=zs.length/\l.length<=bs.length+10*k/\Hid (qE bs zs=qE l (zs.drop k))/\Hid (bM wr w.heap.size (O A2 l.length c2) l)/\Hid (Below w.heap.size w wr)) (fun _ iv _=>zs.length-(intOf iv).toNat)
 case atStart=>exact ⟨A1,c1,0,bs,rfl,rfl,Nat.zero_le _,by omega,hid rfl,HO1,HB1⟩
 case round =>
  obtain ⟨A2,c2,k,l,rfl,rfl,hk,hll,HP,HO2,HB2⟩:=hrel;by_cases hkm:k<zs.length;rotate_left
  · have hkk:k=zs.length:=aA;subst hkk;have d1:decide ((zs.length:Int)<(zs.length:Int))=false:=decide_eq_false aA;have d2:decide (zs.length<zs.length)=false:=decide_eq_false aA;go_wp2_with fail
    go_ret2;have e:q=(l,0):=by
     rw [HQ.o,HP.o,List.drop_length,G7]
    rw [e];exact ⟨HB2.o,A2,c2,by first | rfl | (rw [List.length_append];rfl),HO2.o⟩
  have d1:decide ((k:Int)<(zs.length:Int))=true:=decide_eq_true aA;have d2:decide (k<zs.length)=true:=decide_eq_true hkm;obtain ⟨b,off,e,hlt,hcell⟩:=(HZ.o.below HB2.o).at_ hkm;subst e;have hdr:zs.drop k=zs.getD k 0::zs.drop (k+1):=by
   rw [List.drop_eq_getElem_cons hkm,List.getD_eq_getElem?_getD,List.getElem?_eq_getElem hkm];rfl
  have hzw:=HW.o (zs.getD k 0) (by rw [List.getD_eq_getElem?_getD,List.getElem?_eq_getElem hkm];exact List.getElem_mem hkm);rw [hdr] at HP;obtain ⟨z,hz⟩ : ∃ z,z=zs.getD k 0:=⟨_,rfl⟩;rw [<-hz] at hcell HP hzw;clear hz hdr;by_cases h0:z<0
  · have d3:decide (z<0)=true:=decide_eq_true h0;go_wp2_with fail
    go_ret2;have e:q=([],1):=by
     rw [HQ.o,HP.o];unfold qE;rw [if_neg];simp;omega
    rw [e];exact ⟨HB2.o,none,0,rfl,bM.nil _ _⟩
  have d3:decide (z<0)=false:=decide_eq_false h0;obtain ⟨zn,rfl⟩ : ∃ zn:Nat,z=(zn:Int):=⟨z.toNat,by omega⟩;have HF:=hid (fun (w':World) (hh:bM w' w.heap.size (O A2 l.length c2) l) (hs:w.heap.size<=w'.heap.size)=>rG hh hs aA (m:=zn) aA);have HS2:=hid HB2.o.size;go_wp2_with fail
  refine (HF.o wr HO2.o HS2.o).mono ?_;rintro e w5 ⟨hb5,A5,c5,rfl,ho5⟩;have HB5:=hid (HB2.o.trans hb5);have HO5:=hid ho5;clear hb5 ho5;go_wp2_with fail
  go_roundw
  case measure=>simp [intOf];omega
  refine ⟨A5,c5,k+1,l++aH zn,by rw [List.length_append],by simp,hkm,?_,hid (HP.o.trans EI),HO5,HB5⟩;have:=(aW zn).2;rw [List.length_append];omega
theorem J8 {z:Int} (h1 : -9223372036854775808<=z) (h2:z<=9223372036854775807):bits .xor .u64 (IntKind.u64.wrap (IntKind.u64.wrap z*2)) (IntKind.u64.wrap (z / 9223372036854775808))=((mZ z:Nat):Int):=by
 by_cases h:0<=z
 · have e1:IntKind.u64.wrap (IntKind.u64.wrap z*2)=((2*z.toNat:Nat):Int):=by rw [IntKind.wrap_u64,IntKind.wrap_u64];omega
   have e2:IntKind.u64.wrap (z / 9223372036854775808)=((0:Nat):Int):=by rw [IntKind.wrap_u64];omega
   rw [e1,e2,bits_xor_u64_nat _ _ aA (by decide),Nat.xor_zero];unfold mZ;rw [if_pos h]
 have e1:IntKind.u64.wrap (IntKind.u64.wrap z*2)=(((2*z+18446744073709551616).toNat:Nat):Int):=by rw [IntKind.wrap_u64,IntKind.wrap_u64];omega
 have e2:IntKind.u64.wrap (z / 9223372036854775808)=((2 ^ 64-1:Nat):Int):=by rw [IntKind.wrap_u64];omega
 rw [e1,e2,bits_xor_u64_nat _ _ aA (by decide),Nat.xor_comm,Lib.xor_ones64 _ aA];unfold mZ;rw [if_neg h];omega
theorem IE {z:Int} (h1 : -9223372036854775808<=z) (h2:z<=9223372036854775807):mZ z<18446744073709551616:=by
 unfold mZ;split<;>omega
theorem BB {w:World} {A:Option Addr} {n c:Nat} {bs:List Nat} (h:gC w A n c bs) (z:Int) (h1 : -9223372036854775808<=z) (h2:z<=9223372036854775807) (hn:n<=4500000000000) :
 Calls Tryz.prog 95 #[O A n c,.int .i64 z] w (fun e w'=>Below w.heap.size w w'/\∃ A' c',e=.returned (O A' (bs++aH (mZ z)).length c')/\bM w' w.heap.size (O A' (bs++aH (mZ z)).length c') (bs++aH (mZ z))):=by
 have HX:=J8 h1 h2;have HL:=hid (IE h1 h2);obtain ⟨x,hx⟩ : ∃ x,x=mZ z:=⟨_,rfl⟩;rw [<-hx] at HX HL ⊢;clear hx;have HCL:=hid (j4 h);obtain rfl:=h.len;clear h;go_in;go_wp2_with fail
 refine (HCL.o).mono ?_;rintro e w1 ⟨hb1,A1,c1,rfl,ho1⟩;have HB1:=hid hb1;have HO1:=hid ho1;clear hb1 ho1;have HF:=hid (rG HO1.o HB1.o.size aA HL.o);go_wp2_with fail
 refine (HF.o).mono ?_;rintro e w2 ⟨hb2,A2,c2,rfl,ho2⟩;have HB2:=hid (HB1.o.trans hb2);have HO2:=hid ho2;clear hb2 ho2;go_wp2_with fail
 go_ret;exact ⟨HB2.o,A2,c2,by first | rfl | (rw [List.length_append];rfl),HO2.o⟩
end Go.Proofs.YtplecfbdchmogaaGreat
