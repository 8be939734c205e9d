/- Merged: SenseN, SenseO, Sized. -/
import Derived.Test.YtjllmblbbgojbaaGreatXSenseJ
namespace Go.Proofs.YtjllmblbbgojbaaGreat
set_option linter.unusedVariables false
set_option linter.unusedSimpArgs false
open Go.RowKit
open Go.Value renaming int → O, slice → Y
open Go.IntKind renaming i64 → X
open Option renaming none → Z, some → E
open Go.Obj renaming cells → J
section
open Go.Lib renaming hid->aB
set_option maxHeartbeats 4000000
set_option maxRecDepth 100000
theorem QB:jL m7 [⟨6,0,0⟩,⟨5,0,0⟩,⟨9,0,0⟩,⟨1,0,0⟩,⟨10,0,0⟩] 9=([⟨10,0,0⟩],5,0):=by kernel_rfl
theorem P4:(jL m7 ([⟨11,0,0⟩,⟨9,0,0⟩]++[⟨5,0,0⟩,⟨9,0,0⟩,⟨1,0,0⟩]) 9).2.2=24:=by kernel_rfl
theorem P5:fT m7 0 [⟨5,0,0⟩,⟨9,0,0⟩,⟨1,0,0⟩]=0/\dC (eY [⟨5,0,0⟩,⟨9,0,0⟩,⟨1,0,0⟩])=true:=⟨by kernel_rfl,by kernel_rfl⟩
abbrev OU (g:Nat):bN:=⟨Z,0,0,E ⟨g,0,Z⟩,1,1,Z,0,0⟩
def PC (w:World) (e:Ending) (w':World):Prop:=Below w.heap.size w w'/\∃g:Nat,e=.returned (.agg #[O X 0,Y Z 0 0,Y (E ⟨g,0,Z⟩) 1 1,O X 0,Y Z 0 0])/\∀w'':World,(∀q,w.heap.size<=q->q<w'.heap.size->w''.heap[q]? = w'.heap[q]?)->bV w'' (OU g) m7
theorem mT {w:World}:Calls Tryz.prog 15 #[] w (PC w):=by
 go_in;go_wp2_with fail;refine bodyPost_ret (v:=.agg #[O X 0,Y Z 0 0,Y (E ⟨w.heap.size+1+1+1+1+1,0,Z⟩) 1 1,O X 0,Y Z 0 0]) (by simp[results,Tryz.results15,go_sem]) rfl ⟨?_,_,rfl,fun w'' hw => ?_⟩
 · exact (((((aP w _).alloc aD _).alloc aG _).alloc aG _).alloc aG _).alloc aG _
 have hb:∀{t:TypeId} {cs:Array Value} (k:Nat),k<=5->aS _ (w.heap.size+k) t cs->aS w'' (w.heap.size+k) t cs:=fun k hk h=>h.same (hw _ aA aG);exact G6 (g1:=w.heap.size+1) (g2:=w.heap.size+1+1) (g3:=w.heap.size+1+1+1) (g4:=w.heap.size+1+1+1+1)
  (hb 1 aA (((((oB aD).alloc _).alloc _).alloc _).alloc _)) (hb 2 aA ((((oB aD).alloc _).alloc _).alloc _)) (hb 3 aA (((oB aD).alloc _).alloc _)) (hb 4 aA ((oB aD).alloc _)) (hb 5 aA (oB aD))
def L6:List Nd:=[⟨6,0,0⟩,⟨5,0,0⟩,⟨9,0,0⟩,⟨1,0,0⟩,⟨10,0,0⟩]
theorem DW {w:World}:Calls Tryz.prog 5 #[] w (fP true w):=by
 obtain⟨i0,hi,hy0,hy1,hy2⟩:=info_parts kW;have HI0:=aB hi;have HY0:=aB hy0;have HY1:=aB hy1;have HY2:=aB hy2;clear hi hy0 hy1 hy2;obtain⟨W1,hW1⟩ : ∃W1:World,W1=w.alloc (J #[O X 6,O X 0,O X 0,O X 5,O X 0,O X 0,O X 9,O X 0,O X 0,O X 1,O X 0,O X 0,O X 10,O X 0,O X 0] 40):=⟨_,rfl⟩;have hb1:Below w.heap.size w W1:=by rw[hW1];exact aP _ _
 have hk1:aS W1 w.heap.size 40 (OP L6):=by rw[hW1];exact aS.new _ _ _
 have HW1:=aB hW1.symm;have HB1:=aB hb1;have HK1:=aB hk1;have hsz1:W1.heap.size=w.heap.size+1:=by rw[hW1];simp
 have HT1:Hid (∀w',Below W1.heap.size W1 w'->bB w' (E ⟨w.heap.size,0,Z⟩) 5 5 L6):=aB (fun w' h=>(sK hk1 rfl aE aE).below h);obtain⟨Ac,hcut,hcutr⟩:=mD (E ⟨w.heap.size,0,Z⟩) 5 5 1 4 aA aA aA;have hcut' : ∀w':World,(Instr.slice 28 (Y (E ⟨w.heap.size,0,Z⟩) 5 5) (E (O X 1)) (E (O X 4)) Z).run Tryz.prog w'=.ok (Y Ac 3 4) w':=fun w'=>hcut w';have HCR:Hid (∀w',Below W1.heap.size W1 w'->bB w' Ac 3 4 [⟨5,0,0⟩,⟨9,0,0⟩,⟨1,0,0⟩]):=aB (fun w' h=>hcutr _ _ _ (HT1.o w' h));clear hW1 hb1 hk1 hcut hcutr;go_in;go_upto_region 2 with fail
 rw[HW1.o];go_wp2_with fail;refine mT.mono ?_;rintro e w2 ⟨hb2,g2,rfl,hbk2⟩;have HEV2:=aB (qG (hbk2 w2 (fun _ _ _=>rfl)) 9 (HT1.o w2 hb2));have HB2:=aB hb2;clear hbk2 hb2;go_wp2_with fail;refine (HEV2.o).mono ?_;rintro e w3 ⟨hb3,A3,n3,c3,rfl,ht3⟩;rw[show jL m7 L6 9=([⟨10,0,0⟩],5,0) from QB] at ht3 ⊢;simp only at ht3 ⊢;have HB3:=dA HB2 hb3;have hs3:=HB3.o.size;have HT3:Hid (bB w3 A3 n3 c3 [⟨10,0,0⟩]):=aB (ht3.keep fun q hq=>⟨hq.2,fun _=>rfl⟩);have HB13:Hid (Below W1.heap.size W1 w3):=dA HB2 hb3;have hlt3:w.heap.size<w3.heap.size:=by have:=HB13.o.size;omega
 have HB3w:=aB (HB1.o.trans (HB13.o.mono HB1.o.size));have HZ1:=aB ((HK1.o.below HB3.o aA).cell 0);clear hb3 ht3 HEV2;go_upto_region 3 with fail
 go_cut [7] (fun tv wx=>tv=O X 24/\Hid (Below w3.heap.size w3 wx))
 case first =>
  have HSL:Hid ((w3.drew.alloc (J #[O X 11,O X 0,O X 0,O X 9,O X 0,O X 0] 40)).heap.size=w3.heap.size+1):=aB (by rw[World.size_alloc];rfl);have HBl:Hid (Below w3.heap.size w3 (w3.drew.alloc (J #[O X 11,O X 0,O X 0,O X 9,O X 0,O X 0] 40))):=aB ((aV (Below.refl w3.heap.size w3) 1).trans ((aP w3.drew (J #[O X 11,O X 0,O X 0,O X 9,O X 0,O X 0] 40)).mono (Nat.le_refl _)));have HOl:Hid (bR (w3.drew.alloc (J #[O X 11,O X 0,O X 0,O X 9,O X 0,O X 0] 40)) w3.heap.size (Y (E ⟨w3.drew.heap.size,0,Z⟩) 2 2) [⟨11,0,0⟩,⟨9,0,0⟩]):=aB (World.ownsRow_lit w3.drew #[O X 11,O X 0,O X 0,O X 9,O X 0,O X 0] 2 (Nat.le_refl _) aJ rfl);refine wp_region_held_drew (S:=(fun w'=>w'.cell? ⟨w.heap.size,0,Z⟩=E (O X 6))) aC ?_ (fun hZ => ?_)
  · (try dsimp only);exact HZ1.o
  refine aL 1 hZ ?_;refine aL 2 hZ ?_;refine aL 4 hZ ?_;refine aL 5 hZ ?_;refine wpAnyH_ready (rs:=[0,3]) aC aD ?_;refine AllReadyH.cons rfl (fun K hK => ?_) (AllReadyH.cons rfl (fun K hK => ?_) (AllReadyH.nil))
  · go_simp;refine mT.mono ?_;rintro e wa ⟨hba,ga,rfl,hbka⟩;have HBa:Hid (Below w3.heap.size w3 wa):=aB ((aV (Below.refl w3.heap.size w3) 1).trans (hba.mono (aV (Below.refl w3.heap.size w3) 1).size));have HKA:=aB hbka;have HBQ:=aB hba;clear hba hbka;go_wp2_with fail;refine hK.o _ _ (by exact ((HBa.o).cell (p:=⟨w.heap.size,0,Z⟩) hlt3).trans HZ1.o) fun hZ => ?_;clear hK K;try simp only[p7]
    have HOl:Hid (bR (wa.alloc (J #[O X 11,O X 0,O X 0,O X 9,O X 0,O X 0] 40)) w3.heap.size (Y (E ⟨wa.heap.size,0,Z⟩) 2 2) [⟨11,0,0⟩,⟨9,0,0⟩]):=aB (World.ownsRow_lit wa #[O X 11,O X 0,O X 0,O X 9,O X 0,O X 0] 2 HBa.o.size aJ rfl);refine r1 3 fun K hK => ?_;go_simp;refine hK.o _ _ (by exact ((HBa.o.trans ((aP wa _).mono HBa.o.size)).cell (p:=⟨w.heap.size,0,Z⟩) hlt3).trans HZ1.o) fun hZ => ?_;clear hK K;try simp only[p7]
    refine r1 6 fun K hK => ?_;refine cQ (.tmp 27) (.tmp 29) 28 28 rfl w3.heap.size i0 Tryz.underlying28 Tryz.underlying28 HI0.o HY0.o HY1.o HY2.o (Y (E ⟨wa.heap.size,0,Z⟩) 2 2) [⟨11,0,0⟩,⟨9,0,0⟩] [⟨5,0,0⟩,⟨9,0,0⟩,⟨1,0,0⟩] aF HOl.o aF (HCR.o _ ((HB13.o.trans (HBa.o.mono HB13.o.size)).trans ((aP wa _).mono (HB13.o.trans (HBa.o.mono HB13.o.size)).size))) aE (Nat.le_trans HBa.o.size (aP wa _).size) ?_;intro A4 c4 w4 hown4 happ4;have HB4a:Hid (Below wa.heap.size wa w4):=aB ((aP wa (J #[O X 11,O X 0,O X 0,O X 9,O X 0,O X 0] 40)).grown happ4.grown (aP wa _).size (fun g hg=>by injection hg with hg;exact Nat.le_of_eq hg));have HB4:Hid (Below w3.heap.size w3 w4):=aB (HBa.o.trans (HB4a.o.mono HBa.o.size));have HBK4:Hid (bV w4 (OU ga) m7):=aB (HKA.o w4 (fun q h1 h2=>HB4a.o.block q h2));have HT4:Hid (bB w4 A4 5 c4 ([⟨11,0,0⟩,⟨9,0,0⟩]++[⟨5,0,0⟩,⟨9,0,0⟩,⟨1,0,0⟩])):=aB (bR.termV hown4 aE);clear hown4 happ4;refine hK.o _ _ (by exact ((HB4.o).cell (p:=⟨w.heap.size,0,Z⟩) hlt3).trans HZ1.o) fun hZ => ?_;clear hK K;try simp only[p7]
    refine r1 7 fun K hK => ?_;go_simp;have HEV:=aB (qG HBK4.o 9 HT4.o);refine (HEV.o).mono ?_;rintro e w9 ⟨hb9,A9,n9,c9,rfl,_⟩;rw[P4];have HB9:Hid (Below w3.heap.size w3 w9):=dA HB4 hb9;clear hb9;go_wp2_with fail;refine hK.o _ _ (by exact ((HB9.o).cell (p:=⟨w.heap.size,0,Z⟩) hlt3).trans HZ1.o) fun hZ => ?_;clear hK K;try simp only[p7]
    refine aL 8 hZ ?_;refine aL 9 hZ ?_;refine aL 10 hZ ?_;refine aL 11 hZ ?_;refine aL 12 hZ ?_;refine aL 13 hZ ?_;refine aL 14 hZ ?_;refine wpAnyH_done aC ?_ _;go_wp2_with fail;go_meet;exact⟨rfl,HB9⟩
  go_simp;refine hK.o _ _ (by exact ((HBl.o).cell (p:=⟨w.heap.size,0,Z⟩) hlt3).trans HZ1.o) fun hZ => ?_;clear hK K;try simp only[p7]
  refine r1 0 fun K hK => ?_;go_simp;refine mT.mono ?_;rintro e wa ⟨hba,ga,rfl,hbka⟩;have HBa:Hid (Below w3.heap.size w3 wa):=aB ((HBl.o).trans (hba.mono (HBl.o).size));have HKA:=aB hbka;have HBQ:=aB hba;clear hba hbka;go_wp2_with fail;refine hK.o _ _ (by exact ((HBa.o).cell (p:=⟨w.heap.size,0,Z⟩) hlt3).trans HZ1.o) fun hZ => ?_;clear hK K;try simp only[p7]
  have HOw:=aB (bL HOl.o HBQ.o);refine r1 6 fun K hK => ?_;refine cQ (.tmp 27) (.tmp 29) 28 28 rfl w3.heap.size i0 Tryz.underlying28 Tryz.underlying28 HI0.o HY0.o HY1.o HY2.o (Y (E ⟨w3.drew.heap.size,0,Z⟩) 2 2) [⟨11,0,0⟩,⟨9,0,0⟩] [⟨5,0,0⟩,⟨9,0,0⟩,⟨1,0,0⟩] aF HOw.o aF (HCR.o _ (HB13.o.trans (HBa.o.mono HB13.o.size))) aE HBa.o.size ?_;intro A4 c4 w4 hown4 happ4;have HB4:Hid (Below w3.heap.size w3 w4):=aB (HBa.o.grown happ4.grown HBa.o.size (fun g hg=>(aR HOw.o hg).1));have HBK4:Hid (bV w4 (OU ga) m7):=aB (HKA.o w4 (fun q h1 h2=>happ4.grown.block q h2 (fun e=>by injection e with e;have e2:q=w3.heap.size:=e;have h3:w3.heap.size+1<=q:=HSL.o ▸ h1;omega)));have HT4:Hid (bB w4 A4 5 c4 ([⟨11,0,0⟩,⟨9,0,0⟩]++[⟨5,0,0⟩,⟨9,0,0⟩,⟨1,0,0⟩])):=aB (bR.termV hown4 aE);clear hown4 happ4;refine hK.o _ _ (by exact ((HB4.o).cell (p:=⟨w.heap.size,0,Z⟩) hlt3).trans HZ1.o) fun hZ => ?_;clear hK K;try simp only[p7]
  refine r1 7 fun K hK => ?_;go_simp;have HEV:=aB (qG HBK4.o 9 HT4.o);refine (HEV.o).mono ?_;rintro e w9 ⟨hb9,A9,n9,c9,rfl,_⟩;rw[P4];have HB9:Hid (Below w3.heap.size w3 w9):=dA HB4 hb9;clear hb9;go_wp2_with fail;refine hK.o _ _ (by exact ((HB9.o).cell (p:=⟨w.heap.size,0,Z⟩) hlt3).trans HZ1.o) fun hZ => ?_;clear hK K;try simp only[p7]
  refine aL 8 hZ ?_;refine aL 9 hZ ?_;refine aL 10 hZ ?_;refine aL 11 hZ ?_;refine aL 12 hZ ?_;refine aL 13 hZ ?_;refine aL 14 hZ ?_;refine wpAnyH_done aC ?_ _;go_wp2_with fail;go_meet;exact⟨rfl,HB9⟩
 case rest =>
 obtain⟨rfl,hb4⟩:=hcut;have HB4w:=aB (HB3w.o.trans (hb4.o.mono HB3w.o.size));have HB14:=aB (HB13.o.trans (hb4.o.mono HB13.o.size));have HZ4:=aB ((hb4.o.cell (p:=⟨w.heap.size,0,Z⟩) hlt3).trans HZ1.o);obtain⟨b3,o3,rfl,hb3,hc3,_,_⟩:=bB.at_ HT3.o (p:=0) (by rw[<-HT3.o.len];decide);have hn3:n3=1:=HT3.o.len.symm;subst hn3;simp only[Nat.zero_mul,Nat.add_zero] at hc3;have hc3':w3.cell? ⟨b3,o3,Z⟩=E (O X 10):=hc3;have hc4:=(hb4.o.cell (p:=⟨b3,o3,Z⟩) hb3).trans hc3';have hsz4:=HB14.o.size;have hb34:b3<wc.heap.size:=Nat.lt_of_lt_of_le hb3 hb4.o.size;have hlt4:w.heap.size<wc.heap.size:=by have:=hb4.o.size;omega
 clear hc3 hc3' HT3 HZ1 hb3;go_upto_region 4 with fail
 refine wp_region_held_drew (S:=(fun w'=>w'.cell? ⟨w.heap.size,0,Z⟩=E (O X 6))) aC ?_ (fun hZ => ?_)
 · (try dsimp only);exact HZ4.o
 refine aL 1 hZ ?_;refine aL 2 hZ ?_;refine r1 0 fun K hK => ?_;go_simp;refine mT.mono ?_;rintro e wa ⟨hba,ga,rfl,hbka⟩;have HBa:Hid (Below wc.heap.size wc wa):=aB ((aV (Below.refl wc.heap.size wc) 1).trans (hba.mono (aV (Below.refl wc.heap.size wc) 1).size));have HV:=aB (D6 (hbka wa (fun _ _ _=>rfl)) (HCR.o wa (HB14.o.trans (HBa.o.mono HB14.o.size))));rw[P5.1,P5.2] at HV;clear hba hbka;go_wp2_with fail;refine hK.o _ _ (by exact ((HBa.o).cell (p:=⟨w.heap.size,0,Z⟩) hlt4).trans HZ4.o) fun hZ => ?_;clear hK K;try simp only[p7]
 refine r1 3 fun K hK => ?_;go_simp;refine (HV.o).mono ?_;rintro e w5 ⟨rfl,hb5⟩;have HB5:Hid (Below wc.heap.size wc w5):=dA HBa hb5;clear hb5;go_wp2_with fail;refine hK.o _ _ (by exact ((HB5.o).cell (p:=⟨w.heap.size,0,Z⟩) hlt4).trans HZ4.o) fun hZ => ?_;clear hK K;try simp only[p7]
 refine aL 4 hZ ?_;refine aL 5 hZ ?_;refine aL 6 hZ ?_;refine aL 7 hZ ?_;refine aL 8 hZ ?_;refine wpAnyH_done aC ?_ _;have hc6:=(HB5.o.cell (p:=⟨b3,o3,Z⟩) hb34).trans hc4;clear hc4;go_wp2_with fail;go_ret;exact⟨rfl,HB4w.o.trans (HB5.o.mono HB4w.o.size)⟩
end

section
open Go.Lib renaming hid->aB
set_option maxHeartbeats 4000000
set_option maxRecDepth 100000
def eF (lid:Int):List (List Nd)->Int->Int
 | [],n=>n
 | l::r,n=>if n<lid then eF lid r (n+1+(l.length:Int)) else n
theorem iF (lid:Int) : ∀(r:List (List Nd)) (n:Int),n<=eF lid r n
 | [],n=>Int.le_refl _
 | l::r,n=>by
  simp only[eF];split
  · have:=iF lid r (n+1+(l.length:Int));omega
  · exact Int.le_refl _
theorem BE (lid:Int) : ∀(r:List (List Nd)) (n:Int),(∀l ∈ r,l.length<=5864062014805)->n<=eF lid r n/\(eF lid r n<=n\/eF lid r n<=lid+5864062014805)
 | [],n,_=>⟨Int.le_refl _,.inl (Int.le_refl _)⟩
 | l::r,n,h=>by
  simp only[eF];split
  · rename_i hlt
    have hl:=h l aD;have:=BE lid r (n+1+(l.length:Int)) (fun x hx=>h x (by simp[hx]));omega
  · exact⟨Int.le_refl _,.inl (Int.le_refl _)⟩
theorem mS {w:World} {A:Option Addr} {n c:Nat} {ls:List (List Nd)} (ht:dO w A n c ls) (lid:Int) (hlid:lid<=1000000000000000) :
 Calls Tryz.prog 30 #[Y A n c,O X lid] w (fun e w'=>e=.returned (O X (eF lid ls 0))/\w'=w):=by
 have hlen:=ht.len;have hfew:=ht.few;have HT:=aB (fun (k:Nat) (hk:k<n)=>ht.at_ hk);obtain⟨res,hres⟩ : ∃res,res=eF lid ls 0:=⟨_,rfl⟩;rw[<-hres];have HRES:=aB hres;clear ht hres;go_in;go_wp2_with fail;go_loopw [5,6] (fun nv iv wr=>∃(i:Nat) (m:Int),nv=O X m/\iv=O X (i:Int)/\i<=n/\0<=m/\m<=1010000000000000/\Hid (eF lid (ls.drop i) m=res)/\wr=w) (fun _ i _=>n-(intOf i).toNat)
 case atStart=>exact⟨0,0,rfl,rfl,by omega,by omega,by omega,aB HRES.o.symm,rfl⟩
 case round =>
  obtain⟨i,m,rfl,rfl,hi,hm0,hm1,hrs,rfl⟩:=hrel;by_cases hlt:i<n;rotate_left
  · have hib:decide ((i:Int)<(n:Int))=false:=decide_eq_false aA;have hrs2:=hrs.o;rw[List.drop_of_length_le aA] at hrs2;simp only[eF] at hrs2;have HRN:=aB hrs2;clear hrs2 hrs;go_wp2_with fail;go_ret;rw[<-HRN.o];exact⟨rfl,rfl⟩
  have hib:decide ((i:Int)<(n:Int))=true:=decide_eq_true aA;obtain⟨b',off,A',n',c',rfl,hb',hc0,ht'⟩:=HT.o i hlt;have hil:i<ls.length:=aA;have hlen':=ht'.len;have hfew':=ht'.few;have hrs2:=hrs.o;rw[List.drop_eq_getElem_cons hil,show ls[i]=ls.getD i [] from by rw[List.getD_eq_getElem?_getD,List.getElem?_eq_getElem hil];rfl] at hrs2;simp only[eF] at hrs2;rw[hlen'] at hrs2;by_cases hm:m<lid
  · have hmb:decide (m<lid)=true:=decide_eq_true hm;rw[if_pos hm] at hrs2;have HRN:=aB hrs2;clear hrs2 hrs ht';go_wp2_with fail;go_roundw
    case rel=>exact⟨i+1,m+1+n',by go_num,by go_num,by omega,by omega,by omega,HRN,by first | trivial | rfl⟩
    case measure=>simp[intOf];omega
  have hmb:decide (m<lid)=false:=decide_eq_false hm;rw[if_neg hm] at hrs2;have HRN:=aB hrs2;clear hrs2 hrs ht';go_wp2_with fail;go_ret;rw[<-HRN.o];exact⟨rfl,rfl⟩
def jT (lid:Int):List Ct->Int->Int
 | [],n=>n
 | c::r,n=>if n<lid then jT lid r (n+1+eF lid c.args 0+eF lid c.outs 0) else n
def lD (lid:Int):List En->Int->Int
 | [],n=>n
 | x::r,n=>if n<lid then lD lid r (jT lid x.ctors (n+1+(x.sort.length:Int)+(x.type.length:Int)+(x.body.length:Int)+eF lid x.params 0+eF lid x.indices 0)) else n
def qU (lid:Int) (b:Bk):Int:=lD lid b.entries ((b.orders.length:Int)+(b.prims.length:Int))
theorem dO.lens {w:World} {A:Option Addr} {n c:Nat} {ls:List (List Nd)} (h:dO w A n c ls) : ∀l ∈ ls,l.length<=5864062014805:=by
 intro l hl;obtain⟨i,hi,rfl⟩:=List.getElem_of_mem hl;obtain⟨b,off,A',n',c',_,_,_,ht⟩:=h.at_ (k:=i) (by have:=h.len;omega);have h1:=ht.len;have h2:=ht.few;rw[List.getD_eq_getElem?_getD,List.getElem?_eq_getElem hi] at h1;simp only[Option.getD_some] at h1;omega
theorem dO.size_le {w:World} {A:Option Addr} {n c:Nat} {ls:List (List Nd)} (h:dO w A n c ls) (lid:Int) (hlid:lid<=1000000000000000):0<=eF lid ls 0/\eF lid ls 0<=1005864062014805:=by
 have:=BE lid ls 0 h.lens;omega
theorem lI.at_ {w:World} {A:Option Addr} {n c:Nat} {cs:List Ct} (h:lI w A n c cs) {k:Nat} (hk:k<n) : ∃b off,A=E ⟨b,off,Z⟩/\b<w.heap.size/\∃A1 n1 c1 A2 n2 c2,w.cell? ⟨b,off+k*2,Z⟩=E (Y A1 n1 c1)/\w.cell? ⟨b,off+k*2+1,Z⟩=E (Y A2 n2 c2)/\dO w A1 n1 c1 (cs.getD k default).args/\dO w A2 n2 c2 (cs.getD k default).outs:=by
 obtain⟨b,off,e,hb,hm⟩:=h.mem aA;exact⟨b,off,e,hb,hm k hk⟩
theorem LQ {w:World} {v:bN} {b:Bk} (hb:bV w v b) (lid:Int) (hlid:lid<=1000000000000000) :
 Calls Tryz.prog 16 #[.agg #[O X b.vars,Y v.Ao v.no v.co,Y v.Ae v.ne v.ce,O X b.nat,Y v.Ap v.np v.cp],O X lid] w (fun e w'=>e=.returned (O X (qU lid b))/\Below w.heap.size w w'):=by
 have hofew:=hb.orders.few;have hpfew:=hb.prims.few;have hefew:=hb.entries.few;have HLN:=aB hb.entries.len;have HEN:=aB (fun (w':World) (h:Below w.heap.size w w')=>hb.entries.below h);have HB0:=aB (aP w (J #[O X b.vars,Y v.Ao v.no v.co,Y v.Ae v.ne v.ce,O X b.nat,Y v.Ap v.np v.cp] 26));have HK0:=aB (aS.new w 26 #[O X b.vars,Y v.Ao v.no v.co,Y v.Ae v.ne v.ce,O X b.nat,Y v.Ap v.np v.cp]);have HR0:Hid (qU lid b=lD lid b.entries ((b.orders.length:Int)+(b.prims.length:Int))):=aB rfl;rw[hb.orders.len,hb.prims.len] at HR0;generalize qU lid b=res at *;obtain⟨Ao,no,co,Ae,ne,ce,Ap,np,cp⟩:=v;simp only at HEN HB0 HK0 HR0 HLN hofew hpfew hefew ⊢;clear hb;generalize b.vars=bv at *;generalize b.nat=bn at *;generalize b.entries=es at *;clear b;go_in;go_wp2_with fail;go_loopw [5,6] (fun nv iv wr=>∃(i:Nat) (m:Int),nv=O X m/\iv=O X (i:Int)/\i<=ne/\0<=m/\m<=6000000000000000/\Hid (lD lid (es.drop i) m=res)/\Hid (aS wr w.heap.size 26 #[O X bv,Y Ao no co,Y Ae ne ce,O X bn,Y Ap np cp])/\Hid (Below w.heap.size w wr)) (fun _ i _=>ne-(intOf i).toNat)
 case atStart=>exact⟨0,(no:Int)+(np:Int),by go_num,rfl,by omega,by omega,by omega,aB HR0.o.symm,HK0,HB0⟩
 case round =>
  obtain⟨i,m,rfl,rfl,hi,hm0,hm1,hes,hbk,hbw⟩:=hrel;have zk:=aS.cell hbk.o;have hbl:=hbk.o.lt;by_cases hlt:i<ne;case neg =>
   have hq:=hes.o;rw[List.drop_of_length_le (by rw[HLN.o];omega)] at hq;simp only[lD] at hq;have HQ:=aB hq;clear hq hes;go_wp2_with fail;go_ret;rw[<-HQ.o];exact⟨rfl,hbw.o⟩
  have hil:i<es.length:=by rw[HLN.o];exact hlt
  have hq:=hes.o;rw[List.drop_eq_getElem_cons hil,show es[i]=es.getD i default from by rw[List.getD_eq_getElem?_getD,List.getElem?_eq_getElem hil];rfl] at hq;simp only[lD] at hq;by_cases hml:m<lid;case neg =>
   rw[if_neg hml] at hq;have HQ:=aB hq;clear hq hes;go_wp2_with fail;go_ret;rw[<-HQ.o];exact⟨rfl,hbw.o⟩
  rw[if_pos hml] at hq;obtain⟨be,oe,rfl,hbe,ev,hc0,hc1,hc2,hc3,hc4,hc5,hc6,hec⟩:=(HEN.o wr hbw.o).at_ hlt;generalize es.getD i default=x at *;have HBa:=aB (hbw.o.trans ((aP wr (J #[O X x.kind,Y ev.As ev.ns ev.cs,Y ev.Ap ev.np ev.cp,Y ev.Ai ev.ni ev.ci,Y ev.Ac ev.nc ev.cc,Y ev.At ev.nt ev.ct,Y ev.Ab ev.nb ev.cb] 68)).mono hbw.o.size));have HKa:=aB (hbk.o.alloc (J #[O X x.kind,Y ev.As ev.ns ev.cs,Y ev.Ap ev.np ev.cp,Y ev.Ai ev.ni ev.ci,Y ev.Ac ev.nc ev.cc,Y ev.At ev.nt ev.ct,Y ev.Ab ev.nb ev.cb] 68));have HEa:=aB (aS.new wr 68 #[O X x.kind,Y ev.As ev.ns ev.cs,Y ev.Ap ev.np ev.cp,Y ev.Ai ev.ni ev.ci,Y ev.Ac ev.nc ev.cc,Y ev.At ev.nt ev.ct,Y ev.Ab ev.nb ev.cb]);have hec2:=hec.below (aP wr (J #[O X x.kind,Y ev.As ev.ns ev.cs,Y ev.Ap ev.np ev.cp,Y ev.Ai ev.ni ev.ci,Y ev.Ac ev.nc ev.cc,Y ev.At ev.nt ev.ct,Y ev.Ab ev.nb ev.cb] 68));generalize x.kind=kd at *;obtain⟨As,ns,cs,Ap2,np2,cp2,Ai,ni,ci,Ac,nc,cc,At,nt,ct,Ab,nb,cb⟩:=ev;simp only at hc1 hc2 hc3 hc4 hc5 hc6 HBa HKa HEa hec2;have hsl:=hec2.sort.len;have hsf:=hec2.sort.few;have htl:=hec2.type.len;have htf:=hec2.type.few;have hyl:=hec2.body.len;have hyf:=hec2.body.few;have HPR:=aB hec2.params;have HIR:=aB hec2.indices;have HCR:=aB hec2.ctors;simp only at hsl hsf htl htf hyl hyf HPR HIR HCR;clear hec hec2;rw[hsl,htl,hyl] at hq;have hcf:=HCR.o.few;have hp1:=HPR.o.size_le lid hlid;have hp2:=HIR.o.size_le lid hlid;have HSP:=aB (fun w' h=>mS (HPR.o.below (w':=w') h) lid hlid);have HSI:=aB (fun w' h=>mS (HIR.o.below (w':=w') h) lid hlid);generalize eF lid x.params 0=P at *;generalize eF lid x.indices 0=I at *;obtain⟨hp10,hp11⟩:=hp1;obtain⟨hp20,hp21⟩:=hp2;have HQ:=aB hq;have w1:IntKind.i64.wrap (m+1)=m+1:=by rw[IntKind.wrap_i64];omega
  have w2:IntKind.i64.wrap (m+1+(ns:Int))=m+1+(ns:Int):=by rw[IntKind.wrap_i64];omega
  have w3:IntKind.i64.wrap (m+1+(ns:Int)+(nt:Int))=m+1+(ns:Int)+(nt:Int):=by rw[IntKind.wrap_i64];omega
  have w4:IntKind.i64.wrap (m+1+(ns:Int)+(nt:Int)+(nb:Int))=m+1+(ns:Int)+(nt:Int)+(nb:Int):=by rw[IntKind.wrap_i64];omega
  have w5:IntKind.i64.wrap (m+1+(ns:Int)+(nt:Int)+(nb:Int)+P)=m+1+(ns:Int)+(nt:Int)+(nb:Int)+P:=by rw[IntKind.wrap_i64];omega
  have w6:IntKind.i64.wrap (m+1+(ns:Int)+(nt:Int)+(nb:Int)+P+I)=m+1+(ns:Int)+(nt:Int)+(nb:Int)+P+I:=by rw[IntKind.wrap_i64];omega
  have HWS:=aB (And.intro w1 (And.intro w2 (And.intro w3 (And.intro w4 (And.intro w5 w6)))));clear hq hes hsl htl hyl w1 w2 w3 w4 w5 w6;have HW0:Hid (Below (wr.alloc (J #[O X kd,Y As ns cs,Y Ap2 np2 cp2,Y Ai ni ci,Y Ac nc cc,Y At nt ct,Y Ab nb cb] 68)).heap.size (wr.alloc (J #[O X kd,Y As ns cs,Y Ap2 np2 cp2,Y Ai ni ci,Y Ac nc cc,Y At nt ct,Y Ab nb cb] 68)) (wr.alloc (J #[O X kd,Y As ns cs,Y Ap2 np2 cp2,Y Ai ni ci,Y Ac nc cc,Y At nt ct,Y Ab nb cb] 68)).drew):=aB (bX (Below.refl _ _));have zke:=aS.cell HEa.o;go_wp2_with fail;refine wp_region_held_drew (S:=(fun w'=>w'.cell? ⟨wr.heap.size,1,Z⟩=E (Y As ns cs)/\w'.cell? ⟨wr.heap.size,5,Z⟩=E (Y At nt ct)/\w'.cell? ⟨wr.heap.size,6,Z⟩=E (Y Ab nb cb)/\w'.cell? ⟨wr.heap.size,2,Z⟩=E (Y Ap2 np2 cp2)/\w'.cell? ⟨wr.heap.size,3,Z⟩=E (Y Ai ni ci)/\Below (wr.alloc (J #[O X kd,Y As ns cs,Y Ap2 np2 cp2,Y Ai ni ci,Y Ac nc cc,Y At nt ct,Y Ab nb cb] 68)).heap.size (wr.alloc (J #[O X kd,Y As ns cs,Y Ap2 np2 cp2,Y Ai ni ci,Y Ac nc cc,Y At nt ct,Y Ab nb cb] 68)) w')) aC ?_ (fun hZ => ?_)
  · (try dsimp only);exact⟨zke 1,zke 5,zke 6,zke 2,zke 3,HW0.o⟩
  refine aL 0 hZ ?_;refine aL 1 hZ ?_;refine aL 2 hZ ?_;refine aL 3 hZ ?_;refine aL 4 hZ ?_;refine aL 5 hZ ?_;refine aL 6 hZ ?_;refine aL 7 hZ ?_;refine aL 8 hZ ?_;refine aL 9 hZ ?_;refine aL 10 hZ ?_;refine aL 11 hZ ?_;refine aL 12 hZ ?_;refine aL 13 hZ ?_;refine aL 14 hZ ?_;refine aL 15 hZ ?_;refine aL 16 hZ ?_;refine aL 19 hZ ?_;refine aL 20 hZ ?_;refine aL 21 hZ ?_;refine r1 17 fun K hK => ?_;go_simp;refine (HSP.o _ hZ.2.2.2.2.2).mono ?_;rintro e w3 ⟨rfl,rfl⟩;go_wp2_with fail;refine hK.o _ _ (by exact hZ) fun hZ => ?_;clear hK K;try simp only[p7]
  refine aL 18 hZ ?_;refine r1 22 fun K hK => ?_;go_simp;refine (HSI.o _ hZ.2.2.2.2.2).mono ?_;rintro e w3 ⟨rfl,rfl⟩;go_wp2_with fail;refine hK.o _ _ (by exact hZ) fun hZ => ?_;clear hK K;try simp only[p7]
  refine aL 23 hZ ?_;refine aL 24 hZ ?_;refine wpAnyH_done aC ?_ _;clear HSP HSI;have hZ:=HW0.o;go_wp2_with fail;obtain⟨wo,rfl⟩ : ∃wo:World,wo=wr:=⟨_,rfl⟩;go_loopw [5,8] (fun nv kv w2=>∃(k:Nat) (q:Int),nv=O X q/\kv=O X (k:Int)/\k<=nc/\0<=q/\q<=6000000000000000/\Hid (jT lid (x.ctors.drop k) q=jT lid x.ctors (m+1+(ns:Int)+(nt:Int)+(nb:Int)+P+I))/\Hid (Below (wo.alloc (J #[O X kd,Y As ns cs,Y Ap2 np2 cp2,Y Ai ni ci,Y Ac nc cc,Y At nt ct,Y Ab nb cb] 68)).heap.size (wo.alloc (J #[O X kd,Y As ns cs,Y Ap2 np2 cp2,Y Ai ni ci,Y Ac nc cc,Y At nt ct,Y Ab nb cb] 68)) w2)) (fun _ k _=>nc-(intOf k).toNat)
  case atStart=>exact⟨0,m+1+(ns:Int)+(nt:Int)+(nb:Int)+P+I,by first | (obtain⟨w1,w2,w3,w4,w5,w6⟩:=HWS.o;rw[w1,w2,w3,w4,w5,w6]) | (obtain⟨w1,w2,w3,w4,w5,w6⟩:=HWS.o;simp only[w1,w2,w3,w4,w5,w6]),rfl,by omega,by omega,by omega,aB rfl,HW0⟩
  case round =>
   obtain⟨k,q,rfl,rfl,hk,hq0,hq1,hcs,hb2⟩:=hrel;have hb3:=hb2.o;have zk2:=aS.cell (aS.below HEa.o hb3 HEa.o.lt);have hbl2:=hb3.size;by_cases hlk:k<nc;case neg =>
    have hq:=hcs.o;rw[List.drop_of_length_le (by rw[HCR.o.len];omega)] at hq;simp only[jT] at hq;rw[<-hq] at HQ;clear hq hcs;go_wp2_with fail;go_roundw
    case rel=>exact⟨i+1,q,rfl,by go_num,by omega,by omega,by omega,HQ,gK HKa hb3,dA HBa hb3⟩
    case measure=>simp[intOf];omega
   have hq:=hcs.o;have hkl:k<x.ctors.length:=by rw[HCR.o.len];exact hlk
   rw[List.drop_eq_getElem_cons hkl,show x.ctors[k]=x.ctors.getD k default from by rw[List.getD_eq_getElem?_getD,List.getElem?_eq_getElem hkl];rfl] at hq;simp only[jT] at hq;by_cases hql:q<lid;case neg =>
    rw[if_neg hql] at hq;rw[<-hq] at HQ;clear hq hcs;go_wp2_with fail;go_roundw
    case rel=>exact⟨i+1,q,rfl,by go_num,by omega,by omega,by omega,HQ,gK HKa hb3,dA HBa hb3⟩
    case measure=>simp[intOf];omega
   rw[if_pos hql] at hq;obtain⟨bc,oc,rfl,hbc,A1,n1,c1,A2,n2,c2,hk1,hk2,hr1,hr2⟩:=(HCR.o.below hb3).at_ hlk;have hp1:=hr1.size_le lid hlid;have hp2:=hr2.size_le lid hlid;have HS1:=aB (fun w' h=>mS (hr1.below (w':=w') h) lid hlid);have HS2:=aB (fun w' h=>mS (hr2.below (w':=w') h) lid hlid);generalize x.ctors.getD k default=ct2 at *;generalize eF lid ct2.args 0=P1 at *;generalize eF lid ct2.outs 0=I1 at *;obtain⟨hp10,hp11⟩:=hp1;obtain⟨hp20,hp21⟩:=hp2;have y1:IntKind.i64.wrap (q+1)=q+1:=by rw[IntKind.wrap_i64];omega
   have y2:IntKind.i64.wrap (q+1+P1)=q+1+P1:=by rw[IntKind.wrap_i64];omega
   have y3:IntKind.i64.wrap (q+1+P1+I1)=q+1+P1+I1:=by rw[IntKind.wrap_i64];omega
   have HWT:=aB (And.intro y1 (And.intro y2 y3));have HC2:=aB hq;have zk4:=zk2 4;have HD2:=aB (bX hb3);have HD3:Hid (Below wr.heap.size wr wr.drew):=aB (bX (Below.refl _ _));clear hq hcs y1 y2 y3 hr1 hr2;go_wp2_with fail;refine wp_region_held_drew (S:=(fun w'=>w'.cell? ⟨wo.heap.size,4,Z⟩=E (Y (E ⟨bc,oc,Z⟩) nc cc)/\w'.cell? ⟨bc,oc+k*2,Z⟩=E (Y A1 n1 c1)/\w'.cell? ⟨bc,oc+k*2+1,Z⟩=E (Y A2 n2 c2)/\Below wr.heap.size wr w')) aC ?_ (fun hZ => ?_)
   · (try dsimp only);exact⟨zk4,hk1,hk2,HD3.o⟩
   refine aL 0 hZ ?_;refine aL 1 hZ ?_;refine aL 2 hZ ?_;refine aL 3 hZ ?_;refine aL 4 hZ ?_;refine aL 5 hZ ?_;refine aL 6 hZ ?_;refine aL 7 hZ ?_;refine aL 8 hZ ?_;refine aL 11 hZ ?_;refine aL 12 hZ ?_;refine aL 13 hZ ?_;refine aL 14 hZ ?_;refine aL 15 hZ ?_;refine aL 16 hZ ?_;refine aL 17 hZ ?_;refine r1 9 fun K hK => ?_;go_simp;refine (HS1.o _ hZ.2.2.2).mono ?_;rintro e w3 ⟨rfl,rfl⟩;go_wp2_with fail;refine hK.o _ _ (by exact hZ) fun hZ => ?_;clear hK K;try simp only[p7]
   refine aL 10 hZ ?_;refine r1 18 fun K hK => ?_;go_simp;refine (HS2.o _ hZ.2.2.2).mono ?_;rintro e w3 ⟨rfl,rfl⟩;go_wp2_with fail;refine hK.o _ _ (by exact hZ) fun hZ => ?_;clear hK K;try simp only[p7]
   refine aL 19 hZ ?_;refine aL 20 hZ ?_;refine wpAnyH_done aC ?_ _;clear HS1 HS2;go_wp2_with fail;go_roundw
   case rel=>exact⟨k+1,q+1+P1+I1,by first | (obtain⟨w1,w2,w3⟩:=HWT.o;rw[w1,w2,w3]) | (obtain⟨w1,w2,w3⟩:=HWT.o;simp only[w1,w2,w3]),by go_num,by omega,by omega,by omega,HC2,HD2⟩
   case measure=>simp[intOf];omega
end
end Go.Proofs.YtjllmblbbgojbaaGreat
