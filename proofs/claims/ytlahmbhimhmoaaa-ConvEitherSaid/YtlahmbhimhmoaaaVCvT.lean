/- core's comparer: sorts. -/
import Derived.Test.YtlahmbhimhmoaaaVCvB
namespace Go.Proofs.Ytlahmbhimhmoaaa
set_option linter.unusedVariables false
set_option linter.unusedSimpArgs false
open Go.RowKit
open Option renaming none → O
open Go.Lib renaming hid->aB
theorem wC{b:Bk}{free:Int}{x:TT}(I:bJ b free x)(G:x.1.op=2):aT x=x.1::x.2.1:=by
 obtain⟨n,a,k⟩:=x;have F:=I.okt.wf;have hd:ds n=[]:=by
  have D:=jG I.okt.ok;simp only at G D;rw[G]at D;exact ND D
 simp only at F;rw[hd]at F;cases k with
 | nil=>simp[aT,row]
 | cons _ _ _ _ _=>exact F.elim
set_option maxRecDepth 100000 in
set_option maxHeartbeats 4000000 in
theorem xJ{w0 w:OE}{g:Nat}{v:bA}{b:Bk}{cA:OC}{cn cc:Nat}{cv:OD}(hb:bO w0 v b){k:Nat}(hw:lW w0 g v b cA cn cc cv k w){A:OC}{n c:Nat}{x:TT}(ht:aX w A n c (aT x))(hx:bJ b (cv.length:Int) x){B:OC}{m d:Nat}{y:TT}(hu:aX w B m d (aT y))(hy:bJ b (cv.length:Int) y)(h2:x.1.op=2)(c0:y.1.op=2)(u:Bool):
 Calls Try.prog 48 #[.pointer (some ⟨g,0,O⟩),.slice A n c,.slice B m d,.bool u] w (GD (cD b u x y) w):=by
 obtain⟨a7,G⟩:=OM (cD b u x y);rw[<-G];unfold cD at G;rw[LZ h2]at G;rw[wC hx h2]at ht;rw[wC hy c0]at hu;have d1:x.2.1.length<=4096:=by
  have:=hx.few;have e:bZ x=1+x.2.1.length+(row x.2.2).length:=cS x.1 x.2.1 x.2.2;omega
 have d3:y.2.1.length<=4096:=by
  have:=hy.few;have e:bZ y=1+y.2.1.length+(row y.2.2).length:=cS y.1 y.2.1 y.2.2;omega
 obtain⟨b6,b7⟩:=OF (nM ht d1) (fun (W:OE) (h:OB w W)=>nM (hu.below h) d3);have hn:0<n:=by have:=ht.len;simp at this;omega
 have hm:0<m:=by have:=hu.len;simp at this;omega
 obtain⟨bf,of,rfl,c4,f0,f1,f2⟩:=ht.at_ (p:=0) hn;obtain⟨bg,og,rfl,c5,g0,g1,g2⟩:=hu.at_ (p:=0) hm;have HF:Hid (w.cell? ⟨bf,of+1,O⟩=some (.int .i64 x.1.a)):=aB (by simpa[bB] using f1);have b5:Hid (w.cell? ⟨bg,og+1,O⟩=some (.int .i64 y.1.a)):=aB (by simpa[bB] using g1);obtain⟨b1,b2⟩:=OF c4 c5;have hg:=hw.lt;obtain⟨HG,b4,b3⟩:=OK hg hw.blk (fun (W:OE) (h:OB w W)=>(hb.below hw.bel).below h);obtain⟨xa,d0⟩:=OM x.1.a;obtain⟨ya,d2⟩:=OM y.1.a;obtain⟨lx,c6⟩:=OM x.2.1;obtain⟨ly,c7⟩:=OM y.2.1;rw[<-d0]at HF G;rw[<-d2]at b5 G;rw[<-c6]at b6 G;rw[<-c7]at b7 G;clear ht hu hx hy d1 d3 h2 c0 f0 f1 f2 g0 g1 g2 hw hb d0 d2 c6 c7 c4 c5;go_in;go_wp2_with fail;refine (b6.o).mono ?_;rintro e w1 ⟨c3,A1,c1,rfl,c8⟩;obtain⟨b0,d4⟩:=OF c3 c8;clear c3 c8;go_wp2_with fail;refine (b7.o w1 b0.o).mono ?_;rintro e s ⟨a9,A2,c2,rfl,c9⟩;have I:=bK b0 a9;obtain⟨a8,b8⟩:=OF (d4.o.below a9) c9;obtain⟨a2,d5,z,a3,a4,a5,a6,a0⟩:=OH (fun (W:OE) (h:OB s W)=>pH (b3.o W (I.o.trans (h.mono I.o.size))) (a8.o.below h) (b8.o.below h)) (fun (W:OE) (h:OB s W)=>pH (b3.o W (I.o.trans (h.mono I.o.size))) (b8.o.below h) (a8.o.below h)) (b4.o.below I.o HG.o) ((I.o.cell (p:=⟨bf,of+1,O⟩) b1.o).trans HF.o) ((I.o.cell (p:=⟨bg,og+1,O⟩) b2.o).trans b5.o) (MD b1.o I.o.size) (MD b2.o I.o.size) (MD HG.o I.o.size);clear a9 c9;go_wp2_with fail;by_cases a1:xa=ya;rotate_left
 . have e0:(xa==ya)=false:=MM.2 a1;have HR:Hid (a7=false):=aB (by rw[G,MA a1];simp);clear G a1;refine wp_region_held_drew (S:=(fun w'=>OB s w')) aC ?_ (fun D=>?_)
   . (try dsimp only);exact aU (MC _ _) 1
   have Y:Hid (OB s s.drew):=aB (aU (MC _ _) 1);generalize s.drew=W1 at *;refine wpAnyH_take (i:=0) (v:=?_) rfl aC aC aC (fun _ _ _ h=>h) (Or.inl ⟨by rfl,fun F hSw=>?_⟩) D ?_;rotate_left
   . (go_simp;try with_reducible rfl)
   try simp only[p7]
   refine wpAnyH_take (i:=1) (v:=?_) rfl aC aC aC (fun _ _ _ h=>h) (Or.inl ⟨by rfl,fun F hSw=>?_⟩) D ?_;rotate_left
   . (go_simp;try with_reducible rfl)
   try simp only[p7]
   refine wpAnyH_take (i:=2) (v:=?_) rfl aC aC aC (fun _ _ _ h=>h) (Or.inl ⟨by rfl,fun F hSw=>?_⟩) D ?_;rotate_left
   . (go_simp;try with_reducible rfl)
   try simp only[p7]
   refine tk 3 ?_ (fun F hSw=>?_) D ?_;rotate_left
   . have zf:=(hSw.cell (p:=⟨bf,of+1,O⟩) a5.o).trans a3.o;go_simp;try with_reducible rfl
   try simp only[p7]
   refine wpAnyH_take (i:=4) (v:=?_) rfl aC aC aC (fun _ _ _ h=>h) (Or.inl ⟨by rfl,fun F hSw=>?_⟩) D ?_;rotate_left
   . (go_simp;try with_reducible rfl)
   try simp only[p7]
   refine wpAnyH_take (i:=5) (v:=?_) rfl aC aC aC (fun _ _ _ h=>h) (Or.inl ⟨by rfl,fun F hSw=>?_⟩) D ?_;rotate_left
   . (go_simp;try with_reducible rfl)
   try simp only[p7]
   refine wpAnyH_take (i:=6) (v:=?_) rfl aC aC aC (fun _ _ _ h=>h) (Or.inl ⟨by rfl,fun F hSw=>?_⟩) D ?_;rotate_left
   . (go_simp;try with_reducible rfl)
   try simp only[p7]
   refine tk 7 ?_ (fun F hSw=>?_) D ?_;rotate_left
   . have zg:=(hSw.cell (p:=⟨bg,og+1,O⟩) a6.o).trans a4.o;go_simp;try with_reducible rfl
   try simp only[p7]
   refine wpAnyH_take (i:=8) (v:=?_) rfl aC aC aC (fun _ _ _ h=>h) (Or.inl ⟨by rfl,fun F hSw=>?_⟩) D ?_;rotate_left
   . (go_simp;try with_reducible rfl)
   try simp only[p7]
   refine wpAnyH_take (i:=9) (v:=?_) rfl aC aC aC (fun _ _ _ h=>h) (Or.inl ⟨by rfl,fun F hSw=>?_⟩) D ?_;rotate_left
   . (go_simp;try with_reducible rfl)
   try simp only[p7]
   refine aM 10 D ?_;refine aM 11 D ?_;refine aM 12 D ?_;refine aM 13 D ?_;refine aM 14 D ?_;refine aM 15 D ?_;refine aM 16 D ?_;refine aM 17 D ?_;refine aM 18 D ?_;refine aM 19 D ?_;refine aM 20 D ?_;refine aM 21 D ?_;refine aM 22 D ?_;refine wpAnyH_take (i:=23) (v:=?_) rfl aC aC aC (fun _ _ _ h=>h) (Or.inl ⟨by rfl,fun F hSw=>?_⟩) D ?_;rotate_left
   . (go_simp;try with_reducible rfl)
   try simp only[p7]
   refine wpAnyH_take (i:=24) (v:=?_) rfl aC aC aC (fun _ _ _ h=>h) (Or.inl ⟨by rfl,fun F hSw=>?_⟩) D ?_;rotate_left
   . (go_simp;try with_reducible rfl)
   try simp only[p7]
   refine aM 25 D ?_;refine aM 26 D ?_;refine aM 27 D ?_;refine aM 28 D ?_;refine aM 29 D ?_;refine aM 30 D ?_;refine aM 31 D ?_;refine aM 32 D ?_;refine aM 33 D ?_;refine aM 34 D ?_;refine aM 35 D ?_;refine aM 36 D ?_;refine aM 37 D ?_;refine aM 38 D ?_;refine aM 39 D ?_;refine aM 40 D ?_;refine wpAnyH_take (i:=41) (v:=?_) rfl aC aC aC (fun _ _ _ h=>h) (Or.inl ⟨by rfl,fun F hSw=>?_⟩) D ?_;rotate_left
   . (go_simp;try with_reducible rfl)
   try simp only[p7]
   refine wpAnyH_take (i:=42) (v:=?_) rfl aC aC aC (fun _ _ _ h=>h) (Or.inl ⟨by rfl,fun F hSw=>?_⟩) D ?_;rotate_left
   . (go_simp;try with_reducible rfl)
   try simp only[p7]
   refine wpAnyH_done aC ?_ _;go_wp2_with fail;go_ret;rw[HR.o];exact⟨rfl,I.o.trans (Y.o.mono I.o.size)⟩
 have e0:(xa==ya)=true:=by simpa using a1
 rw[MB a1,NI]at G;clear a1;cases hu1:mZ b lx ly with
 | false =>
  rw[hu1]at a2 G;have HR:Hid (a7=false):=aB (by rw[G];simp);clear G;refine wp_region_held_drew (S:=(fun w'=>OB s w')) aC ?_ (fun D=>?_)
  . (try dsimp only);exact aU (MC _ _) 1
  have Y:Hid (OB s s.drew):=aB (aU (MC _ _) 1);generalize s.drew=W1 at *;refine wpAnyH_take (i:=0) (v:=?_) rfl aC aC aC (fun _ _ _ h=>h) (Or.inl ⟨by rfl,fun F hSw=>?_⟩) D ?_;rotate_left
  . (go_simp;try with_reducible rfl)
  try simp only[p7]
  refine wpAnyH_take (i:=1) (v:=?_) rfl aC aC aC (fun _ _ _ h=>h) (Or.inl ⟨by rfl,fun F hSw=>?_⟩) D ?_;rotate_left
  . (go_simp;try with_reducible rfl)
  try simp only[p7]
  refine wpAnyH_take (i:=2) (v:=?_) rfl aC aC aC (fun _ _ _ h=>h) (Or.inl ⟨by rfl,fun F hSw=>?_⟩) D ?_;rotate_left
  . (go_simp;try with_reducible rfl)
  try simp only[p7]
  refine tk 3 ?_ (fun F hSw=>?_) D ?_;rotate_left
  . have zf:=(hSw.cell (p:=⟨bf,of+1,O⟩) a5.o).trans a3.o;go_simp;try with_reducible rfl
  try simp only[p7]
  refine wpAnyH_take (i:=4) (v:=?_) rfl aC aC aC (fun _ _ _ h=>h) (Or.inl ⟨by rfl,fun F hSw=>?_⟩) D ?_;rotate_left
  . (go_simp;try with_reducible rfl)
  try simp only[p7]
  refine wpAnyH_take (i:=5) (v:=?_) rfl aC aC aC (fun _ _ _ h=>h) (Or.inl ⟨by rfl,fun F hSw=>?_⟩) D ?_;rotate_left
  . (go_simp;try with_reducible rfl)
  try simp only[p7]
  refine wpAnyH_take (i:=6) (v:=?_) rfl aC aC aC (fun _ _ _ h=>h) (Or.inl ⟨by rfl,fun F hSw=>?_⟩) D ?_;rotate_left
  . (go_simp;try with_reducible rfl)
  try simp only[p7]
  refine tk 7 ?_ (fun F hSw=>?_) D ?_;rotate_left
  . have zg:=(hSw.cell (p:=⟨bg,og+1,O⟩) a6.o).trans a4.o;go_simp;try with_reducible rfl
  try simp only[p7]
  refine wpAnyH_take (i:=8) (v:=?_) rfl aC aC aC (fun _ _ _ h=>h) (Or.inl ⟨by rfl,fun F hSw=>?_⟩) D ?_;rotate_left
  . (go_simp;try with_reducible rfl)
  try simp only[p7]
  refine wpAnyH_take (i:=9) (v:=?_) rfl aC aC aC (fun _ _ _ h=>h) (Or.inl ⟨by rfl,fun F hSw=>?_⟩) D ?_;rotate_left
  . (go_simp;try with_reducible rfl)
  try simp only[p7]
  refine wpAnyH_take (i:=10) (v:=?_) rfl aC aC aC (fun _ _ _ h=>h) (Or.inl ⟨by rfl,fun F hSw=>?_⟩) D ?_;rotate_left
  . (go_simp;try with_reducible rfl)
  try simp only[p7]
  refine wpAnyH_take (i:=11) (v:=?_) rfl aC aC aC (fun _ _ _ h=>h) (Or.inl ⟨by rfl,fun F hSw=>?_⟩) D ?_;rotate_left
  . (go_simp;try with_reducible rfl)
  try simp only[p7]
  refine wpAnyH_take (i:=12) (v:=?_) rfl aC aC aC (fun _ _ _ h=>h) (Or.inl ⟨by rfl,fun F hSw=>?_⟩) D ?_;rotate_left
  . (go_simp;try with_reducible rfl)
  try simp only[p7]
  refine wpAnyH_take (i:=13) (v:=?_) rfl aC aC aC (fun _ _ _ h=>h) (Or.inl ⟨by rfl,fun F hSw=>?_⟩) D ?_;rotate_left
  . (go_simp;try with_reducible rfl)
  try simp only[p7]
  refine tk 14 ?_ (fun F hSw=>?_) D ?_;rotate_left
  . have z0:=(hSw.cell (p:=⟨g,0,O⟩) a0.o).trans (z.o.cell 0);go_simp;try with_reducible rfl
  try simp only[p7]
  refine wpAnyH_take (i:=15) (v:=?_) rfl aC aC aC (fun _ _ _ h=>h) (Or.inl ⟨by rfl,fun F hSw=>?_⟩) D ?_;rotate_left
  . (go_simp;try with_reducible rfl)
  try simp only[p7]
  refine wpAnyH_take (i:=16) (v:=?_) rfl aC aC aC (fun _ _ _ h=>h) (Or.inl ⟨by rfl,fun F hSw=>?_⟩) D ?_;rotate_left
  . (go_simp;try with_reducible rfl)
  try simp only[p7]
  refine wpAnyH_take (i:=17) (v:=?_) rfl aC aC aC (fun _ _ _ h=>h) (Or.inl ⟨by rfl,fun F hSw=>?_⟩) D ?_;rotate_left
  . (go_simp;try with_reducible rfl)
  try simp only[p7]
  refine wpAnyH_take (i:=18) (v:=?_) rfl aC aC aC (fun _ _ _ h=>h) (Or.inl ⟨by rfl,fun F hSw=>?_⟩) D ?_;rotate_left
  . (go_simp;try with_reducible rfl)
  try simp only[p7]
  refine tk 19 ?_ (fun F hSw=>?_) D ?_;rotate_left
  . have z1:=(hSw.cell (p:=⟨g,1,O⟩) a0.o).trans (z.o.cell 1);go_simp;try with_reducible rfl
  try simp only[p7]
  refine wpAnyH_take (i:=20) (v:=?_) rfl aC aC aC (fun _ _ _ h=>h) (Or.inl ⟨by rfl,fun F hSw=>?_⟩) D ?_;rotate_left
  . (go_simp;try with_reducible rfl)
  try simp only[p7]
  refine wpAnyH_take (i:=21) (v:=?_) rfl aC aC aC (fun _ _ _ h=>h) (Or.inl ⟨by rfl,fun F hSw=>?_⟩) D ?_;rotate_left
  . (go_simp;try with_reducible rfl)
  try simp only[p7]
  refine r1 22 fun K hK=>?_;go_simp;go_at_call 65
  refine (a2.o _ Y.o).mono ?_;rintro e w3 ⟨rfl,U⟩;have Z:=bK Y U;clear U;go_wp2_with fail;refine hK.o _ _ (by exact Z.o) fun D=>?_;clear hK K;try simp only[p7]
  refine wpAnyH_take (i:=23) (v:=?_) rfl aC aC aC (fun _ _ _ h=>h) (Or.inl ⟨by rfl,fun F hSw=>?_⟩) D ?_;rotate_left
  . (go_simp;try with_reducible rfl)
  try simp only[p7]
  refine wpAnyH_take (i:=24) (v:=?_) rfl aC aC aC (fun _ _ _ h=>h) (Or.inl ⟨by rfl,fun F hSw=>?_⟩) D ?_;rotate_left
  . (go_simp;try with_reducible rfl)
  try simp only[p7]
  refine aM 25 D ?_;refine aM 26 D ?_;refine aM 27 D ?_;refine aM 28 D ?_;refine aM 29 D ?_;refine aM 30 D ?_;refine aM 31 D ?_;refine aM 32 D ?_;refine aM 33 D ?_;refine aM 34 D ?_;refine aM 35 D ?_;refine aM 36 D ?_;refine aM 37 D ?_;refine aM 38 D ?_;refine aM 39 D ?_;refine aM 40 D ?_;refine wpAnyH_take (i:=41) (v:=?_) rfl aC aC aC (fun _ _ _ h=>h) (Or.inl ⟨by rfl,fun F hSw=>?_⟩) D ?_;rotate_left
  . (go_simp;try with_reducible rfl)
  try simp only[p7]
  refine wpAnyH_take (i:=42) (v:=?_) rfl aC aC aC (fun _ _ _ h=>h) (Or.inl ⟨by rfl,fun F hSw=>?_⟩) D ?_;rotate_left
  . (go_simp;try with_reducible rfl)
  try simp only[p7]
  refine wpAnyH_done aC ?_ _;go_wp2_with fail;go_ret;rw[HR.o];exact⟨rfl,I.o.trans (Z.o.mono I.o.size)⟩
 | true =>
  rw[hu1]at a2 G;cases u with
  | true =>
   have HR:Hid (a7=true):=aB (by rw[G];rfl);clear G;refine wp_region_held_drew (S:=(fun w'=>OB s w')) aC ?_ (fun D=>?_)
   . (try dsimp only);exact aU (MC _ _) 1
   have Y:Hid (OB s s.drew):=aB (aU (MC _ _) 1);generalize s.drew=W1 at *;refine wpAnyH_take (i:=0) (v:=?_) rfl aC aC aC (fun _ _ _ h=>h) (Or.inl ⟨by rfl,fun F hSw=>?_⟩) D ?_;rotate_left
   . (go_simp;try with_reducible rfl)
   try simp only[p7]
   refine wpAnyH_take (i:=1) (v:=?_) rfl aC aC aC (fun _ _ _ h=>h) (Or.inl ⟨by rfl,fun F hSw=>?_⟩) D ?_;rotate_left
   . (go_simp;try with_reducible rfl)
   try simp only[p7]
   refine wpAnyH_take (i:=2) (v:=?_) rfl aC aC aC (fun _ _ _ h=>h) (Or.inl ⟨by rfl,fun F hSw=>?_⟩) D ?_;rotate_left
   . (go_simp;try with_reducible rfl)
   try simp only[p7]
   refine tk 3 ?_ (fun F hSw=>?_) D ?_;rotate_left
   . have zf:=(hSw.cell (p:=⟨bf,of+1,O⟩) a5.o).trans a3.o;go_simp;try with_reducible rfl
   try simp only[p7]
   refine wpAnyH_take (i:=4) (v:=?_) rfl aC aC aC (fun _ _ _ h=>h) (Or.inl ⟨by rfl,fun F hSw=>?_⟩) D ?_;rotate_left
   . (go_simp;try with_reducible rfl)
   try simp only[p7]
   refine wpAnyH_take (i:=5) (v:=?_) rfl aC aC aC (fun _ _ _ h=>h) (Or.inl ⟨by rfl,fun F hSw=>?_⟩) D ?_;rotate_left
   . (go_simp;try with_reducible rfl)
   try simp only[p7]
   refine wpAnyH_take (i:=6) (v:=?_) rfl aC aC aC (fun _ _ _ h=>h) (Or.inl ⟨by rfl,fun F hSw=>?_⟩) D ?_;rotate_left
   . (go_simp;try with_reducible rfl)
   try simp only[p7]
   refine tk 7 ?_ (fun F hSw=>?_) D ?_;rotate_left
   . have zg:=(hSw.cell (p:=⟨bg,og+1,O⟩) a6.o).trans a4.o;go_simp;try with_reducible rfl
   try simp only[p7]
   refine wpAnyH_take (i:=8) (v:=?_) rfl aC aC aC (fun _ _ _ h=>h) (Or.inl ⟨by rfl,fun F hSw=>?_⟩) D ?_;rotate_left
   . (go_simp;try with_reducible rfl)
   try simp only[p7]
   refine wpAnyH_take (i:=9) (v:=?_) rfl aC aC aC (fun _ _ _ h=>h) (Or.inl ⟨by rfl,fun F hSw=>?_⟩) D ?_;rotate_left
   . (go_simp;try with_reducible rfl)
   try simp only[p7]
   refine wpAnyH_take (i:=10) (v:=?_) rfl aC aC aC (fun _ _ _ h=>h) (Or.inl ⟨by rfl,fun F hSw=>?_⟩) D ?_;rotate_left
   . (go_simp;try with_reducible rfl)
   try simp only[p7]
   refine wpAnyH_take (i:=11) (v:=?_) rfl aC aC aC (fun _ _ _ h=>h) (Or.inl ⟨by rfl,fun F hSw=>?_⟩) D ?_;rotate_left
   . (go_simp;try with_reducible rfl)
   try simp only[p7]
   refine wpAnyH_take (i:=12) (v:=?_) rfl aC aC aC (fun _ _ _ h=>h) (Or.inl ⟨by rfl,fun F hSw=>?_⟩) D ?_;rotate_left
   . (go_simp;try with_reducible rfl)
   try simp only[p7]
   refine wpAnyH_take (i:=13) (v:=?_) rfl aC aC aC (fun _ _ _ h=>h) (Or.inl ⟨by rfl,fun F hSw=>?_⟩) D ?_;rotate_left
   . (go_simp;try with_reducible rfl)
   try simp only[p7]
   refine tk 14 ?_ (fun F hSw=>?_) D ?_;rotate_left
   . have z0:=(hSw.cell (p:=⟨g,0,O⟩) a0.o).trans (z.o.cell 0);go_simp;try with_reducible rfl
   try simp only[p7]
   refine wpAnyH_take (i:=15) (v:=?_) rfl aC aC aC (fun _ _ _ h=>h) (Or.inl ⟨by rfl,fun F hSw=>?_⟩) D ?_;rotate_left
   . (go_simp;try with_reducible rfl)
   try simp only[p7]
   refine wpAnyH_take (i:=16) (v:=?_) rfl aC aC aC (fun _ _ _ h=>h) (Or.inl ⟨by rfl,fun F hSw=>?_⟩) D ?_;rotate_left
   . (go_simp;try with_reducible rfl)
   try simp only[p7]
   refine wpAnyH_take (i:=17) (v:=?_) rfl aC aC aC (fun _ _ _ h=>h) (Or.inl ⟨by rfl,fun F hSw=>?_⟩) D ?_;rotate_left
   . (go_simp;try with_reducible rfl)
   try simp only[p7]
   refine wpAnyH_take (i:=18) (v:=?_) rfl aC aC aC (fun _ _ _ h=>h) (Or.inl ⟨by rfl,fun F hSw=>?_⟩) D ?_;rotate_left
   . (go_simp;try with_reducible rfl)
   try simp only[p7]
   refine tk 19 ?_ (fun F hSw=>?_) D ?_;rotate_left
   . have z1:=(hSw.cell (p:=⟨g,1,O⟩) a0.o).trans (z.o.cell 1);go_simp;try with_reducible rfl
   try simp only[p7]
   refine wpAnyH_take (i:=20) (v:=?_) rfl aC aC aC (fun _ _ _ h=>h) (Or.inl ⟨by rfl,fun F hSw=>?_⟩) D ?_;rotate_left
   . (go_simp;try with_reducible rfl)
   try simp only[p7]
   refine wpAnyH_take (i:=21) (v:=?_) rfl aC aC aC (fun _ _ _ h=>h) (Or.inl ⟨by rfl,fun F hSw=>?_⟩) D ?_;rotate_left
   . (go_simp;try with_reducible rfl)
   try simp only[p7]
   refine r1 22 fun K hK=>?_;go_simp;go_at_call 65
   refine (a2.o _ Y.o).mono ?_;rintro e w3 ⟨rfl,U⟩;have Z:=bK Y U;clear U;go_wp2_with fail;refine hK.o _ _ (by exact Z.o) fun D=>?_;clear hK K;try simp only[p7]
   refine wpAnyH_take (i:=23) (v:=?_) rfl aC aC aC (fun _ _ _ h=>h) (Or.inl ⟨by rfl,fun F hSw=>?_⟩) D ?_;rotate_left
   . (go_simp;try with_reducible rfl)
   try simp only[p7]
   refine wpAnyH_take (i:=24) (v:=?_) rfl aC aC aC (fun _ _ _ h=>h) (Or.inl ⟨by rfl,fun F hSw=>?_⟩) D ?_;rotate_left
   . (go_simp;try with_reducible rfl)
   try simp only[p7]
   refine wpAnyH_take (i:=25) (v:=?_) rfl aC aC aC (fun _ _ _ h=>h) (Or.inl ⟨by rfl,fun F hSw=>?_⟩) D ?_;rotate_left
   . (go_simp;try with_reducible rfl)
   try simp only[p7]
   refine wpAnyH_take (i:=26) (v:=?_) rfl aC aC aC (fun _ _ _ h=>h) (Or.inl ⟨by rfl,fun F hSw=>?_⟩) D ?_;rotate_left
   . (go_simp;try with_reducible rfl)
   try simp only[p7]
   refine aM 27 D ?_;refine aM 28 D ?_;refine aM 29 D ?_;refine aM 30 D ?_;refine aM 31 D ?_;refine aM 32 D ?_;refine aM 33 D ?_;refine aM 34 D ?_;refine aM 35 D ?_;refine aM 36 D ?_;refine aM 37 D ?_;refine aM 38 D ?_;refine aM 39 D ?_;refine wpAnyH_take (i:=40) (v:=?_) rfl aC aC aC (fun _ _ _ h=>h) (Or.inl ⟨by rfl,fun F hSw=>?_⟩) D ?_;rotate_left
   . (go_simp;try with_reducible rfl)
   try simp only[p7]
   refine wpAnyH_take (i:=41) (v:=?_) rfl aC aC aC (fun _ _ _ h=>h) (Or.inl ⟨by rfl,fun F hSw=>?_⟩) D ?_;rotate_left
   . (go_simp;try with_reducible rfl)
   try simp only[p7]
   refine wpAnyH_take (i:=42) (v:=?_) rfl aC aC aC (fun _ _ _ h=>h) (Or.inl ⟨by rfl,fun F hSw=>?_⟩) D ?_;rotate_left
   . (go_simp;try with_reducible rfl)
   try simp only[p7]
   refine wpAnyH_done aC ?_ _;go_wp2_with fail;go_ret;rw[HR.o];exact⟨rfl,I.o.trans (Z.o.mono I.o.size)⟩
  | false =>
   have HR:Hid (a7=mZ b ly lx):=aB (by rw[G];simp);clear G;generalize mZ b ly lx=r2 at *;refine wp_region_held_drew (S:=(fun w'=>OB s w')) aC ?_ (fun D=>?_)
   . (try dsimp only);exact aU (MC _ _) 1
   have Y:Hid (OB s s.drew):=aB (aU (MC _ _) 1);generalize s.drew=W1 at *;refine wpAnyH_take (i:=0) (v:=?_) rfl aC aC aC (fun _ _ _ h=>h) (Or.inl ⟨by rfl,fun F hSw=>?_⟩) D ?_;rotate_left
   . (go_simp;try with_reducible rfl)
   try simp only[p7]
   refine wpAnyH_take (i:=1) (v:=?_) rfl aC aC aC (fun _ _ _ h=>h) (Or.inl ⟨by rfl,fun F hSw=>?_⟩) D ?_;rotate_left
   . (go_simp;try with_reducible rfl)
   try simp only[p7]
   refine wpAnyH_take (i:=2) (v:=?_) rfl aC aC aC (fun _ _ _ h=>h) (Or.inl ⟨by rfl,fun F hSw=>?_⟩) D ?_;rotate_left
   . (go_simp;try with_reducible rfl)
   try simp only[p7]
   refine tk 3 ?_ (fun F hSw=>?_) D ?_;rotate_left
   . have zf:=(hSw.cell (p:=⟨bf,of+1,O⟩) a5.o).trans a3.o;go_simp;try with_reducible rfl
   try simp only[p7]
   refine wpAnyH_take (i:=4) (v:=?_) rfl aC aC aC (fun _ _ _ h=>h) (Or.inl ⟨by rfl,fun F hSw=>?_⟩) D ?_;rotate_left
   . (go_simp;try with_reducible rfl)
   try simp only[p7]
   refine wpAnyH_take (i:=5) (v:=?_) rfl aC aC aC (fun _ _ _ h=>h) (Or.inl ⟨by rfl,fun F hSw=>?_⟩) D ?_;rotate_left
   . (go_simp;try with_reducible rfl)
   try simp only[p7]
   refine wpAnyH_take (i:=6) (v:=?_) rfl aC aC aC (fun _ _ _ h=>h) (Or.inl ⟨by rfl,fun F hSw=>?_⟩) D ?_;rotate_left
   . (go_simp;try with_reducible rfl)
   try simp only[p7]
   refine tk 7 ?_ (fun F hSw=>?_) D ?_;rotate_left
   . have zg:=(hSw.cell (p:=⟨bg,og+1,O⟩) a6.o).trans a4.o;go_simp;try with_reducible rfl
   try simp only[p7]
   refine wpAnyH_take (i:=8) (v:=?_) rfl aC aC aC (fun _ _ _ h=>h) (Or.inl ⟨by rfl,fun F hSw=>?_⟩) D ?_;rotate_left
   . (go_simp;try with_reducible rfl)
   try simp only[p7]
   refine wpAnyH_take (i:=9) (v:=?_) rfl aC aC aC (fun _ _ _ h=>h) (Or.inl ⟨by rfl,fun F hSw=>?_⟩) D ?_;rotate_left
   . (go_simp;try with_reducible rfl)
   try simp only[p7]
   refine wpAnyH_take (i:=10) (v:=?_) rfl aC aC aC (fun _ _ _ h=>h) (Or.inl ⟨by rfl,fun F hSw=>?_⟩) D ?_;rotate_left
   . (go_simp;try with_reducible rfl)
   try simp only[p7]
   refine wpAnyH_take (i:=11) (v:=?_) rfl aC aC aC (fun _ _ _ h=>h) (Or.inl ⟨by rfl,fun F hSw=>?_⟩) D ?_;rotate_left
   . (go_simp;try with_reducible rfl)
   try simp only[p7]
   refine wpAnyH_take (i:=12) (v:=?_) rfl aC aC aC (fun _ _ _ h=>h) (Or.inl ⟨by rfl,fun F hSw=>?_⟩) D ?_;rotate_left
   . (go_simp;try with_reducible rfl)
   try simp only[p7]
   refine wpAnyH_take (i:=13) (v:=?_) rfl aC aC aC (fun _ _ _ h=>h) (Or.inl ⟨by rfl,fun F hSw=>?_⟩) D ?_;rotate_left
   . (go_simp;try with_reducible rfl)
   try simp only[p7]
   refine tk 14 ?_ (fun F hSw=>?_) D ?_;rotate_left
   . have z0:=(hSw.cell (p:=⟨g,0,O⟩) a0.o).trans (z.o.cell 0);go_simp;try with_reducible rfl
   try simp only[p7]
   refine wpAnyH_take (i:=15) (v:=?_) rfl aC aC aC (fun _ _ _ h=>h) (Or.inl ⟨by rfl,fun F hSw=>?_⟩) D ?_;rotate_left
   . (go_simp;try with_reducible rfl)
   try simp only[p7]
   refine wpAnyH_take (i:=16) (v:=?_) rfl aC aC aC (fun _ _ _ h=>h) (Or.inl ⟨by rfl,fun F hSw=>?_⟩) D ?_;rotate_left
   . (go_simp;try with_reducible rfl)
   try simp only[p7]
   refine wpAnyH_take (i:=17) (v:=?_) rfl aC aC aC (fun _ _ _ h=>h) (Or.inl ⟨by rfl,fun F hSw=>?_⟩) D ?_;rotate_left
   . (go_simp;try with_reducible rfl)
   try simp only[p7]
   refine wpAnyH_take (i:=18) (v:=?_) rfl aC aC aC (fun _ _ _ h=>h) (Or.inl ⟨by rfl,fun F hSw=>?_⟩) D ?_;rotate_left
   . (go_simp;try with_reducible rfl)
   try simp only[p7]
   refine tk 19 ?_ (fun F hSw=>?_) D ?_;rotate_left
   . have z1:=(hSw.cell (p:=⟨g,1,O⟩) a0.o).trans (z.o.cell 1);go_simp;try with_reducible rfl
   try simp only[p7]
   refine wpAnyH_take (i:=20) (v:=?_) rfl aC aC aC (fun _ _ _ h=>h) (Or.inl ⟨by rfl,fun F hSw=>?_⟩) D ?_;rotate_left
   . (go_simp;try with_reducible rfl)
   try simp only[p7]
   refine wpAnyH_take (i:=21) (v:=?_) rfl aC aC aC (fun _ _ _ h=>h) (Or.inl ⟨by rfl,fun F hSw=>?_⟩) D ?_;rotate_left
   . (go_simp;try with_reducible rfl)
   try simp only[p7]
   refine r1 22 fun K hK=>?_;go_simp;go_at_call 65
   refine (a2.o _ Y.o).mono ?_;rintro e w3 ⟨rfl,U⟩;have Z:=bK Y U;clear U;go_wp2_with fail;refine hK.o _ _ (by exact Z.o) fun D=>?_;clear hK K;try simp only[p7]
   refine wpAnyH_take (i:=23) (v:=?_) rfl aC aC aC (fun _ _ _ h=>h) (Or.inl ⟨by rfl,fun F hSw=>?_⟩) D ?_;rotate_left
   . (go_simp;try with_reducible rfl)
   try simp only[p7]
   refine wpAnyH_take (i:=24) (v:=?_) rfl aC aC aC (fun _ _ _ h=>h) (Or.inl ⟨by rfl,fun F hSw=>?_⟩) D ?_;rotate_left
   . (go_simp;try with_reducible rfl)
   try simp only[p7]
   refine wpAnyH_take (i:=25) (v:=?_) rfl aC aC aC (fun _ _ _ h=>h) (Or.inl ⟨by rfl,fun F hSw=>?_⟩) D ?_;rotate_left
   . (go_simp;try with_reducible rfl)
   try simp only[p7]
   refine wpAnyH_take (i:=26) (v:=?_) rfl aC aC aC (fun _ _ _ h=>h) (Or.inl ⟨by rfl,fun F hSw=>?_⟩) D ?_;rotate_left
   . (go_simp;try with_reducible rfl)
   try simp only[p7]
   refine wpAnyH_take (i:=27) (v:=?_) rfl aC aC aC (fun _ _ _ h=>h) (Or.inl ⟨by rfl,fun F hSw=>?_⟩) D ?_;rotate_left
   . (go_simp;try with_reducible rfl)
   try simp only[p7]
   refine wpAnyH_take (i:=28) (v:=?_) rfl aC aC aC (fun _ _ _ h=>h) (Or.inl ⟨by rfl,fun F hSw=>?_⟩) D ?_;rotate_left
   . (go_simp;try with_reducible rfl)
   try simp only[p7]
   refine wpAnyH_take (i:=29) (v:=?_) rfl aC aC aC (fun _ _ _ h=>h) (Or.inl ⟨by rfl,fun F hSw=>?_⟩) D ?_;rotate_left
   . (go_simp;try with_reducible rfl)
   try simp only[p7]
   refine wpAnyH_take (i:=30) (v:=?_) rfl aC aC aC (fun _ _ _ h=>h) (Or.inl ⟨by rfl,fun F hSw=>?_⟩) D ?_;rotate_left
   . (go_simp;try with_reducible rfl)
   try simp only[p7]
   refine tk 31 ?_ (fun F hSw=>?_) D ?_;rotate_left
   . have z0:=(hSw.cell (p:=⟨g,0,O⟩) a0.o).trans (z.o.cell 0);go_simp;try with_reducible rfl
   try simp only[p7]
   refine wpAnyH_take (i:=32) (v:=?_) rfl aC aC aC (fun _ _ _ h=>h) (Or.inl ⟨by rfl,fun F hSw=>?_⟩) D ?_;rotate_left
   . (go_simp;try with_reducible rfl)
   try simp only[p7]
   refine wpAnyH_take (i:=33) (v:=?_) rfl aC aC aC (fun _ _ _ h=>h) (Or.inl ⟨by rfl,fun F hSw=>?_⟩) D ?_;rotate_left
   . (go_simp;try with_reducible rfl)
   try simp only[p7]
   refine wpAnyH_take (i:=34) (v:=?_) rfl aC aC aC (fun _ _ _ h=>h) (Or.inl ⟨by rfl,fun F hSw=>?_⟩) D ?_;rotate_left
   . (go_simp;try with_reducible rfl)
   try simp only[p7]
   refine wpAnyH_take (i:=35) (v:=?_) rfl aC aC aC (fun _ _ _ h=>h) (Or.inl ⟨by rfl,fun F hSw=>?_⟩) D ?_;rotate_left
   . (go_simp;try with_reducible rfl)
   try simp only[p7]
   refine tk 36 ?_ (fun F hSw=>?_) D ?_;rotate_left
   . have z1:=(hSw.cell (p:=⟨g,1,O⟩) a0.o).trans (z.o.cell 1);go_simp;try with_reducible rfl
   try simp only[p7]
   refine wpAnyH_take (i:=37) (v:=?_) rfl aC aC aC (fun _ _ _ h=>h) (Or.inl ⟨by rfl,fun F hSw=>?_⟩) D ?_;rotate_left
   . (go_simp;try with_reducible rfl)
   try simp only[p7]
   refine wpAnyH_take (i:=38) (v:=?_) rfl aC aC aC (fun _ _ _ h=>h) (Or.inl ⟨by rfl,fun F hSw=>?_⟩) D ?_;rotate_left
   . (go_simp;try with_reducible rfl)
   try simp only[p7]
   refine r1 39 fun K hK=>?_;go_simp;go_at_call 65
   refine (d5.o _ Z.o).mono ?_;rintro e w4 ⟨rfl,U⟩;have b9:=bK Z U;clear U;go_wp2_with fail;refine hK.o _ _ (by exact b9.o) fun D=>?_;clear hK K;try simp only[p7]
   refine wpAnyH_take (i:=40) (v:=?_) rfl aC aC aC (fun _ _ _ h=>h) (Or.inl ⟨by rfl,fun F hSw=>?_⟩) D ?_;rotate_left
   . (go_simp;try with_reducible rfl)
   try simp only[p7]
   refine wpAnyH_take (i:=41) (v:=?_) rfl aC aC aC (fun _ _ _ h=>h) (Or.inl ⟨by rfl,fun F hSw=>?_⟩) D ?_;rotate_left
   . (go_simp;try with_reducible rfl)
   try simp only[p7]
   refine wpAnyH_take (i:=42) (v:=?_) rfl aC aC aC (fun _ _ _ h=>h) (Or.inl ⟨by rfl,fun F hSw=>?_⟩) D ?_;rotate_left
   . (go_simp;try with_reducible rfl)
   try simp only[p7]
   refine wpAnyH_done aC ?_ _;go_wp2_with fail;go_ret;rw[HR.o];exact⟨rfl,I.o.trans (b9.o.mono I.o.size)⟩
end Go.Proofs.Ytlahmbhimhmoaaa
