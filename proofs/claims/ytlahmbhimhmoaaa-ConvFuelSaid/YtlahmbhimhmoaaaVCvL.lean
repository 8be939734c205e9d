/- Merged: WhG, CvL. -/
import Derived.Test.YtlahmbhimhmoaaaVWhF
import Derived.Test.YtlahmbhimhmoaaaVCvQ
namespace Go.Proofs.Ytlahmbhimhmoaaa
set_option linter.unusedVariables false
set_option linter.unusedSimpArgs false
open Go.RowKit
open Go.Value renaming slice → O
variable {b:Bk}{bs:List (List Nd×List Nd)}{k l:List Nd}{c n:Nat}{A:OC}{w:OE}
section
open Go.Lib renaming hid->aB
structure gZ (R:Nat->Prop) (w:OE) (A:OC) (n c:Nat) (bs:List (List Nd×List Nd)):Prop where
 len:bs.length=n
 cap:n<=c
 few:n<=2932031007402
 nul:A=none->c=0
 mem:0<n->∃b off,A=some ⟨b,off,none⟩/\R b/\∀k,k<n->∃A1 n1 c1 A2 n2 c2,w.cell? ⟨b,off+k*2,none⟩=some (O A1 n1 c1)/\w.cell? ⟨b,off+k*2+1,none⟩=some (O A2 n2 c2)/\a6 R w A1 n1 c1 (bs.getD k ([],[])).1/\a6 R w A2 n2 c2 (bs.getD k ([],[])).2
theorem gZ.keep{R R':Nat->Prop}{w':OE}(h:gZ R w A n c bs)(hR:∀b,R b->R' b/\∀o,w'.cell? ⟨b,o,none⟩=w.cell? ⟨b,o,none⟩):gZ R' w' A n c bs :=
 ⟨h.len,h.cap,h.few,h.nul,fun hn=>by
  obtain⟨b,off,e,D,hm⟩:=h.mem hn;refine⟨b,off,e,(hR b D).1,fun k hk=>?_⟩;obtain⟨F,n1,I,G,n2,U,Y,Z,s,z⟩:=hm k hk;exact⟨F,n1,I,G,n2,U,((hR b D).2 _).trans Y,((hR b D).2 _).trans Z,s.keep hR,z.keep hR⟩⟩
theorem gZ.below{w':OE}(h:gZ (· < w.heap.size) w A n c bs)(D:OB w w'):gZ (· < w'.heap.size) w' A n c bs:=h.keep fun q F=>⟨MD F D.size,fun o=>D.cell (p:=⟨q,o,none⟩) F⟩
theorem gZ.vals{R:Nat->Prop}(h:gZ R w A n c bs)(hn:n<=1000000):oI R w A n c (bs.map (·.2)) :=
 ⟨by rw[MX];exact h.len,h.cap,hn,h.nul,fun hp=>by
  obtain⟨b,off,e,z,hm⟩:=h.mem hp;refine⟨b,off,e,z,fun k D=>?_⟩;obtain⟨F,n1,I,G,n2,U,Z,o,h3,s⟩:=hm k D;refine⟨F,n1,I,G,n2,U,Z,o,?_⟩;have hl:k<bs.length:=by rw[h.len];exact D
  have Y:(bs.map (·.2)).getD k []=(bs.getD k ([],[])).2:=by
   rw[MK,MK,List.getElem?_map,MI hl];rfl
  rw[Y];exact s⟩
def gM(b:Bk):Nat->List (List Nd×List Nd)->Int
 | _,[]=>0
 | i,x::r=>if dQ b i x.1≠0 then dQ b i x.1 else if x.2.length=0 then gM b (i+1) r else if dQ b i x.2≠0 then dQ b i x.2 else gM b (i+1) r
def cY(b:Bk)(bs:List (List Nd×List Nd))(l:List Nd):Int:=if bD b≠0 then bD b else if 256<bs.length then 5 else if gM b 0 bs≠0 then gM b 0 bs else dQ b bs.length l
abbrev xL(bs:List (List Nd×List Nd)):List (List Nd):=bs.map (·.2)
theorem sY{b:Bk}:∀(bs:List (List Nd×List Nd))(i:Nat),gM b i bs=0->∀k,k<bs.length->((xL bs).getD k []=[]\/dQ b ((i+k:Nat):Int) ((xL bs).getD k [])=0)/\dQ b ((i+k:Nat):Int) (bs.getD k ([],[])).1=0
 | [],_,_,k,hk=>absurd hk aD
 | x::r,i,h,k,hk=>by
  simp only[gM]at h;split at h
  . rename_i F;exact absurd h F
  rename_i F
  have D:dQ b i x.1=0:=by simpa using F
  split at h
  . rename_i U
    cases k with
    | zero=>exact⟨.inl (by simpa using U),by simpa using D⟩
    | succ k =>
     have:=sY r (i+1) h k (by simpa using hk);rw[show i+1+k=i+(k+1) from by omega]at this;simpa using this
  . rename_i U
    split at h
    . rename_i G;exact absurd h G
    rename_i G
    have I:dQ b i x.2=0:=by simpa using G
    cases k with
    | zero=>exact⟨.inr (by simpa using I),by simpa using D⟩
    | succ k =>
     have:=sY r (i+1) h k (by simpa using hk);rw[show i+1+k=i+(k+1) from by omega]at this;simpa using this
theorem mG(h:cY b bs l=0):bD b=0/\bs.length<=256/\fA b (xL bs)/\l=aT (cI l)/\bJ b ((xL bs).length:Int) (cI l):=by
 unfold cY at h;split at h
 . rename_i F;exact absurd h F
 rename_i F
 split at h
 . cases h
 rename_i s
 split at h
 . rename_i G;exact absurd h G
 rename_i G
 obtain⟨U,Y⟩:=xY h;refine⟨by simpa using F,by omega,⟨by rw[MX];omega,fun k I=>?_⟩,U,by rw[MX];exact Y⟩;rw[MX]at I;rcases (sY bs 0 (by simpa using G) k I).1 with D|D
 . exact .inl D
 rw[ML]at D;obtain⟨Z,o⟩:=xY D;exact .inr ⟨_,Z,o⟩
set_option maxRecDepth 100000 in
set_option maxHeartbeats 4000000 in
theorem rX{v:bA}(hb:bO w v b){cA:OC}{cn cc:Nat}(hc:gZ (· < w.heap.size) w cA cn cc bs)(ht:aX w A n c l):
 Calls Try.prog 15 #[.agg #[.int .i64 b.vars,O v.Ao v.no v.co,O v.Ae v.ne v.ce,.int .i64 b.nat,O v.Ap v.np v.cp],O cA cn cc,O A n c] w (iT (cY b bs l) w):=by
 obtain⟨w1,b7⟩:=OM (w.alloc (.cells #[.int .i64 b.vars,O v.Ao v.no v.co,O v.Ae v.ne v.ce,.int .i64 b.nat,O v.Ap v.np v.cp] 26));have a1:OB w w1:=by rw[b7];exact aQ _ _
 have b6:aW w1 w.heap.size 26 #[.int .i64 b.vars,O v.Ao v.no v.co,O v.Ae v.ne v.ce,.int .i64 b.nat,O v.Ap v.np v.cp]:=by rw[b7];exact aW.new _ _ _
 obtain⟨b4,c6,HT,HC,I,f0⟩:=OJ (rY (hb.below a1)) (fun (W:OE) (hB:OB w1 W) (free:Int) (A':OC) (n' c':Nat) (l':List Nd) (h:aX W A' n' c' l')=>EL ((hb.below a1).below hB) free h) (ht.below a1) (hc.below a1) a1 b6;have b0:=hc.len;have e9:=hc.few;obtain⟨a0,Z⟩:=OM (cY b bs l);rw[<-Z];unfold cY at Z;rw[b0]at Z;obtain⟨a5,c0⟩:=OF Z b0;have e4:w.heap.size<w1.heap.size:=b6.lt;have z1:=b6.cell;clear hb hc ht a1 b6 Z b0;obtain⟨re,e6⟩:=OM (bD b);rw[<-e6]at b4 a5;clear e6;go_in;go_upto_region 1 with fail
 rw[<-b7];clear b7;by_cases h0:re=0;rotate_left
 . have d0:(re != 0)=true:=by simpa using h0
   have HR:Hid (a0=re):=aB (by rw[a5.o,LZ h0]);clear h0;go_wp2_with fail;refine (b4.o).mono ?_;rintro e w2 ⟨rfl,Y⟩;have a2:=bK I Y;clear Y;go_wp2_with fail;go_ret;rw[HR.o];exact⟨rfl,a2.o⟩
 subst h0;have a7:Hid (a0=if 256<cn then 5 else if gM b 0 bs≠0 then gM b 0 bs else dQ b cn l):=aB (by have h:=a5.o;rw[aN aD]at h;exact h);by_cases h1:256<cn
 . have d1:decide ((cn:Int)>256)=true:=MB aA;have d2:decide (256<cn)=true:=MB h1;have d3:decide ((256:Int)<(cn:Int))=true:=MB aA;have HR:Hid (a0=5):=aB (by rw[a7.o,LZ h1]);clear h1;go_wp2_with fail;refine (b4.o).mono ?_;rintro e w2 ⟨rfl,Y⟩;have a2:=bK I Y;clear Y;go_wp2_with fail;go_ret;rw[HR.o];exact⟨rfl,a2.o⟩
 have d1:decide ((cn:Int)>256)=false:=MA aA;have d2:decide (256<cn)=false:=MA h1;have d3:decide ((256:Int)<(cn:Int))=false:=MA aA;have z:Hid (a0=if gM b 0 bs≠0 then gM b 0 bs else dQ b cn l):=aB (by have h:=a7.o;rw[aN h1]at h;exact h);clear h1;go_wp2_with fail;refine (b4.o).mono ?_;rintro e w2 ⟨rfl,Y⟩;have a2:=aB Y;clear Y;go_wp2_with fail;go_loopw [22] (fun iv wr=>∃i:Nat,i<=cn/\iv=.int .i64 (i:Int)/\Hid (gM b 0 bs=gM b i (bs.drop i))/\Hid (OB w1 wr)) (fun iv _=>cn-(intOf iv).toNat)
 case atStart=>exact⟨0,by omega,rfl,aB rfl,a2⟩
 case round =>
  obtain⟨i,hi,rfl,b5,G⟩:=hrel;have zr:=fun k=>(G.o.cell (p:=⟨w.heap.size,k,none⟩) e4).trans (z1 k);have e8:w.heap.size<wr.heap.size:=MD e4 G.o.size;by_cases b1:i<cn;rotate_left
  . have e1:decide ((i:Int)<(cn:Int))=false:=MA aA;have e2:decide (i<cn)=false:=MA b1;have HR:Hid (a0=dQ b cn l):=aB (by
     have h:=b5.o;rw[NB (by rw[c0.o];omega)]at h;have h2:gM b 0 bs=0:=h;rw[z.o,h2,aN aD])
    have d8:=aB (c6.o wr G.o cn A n c l (HT.o.below G.o));have b3:=aB G.o;rw[<-HR.o]at d8;clear b5 G b1;go_wp2_with fail;refine (d8.o).mono ?_;rintro e w3 ⟨rfl,D⟩;have F:Hid (OB w w3):=aB ((I.o.trans (b3.o.mono I.o.size)).trans (D.mono (by have:=I.o.size;have:=b3.o.size;omega)));clear D;go_wp2_with fail;go_ret;exact⟨rfl,F.o⟩
  have e1:decide ((i:Int)<(cn:Int))=true:=MB aA;have e2:decide (i<cn)=true:=MB b1;have e3:(i:Int)<(cn:Int):=aA;obtain⟨bb,oo,e7,d9,hm⟩:=HC.o.mem aA;obtain⟨A1,n1,c1,A2,n2,c2,y1,y2,t1,t2⟩:=hm i b1;have il:i<bs.length:=by rw[c0.o];exact b1
  have e0:bs.drop i=bs.getD i ([],[])::bs.drop (i+1):=by
   rw[MT il,MK,MI il];rfl
  generalize bs.getD i ([],[])=x at *;obtain⟨f3,f4⟩:=OF t1 t2;have e5:x.2.length=n2:=t2.len;have a9:=b5.o;rw[e0]at a9;simp only[gM]at a9;rw[e5]at a9;have c4:=aB a9;obtain⟨f1,c8⟩:=OM (dQ b i x.1);obtain⟨f2,c9⟩:=OM (dQ b i x.2);rw[<-c8,<-c9]at c4;have u1:=(G.o.cell (p:=⟨bb,oo+i*2,none⟩) d9).trans y1;have u2:=(G.o.cell (p:=⟨bb,oo+i*2+1,none⟩) d9).trans y2;obtain⟨b3,HA,s⟩:=OK G.o (aQ wr (.cells #[O A1 n1 c1,O A2 n2 c2] 54)) (aW.new wr 54 #[O A1 n1 c1,O A2 n2 c2]);have U:Hid (OB w1 (wr.alloc (.cells #[O A1 n1 c1,O A2 n2 c2] 54))):=aB (G.o.alloc G.o.size _);obtain⟨a3,c5⟩:=OF (c6.o _ U.o i A1 n1 c1 x.1 (a6.keep t1 (R':=(· < (wr.alloc (.cells #[O A1 n1 c1,O A2 n2 c2] 54)).heap.size)) fun q hq=>⟨MD hq U.o.size,fun o=>U.o.cell (p:=⟨q,o,none⟩) hq⟩)) (fun (W:OE) (hB:OB w1 W)=>c6.o W hB i A2 n2 c2 x.2 (a6.keep t2 (R':=(· < W.heap.size)) fun q hq=>⟨MD hq hB.size,fun o=>hB.cell (p:=⟨q,o,none⟩) hq⟩));rw[<-c8]at a3;rw[<-c9]at c5;have za:=s.o.cell;have b2:=fun k=>((aQ wr (.cells #[O A1 n1 c1,O A2 n2 c2] 54)).cell (p:=⟨w.heap.size,k,none⟩) e8).trans (zr k);have f5:=b3.o.size;clear b5 G hm y1 y2 t1 t2 e0 a9 c8 c9 e5 il z1;subst e7;by_cases g1:f1=0;rotate_left
  . have d5:(f1 != 0)=true:=by simpa using g1
    have HR:Hid (a0=f1):=aB (by have h:=c4.o;rw[LZ g1]at h;rw[z.o,h,LZ g1]);clear g1;go_wp2_with fail;refine (a3.o).mono ?_;rintro e w3 ⟨rfl,D⟩;have F:Hid (OB w w3):=aB ((I.o.trans (U.o.mono I.o.size)).trans (D.mono (by have:=I.o.size;have:=U.o.size;omega)));clear D;go_wp2_with fail;go_ret;rw[HR.o];exact⟨rfl,F.o⟩
  have b8:Hid (gM b 0 bs=if n2=0 then gM b (i+1) (bs.drop (i+1)) else if f2≠0 then f2 else gM b (i+1) (bs.drop (i+1))):=aB (by have h:=c4.o;rw[aN (by simpa using g1)]at h;exact h);subst g1;by_cases g2:n2=0
  . have d5:((n2:Int)==0)=true:=by simpa using g2
    have d6:(n2==0)=true:=by simpa using g2
    have c7:Hid (gM b 0 bs=gM b (i+1) (bs.drop (i+1))):=aB (by have h:=b8.o;rw[LZ g2]at h;exact h);clear g2;go_wp2_with fail;refine (a3.o).mono ?_;rintro e w3 ⟨rfl,D⟩;have F:Hid (OB w1 w3):=bK U D;have a4:=aB (s.o.below D s.o.lt);have z3:=a4.o.cell;clear D za b2 u1 u2;go_wp2_with fail;go_roundw
    case rel=>exact⟨i+1,by omega,by go_num,c7,F⟩
    case measure=>simp[intOf];omega
  have d5:((n2:Int)==0)=false:=by simpa using g2
  have d6:(n2==0)=false:=by simpa using g2
  have b9:Hid (gM b 0 bs=if f2≠0 then f2 else gM b (i+1) (bs.drop (i+1))):=aB (by have h:=b8.o;rw[aN g2]at h;exact h);clear g2;by_cases g3:f2=0;rotate_left
  . have d7:(f2 != 0)=true:=by simpa using g3
    have HR:Hid (a0=f2):=aB (by have h:=b9.o;rw[LZ g3]at h;rw[z.o,h,LZ g3]);clear g3;go_wp2_with fail;refine (a3.o).mono ?_;rintro e w3 ⟨rfl,D⟩;have F:Hid (OB w1 w3):=bK U D;have a4:=aB (s.o.below D s.o.lt);have z3:=a4.o.cell;have d4:=fun k=>(D.cell (p:=⟨w.heap.size,k,none⟩) aG).trans (b2 k);clear D za b2 u1 u2;go_wp2_with fail;refine (c5.o w3 F.o).mono ?_;rintro e w4 ⟨rfl,a8⟩;have c3:Hid (OB w w4):=aB ((I.o.trans (F.o.mono I.o.size)).trans (a8.mono (by have:=I.o.size;have:=F.o.size;omega)));clear a8 z3 d4;go_wp2_with fail;go_ret;rw[HR.o];exact⟨rfl,c3.o⟩
  have c7:Hid (gM b 0 bs=gM b (i+1) (bs.drop (i+1))):=aB (by have h:=b9.o;rw[aN (by simpa using g3)]at h;exact h);subst g3;go_wp2_with fail;refine (a3.o).mono ?_;rintro e w3 ⟨rfl,D⟩;have F:Hid (OB w1 w3):=bK U D;have a4:=aB (s.o.below D s.o.lt);have z3:=a4.o.cell;have d4:=fun k=>(D.cell (p:=⟨w.heap.size,k,none⟩) aG).trans (b2 k);clear D za b2 u1 u2;go_wp2_with fail;refine (c5.o w3 F.o).mono ?_;rintro e w4 ⟨rfl,a8⟩;have c3:Hid (OB w1 w4):=bK F a8;clear a8 z3 d4;go_wp2_with fail;go_roundw
  case rel=>exact⟨i+1,by omega,by go_num,c7,c3⟩
  case measure=>simp[intOf];omega
end
def KW:lV->Bool×Int×Int
 | .bad z=>(false,0,z)
 | .done D m=>(D,(m:Int),0)
def gB(b:Bk)(bs:List (List Nd×List Nd))(l k:List Nd)(fuel:Int)(u:Bool):Bool×Int×Int :=
 if cY b bs l≠0 then (false,0,cY b bs l) else if cY b bs k≠0 then (false,0,cY b bs k) else KW (dJ b (bU fuel+1) (xL bs) u (bU fuel) (cI l) (cI k))
theorem lS{b:Bk}{cv:OD}:∀(g n:Nat)(f:Fc)(room z:Int),i9 b cv g n f room=.bad z->z≠0
 | 0,n,f,room,z,h=>by injection h with h;omega
 | g+1,n,f,room,z,h=>by
  have key:∀(n:Nat)(f:Fc),qJ b cv g n f room=.bad z->z≠0:=by
   intro n f h;unfold qJ at h;split at h
   . split at h
     . injection h with h;omega
     split at h
     . injection h with h;omega
     split at h
     . injection h with h;omega
     exact lS g _ _ _ z h
   cases h
  cases hp:cW f with
  | none =>
   rw[gX hp]at h;exact key _ _ h
  | some p =>
   rw[kC hp]at h;cases hw:i9 b cv g n (cV p) (room-cJ f+bZ p) with
   | bad e =>
    rw[hw]at h;injection h with h;subst h;exact lS g _ _ _ _ hw
   | done y m =>
    rw[hw]at h;exact key _ _ h
theorem sT{F:List (List Nd)->Bool->Nat->TT->TT->lV}{D:Nat->List (List Nd)}{I:Nat->Bool}(H:∀cv u n x y z,F cv u n x y=.bad z->z≠0):∀(L M:List TT)(i n:Nat)(z:Int),gD F D I i L M n=.bad z->z≠0
 | [],M,_,_,_,h=>by simp only[gD]at h;cases h
 | x::r,[],_,_,_,h=>by simp only[gD]at h;cases h
 | x::r,y::s,i,n,z,h=>by
  simp only[gD]at h;cases G:F (D i) (I i) n x y with
  | bad e=>rw[G]at h;injection h with h;subst h;exact H _ _ _ _ _ _ G
  | done a k =>
   rw[G]at h;cases a with
   | false=>simp only at h;cases h
   | true=>exact sT H r s _ _ _ h
theorem kX{b:Bk}:∀(g:Nat)(cv:OD)(u:Bool)(n:Nat)(x y:TT)(z:Int),dJ b g cv u n x y=.bad z->z≠0
 | 0,_,_,_,_,_,_,h=>by injection h with h;omega
 | g+1,_,_,0,_,_,_,h=>by injection h with h;omega
 | g+1,cv,u,n+1,x,y,z,h=>by
  simp only[dJ]at h;split at h
  . cases h
  . split at h
    . injection h with h;omega
    cases hw:kS b cv n (cV x) 4096 with
    | bad e=>rw[hw]at h;injection h with h;subst h;exact lS _ _ _ _ _ hw
    | done f n1 =>
     rw[hw]at h;simp only at h;cases hv:kS b cv n1 (cV y) 4096 with
     | bad e=>rw[hv]at h;injection h with h;subst h;exact lS _ _ _ _ _ hv
     | done k n2 =>
      rw[hv]at h;simp only at h;unfold zO at h;split at h
      . cases D:gD (dJ b g) (cL cv f.1.1) (fun i=>u&&decide (f.1.1.op=4)&&decide (i=1)) 0 (a9 f.1.2.2) (a9 k.1.2.2) n2 with
        | bad e=>rw[D]at h;injection h with h;subst h;exact sT (kX g) _ _ _ _ _ D
        | done a m =>
         rw[D]at h;cases a with
         | false=>simp only at h;cases h
         | true=>exact sT (kX g) _ _ _ _ _ h
      . cases h
theorem mB{F:Nat}(h:cY b bs l=0)(hF:F<=470):eZ b (xL bs) F (cI l):=by
 obtain⟨Y,Z,G,o,D⟩:=mG h;have I:bZ (cI l)<=4096:=D.few;have U:(xL bs).length<=256:=by
  have:(xL bs).length=bs.length:=by unfold xL;simp
  omega
 refine⟨G,D,?_⟩;unfold nR;omega
theorem jV{F:Nat}(h:F<=1000):bU (F:Int)=F:=by unfold bU;omega
theorem zS(fuel:Int){u:Bool}(D:cY b bs l=0)(F:cY b bs k=0):gB b bs l k fuel u=KW (dJ b (bU fuel+1) (xL bs) u (bU fuel) (cI l) (cI k)):=by
 unfold gB;rw[aN (by simpa using D),aN (by simpa using F)]
theorem oU{fuel:Int}{u a:Bool}{n:Int}(h:gB b bs l k fuel u=(a,n,0)):cY b bs l=0/\cY b bs k=0/\∃m:Nat,n=(m:Int)/\dJ b (bU fuel+1) (xL bs) u (bU fuel) (cI l) (cI k)=.done a m:=by
 unfold gB at h;by_cases D:cY b bs l=0;rotate_left
 . rw[LZ D]at h;injection h with _ h;injection h with _ h;exact absurd h D
 by_cases F:cY b bs k=0;rotate_left
 . rw[aN (by simpa using D),LZ F]at h;injection h with _ h;injection h with _ h;exact absurd h F
 rw[aN (by simpa using D),aN (by simpa using F)]at h;refine⟨D,F,?_⟩;cases hc:dJ b (bU fuel+1) (xL bs) u (bU fuel) (cI l) (cI k) with
 | bad z =>
  rw[hc]at h;injection h with _ h;injection h with _ h;exact absurd h (kX _ _ _ _ _ _ _ hc)
 | done U m =>
  rw[hc]at h;injection h with G h;injection h with I _;subst G;exact⟨m,I.symm,rfl⟩
theorem GL(b:Bk)(bs:List (List Nd×List Nd))(l k:List Nd)(u:Bool){F:Nat}(hF:F<=200):(∃z,z≠0/\gB b bs l k (F:Int) u=(false,0,z))\/∃(I:Bool)(m:Nat),m<F/\gB b bs l k (F:Int) u=(I,(m:Int),0) ∧
 (∀j:Nat,j<=455->F<=j+m->gB b bs l k (j:Int) u=(I,((j+m-F:Nat):Int),0))/\(∀j:Nat,j<=455->j+m<F->gB b bs l k (j:Int) u=(false,0,10)):=by
 by_cases D:cY b bs l=0;rotate_left
 . refine .inl ⟨cY b bs l,D,?_⟩;unfold gB;rw[LZ D]
 by_cases G:cY b bs k=0;rotate_left
 . refine .inl ⟨cY b bs k,G,?_⟩;unfold gB;rw[aN (by simpa using D),LZ G]
 have Z:=(mG D).1;have e:∀j:Nat,j<=455->gB b bs l k (j:Int) u=KW (dJ b (j+1) (xL bs) u j (cI l) (cI k)):=fun j U=>by rw[zS _ D G,jV aA]
 cases hc:dJ b (F+1) (xL bs) u F (cI l) (cI k) with
 | bad z=>exact .inl ⟨z,kX _ _ _ _ _ _ _ hc,by rw[e F aA,hc];rfl⟩
 | done I m =>
  obtain⟨a1,a2⟩:=jE Z _ _ _ _ _ _ (mB D aA) (mB G aA) I m hc;refine .inr ⟨I,m,a1,by rw[e F aA,hc];rfl,fun j U Y=>?_,fun j U Y=>?_⟩
  . rw[e j U,(a2 (j+1) j (mB D aA) (mB G aA) aA).1 Y];rfl
  . rw[e j U,(a2 (j+1) j (mB D aA) (mB G aA) aA).2 Y];rfl
theorem BS{fuel:Int}(hF:bU fuel<=470){a F c d:Bool}{n n' p q:Int}(h:gB b bs l k fuel false=(a,n,0))(o:gB b bs k l fuel false=(F,n',0))(s:gB b bs l k fuel true=(c,p,0))(z:gB b bs k l fuel true=(d,q,0)):a=F/\a=(c&&d):=by
 obtain⟨G,Z,m1,_,r1⟩:=oU h;obtain⟨_,_,m2,_,r2⟩:=oU o;obtain⟨_,_,m3,_,I⟩:=oU s;obtain⟨_,_,m4,_,U⟩:=oU z;have D:=(mG G).1;have X:=mB G hF;have Y:=mB Z hF;refine⟨sV D _ _ _ _ _ _ _ X Y r1 _ _ _ _ X Y r2,?_⟩;cases a with
 | true =>
  rw[zQ D _ _ _ _ _ _ X Y r1 _ _ _ _ X Y I,uH D _ _ _ _ _ _ X Y r1 _ _ _ _ X Y U];rfl
 | false =>
  cases c with
  | false=>rfl
  | true =>
   cases d with
   | false=>rfl
   | true=>exact absurd (zP D _ _ _ _ _ _ _ X Y r1 _ _ _ X Y I _ _ _ X Y U) aE
theorem D6{z:List Nd}{fuel:Int}(hF:bU fuel<=470){u c:Bool}{n p q:Int}(I:gB b bs l k fuel u=(true,n,0))(U:gB b bs k z fuel u=(true,p,0))(h:gB b bs l z fuel u=(c,q,0)):c=true:=by
 obtain⟨D,F,m1,_,r1⟩:=oU I;obtain⟨_,G,m2,_,r2⟩:=oU U;obtain⟨_,_,m3,_,s⟩:=oU h;have o:=(mG D).1;have X:=mB D hF;have Y:=mB F hF;have Z:=mB G hF;exact uI o _ _ _ _ _ _ _ _ X Y r1 _ _ _ Y Z r2 _ _ _ _ X Z s
end Go.Proofs.Ytlahmbhimhmoaaa
