/- Merged: Rights, Deeps. -/
import Derived.Test.YtlahmbhimhmoaaaVRegist
import Derived.Test.YtlahmbhimhmoaaaVLiftG
namespace Go.Proofs.Ytlahmbhimhmoaaa
set_option linter.unusedVariables false
set_option linter.unusedSimpArgs false
open Go.RowKit
open Go.Value renaming int → O, slice → X
open Go.IntKind renaming i64 → S
section
open Go.Lib renaming hid->aB
set_option maxHeartbeats 4000000
set_option maxRecDepth 100000
theorem qU{b:Bk}{i:Nat}{x:En}{r:List En}:dC b i (x::r)=if dK b i x≠0 then dK b i x else dC b (i+1) r:=rfl
theorem rY{w:OE}{v:bA}{b:Bk}(hb:bO w v b):
 Calls Try.prog 17 #[.agg #[O S b.vars,X v.Ao v.no v.co,X v.Ae v.ne v.ce,O S b.nat,X v.Ap v.np v.cp]] w (iT (bD b) w):=by
 have a2:=hb.entries.len;have a8:=hb.entries.few;have Z:=aB (fun (w':OE) (h:OB w w')=>BK hb.vars (hb.orders.below h));have a9:=aB (fun (w':OE) (h:OB w w')=>hb.entries.below h);have a1:=aB (fun (w':OE) (i:Nat) (D:gC) (x:En) (h:OB w w') (h1:i<=b.entries.length) (h2:tT w' D x)=>wY (hb.below h) (i:Int) aA h2);have a5:=aB (fun (w':OE) (h:OB w w')=>pU (hb.below h));have U:=aB (aQ w (.cells #[O S b.vars,X v.Ao v.no v.co,X v.Ae v.ne v.ce,O S b.nat,X v.Ap v.np v.cp] 26));have a6:=aB (aW.new w 26 #[O S b.vars,X v.Ao v.no v.co,X v.Ae v.ne v.ce,O S b.nat,X v.Ap v.np v.cp]);have G:Hid (bD b=if (kT b.vars b.orders).1≠0 then (kT b.vars b.orders).1
 else if 64<b.entries.length then 5
 else if dC b 0 b.entries≠0 then dC b 0 b.entries
 else if yS b then 0 else 22):=aB rfl
 generalize bD b=res at *;generalize (kT b.vars b.orders).1=ck at *;rw[a2]at G a1;have a7:=aB a2;obtain⟨Ao,no,co,Ae,ne,ce,Ap,np,cp⟩:=v;simp only at Z a9 a1 a5 U a6 G a7 a8 ⊢;clear hb a2;generalize b.vars=bv at *;generalize b.nat=bn at *;by_cases h1:ck=0;case neg =>
  rw[LZ h1]at G;have d1:(ck != 0)=true:=by simpa using h1
  clear h1;go_in;go_wp2_with fail;refine (Z.o _ U.o).mono ?_;rintro e w2 ⟨rfl,I⟩;have a0:=bK U I;clear I;go_wp2_with fail;go_ret;rw[G.o];exact⟨rfl,a0.o⟩
 subst h1;rw[aN aD]at G;by_cases h2:64<ne
 . rw[LZ h2]at G;have d2:decide ((ne:Int)>64)=true:=MB aA;clear h2;go_in;go_wp2_with fail;refine (Z.o _ U.o).mono ?_;rintro e w2 ⟨rfl,I⟩;have a0:=bK U I;have b6:=aW.cell (aW.below a6.o I aD);clear I;go_wp2_with fail;go_ret;rw[G.o];exact⟨rfl,a0.o⟩
 rw[aN h2]at G;have d2:decide ((ne:Int)>64)=false:=MA aA;clear h2;go_in;go_wp2_with fail;refine (Z.o _ U.o).mono ?_;rintro e w2 ⟨rfl,I⟩;have a0:=bK U I;have b0:=aB (aW.below a6.o I aD);have b6:=aW.cell b0.o;clear I;go_wp2_with fail;clear b6;go_loopw [22] (fun iv wr=>∃i:Nat,iv=O S (i:Int)/\i<=ne/\Hid (dC b i (b.entries.drop i)=dC b 0 b.entries)/\Hid (aW wr w.heap.size 26 #[O S bv,X Ao no co,X Ae ne ce,O S bn,X Ap np cp])/\Hid (OB w wr)) (fun i _=>ne-(intOf i).toNat)
 case atStart=>exact⟨0,rfl,by omega,aB rfl,b0,a0⟩
 case round =>
  obtain⟨i,rfl,hi,b3,a4,z⟩:=hrel;by_cases b5:i<ne;rotate_left
  . have c4:decide ((i:Int)<(ne:Int))=false:=MA aA;have hq:=b3.o;rw[NB (by rw[a7.o];omega)]at hq;have s:Hid (res=if yS b then 0 else 22):=aB (by rw[G.o,<-hq];rfl);have HC:=aB (a5.o wr z.o);have zk:=aW.cell a4.o;generalize yS b=rb at *;clear hq;cases rb with
    | true =>
     rw[LZ rfl]at s;go_wp2_with fail;refine (HC.o).mono ?_;rintro e w4 ⟨rfl,F⟩;have Y:=bK z F;clear F zk;go_wp2_with fail;go_ret;rw[s.o];exact⟨rfl,Y.o⟩
    | false =>
     rw[aN aD]at s;go_wp2_with fail;refine (HC.o).mono ?_;rintro e w4 ⟨rfl,F⟩;have Y:=bK z F;clear F zk;go_wp2_with fail;go_ret;rw[s.o];exact⟨rfl,Y.o⟩
  have c4:decide ((i:Int)<(ne:Int))=true:=MB aA;obtain⟨be,oe,rfl,c7,D,c9,b8,b9,c0,c1,c2,c3,b2⟩:=(a9.o wr z.o).at_ b5;have b4:i<b.entries.length:=by rw[a7.o];exact b5
  have hq:=b3.o;rw[MT b4,show b.entries[i]=b.entries.getD i default from by rw[MK,MI b4];rfl,qU]at hq;generalize b.entries.getD i default=x at *;have a3:=aB (z.o.trans ((aQ wr (.cells #[O S x.kind,X D.As D.ns D.cs,X D.Ap D.np D.cp,X D.Ai D.ni D.ci,X D.Ac D.nc D.cc,X D.At D.nt D.ct,X D.Ab D.nb D.cb] 49)).mono z.o.size));have b1:=aB (a4.o.alloc (.cells #[O S x.kind,X D.As D.ns D.cs,X D.Ap D.np D.cp,X D.Ai D.ni D.ci,X D.Ac D.nc D.cc,X D.At D.nt D.ct,X D.Ab D.nb D.cb] 49));have HC:=aB (a1.o _ i D x a3.o aA (b2.below (aQ wr (.cells #[O S x.kind,X D.As D.ns D.cs,X D.Ap D.np D.cp,X D.Ai D.ni D.ci,X D.Ac D.nc D.cc,X D.At D.nt D.ct,X D.Ab D.nb D.cb] 49))));generalize x.kind=kd at *;generalize dK b i x=ee at *;have zk:=aW.cell a4.o;have c8:=a4.o.lt;obtain⟨As,ns,cs,c5,d0,c6,Ai,ni,ci,Ac,nc,cc,At,nt,ct,Ab,nb,cb⟩:=D;simp only at b8 b9 c0 c1 c2 c3 a3 b1 HC;clear b2;by_cases h3:ee=0
  . subst h3;rw[aN aD]at hq;have HQ:=aB hq;clear hq;go_wp2_with fail;refine (HC.o).mono ?_;rintro e w4 ⟨rfl,F⟩;have Y:=bK a3 F;have b7:=IS b1 F;clear F zk;go_wp2_with fail;go_roundw
    case rel=>exact⟨i+1,by go_num,by omega,HQ,b7,Y⟩
    case measure=>simp[intOf];omega
  rw[LZ h3]at hq;have s:Hid (res=ee):=aB (by rw[G.o,<-hq,LZ h3]);have d3:(ee != 0)=true:=by simpa using h3
  clear hq h3;go_wp2_with fail;refine (HC.o).mono ?_;rintro e w4 ⟨rfl,F⟩;have Y:=bK a3 F;clear F zk;go_wp2_with fail;go_ret;rw[s.o];exact⟨rfl,Y.o⟩
theorem EL{w:OE}{v:bA}{b:Bk}(hb:bO w v b)(free:Int){A:OC}{n c:Nat}{l:List Nd}(ht:aX w A n c l):
 Calls Try.prog 18 #[.agg #[O S b.vars,X v.Ao v.no v.co,X v.Ae v.ne v.ce,O S b.nat,X v.Ap v.np v.cp],O S free,X A n c] w (iT (dQ b free l) w):=by
 have Y:=hb.entries.len;obtain⟨U,Z,F,z⟩:=OI (fun (w':OE) (h:OB w w')=>rY (hb.below h)) (fun (w':OE) (h:OB w w')=>tI (hb.below h) (b.entries.length:Int) (-1) aA (ht.below h) free) (aQ w (.cells #[O S b.vars,X v.Ao v.no v.co,X v.Ae v.ne v.ce,O S b.nat,X v.Ap v.np v.cp] 26)) (aW.new w 26 #[O S b.vars,X v.Ao v.no v.co,X v.Ae v.ne v.ce,O S b.nat,X v.Ap v.np v.cp]);have G:Hid (dQ b free l=if bD b≠0 then bD b else if free<0 then 1 else gT b b.entries.length (-1) l free):=aB rfl;generalize dQ b free l=res at *;generalize bD b=re at *;generalize gT b b.entries.length (-1) l free=ro at *;rw[Y]at Z;obtain⟨Ao,no,co,Ae,ne,ce,Ap,np,cp⟩:=v;simp only at U Z F z ⊢;clear hb ht Y;generalize b.vars=bv at *;generalize b.nat=bn at *;by_cases h1:re=0;case neg =>
  rw[LZ h1]at G;have d1:(re != 0)=true:=by simpa using h1
  clear h1;go_in;go_wp2_with fail;refine (U.o _ F.o).mono ?_;rintro e w2 ⟨rfl,D⟩;have I:=bK F D;clear D;go_wp2_with fail;go_ret;rw[G.o];exact⟨rfl,I.o⟩
 subst h1;rw[aN aD]at G;by_cases s:free<0
 . rw[LZ s]at G;have d2:decide (free<0)=true:=MB s;clear s;go_in;go_wp2_with fail;refine (U.o _ F.o).mono ?_;rintro e w2 ⟨rfl,D⟩;have I:=bK F D;clear D;go_wp2_with fail;go_ret;rw[G.o];exact⟨rfl,I.o⟩
 rw[aN s]at G;have d2:decide (free<0)=false:=MA s;clear s;go_in;go_wp2_with fail;refine (U.o _ F.o).mono ?_;rintro e w2 ⟨rfl,D⟩;have I:=bK F D;have a2:=aW.cell (aW.below z.o D aD);clear D;go_wp2_with fail;refine (Z.o _ I.o).mono ?_;rintro e w3 ⟨rfl,a0⟩;have a1:=bK I a0;clear a0 a2;go_wp2_with fail;go_ret;rw[G.o];exact⟨rfl,a1.o⟩

end
section
theorem KL{v:Int}(D:0<=v)(F:v<=1048576):eU ⟨1,v,0⟩=true:=by
 simp[eU,bR];omega
def G0(l:List Nd):Array Value:=(fR l).toArray
theorem vG{w:OE}{g:Nat}{l:List Nd}{n c:Nat}(h:aW w g 42 (G0 l))(o:l.length=n)(U:n<=c)(Y:n<=5864062014805):aX w (some ⟨g,0,none⟩) n c l:=by
 refine⟨o,U,Y,(fun e=>by cases e),fun s=>⟨g,0,rfl,h.lt,fun k Z=>?_⟩⟩;obtain⟨F,G,I⟩:=iX l k Z;have D:=h.cell;rw[ML,D,D,D];simp only[G0,List.getElem?_toArray];exact⟨F,G,I⟩

end
end Go.Proofs.Ytlahmbhimhmoaaa
