/- Merged: CvN, CvA, CvD. -/
import Derived.Test.YtlahmbhimhmoaaaVBooks
import Derived.Deep.DeepCutAuto
namespace Go.Proofs.Ytlahmbhimhmoaaa
set_option linter.unusedVariables false
set_option linter.unusedSimpArgs false
open Go.RowKit
variable {l:List Nd}{w:OE}
def IF(vars:Int):Int->List Nd->Bool
 | _,[]=>true
 | last,x::r=>decide (last<x.a)&&decide (x.a<=vars)&&decide (0<=x.b)&&decide (x.b<=1000)&&IF vars x.a r
def CZ(vars:Int)(l:List Nd):Bool:=decide (0<=vars/\vars<=16)&&decide (1<=l.length/\l.length<=4)&&IF vars (-1) l
def J0(g:GF)(x:Nd)(m:List Nd):Bool:=m.any fun y=>match g x.a y.a with
 | some d=>decide (x.b-y.b<=d)
 | none=>false
def mZ(b:Bk)(l m:List Nd):Bool:=decide ((kT b.vars b.orders).1=0)&&CZ b.vars l&&CZ b.vars m&&l.all fun x=>J0 (kT b.vars b.orders).2 x m
section
open Go.Lib renaming hid->aB
def CV(x:Nd):Int×Int:=(x.a,x.b)
def GD(r:Bool)(w:OE)(e:Ending)(w':OE):Prop:=e=.returned (.bool r)/\OB w w'
theorem IG{vars:Int}(h:¬ ((0<=vars/\vars<=16)/\1<=l.length/\l.length<=4)):CZ vars l=false:=by
 unfold CZ;by_cases D:0<=vars/\vars<=16
 . rw[MA (p:=1<=l.length/\l.length<=4) (fun F=>h ⟨D,F⟩)];simp
 rw[MA (p:=0<=vars/\vars<=16) D];simp
set_option maxRecDepth 100000 in
set_option maxHeartbeats 4000000 in
theorem pG{vars:Int}{A:OC}{n c:Nat}(h:lX w A n c (l.map CV)):
 Calls Try.prog 85 #[.slice A n c,.int .i64 vars] w (GD (CZ vars l) w):=by
 have s:l.length=n:=by have:=h.len;simpa using this
 have b0:=h.few;by_cases I:(0<=vars/\vars<=16)/\1<=l.length/\l.length<=4;rotate_left
 . have HR:=aB (IG I);clear h;by_cases h0:vars<0
   . have d1:decide (vars<0)=true:=MB h0;clear I h0;go_in;go_wp2_with fail;go_ret;rw[HR.o];exact⟨rfl,MC _ _⟩
   have d1:decide (vars<0)=false:=MA h0;by_cases h1:vars>16
   . have d2:decide (vars>16)=true:=MB h1;clear I h0 h1;go_in;go_wp2_with fail;go_ret;rw[HR.o];exact⟨rfl,MC _ _⟩
   have d2:decide (vars>16)=false:=MA h1;by_cases h2:(n:Int)<1
   . have d3:decide ((n:Int)<1)=true:=MB h2;clear I h0 h1 h2;go_in;go_wp2_with fail;go_ret;rw[HR.o];exact⟨rfl,MC _ _⟩
   have d3:decide ((n:Int)<1)=false:=MA h2;have d4:decide ((n:Int)>4)=true:=MB aA;clear I h0 h1 h2;go_in;go_wp2_with fail;go_ret;rw[HR.o];exact⟨rfl,MC _ _⟩
 have HR:Hid (CZ vars l=IF vars (-1) l):=aB (by
  unfold CZ;rw[MB I.1,MB I.2];simp)
 rw[HR.o];obtain⟨O,Y⟩:=OM (IF vars (-1) l);rw[<-Y];obtain⟨⟨i1,i2⟩,i3,i4⟩:=I;have d1:decide (vars<0)=false:=MA aA;have d2:decide (vars>16)=false:=MA aA;have d3:decide ((n:Int)<1)=false:=MA aA;have d4:decide ((n:Int)>4)=false:=MA aA;obtain⟨HL,HP,a4⟩:=OK s (fun (w':OE) (hb:OB w w')=>h.below hb) Y;clear h s Y i3;go_in;go_wp2_with fail;go_loopw [5,26] (fun lv iv wr=>∃(i:Nat)(D:Int),lv=.int .i64 D/\iv=.int .i64 (i:Int)/\i<=n/\Hid (IF vars D (l.drop i)=O)/\Hid (OB w wr)) (fun _ i _=>n-(intOf i).toNat)
 case atStart=>exact⟨0,-1,rfl,rfl,by omega,aB a4.o.symm,aB (MC _ _)⟩
 case round =>
  obtain⟨i,D,rfl,rfl,hi,a1,F⟩:=hrel;by_cases a6:i<n;case neg =>
   have a9:decide ((i:Int)<(n:Int))=false:=MA aA;have G:Hid (O=true):=aB (by
    have:=a1.o;rw[NB (by rw[HL.o];omega)]at this;exact this.symm)
   go_wp2_with fail;go_ret;rw[G.o];exact⟨rfl,F.o⟩
  have a9:decide ((i:Int)<(n:Int))=true:=MB aA;obtain⟨bp,op,rfl,b1,a7⟩:=(HP.o wr F.o).mem aA;obtain⟨z,a0⟩:=a7 i a6;have a5:i<l.length:=by rw[HL.o];exact a6
  have a8:(l.map CV).getD i (0,0)=(l[i].a,l[i].b):=by
   rw[MK,List.getElem?_map,MI a5];rfl
  rw[a8]at z a0;simp only at z a0;have hq:=a1.o;rw[MT a5]at hq;simp only[IF]at hq;obtain⟨U,a2⟩:=OM (l[i].a);obtain⟨Z,a3⟩:=OM (l[i].b);rw[<-a2,<-a3]at hq;rw[<-a2]at z;rw[<-a3]at a0;have HQ:=aB hq;clear a7 a8 hq a1 a2 a3;by_cases c1:U<=D
  . have e1:decide (U<=D)=true:=MB c1;have G:Hid (O=false):=aB (by
     rw[<-HQ.o,MA (p:=D<U) aA];simp)
    go_wp2_with fail;go_ret;rw[G.o];exact⟨rfl,F.o.trans ((aQ _ _).mono F.o.size)⟩
  have e1:decide (U<=D)=false:=MA c1;by_cases c2:U>vars
  . have e2:decide (U>vars)=true:=MB c2;have G:Hid (O=false):=aB (by
     rw[<-HQ.o,MA (p:=U<=vars) aA];simp)
    go_wp2_with fail;go_ret;rw[G.o];exact⟨rfl,F.o.trans ((aQ _ _).mono F.o.size)⟩
  have e2:decide (U>vars)=false:=MA c2;by_cases c3:Z<0
  . have e3:decide (Z<0)=true:=MB c3;have G:Hid (O=false):=aB (by
     rw[<-HQ.o,MA (p:=0<=Z) aA];simp)
    go_wp2_with fail;go_ret;rw[G.o];exact⟨rfl,F.o.trans ((aQ _ _).mono F.o.size)⟩
  have e3:decide (Z<0)=false:=MA c3;by_cases c4:Z>1000
  . have e4:decide (Z>1000)=true:=MB c4;have G:Hid (O=false):=aB (by
     rw[<-HQ.o,MA (p:=Z<=1000) aA];simp)
    go_wp2_with fail;go_ret;rw[G.o];exact⟨rfl,F.o.trans ((aQ _ _).mono F.o.size)⟩
  have e4:decide (Z>1000)=false:=MA c4;have HN:Hid (IF vars U (l.drop (i+1))=O):=aB (by
   rw[<-HQ.o,MB (p:=D<U) aA,MB (p:=U<=vars) aA,MB (p:=0<=Z) aA,MB (p:=Z<=1000) aA];simp)
  clear c1 c2 c3 c4;go_wp2_with fail;go_roundw
  case rel=>exact⟨i+1,U,rfl,by go_num,by omega,HN,aB (F.o.trans ((aQ _ _).mono F.o.size))⟩
  case measure=>simp[intOf];omega
end
section
open Go.Lib renaming hid->aB
set_option maxHeartbeats 4000000
set_option maxRecDepth 100000
def J1(g:GF)(D F G I:Int):Bool:=match g D G with
 | some d=>decide (F-I<=d)
 | none=>false
theorem y7{bm nm:Nat}{g:GF}(hm:jA w bm nm g){g9 z:Nat}{O U G I:Int}(h9:aW w g9 75 #[.map (some bm)])(Y:aW w z 145 #[.int .i64 O,.int .i64 U])(hx:0<=O/\O<=16/\0<=U/\U<=1000)(hy:0<=G/\G<=16/\0<=I/\I<=1000):
 Calls Try.prog 87 #[.agg #[.int .i64 G,.int .i64 I],.pointer (some ⟨g9,0,none⟩),.pointer (some ⟨z,0,none⟩)] w (GD (J1 g O U G I) w):=by
 obtain⟨W1,D⟩:=OM (w.alloc (.cells #[.int .i64 G,.int .i64 I] 145));have h:Hid (OB w W1):=aB (by rw[D];exact aQ _ _);have HM:Hid (jA W1 bm nm g):=aB (by rw[D];exact hm.alloc _);have z9:=aW.cell (h9.below h.o h9.lt);have a1:=aW.cell (Y.below h.o Y.lt);have zy:∀k,W1.cell? ⟨w.heap.size,k,none⟩=(#[.int .i64 G,.int .i64 I]:Array Value)[k]?:=by rw[D];exact aW.cell (aW.new w 145 #[.int .i64 G,.int .i64 I])
 have HX:Hid ((Lit.int .i64 O).wf=true):=aB (bF aA aA);have HY:Hid ((Lit.int .i64 G).wf=true):=aB (bF aA aA);have a0:IntKind.i64.wrap (U-I)=U-I:=IntWalk.i64_in _ aA;obtain⟨r,F⟩:=OM (J1 g O U G I);rw[<-F];unfold J1 at F;clear hm h9 Y hx hy;cases hg:g O G with
 | none =>
  rw[hg]at F;have s:=aB F;clear F;go_in;go_upto_region 1 with fail
  rw[<-D];clear D;go_wp2_with (at_lookup;go_loud (refine bN (t:=75) rfl (.tmp 8) (.tmp 13) rfl cX rfl HM.o O G rfl HX.o HY.o ?_))
  go_ret;rw[s.o];exact⟨rfl,h.o⟩
 | some d =>
  rw[hg]at F;simp only at F;by_cases Z:U-I<=d
  . have hd:decide (d ≥ U-I)=true:=MB Z;rw[MB Z]at F;have s:=aB F;clear F Z;go_in;go_upto_region 1 with fail
    rw[<-D];clear D;go_wp2_with (at_lookup;go_loud (refine bN (t:=75) rfl (.tmp 8) (.tmp 13) rfl cX rfl HM.o O G rfl HX.o HY.o ?_))
    go_ret;rw[s.o];exact⟨rfl,h.o⟩
  . have hd:decide (d ≥ U-I)=false:=MA Z;rw[MA Z]at F;have s:=aB F;clear F Z;go_in;go_upto_region 1 with fail
    rw[<-D];clear D;go_wp2_with (at_lookup;go_loud (refine bN (t:=75) rfl (.tmp 8) (.tmp 13) rfl cX rfl HM.o O G rfl HX.o HY.o ?_))
    go_ret;rw[s.o];exact⟨rfl,h.o⟩
def LC(r:Bool)(w:OE)(e:Ending)(w':OE):Prop:=∃k:Int,e=.returned (.int .i64 k)/\decide (k ≥ 0)=r/\OB w w'
theorem EQ{A:OC}{n c:Nat}(h:lX w A n c (l.map CV)){fid:FuncId}{cap:Array Value}{p:Nd->Bool}(b2:∀args w,(callFunc fid args).run Try.prog w=.ok (.enter fid args) w)(hp:∀W,OB w W->∀x∈l,Calls Try.prog fid (#[.agg #[.int .i64 x.a,.int .i64 x.b]]++cap) W (GD (p x) W)):
 Calls Try.prog 99 #[.slice A n c,.func (.func fid) #[] cap] w (LC (l.any p) w):=by
 have s:l.length=n:=by have:=h.len;simpa using this
 have b0:=h.few;obtain⟨HL,HP,HC⟩:=OK s (fun (w':OE) (hb:OB w w')=>h.below hb) hp;obtain⟨Z,I⟩:=OM (l.any p);rw[<-I];have a2:=aB I;clear h s hp I;go_in;go_wp2_with fail;go_loopw [8] (fun iv wr=>∃(i:Nat),iv=.int .i64 (i:Int)/\i<=n/\Hid ((l.drop i).any p=Z)/\Hid (OB w wr)) (fun i _=>n-(intOf i).toNat)
 case atStart=>exact⟨0,rfl,by omega,aB a2.o.symm,aB (MC _ _)⟩
 case round =>
  obtain⟨i,rfl,hi,a1,G⟩:=hrel;by_cases a4:i<n;case neg =>
   have a9:decide ((i:Int)<(n:Int))=false:=MA aA;have a0:Hid (Z=false):=aB (by
    have:=a1.o;rw[NB (by rw[HL.o];omega)]at this;exact this.symm)
   go_wp2_with fail;go_ret;exact⟨_,rfl,by rw[a0.o];rfl,G.o⟩
  have a9:decide ((i:Int)<(n:Int))=true:=MB aA;obtain⟨bp,op,rfl,b1,a5⟩:=(HP.o wr G.o).mem aA;obtain⟨U,Y⟩:=a5 i a4;have a3:i<l.length:=by rw[HL.o];exact a4
  have a6:(l.map CV).getD i (0,0)=(l[i].a,l[i].b):=by
   rw[MK,List.getElem?_map,MI a3];rfl
  rw[a6]at U Y;simp only at U Y;have hq:=a1.o;rw[MT a3,List.any_cons]at hq;have D:=HC.o wr G.o l[i] (NO _);obtain⟨x,hx⟩:=OM (l[i]);rw[<-hx]at hq D U Y;obtain⟨xa,a7⟩:=OM x.a;obtain⟨xb,a8⟩:=OM x.b;rw[<-a7]at U D;rw[<-a8]at Y D;obtain⟨O,HQ⟩:=OF D hq;clear a5 a6 hq a1 a7 a8 D hx;cases hpx:p x with
  | true =>
   have a0:Hid (Z=true):=aB (by rw[<-HQ.o,hpx];rfl);go_wp2_with fail;first
    | refine (O.o).mono ?_
    | (simp only[Array.empty_append,Array.append_empty];refine (O.o).mono ?_)
   rintro e w2 ⟨rfl,F⟩;have z:=bK G F;clear F;go_wp2_with fail;go_ret;exact⟨_,rfl,by rw[a0.o];exact MB aA,z.o⟩
  | false =>
   have HN:Hid ((l.drop (i+1)).any p=Z):=aB (by rw[<-HQ.o,hpx];rfl);go_wp2_with fail;first
    | refine (O.o).mono ?_
    | (simp only[Array.empty_append,Array.append_empty];refine (O.o).mono ?_)
   rintro e w2 ⟨rfl,F⟩;have z:=bK G F;clear F;go_wp2_with fail;go_roundw
   case rel=>exact⟨i+1,by go_num,by omega,HN,z⟩
   case measure=>simp[intOf];omega
theorem BN{A:OC}{n c:Nat}(h:lX w A n c (l.map CV)){fid:FuncId}{cap:Array Value}{p:Nd->Bool}(D:∀args w,(callFunc fid args).run Try.prog w=.ok (.enter fid args) w)(G:∀W,OB w W->∀x∈l,Calls Try.prog fid (#[.agg #[.int .i64 x.a,.int .i64 x.b]]++cap) W (GD (p x) W)):
 Calls Try.prog 86 #[.slice A n c,.func (.func fid) #[] cap] w (GD (l.any p) w):=by
 have I:=aB (EQ h D G);generalize l.any p=res at *;clear h D G;go_in;go_wp2_with fail;refine (I.o).mono ?_;rintro e U ⟨k,rfl,O,F⟩;go_wp2_with fail;go_ret;exact⟨by rw[<-O];rfl,F⟩
end
end Go.Proofs.Ytlahmbhimhmoaaa
