/- Bytes that are read: the reference's reader. -/
import Derived.Test.YtplecfbdchmogaaGreatDShort2
import Derived.Test.YtplecfbdchmogaaGreatDNxP
import Derived.Test.YtplecfbdchmogaaGreatDRWr
import Derived.Test.YtplecfbdchmogaaGreatDRdP
namespace Go.Proofs.YtplecfbdchmogaaGreat
open Go.Value renaming int → O, slice → Z
open Go.IntKind renaming i64 → X
open Option renaming none → Y
open Go.Lib (hid)
set_option maxHeartbeats 8000000
set_option maxRecDepth 100000
set_option linter.unusedVariables false
set_option linter.unusedSimpArgs false
open Go.RowKit
theorem qV {w:World} {A B:Option Addr} {n c m d:Nat} {a b:List Nat} (ha:gC w A n c a) (hb:gC w B m d b) :
 Calls Tryz.prog 132 #[Z A n c,Z B m d] w (fun e w'=>∃ q:Bool,e=.returned (.bool q)/\(q=true ↔ a <+: b)/\Below w.heap.size w w'):=by
 have hfa:=ha.few;have hfb:=hb.few;have hla:=ha.len;have hlb:=hb.len;have HA:=hid ha.mem;have HB:=hid hb.mem;have HLA:=hid hla;have HLB:=hid hlb;by_cases h1:m<n
 · have d1:decide ((n:Int)>(m:Int))=true:=decide_eq_true aA;have HN:Hid (¬ a <+: b):=hid (fun h=>by have:=h.length_le;omega);clear ha hb hla hlb;go_in;go_wp2_with fail
   go_ret;exact ⟨false,rfl,⟨(fun h=>by cases h),fun h=>absurd h HN.o⟩,Below.refl _ _⟩
 have d1:decide ((n:Int)>(m:Int))=false:=decide_eq_false aA;clear ha hb hla hlb;go_in;go_wp2_with fail
 go_loopw [5] (fun iv wr=>∃ i j:Nat,iv=O X (i:Int)/\i<=n/\Hid (a.take i=b.take i)/\wr=w.drewN j) (fun iv _=>n-(intOf iv).toNat)
 case atStart=>exact ⟨0,0,rfl,Nat.zero_le _,hid (by simp),rfl⟩
 case round =>
  obtain ⟨i,j,rfl,hi,HE,rfl⟩:=hrel;by_cases hlt:i<n;rotate_left
  · have d2:decide ((i:Int)<(n:Int))=false:=decide_eq_false aA;have d3:decide (i<n)=false:=decide_eq_false hlt;have HP:Hid (a <+: b):=hid (by
     have h:=HE.o;rw [List.take_of_length_le (by rw [HLA.o];omega)] at h;rw [h];exact List.take_prefix _ _)
    clear hlt;go_wp2_with fail
    go_ret;exact ⟨true,rfl,⟨fun _=>HP.o,fun _=>rfl⟩,aK (Below.refl _ _) _⟩
  have d2:decide ((i:Int)<(n:Int))=true:=decide_eq_true aA;have d3:decide (i<n)=true:=decide_eq_true hlt;have hlt2:(i:Int)<(n:Int):=aA;have hltm:i<m:=aA;have hltm2:(i:Int)<(m:Int):=aA;obtain ⟨b1,o1,e1,_,q1⟩:=HA.o aA;obtain ⟨b2,o2,e2,_,q2⟩:=HB.o aA;subst e1 e2;have r1:=q1 i hlt;have r2:=q2 i hltm;have HTA:Hid (a.take (i+1)=a.take i++[a.getD i 0]):=hid (by rw [List.take_succ_eq_append_getElem (by rw [HLA.o];exact hlt),List.getD_eq_getElem?_getD,List.getElem?_eq_getElem (by rw [HLA.o];exact hlt)];rfl);have HTB:Hid (b.take (i+1)=b.take i++[b.getD i 0]):=hid (by rw [List.take_succ_eq_append_getElem (by rw [HLB.o];exact hltm),List.getD_eq_getElem?_getD,List.getElem?_eq_getElem (by rw [HLB.o];exact hltm)];rfl);obtain ⟨x,hx⟩ : ∃ x,x=a.getD i 0:=⟨_,rfl⟩;obtain ⟨y,hy⟩ : ∃ y,y=b.getD i 0:=⟨_,rfl⟩;rw [<-hx] at r1 HTA;rw [<-hy] at r2 HTB;clear q1 q2 hx hy;by_cases hxy:x=y
  · subst hxy;go_wp2_with fail
    go_quiet (fail)
    go_wp2_with fail
    go_roundw
    case rel=>exact ⟨i+1,_,by go_num,by omega,hid (by rw [HTA.o,HTB.o,HE.o]),by rfl⟩
    case measure=>simp [intOf];omega
  have dn:((x:Int) != (y:Int))=true:=by simpa using fun h:(x:Int)=(y:Int)=>hxy aA
  have HN:Hid (¬ a <+: b):=hid (fun ⟨r,hr⟩=>by
   have h9:a.take (i+1)=b.take (i+1):=by rw [<-hr,List.take_append_of_le_length (by rw [HLA.o];omega)]
   rw [HTA.o,HTB.o,HE.o] at h9;simp at h9;exact hxy h9)
  go_wp2_with fail
  go_quiet (fail)
  go_wp2_with fail
  go_ret;exact ⟨false,rfl,⟨(fun h=>by cases h),fun h=>absurd h HN.o⟩,by first | exact aK (Below.refl _ _) _ | exact aK (aK (Below.refl _ _) _) _⟩
structure s9 (R:Nat->Prop) (g:Nat) (s:Rd) (w:World):Prop where
 lt:g<w.heap.size
 off:∀ q,R q->q<w.heap.size/\q ≠ g
 at_:∃ A n c,aE w g 102 #[Z A n c,O X s.err]/\jC R w A n c s.rest
def FC (R:Nat->Prop) (g most:Nat) (s:Rd) (w:World) (e:Ending) (w':World):Prop:=e=.returned (.int .u64 (((aJ most s).1:Nat):Int))/\aG (fun q=>q=g) Y w w'/\s9 R g (aJ most s).2 w'
theorem s9.below {R:Nat->Prop} {g:Nat} {s:Rd} {w w':World} (h:s9 R g s w) (hb:Below w.heap.size w w'):s9 R g s w':=by
 obtain ⟨A,n,c,h1,h2⟩:=h.at_;exact ⟨Nat.lt_of_lt_of_le h.lt hb.size,fun q hq=>⟨Nat.lt_of_lt_of_le (h.off q hq).1 hb.size,(h.off q hq).2⟩,A,n,c,h1.below hb h1.lt,h2.keep fun q hq=>⟨hq,fun o=>hb.cell (p:=⟨q,o,Y⟩) (h.off q hq).1⟩⟩
theorem uJ {R:Nat->Prop} {w:World} {g:Nat} {A:Option Addr} {n c:Nat} {bs:List Nat} (h:jC R w A n c bs) (hR:∀ q,R q->q ≠ g) (i:Nat) (u:Value):jC R (w.setCell ⟨g,i,Y⟩ u) A n c bs :=
 h.keep fun q hq=>⟨hq,fun o=>aF (Below.heap_setCell w ⟨g,i,Y⟩ u q (hR q hq)) o⟩
theorem uU {R:Nat->Prop} {w:World} {g:Nat} (h:∀ q,R q->q<w.heap.size/\q ≠ g) (i:Nat) (u:Value) : ∀ q,R q->q<(w.setCell ⟨g,i,Y⟩ u).heap.size/\q ≠ g:=fun q hq=>⟨by simpa [World.setCell] using (h q hq).1,(h q hq).2⟩
theorem jN {R:Nat->Prop} {w w':World} {g:Nat} (h:∀ q,R q->q<w.heap.size/\q ≠ g) (hb:Below w.heap.size w w') : ∀ q,R q->q<w'.heap.size/\q ≠ g:=fun q hq=>⟨Nat.lt_of_lt_of_le (h q hq).1 hb.size,(h q hq).2⟩
theorem o0 {R:Nat->Prop} {w w':World} {g:Nat} {A:Option Addr} {n c:Nat} {bs:List Nat} (h:jC R w A n c bs) (hR:∀ q,R q->q<w.heap.size/\q ≠ g) (hb:Below w.heap.size w w'):jC R w' A n c bs:=h.keep fun q hq=>⟨hq,fun o=>hb.cell (p:=⟨q,o,Y⟩) (hR q hq).1⟩
theorem KD {R:Nat->Prop} {w:World} {g:Nat} {A:Option Addr} {n c:Nat} {bs:List Nat} (h:jC R w A n c bs) (hR:∀ q,R q->q<w.heap.size/\q ≠ g):gC w A n c bs:=h.keep fun q hq=>⟨(hR q hq).1,fun _=>rfl⟩
theorem nS {R:Nat->Prop} {g:Nat} {s:Rd} {w:World} {A:Option Addr} {n c:Nat} {z:Value} (hb:aE w g 102 #[Z A n c,z]) (hR:∀ q,R q->q<w.heap.size/\q ≠ g) (hy:jC R w A n c s.rest) (e:Int) (o:Bool):s9 R g ⟨s.rest,e,o⟩ (w.setCell ⟨g,1,Y⟩ (O X e)) :=
 ⟨by simpa [World.setCell] using hb.lt,uU hR 1 _,A,n,c,by simpa using hb.set_ 1 (O X e),uJ hy (fun q hq=>(hR q hq).2) 1 _⟩
theorem hI {most:Nat} {s:Rd} (h0:s.err=0) {e:Int} {v j:Nat} (h:bZ most 0 0 s.rest=(e,v,j)):aJ most s=if e ≠ 0 then (0,⟨s.rest,e,s.odd⟩) else (v,⟨s.rest.drop j,0,s.odd⟩):=by
 unfold aJ;rw [if_neg (by simp [h0]),h]
theorem uE {R:Nat->Prop} {w:World} {g most:Nat} {s:Rd} (h:s9 R g s w) (hm:most<18446744073709551616) :
 Calls Tryz.prog 112 #[.pointer (some ⟨g,0,Y⟩),.int .u64 (most:Int)] w (FC R g most s w):=by
 obtain ⟨A,n,c,hk,hy⟩:=h.at_;have HK:=hid hk;have HY:=hid hy;have HOFF:=hid h.off;have HH:=hid h;have z0:=hk.cell;have yf:=hk.frozen;by_cases he:s.err=0;rotate_left
 · have dz:(s.err != 0)=true:=by simpa using he
   have HR:=hid (eY (most:=most) he);clear hk hy h he;go_in;go_wp2_with fail
   go_ret;unfold FC;rw [HR.o];exact ⟨rfl,aG.refl _ _ _,HH.o⟩
 have HE0:=hid he;have hln:=hy.len;have hfew:=hy.few;have HBY:=hid hy.byte;obtain ⟨l,hl⟩ : ∃ l,l=s.rest:=⟨_,rfl⟩;rw [he] at HK z0;rw [<-hl] at HY hln HBY;have HL:=hid hl;have HLN:=hid hln;have hkd:=HK.o;have hgl:=hkd.lt;clear hk hy h he hl hkd;go_in;go_wp2_with fail
 go_loopw [5,6,7] (fun nv wv iv wr=>∃ i a b:Nat,nv=.int .u64 (a:Int)/\wv=.int .u64 (b:Int)/\iv=O X (i:Int)/\i<=n/\i<=10/\Hid (a=fF (l.take i) % 18446744073709551616/\b=128 ^ i % 18446744073709551616/\∀ j,j<i->128<=l.getD j 0)/\wr=w) (fun _ _ iv _=>10-(intOf iv).toNat)
 case atStart=>exact ⟨0,0,1,rfl,rfl,rfl,Nat.zero_le _,Nat.zero_le _,hid ⟨rfl,rfl,fun j hj=>by omega⟩,rfl⟩
 case round =>
  obtain ⟨i,a,b,rfl,rfl,rfl,hi,hi10,HI,rfl⟩:=hrel;have ha64:a<18446744073709551616:=by rw [HI.o.1];omega
  have hb64:b<18446744073709551616:=by rw [HI.o.2.1];omega
  by_cases hend:i<n/\i<10;rotate_left
  · have d1:i=n\/i=10:=aA;have HD:=hid d1;have HSE:=hid (HK.o.set_ 1 (O X 4));have hyk:=uJ HY.o (fun q hq=>(HOFF.o q hq).2) 1 (O X 4);have HOFE:=hid (uU HOFF.o 1 (O X 4));have HYE:=hid hyk;have HME:Hid (aG (fun q=>q=g) Y wr (wr.setCell ⟨g,1,Y⟩ (O X 4))):=hid (aG.setCell (S:=fun q=>q=g) (aG.refl _ _ _) (p:=⟨g,1,Y⟩) rfl _);have y0:(wr.setCell ⟨g,1,Y⟩ (O X 4)).cell? ⟨g,0,Y⟩=some (Z A n c):=by have:=HSE.o.cell 0;simpa using this
    have y1:=HSE.o.frozen;have hdd:(decide ((i:Int)<(n:Int))=false/\decide (i<n)=false)\/(decide ((i:Int)<(n:Int))=true/\decide ((i:Int)<10)=false/\decide (i<n)=true/\decide (i<10)=false):=by
     by_cases h9:i<n
     · exact .inr ⟨decide_eq_true aA,decide_eq_false aA,decide_eq_true h9,decide_eq_false aA⟩
     exact .inl ⟨decide_eq_false aA,decide_eq_false h9⟩
    by_cases hn0:n=0
    · have d2:decide ((n:Int)>0)=false:=decide_eq_false aA;have d2b:decide (0<n)=false:=decide_eq_false aA;have d2c:decide ((0:Int)<(n:Int))=false:=decide_eq_false aA;have d4:decide ((i:Int)<(n:Int))=false:=decide_eq_false aA;have d5:decide (i<n)=false:=decide_eq_false aA;have HR:Hid (aJ most s=(0,⟨s.rest,4,s.odd⟩)):=hid (by
       have hnil:s.rest=[]:=List.eq_nil_of_length_eq_zero (by rw [<-HL.o,HLN.o,hn0]);rw [hI HE0.o (e:=4) (v:=0) (j:=0) (by rw [hnil];rfl),if_pos (by decide)])
      clear hdd hend d1 hn0;go_wp2_with fail
      go_ret;unfold FC;rw [HR.o];exact ⟨rfl,HME.o,nS (s:=s) HK.o HOFF.o (by rw [<-HL.o];exact HY.o) 4 s.odd⟩
    have d2:decide ((n:Int)>0)=true:=decide_eq_true aA;have d2b:decide (0<n)=true:=decide_eq_true aA;have d2c:decide ((0:Int)<(n:Int))=true:=decide_eq_true aA;obtain ⟨least,hle⟩ : ∃ q:Nat,q=(a+b) % 18446744073709551616:=⟨_,rfl⟩;have e1:IntKind.u64.wrap ((a:Int)+(b:Int))=(least:Int):=by rw [IntKind.wrap_u64,hle];omega
    have HLE:=hid hle;have hl64:least<18446744073709551616:=by rw [hle];omega
    by_cases h9:9<n
    · have d3:decide ((n:Int)>9)=true:=decide_eq_true aA;have d3b:decide (9<n)=true:=decide_eq_true h9;have d3c:decide ((9:Int)<(n:Int))=true:=decide_eq_true aA;have HR:Hid (aJ most s=(0,⟨s.rest,3,s.odd⟩)):=hid (by
       have hn10:i=10:=aA;rw [hI HE0.o (e:=3) (v:=0) (j:=0) (by rw [<-HL.o];exact DY HBY.o hm (by rw [HLN.o];exact h9) (fun j hj=>HI.o.2.2 j aA)),if_pos (by decide)])
      clear hle hend d1 hn0;rcases hdd with ⟨d4,d5⟩ | ⟨d4,d5,d8,d9⟩;all_goals
       go_wp2_with fail
       refine wp_region_held_drew (S:=(fun w'=>w'.cell? ⟨g,0,Y⟩=some (Z A n c))) (by kernel_rfl) ?_ (fun hHeld => ?_)
       · (try dsimp only);exact y0
       refine tq 0 hHeld ?_;try simp only [p7]
       refine tq 1 hHeld ?_;try simp only [p7]
       refine tq 2 hHeld ?_;try simp only [p7]
       refine tq 3 hHeld ?_;try simp only [p7]
       refine tq 4 hHeld ?_;try simp only [p7]
       refine tq 5 hHeld ?_;try simp only [p7]
       refine tq 6 hHeld ?_;try simp only [p7]
       refine dk 7 hHeld ?_;try simp only [p7]
       refine dk 8 hHeld ?_;try simp only [p7]
       refine dk 9 hHeld ?_;try simp only [p7]
       refine tq 10 hHeld ?_;try simp only [p7]
       refine tq 11 hHeld ?_;try simp only [p7]
       refine dk 12 hHeld ?_;try simp only [p7]
       refine dk 13 hHeld ?_;try simp only [p7]
       refine dk 14 hHeld ?_;try simp only [p7]
       refine tq 15 hHeld ?_;try simp only [p7]
       refine tq 16 hHeld ?_;try simp only [p7]
       refine dk 17 hHeld ?_;try simp only [p7]
       refine dk 18 hHeld ?_;try simp only [p7]
       refine dk 19 hHeld ?_;try simp only [p7]
       refine dk 20 hHeld ?_;try simp only [p7]
       refine dk 21 hHeld ?_;try simp only [p7]
       refine dk 22 hHeld ?_;try simp only [p7]
       refine dk 23 hHeld ?_;try simp only [p7]
       refine dk 24 hHeld ?_;try simp only [p7]
       refine tq 25 hHeld ?_;try simp only [p7]
       refine wpAnyH_done (by kernel_rfl) ?_ _;go_wp2_with fail
       go_ret;unfold FC;rw [HR.o];exact ⟨rfl,(aG.setCell (S:=fun q=>q=g) (aG.drew HME.o) (p:=⟨g,1,Y⟩) rfl _),nS (s:=s) (A:=A) (n:=n) (c:=c) (cX (by simpa using HSE.o)) HOFE.o (by rw [<-HL.o];exact HYE.o.keep fun q hq=>⟨hq,fun _=>rfl⟩) 3 s.odd⟩
    have d3:decide ((n:Int)>9)=false:=decide_eq_false aA;have d3b:decide (9<n)=false:=decide_eq_false h9;have d3c:decide ((9:Int)<(n:Int))=false:=decide_eq_false aA;have hpp:0<128 ^ l.length:=Nat.pow_pos aA;have hin:i=n:=aA;have d4:decide ((i:Int)<(n:Int))=false:=decide_eq_false aA;have d5:decide (i<n)=false:=decide_eq_false aA;have hlw:=GO (l:=l) (by rw [HLN.o];omega);have hab:a=fF l/\b=128 ^ l.length:=by
     obtain ⟨k1,k2,_⟩:=HI.o;rw [List.take_of_length_le (by rw [HLN.o];omega),Nat.mod_eq_of_lt aA] at k1;rw [hin,<-HLN.o,Nat.mod_eq_of_lt aA] at k2;exact ⟨k1,k2⟩
    have hleast:least=fF l+128 ^ l.length:=by rw [hle,hab.1,hab.2];exact Nat.mod_eq_of_lt hlw.1
    have d6:decide ((least:Int)<(b:Int))=false:=decide_eq_false (by rw [hleast,hab.2];omega);have d6b:decide (least<b)=false:=decide_eq_false (by rw [hleast,hab.2];omega);have hall:∀ x ∈ l,128<=x:=fun x hx=>by
     obtain ⟨j,hj,rfl⟩:=List.getElem_of_mem hx;have:=HI.o.2.2 j (by rw [hin,<-HLN.o];exact hj)
     rwa [List.getD_eq_getElem?_getD,List.getElem?_eq_getElem hj] at this
    obtain ⟨f1,f2,f3⟩:=DX HBY.o hm (fun h=>hn0 (by rw [<-HLN.o,h];rfl)) (by rw [HLN.o];omega) hall;rw [<-hleast] at f1 f2 f3;by_cases hmo:most<least
    · have d7:decide ((least:Int)>(most:Int))=true:=decide_eq_true aA;have d7b:decide (most<least)=true:=decide_eq_true hmo;have d7c:decide ((most:Int)<(least:Int))=true:=decide_eq_true aA;have HR:Hid (aJ most s=(0,⟨s.rest,3,s.odd⟩)):=hid (by
       rw [hI HE0.o (e:=3) (v:=0) (j:=0) (by rw [<-HL.o];exact f3 hmo),if_pos (by decide)])
      clear hle hend d1 hn0 hin hlw hab hleast hall f1 f2 f3 hdd hpp;go_wp2_with fail
      refine wp_region_held_drew (S:=(fun w'=>w'.cell? ⟨g,0,Y⟩=some (Z A n c))) (by kernel_rfl) ?_ (fun hHeld => ?_)
      · (try dsimp only);exact y0
      refine tq 0 hHeld ?_;try simp only [p7]
      refine tq 1 hHeld ?_;try simp only [p7]
      refine tq 2 hHeld ?_;try simp only [p7]
      refine tq 3 hHeld ?_;try simp only [p7]
      refine tq 4 hHeld ?_;try simp only [p7]
      refine tq 5 hHeld ?_;try simp only [p7]
      refine tq 6 hHeld ?_;try simp only [p7]
      refine tq 7 hHeld ?_;try simp only [p7]
      refine tq 8 hHeld ?_;try simp only [p7]
      refine tq 9 hHeld ?_;try simp only [p7]
      refine tq 10 hHeld ?_;try simp only [p7]
      refine tq 11 hHeld ?_;try simp only [p7]
      refine tq 12 hHeld ?_;try simp only [p7]
      refine tq 13 hHeld ?_;try simp only [p7]
      refine tq 14 hHeld ?_;try simp only [p7]
      refine tq 15 hHeld ?_;try simp only [p7]
      refine tq 16 hHeld ?_;try simp only [p7]
      refine dk 17 hHeld ?_;try simp only [p7]
      refine dk 18 hHeld ?_;try simp only [p7]
      refine dk 19 hHeld ?_;try simp only [p7]
      refine dk 20 hHeld ?_;try simp only [p7]
      refine dk 21 hHeld ?_;try simp only [p7]
      refine dk 22 hHeld ?_;try simp only [p7]
      refine dk 23 hHeld ?_;try simp only [p7]
      refine dk 24 hHeld ?_;try simp only [p7]
      refine tq 25 hHeld ?_;try simp only [p7]
      refine wpAnyH_done (by kernel_rfl) ?_ _;go_wp2_with fail
      go_ret;unfold FC;rw [HR.o];exact ⟨rfl,(aG.setCell (S:=fun q=>q=g) (aG.drew HME.o) (p:=⟨g,1,Y⟩) rfl _),nS (s:=s) (A:=A) (n:=n) (c:=c) (cX (by simpa using HSE.o)) HOFE.o (by rw [<-HL.o];exact HYE.o.keep fun q hq=>⟨hq,fun _=>rfl⟩) 3 s.odd⟩
    have d7:decide ((least:Int)>(most:Int))=false:=decide_eq_false aA;have d7b:decide (most<least)=false:=decide_eq_false hmo;have d7c:decide ((most:Int)<(least:Int))=false:=decide_eq_false aA;have HR:Hid (aJ most s=(0,⟨s.rest,4,s.odd⟩)):=hid (by
     rw [hI HE0.o (e:=4) (v:=0) (j:=0) (by rw [<-HL.o];exact f2 aA),if_pos (by decide)])
    have HPF:Hid (l <+: aH least):=hid (by rw [f1];exact List.prefix_append _ _);have HFO:=hid (fun W:World=>uD least W hl64);have HFB:=hid (dJ least);have hfl:=(aW least).2;have HDD:=hid (Nat.le_refl (wr.setCell ⟨g,1,Y⟩ (O X 4)).drew.heap.size);clear hle hend d1 hn0 hin hlw hab hleast hall f1 f2 f3 hdd hpp;go_wp2_with fail
    refine wp_region_held_drew (S:=(fun w'=>w'.cell? ⟨g,0,Y⟩=some (Z A n c))) (by kernel_rfl) ?_ (fun hHeld => ?_)
    · (try dsimp only);exact y0
    refine tq 0 hHeld ?_;try simp only [p7]
    refine tq 1 hHeld ?_;try simp only [p7]
    refine tq 2 hHeld ?_;try simp only [p7]
    refine tq 3 hHeld ?_;try simp only [p7]
    refine tq 4 hHeld ?_;try simp only [p7]
    refine tq 5 hHeld ?_;try simp only [p7]
    refine tq 6 hHeld ?_;try simp only [p7]
    refine tq 7 hHeld ?_;try simp only [p7]
    refine tq 8 hHeld ?_;try simp only [p7]
    refine tq 9 hHeld ?_;try simp only [p7]
    refine tq 10 hHeld ?_;try simp only [p7]
    refine tq 11 hHeld ?_;try simp only [p7]
    refine tq 12 hHeld ?_;try simp only [p7]
    refine tq 13 hHeld ?_;try simp only [p7]
    refine tq 14 hHeld ?_;try simp only [p7]
    refine tq 15 hHeld ?_;try simp only [p7]
    refine tq 16 hHeld ?_;try simp only [p7]
    refine tq 17 hHeld ?_;try simp only [p7]
    refine tq 18 hHeld ?_;try simp only [p7]
    refine tq 19 hHeld ?_;try simp only [p7]
    refine tq 20 hHeld ?_;try simp only [p7]
    refine tq 21 hHeld ?_;try simp only [p7]
    refine r1 22 fun K hK => ?_;go_simp;go_at_call 127
    refine (HFO.o _).mono ?_;rintro e5 w5 ⟨hb5,A5,c5,rfl,ho5⟩;have HB5:Hid (Below (wr.setCell ⟨g,1,Y⟩ (O X 4)).heap.size (wr.setCell ⟨g,1,Y⟩ (O X 4)) w5):=hid (show Below (wr.setCell ⟨g,1,Y⟩ (O X 4)).drew.heap.size (wr.setCell ⟨g,1,Y⟩ (O X 4)) w5 from (cB (Below.refl _ _)).trans hb5);have HF5:=hid (gR.byt ho5 HFB.o aA);have HL5:Hid (gC w5 A n c l):=hid (KD (o0 HYE.o HOFE.o HB5.o) (jN HOFE.o HB5.o));have HK5:=hid (HSE.o.below HB5.o (by simpa [World.setCell] using hgl));clear hb5 ho5;go_wp2_with fail
    refine hK.o _ _ ?_ (fun hHeld => ?_)
    · (try dsimp only);(have:=HK5.o.cell 0;simpa using this)
    clear hK K;try simp only [p7]
    refine r1 23 fun K hK => ?_;go_simp;go_at_call 132
    refine (qV HL5.o HF5.o).mono ?_;rintro e6 w6 ⟨q6,rfl,hq6,hb6⟩;obtain rfl:q6=true:=hq6.2 HPF.o;have HB6:Hid (Below (wr.setCell ⟨g,1,Y⟩ (O X 4)).heap.size (wr.setCell ⟨g,1,Y⟩ (O X 4)) w6):=cN HB5 hb6;have HK6:=hid (HSE.o.below HB6.o (by simpa [World.setCell] using hgl));clear hb6 hq6;go_wp2_with fail
    refine hK.o _ _ ?_ (fun hHeld => ?_)
    · (try dsimp only);(have:=HK6.o.cell 0;simpa using this)
    clear hK K;try simp only [p7]
    refine tq 24 hHeld ?_;try simp only [p7]
    refine tq 25 hHeld ?_;try simp only [p7]
    refine wpAnyH_done (by kernel_rfl) ?_ _;go_wp2_with fail
    go_ret;unfold FC;rw [HR.o];exact ⟨rfl,(HME.o.trans (row':=Y) (aG.of_below HB6.o) (fun _ e=>by cases e)),(nS (s:=s) HK.o HOFF.o (by rw [<-HL.o];exact HY.o) 4 s.odd).below HB6.o⟩
  obtain ⟨hin,hi10'⟩:=hend;have d1:decide ((i:Int)<(n:Int))=true:=decide_eq_true aA;have d2:decide ((i:Int)<10)=true:=decide_eq_true aA;have d2b:decide (i<10)=true:=decide_eq_true hi10';have d3:decide (i<n)=true:=decide_eq_true hin;have hin2:(i:Int)<(n:Int):=aA;obtain ⟨bb,off,eA,hbb,hcs⟩:=HY.o.mem aA;subst eA;have hcell:=hcs i hin;have hx256:l.getD i 0<256:=HBY.o _ (oF (by rw [HLN.o];exact hin));have HT:Hid (l.take (i+1)=l.take i++[l.getD i 0]):=hid (by rw [List.take_succ_eq_append_getElem (by rw [HLN.o];exact hin),List.getD_eq_getElem?_getD,List.getElem?_eq_getElem (by rw [HLN.o];exact hin)];rfl);have HLT:Hid ((l.take i).length=i):=hid (by rw [List.length_take,HLN.o];omega);obtain ⟨x,hx⟩ : ∃ x,x=l.getD i 0:=⟨_,rfl⟩;rw [<-hx] at hcell hx256 HT;have HX:=hid hx;obtain ⟨q,hq⟩ : ∃ q:Nat,q=x % 128:=⟨_,rfl⟩;obtain ⟨p,hp⟩ : ∃ p:Nat,p=b*q % 18446744073709551616:=⟨_,rfl⟩;obtain ⟨a2,ha2⟩ : ∃ a2:Nat,a2=(a+p) % 18446744073709551616:=⟨_,rfl⟩;obtain ⟨b2,hb2⟩ : ∃ b2:Nat,b2=b*128 % 18446744073709551616:=⟨_,rfl⟩;have hbq:(b:Int)*(q:Int)=((b*q:Nat):Int):=by simp
  have e1:Int.tmod (x:Int) 128=(q:Int):=by rw [Int.tmod_eq_emod_of_nonneg aA,hq];omega
  have e1b:(x:Int) % 128=(q:Int):=by rw [hq];omega
  have e2:IntKind.u64.wrap (q:Int)=(q:Int):=by rw [IntKind.wrap_u64];omega
  have e3:IntKind.u64.wrap ((b:Int)*(q:Int))=(p:Int):=by rw [IntKind.wrap_u64,hbq,hp];omega
  have e4:IntKind.u64.wrap ((a:Int)+(p:Int))=(a2:Int):=by rw [IntKind.wrap_u64,ha2];omega
  have e5:IntKind.u64.wrap ((b:Int)*128)=(b2:Int):=by rw [IntKind.wrap_u64,hb2];omega
  have ha2l:a2<18446744073709551616:=by rw [ha2];omega
  have HN:Hid (a2=fF (l.take (i+1)) % 18446744073709551616/\b2=128 ^ (i+1) % 18446744073709551616):=hid (by
   obtain ⟨k1,k2,_⟩:=HI.o;refine ⟨?_,?_⟩
   · rw [ha2,hp,hq,HT.o,uC,HLT.o,k1,k2,Nat.mul_comm (x % 128)];have h9:128 ^ i % 18446744073709551616*(x % 128) % 18446744073709551616=128 ^ i*(x % 128) % 18446744073709551616:=by rw [Nat.mul_mod,Nat.mod_mod,<-Nat.mul_mod]
     rw [<-Nat.add_mod,Nat.add_mod,h9,<-Nat.add_mod]
   rw [hb2,k2,Nat.pow_succ,Nat.mod_mul_mod])
  clear hcs hx hq hp ha2 hb2 hbq;by_cases hx128:x<128;rotate_left
  · have d4:decide ((x:Int)<128)=false:=decide_eq_false aA;have d5:decide (x<128)=false:=decide_eq_false hx128;go_wp2_with fail
    go_roundw
    case rel=>exact ⟨i+1,a2,b2,rfl,rfl,by go_num,by omega,by omega,hid ⟨HN.o.1,HN.o.2,fun j hj=>by
     by_cases hji:j=i
     · subst hji;rw [<-HX.o];omega
     exact HI.o.2.2 j aA⟩,by first | rfl | trivial⟩
    case measure=>simp [intOf];omega
  have d4:decide ((x:Int)<128)=true:=decide_eq_true aA;have d5:decide (x<128)=true:=decide_eq_true hx128;obtain ⟨n1,n2⟩:=GT (most:=most) HBY.o hm (by rw [HLN.o];exact hin) HI.o.2.2 (by rw [<-HX.o];exact hx128) HN.o.1;have N1:=hid n1;have N2:=hid n2;have HFO:=hid (fun W:World=>uD a2 W ha2l);have HFB:=hid (dJ a2);have hfl:=(aW a2).2;have HB0:Hid (Below wr.heap.size wr wr.drew):=hid (cB (Below.refl _ _));have hiw:IntKind.i64.wrap ((i:Int)+1)=(i:Int)+1:=by rw [IntKind.wrap_i64];omega
  clear n1 n2 hx128;by_cases hmo:most<a2
  · have d6:decide ((a2:Int)<=(most:Int))=false:=decide_eq_false aA;have d6b:decide (a2<=most)=false:=decide_eq_false aA;have HR:Hid (aJ most s=(0,⟨s.rest,3,s.odd⟩)):=hid (by
     rw [hI HE0.o (e:=3) (v:=0) (j:=0) (by rw [<-HL.o];exact N2.o (fun h=>by have:=h.1;omega)),if_pos (by decide)])
    have HKd:=hid (cX HK.o);have zd:=HKd.o.cell;have yfd:=HKd.o.frozen;clear hmo;go_wp2_with fail
    refine wp_region_held_drew (S:=(fun _=>True)) (by kernel_rfl) ?_ (fun hHeld => ?_)
    · trivial
    refine tq 0 hHeld ?_;try simp only [p7]
    refine tq 1 hHeld ?_;try simp only [p7]
    refine tq 2 hHeld ?_;try simp only [p7]
    refine tq 3 hHeld ?_;try simp only [p7]
    refine dk 4 hHeld ?_;try simp only [p7]
    refine dk 5 hHeld ?_;try simp only [p7]
    refine dk 6 hHeld ?_;try simp only [p7]
    refine dk 7 hHeld ?_;try simp only [p7]
    refine dk 8 hHeld ?_;try simp only [p7]
    refine dk 9 hHeld ?_;try simp only [p7]
    refine dk 10 hHeld ?_;try simp only [p7]
    refine tq 11 hHeld ?_;try simp only [p7]
    refine tq 12 hHeld ?_;try simp only [p7]
    refine dk 13 hHeld ?_;try simp only [p7]
    refine dk 14 hHeld ?_;try simp only [p7]
    refine dk 15 hHeld ?_;try simp only [p7]
    refine dk 16 hHeld ?_;try simp only [p7]
    refine dk 17 hHeld ?_;try simp only [p7]
    refine dk 18 hHeld ?_;try simp only [p7]
    refine tq 19 hHeld ?_;try simp only [p7]
    refine wpAnyH_done (by kernel_rfl) ?_ _;go_wp2_with fail
    go_ret;unfold FC;rw [HR.o];exact ⟨rfl,(aG.setCell (S:=fun q=>q=g) (aG.of_below HB0.o) (p:=⟨g,1,Y⟩) rfl _),nS (s:=s) HKd.o (jN HOFF.o HB0.o) (by rw [<-HL.o];exact o0 HY.o HOFF.o HB0.o) 3 s.odd⟩
  have d6:decide ((a2:Int)<=(most:Int))=true:=decide_eq_true aA;have d6b:decide (a2<=most)=true:=decide_eq_true aA;go_wp2_with fail
  refine wp_region_held_drew (S:=(fun w'=>w'.cell? ⟨g,0,Y⟩=some (Z (some ⟨bb,off,Y⟩) n c))) (by kernel_rfl) ?_ (fun hHeld => ?_)
  · (try dsimp only);exact z0 0
  refine tq 0 hHeld ?_;try simp only [p7]
  refine tq 1 hHeld ?_;try simp only [p7]
  refine tq 2 hHeld ?_;try simp only [p7]
  refine tq 3 hHeld ?_;try simp only [p7]
  refine tq 4 hHeld ?_;try simp only [p7]
  refine tq 6 hHeld ?_;try simp only [p7]
  refine tq 7 hHeld ?_;try simp only [p7]
  refine tq 8 hHeld ?_;try simp only [p7]
  refine tq 9 hHeld ?_;try simp only [p7]
  refine r1 5 fun K hK => ?_;go_simp;go_at_call 127
  refine (HFO.o _).mono ?_;rintro e5 w5 ⟨hb5,A5,c5,rfl,ho5⟩;have HB5:Hid (Below wr.heap.size wr w5):=hid (HB0.o.trans hb5);have HF5:=hid (gR.byt ho5 HFB.o aA);have HL5:Hid (gC w5 (some ⟨bb,off,Y⟩) n c l):=hid (KD (o0 HY.o HOFF.o HB5.o) (jN HOFF.o HB5.o));have HK5:=hid (HK.o.below HB5.o hgl);clear hb5 ho5;go_wp2_with fail
  refine hK.o _ _ (by exact HK5.o.cell 0) fun hHeld => ?_;clear hK K;try simp only [p7]
  refine r1 10 fun K hK => ?_;go_simp;go_at_call 132
  refine (qV HF5.o HL5.o).mono ?_;rintro e6 w6 ⟨q6,rfl,hq6,hb6⟩;have HB6:Hid (Below wr.heap.size wr w6):=cN HB5 hb6;have HQ6:=hid hq6;have HK6:=hid (HK.o.below HB6.o hgl);clear hb6 hq6;go_wp2_with fail
  refine hK.o _ _ (by exact HK6.o.cell 0) fun hHeld => ?_;clear hK K;try simp only [p7]
  cases q6;rotate_left
  · by_cases hlen:(aH a2).length=i+1;rotate_left
    · have d7:(((aH a2).length:Int)==(i:Int)+1)=false:=by simpa using fun h:((aH a2).length:Int)=(i:Int)+1=>hlen aA
      have d7b:decide ((aH a2).length=i+1)=false:=decide_eq_false hlen;have d7c:((aH a2).length==i+1)=false:=by simpa using hlen
      have d7d:decide (((aH a2).length:Int)=(i:Int)+1)=false:=decide_eq_false aA;have HLQ:Hid (¬ (aH a2).length=i+1):=hid hlen;have HR:Hid (aJ most s=(0,⟨s.rest,3,s.odd⟩)):=hid (by
       rw [hI HE0.o (e:=3) (v:=0) (j:=0) (by rw [<-HL.o];exact N2.o (fun h=>HLQ.o h.2.2)),if_pos (by decide)])
      clear hlen;refine tq 11 hHeld ?_;try simp only [p7]
      refine tq 12 hHeld ?_;try simp only [p7]
      refine tq 13 hHeld ?_;try simp only [p7]
      refine tq 16 hHeld ?_;try simp only [p7]
      refine tq 17 hHeld ?_;try simp only [p7]
      refine r1 14 fun K hK => ?_;go_simp;go_at_call 127
      refine (HFO.o _).mono ?_;rintro e7 w7 ⟨hb7,A7,c7,rfl,ho7⟩;have HB7:Hid (Below wr.heap.size wr w7):=cN HB6 hb7;have HK7:=hid (HK.o.below HB7.o hgl);clear hb7 ho7;go_wp2_with fail
      refine hK.o _ _ (by exact HK7.o.cell 0) fun hHeld => ?_;clear hK K;try simp only [p7]
      refine tq 15 hHeld ?_;try simp only [p7]
      refine tq 18 hHeld ?_;try simp only [p7]
      refine tq 19 hHeld ?_;try simp only [p7]
      refine wpAnyH_done (by kernel_rfl) ?_ _;have z7:=HK7.o.cell;have yf7:=HK7.o.frozen;go_wp2_with fail
      go_ret;unfold FC;rw [HR.o];exact ⟨rfl,(aG.setCell (S:=fun q=>q=g) (aG.of_below HB7.o) (p:=⟨g,1,Y⟩) rfl _),nS (s:=s) HK7.o (jN HOFF.o HB7.o) (by rw [<-HL.o];exact o0 HY.o HOFF.o HB7.o) 3 s.odd⟩
    have d7b:decide ((aH a2).length=i+1)=true:=decide_eq_true hlen;have d7c:((aH a2).length==i+1)=true:=by simpa using hlen
    have d7d:decide (((aH a2).length:Int)=(i:Int)+1)=true:=decide_eq_true aA;have d7:(((aH a2).length:Int)==(i:Int)+1)=true:=by simpa using (show ((aH a2).length:Int)=(i:Int)+1 from by omega)
    have HR:Hid (aJ most s=(a2,⟨s.rest.drop (i+1),0,s.odd⟩)):=hid (by
     rw [hI HE0.o (e:=0) (v:=a2) (j:=i+1) (by rw [<-HL.o];exact N1.o ⟨by omega,HQ6.o.1 rfl,hlen⟩),if_neg (by decide)])
    obtain ⟨AX,hrun,hcut⟩:=LQ (some ⟨bb,off,Y⟩) n c (i+1) aA;have hrun2:∀ w:World,(Instr.slice 37 (Z (some ⟨bb,off,Y⟩) n c) (some (O X ((i:Int)+1))) Y Y).run Tryz.prog w=.ok (Z AX (n-(i+1)) (c-(i+1))) w:=fun w=>by have h:=hrun w;rwa [show (((i+1:Nat)):Int)=(i:Int)+1 from by omega] at h
    have HCUT:=hid hcut;clear hlen hrun hcut;refine tq 11 hHeld ?_;try simp only [p7]
    refine tq 12 hHeld ?_;try simp only [p7]
    refine tq 13 hHeld ?_;try simp only [p7]
    refine tq 16 hHeld ?_;try simp only [p7]
    refine tq 17 hHeld ?_;try simp only [p7]
    refine r1 14 fun K hK => ?_;go_simp;go_at_call 127
    refine (HFO.o _).mono ?_;rintro e7 w7 ⟨hb7,A7,c7,rfl,ho7⟩;have HB7:Hid (Below wr.heap.size wr w7):=cN HB6 hb7;have HK7:=hid (HK.o.below HB7.o hgl);clear hb7 ho7;go_wp2_with fail
    refine hK.o _ _ (by exact HK7.o.cell 0) fun hHeld => ?_;clear hK K;try simp only [p7]
    refine tq 15 hHeld ?_;try simp only [p7]
    refine tq 18 hHeld ?_;try simp only [p7]
    refine tq 19 hHeld ?_;try simp only [p7]
    refine wpAnyH_done (by kernel_rfl) ?_ _;have z7:=HK7.o.cell;have yf7:=HK7.o.frozen;go_wp2_with fail
    go_ret;unfold FC;rw [HR.o];exact ⟨rfl,(aG.setCell (S:=fun q=>q=g) (aG.of_below HB7.o) (p:=⟨g,0,Y⟩) rfl _),⟨by simpa [World.setCell] using HK7.o.lt,uU (jN HOFF.o HB7.o) 0 _,AX,n-(i+1),c-(i+1),by simpa using HK7.o.set_ 0 (Z AX (n-(i+1)) (c-(i+1))),by rw [<-HL.o];exact uJ (HCUT.o _ _ _ (o0 HY.o HOFF.o HB7.o)) (fun q hq=>(HOFF.o q hq).2) 0 _⟩⟩
  have HR:Hid (aJ most s=(0,⟨s.rest,3,s.odd⟩)):=hid (by
   rw [hI HE0.o (e:=3) (v:=0) (j:=0) (by rw [<-HL.o];exact N2.o (fun h=>by have:=HQ6.o.2 h.2.1;cases this)),if_pos (by decide)])
  refine tq 11 hHeld ?_;try simp only [p7]
  refine tq 12 hHeld ?_;try simp only [p7]
  refine dk 13 hHeld ?_;try simp only [p7]
  refine dk 14 hHeld ?_;try simp only [p7]
  refine dk 15 hHeld ?_;try simp only [p7]
  refine dk 16 hHeld ?_;try simp only [p7]
  refine dk 17 hHeld ?_;try simp only [p7]
  refine dk 18 hHeld ?_;try simp only [p7]
  refine tq 19 hHeld ?_;try simp only [p7]
  refine wpAnyH_done (by kernel_rfl) ?_ _;have z6:=HK6.o.cell;have yf6:=HK6.o.frozen;go_wp2_with fail
  go_ret;unfold FC;rw [HR.o];exact ⟨rfl,(aG.setCell (S:=fun q=>q=g) (aG.of_below HB6.o) (p:=⟨g,1,Y⟩) rfl _),nS (s:=s) HK6.o (jN HOFF.o HB6.o) (by rw [<-HL.o];exact o0 HY.o HOFF.o HB6.o) 3 s.odd⟩
end Go.Proofs.YtplecfbdchmogaaGreat
