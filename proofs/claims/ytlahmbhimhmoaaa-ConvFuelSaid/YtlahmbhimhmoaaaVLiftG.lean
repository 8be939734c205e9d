/- Merged: CvI, FineW, Tr, FixF, TermL, Short3, Guarded, Sub, LiftG. -/
import Derived.Test.YtlahmbhimhmoaaaVCvD
namespace Go.Proofs.Ytlahmbhimhmoaaa
set_option linter.unusedVariables false
set_option linter.unusedSimpArgs false
open Go.RowKit
section
open Go.Lib renaming hid->aB
theorem jA.below{w w':OE}{b n:Nat}{g:GF}(h:jA w b n g)(D:OB w w'):jA w' b n g :=
 eY.kept h (row:=none) ⟨D.os,D.tape,D.output,D.size,fun k F _=>D.block k F⟩ aD
theorem FD{vars:Int}{l:List Nd}(h:CZ vars l=true):∀x∈l,0<=x.a/\x.a<=16/\0<=x.b/\x.b<=1000:=by
 have key:∀(l:List Nd)(D:Int),IF vars D l=true->-1<=D->∀x∈l,0<=x.a/\x.a<=vars/\0<=x.b/\x.b<=1000:=by
  intro l
  induction l with
  | nil=>intro _ _ _ x F;cases F
  | cons y r Z =>
   intro D h o x F;simp only[IF,ME,MJ]at h;obtain⟨⟨⟨⟨I,G⟩,O⟩,U⟩,Y⟩:=h;rcases MU.1 F with rfl|F
   . exact⟨by omega,G,O,U⟩
   . exact Z y.a Y aA x F
 unfold CZ at h;rw[ME,ME,MJ,MJ]at h;obtain⟨⟨I,_⟩,G⟩:=h;have hv:=I.2;exact fun x F=>by have:=key l _ G (MR _) x F;omega
set_option maxRecDepth 100000 in
set_option maxHeartbeats 4000000 in
theorem pH{w:OE}{v:bA}{b:Bk}(hb:bO w v b){A:OC}{n c:Nat}{l:List Nd}(hl:lX w A n c (l.map CV)){B:OC}{m d:Nat}{k:List Nd}(hk:lX w B m d (k.map CV)):
 Calls Try.prog 65 #[.int .i64 b.vars,.slice v.Ao v.no v.co,.slice A n c,.slice B m d] w (GD (mZ b l k) w):=by
 have b7:=aB (oP hb.vars hb.orders);obtain⟨a4,D⟩:=OM (mZ b l k);rw[<-D];unfold mZ at D;generalize kT b.vars b.orders=cr at *;obtain⟨er,g⟩:=cr;simp only at D;obtain⟨HL,HK⟩:=OF (fun (w':OE) (h:OB w w')=>hl.below h) (fun (w':OE) (h:OB w w')=>hk.below h);have a3:l.length=n:=by have:=hl.len;simpa using this
 have d5:=hl.few;clear hb hl hk;by_cases he:er=0;rotate_left
 . rw[MA he]at D;have HR:=aB (show a4=false by rw[D];rfl);have d1:(er != 0)=true:=by simpa using he
   clear D he a3;go_in;go_wp2_with fail;refine (b7.o).mono ?_;rintro e w2 ⟨vv,rfl,a7,Y⟩;have b5:=aB Y;clear a7 Y;go_wp2_with fail;go_ret;rw[HR.o];exact⟨rfl,b5.o.trans ((aQ _ _).mono b5.o.size)⟩
 subst he;rw[MB rfl,NI]at D;go_in;go_wp2_with fail;refine (b7.o).mono ?_;rintro e w2 ⟨vv,rfl,a7,Y⟩;obtain⟨bm,nm,rfl,d2,d7,c4⟩:=a7 rfl;obtain⟨W3,G⟩:=OM (w2.alloc (.cells #[.map (some bm)] 75));have F:Hid (OB w W3):=aB (by rw[G];exact Y.trans ((aQ _ _).mono Y.size));have d0:Hid (jA W3 bm nm g):=aB (by rw[G];exact c4.alloc _);have b8:Hid (aW W3 w2.heap.size 75 #[.map (some bm)]):=aB (by rw[G];exact aW.new _ _ _);have Z:=aB (fun (W:OE) (h:OB W3 W)=>pG (vars:=b.vars) (HL.o W (F.o.trans (h.mono F.o.size))));have a5:=aB (fun (W:OE) (h:OB W3 W)=>pG (vars:=b.vars) (HK.o W (F.o.trans (h.mono F.o.size))));have d1:(((0:Int)) != 0)=false:=by decide
 clear a7 Y d2 c4;cases h1:CZ b.vars l with
 | false =>
  rw[h1,Bool.false_and,Bool.false_and]at D;have HR:=aB D;rw[h1]at Z;clear D a3;go_upto_region 2 with fail
  rw[<-G];clear G;go_wp2_with fail;refine (Z.o W3 (MC _ _)).mono ?_;rintro e w4 ⟨rfl,U⟩;have I:=bK F U;clear U;go_wp2_with fail;go_ret;rw[HR.o];exact⟨rfl,I.o⟩
 | true =>
  rw[h1,NI]at D;rw[h1]at Z;cases h2:CZ b.vars k with
  | false =>
   rw[h2,Bool.false_and]at D;have HR:=aB D;rw[h2]at a5;clear D a3;go_upto_region 2 with fail
   rw[<-G];clear G;go_wp2_with fail;refine (Z.o W3 (MC _ _)).mono ?_;rintro e w4 ⟨rfl,U⟩;have I:=aB U;clear U;go_wp2_with fail;refine (a5.o w4 I.o).mono ?_;rintro e w5 ⟨rfl,s⟩;have b0:=aB (F.o.trans ((I.o.trans (s.mono I.o.size)).mono F.o.size));clear s;go_wp2_with fail;go_ret;rw[HR.o];exact⟨rfl,b0.o⟩
  | true =>
   rw[h2,NI]at D;rw[h2]at a5;obtain⟨c9,c8,b9,c0⟩:=OI (FD h1) (FD h2) a3 D;clear D a3;go_upto_region 2 with fail
   rw[<-G];clear G;go_wp2_with fail;refine (Z.o W3 (MC _ _)).mono ?_;rintro e w4 ⟨rfl,U⟩;have I:=aB U;clear U;go_wp2_with fail;refine (a5.o w4 I.o).mono ?_;rintro e w5 ⟨rfl,s⟩;have b0:=bK I s;clear s;go_wp2_with fail;go_loopw [35] (fun iv wr=>∃(i:Nat),iv=.int .i64 (i:Int)/\i<=n/\Hid ((l.drop i).all (fun x=>J0 g x k)=a4)/\Hid (OB W3 wr)) (fun i _=>n-(intOf i).toNat)
   case atStart=>exact⟨0,rfl,by omega,aB c0.o.symm,b0⟩
   case round =>
    obtain⟨i,rfl,hi,b4,b3⟩:=hrel;have b6:=aB (F.o.trans (b3.o.mono F.o.size));by_cases c3:i<n;case neg =>
     have d3:decide ((i:Int)<(n:Int))=false:=MA aA;have b2:Hid (a4=true):=aB (by
      have:=b4.o;rw[NB (by rw[b9.o];omega)]at this;exact this.symm)
     go_wp2_with fail;go_ret;rw[b2.o];exact⟨rfl,b6.o⟩
    have d3:decide ((i:Int)<(n:Int))=true:=MB aA;obtain⟨bp,op,rfl,d4,a9⟩:=(HL.o wr b6.o).mem aA;obtain⟨a1,a2⟩:=a9 i c3;have c2:i<l.length:=by rw[b9.o];exact c3
    have c5:(l.map CV).getD i (0,0)=(l[i].a,l[i].b):=by
     rw[MK,List.getElem?_map,MI c2];rfl
    rw[c5]at a1 a2;simp only at a1 a2;have hq:=b4.o;rw[MT c2,List.all_cons]at hq;have a0:=c9.o l[i] (NO _);obtain⟨x,hx⟩:=OM (l[i]);rw[<-hx]at hq a0 a1 a2;have a8:J0 g x k=k.any (fun y=>J1 g x.a x.b y.a y.b):=rfl;rw[a8]at hq;obtain⟨xa,c6⟩:=OM x.a;obtain⟨xb,c7⟩:=OM x.b;rw[<-c6]at a1 a0 hq;rw[<-c7]at a2 a0 hq;obtain⟨W6,a6⟩:=OM (wr.alloc (.cells #[.int .i64 xa,.int .i64 xb] 145));have O:Hid (OB W3 W6):=aB (by rw[a6];exact b3.o.trans ((aQ _ _).mono b3.o.size));have c1:Hid (aW W6 wr.heap.size 145 #[.int .i64 xa,.int .i64 xb]):=aB (by rw[a6];exact aW.new _ _ _);have HC:=aB (BN (fid:=87) (cap:=#[.pointer (some ⟨w2.heap.size,0,none⟩),.pointer (some ⟨wr.heap.size,0,none⟩)]) (p:=fun y=>J1 g xa xb y.a y.b) (HK.o W6 (F.o.trans (O.o.mono F.o.size))) (fun _ _=>by kernel_rfl) (fun W hW y hy=>y7 (d0.o.below (O.o.trans (hW.mono O.o.size))) (b8.o.below (O.o.trans (hW.mono O.o.size)) b8.o.lt) (c1.o.below hW c1.o.lt) a0 (c8.o y hy)));have HQ:=aB hq;have d6:∀(fn:Fn)(first cap:Array Value)(w:OE),(Instr.makeFunc fn first cap).run Try.prog w=.ok (.func fn first cap) w:=fun _ _ _ _=>rfl;clear a9 c5 hq b4 c6 c7 hx a0 a8;go_upto_region 7 with fail
    rw[<-a6];clear a6 a1 a2;cases hf:k.any (fun y=>J1 g xa xb y.a y.b) with
    | true =>
     rw[hf]at HC;have HN:Hid ((l.drop (i+1)).all (fun x=>J0 g x k)=a4):=aB (by rw[<-HQ.o,hf];rfl);go_wp2_with fail;refine (HC.o).mono ?_;rintro e w7 ⟨rfl,z⟩;have b1:=bK O z;clear z;go_wp2_with fail;go_roundw
     case rel=>exact⟨i+1,by go_num,by omega,HN,b1⟩
     case measure=>simp[intOf];omega
    | false =>
     rw[hf]at HC;have b2:Hid (a4=false):=aB (by rw[<-HQ.o,hf];rfl);go_wp2_with fail;refine (HC.o).mono ?_;rintro e w7 ⟨rfl,z⟩;have b1:=aB (F.o.trans ((O.o.trans (z.mono O.o.size)).mono F.o.size));clear z;go_wp2_with fail;go_ret;rw[b2.o];exact⟨rfl,b1.o⟩
end
abbrev bZ(x:TT):Nat:=(aT x).length
theorem cS(n:Nd)(a:List Nd)(k:Fo):bZ (n,a,k)=1+a.length+(row k).length:=by
 simp only[bZ,aT,MN,MG];omega
theorem dB(p:List Nd)(n:Nd)(a:List Nd)(k x:Fo):(row (.cons p n a k x)).length=p.length+bZ (n,a,k)+(row x).length:=by
 simp only[row,MG,MN,bZ,aT];omega
theorem qC:∀{k:Fo} {y:TT},y∈a9 k->bZ y<=(row k).length
 | .nil,y,h=>by cases h
 | .cons p n a k x,y,h=>by
  rw[dB];rw[show a9 (.cons p n a k x)=(n,a,k)::a9 x from rfl]at h;rcases MU.1 h with rfl|h
  . omega
  . have:=qC h;omega
def cV(x:TT):TT×List TT:=hd (bZ x) x
theorem zY:∀(m D:Nat)(x:TT),bZ x<=m->bZ x<=D->hd m x=hd D x
 | 0,_,(n,a,k),h,_=>by rw[cS]at h;omega
 | _+1,0,(n,a,k),_,h=>by rw[cS]at h;omega
 | m+1,D+1,(n,a,.nil),_,_=>rfl
 | m+1,D+1,(n,a,.cons p n1 a1 k1 .nil),_,_=>rfl
 | m+1,D+1,(n,a,.cons p n1 a1 k1 (.cons q n2 a2 k2 r)),h,h'=>by
  simp only[hd];rw[cS,dB]at h h';split
  . rw[zY m D (n1,a1,k1) aA aA]
  . rfl
theorem uZ{m:Nat}{x:TT}(h:bZ x<=m):hd m x=cV x:=zY _ _ _ h (MF _)
theorem o0{x:TT}(h:x.1.op≠6):cV x=(x,[]):=GZ h
theorem GY{n n1 n2:Nd}{a a1 a2 p q:List Nd}{k1 k2 r:Fo}(h:n.op=6):cV (n,a,.cons p n1 a1 k1 (.cons q n2 a2 k2 r))=((cV (n1,a1,k1)).1,(cV (n1,a1,k1)).2++[(n2,a2,k2)]):=by
 have D:bZ (n,a,.cons p n1 a1 k1 (.cons q n2 a2 k2 r))=1+a.length+(p.length+bZ (n1,a1,k1)+(row (.cons q n2 a2 k2 r)).length):=by rw[cS,dB]
 rw[<-uZ (m:=bZ (n,a,.cons p n1 a1 k1 (.cons q n2 a2 k2 r))-1+1) (x:=(n,a,.cons p n1 a1 k1 (.cons q n2 a2 k2 r))) aA];simp only[hd];rw[LZ h,uZ aA]
section
def tM(σ:Int->Nd->TT)(D F:Int):Nat->Int->Fo->Fo
 | _,_,.nil=>.nil
 | j,a,.cons p n ats k x =>
  if n.op=1 then .cons p (σ (a+aR D F j) n).1 (σ (a+aR D F j) n).2.1 (σ (a+aR D F j) n).2.2 (tM σ D F (j+1) a x)
  else .cons p n ats (tM σ n.op n.b 0 (a+aR D F j) k) (tM σ D F (j+1) a x)
def DH(σ:Int->Nd->TT)(a:Int)(x:TT):TT:=if x.1.op=1 then σ a x.1 else (x.1,x.2.1,tM σ x.1.op x.1.b 0 a x.2.2)
section
variable {σ : Int->Nd->TT}
theorem lQ{a:Int}{x:TT}(h:x.1.op=1):DH σ a x=σ a x.1:=by unfold DH;rw[LZ h]
theorem iQ{a:Int}{x:TT}(h:x.1.op≠1):DH σ a x=(x.1,x.2.1,tM σ x.1.op x.1.b 0 a x.2.2):=by unfold DH;rw[aN h]
theorem iP(D G:Int)(j:Nat)(a:Int)(p:List Nd)(n:Nd)(F:List Nd)(k x:Fo):tM σ D G j a (.cons p n F k x)=.cons p (DH σ (a+aR D G j) (n,F,k)).1 (DH σ (a+aR D G j) (n,F,k)).2.1 (DH σ (a+aR D G j) (n,F,k)).2.2 (tM σ D G (j+1) a x):=by
 simp only[tM,DH];split<;>rfl
theorem dX(p:List Nd)(n:Nd)(a:List Nd)(k x:Fo):a9 (.cons p n a k x)=(n,a,k)::a9 x:=rfl
theorem iV{op b:Int}(F:op≠4)(G:op≠5)(I:op≠7)(D:op≠12)(k:Int):aR op b k=0:=by
 unfold aR;rw[aN aA,aN aA]
def KT:Fo->Prop
 | .nil=>True
 | .cons _ n _ k x=>(n.op=12->0<=n.b)/\KT k/\KT x
variable {places : List Int}{ca : Int->Nat->Nat}
end
end
section
def JP(ca:Int->Nat->Nat)(x:TT):Bool:=JQ ca (bZ x) x
section
variable {σ : Int->Nd->TT}{places : List Int}{ca : Int->Nat->Nat}
def KE(ca:Int->Nat->Nat):Fo->Bool
 | .nil=>true
 | .cons _ n a k x=>((if n.op=12 then JP ca (n,a,k) else true)&&KE ca k)&&KE ca x
def JZ:Fo->Prop
 | .nil=>True
 | .cons _ n D k x=>(n.op=1->D=[]/\k=.nil)/\JZ k/\JZ x
theorem AY{op b:Int}(h:op=12->0<=b)(k:Int):0<=aR op b k:=by
 unfold aR;split
 . omega
 split
 . rename_i D;exact h D.1
 omega
end
end
def tR(up fr:Int)(n:Nd)(a:Int):Nd:=if n.op=1/\fr+a<=n.a then ⟨n.op,n.a+up,n.b⟩ else n
def qO(up fr:Int)(D F:Int):Nat->Int->Fo->Fo
 | _,_,.nil=>.nil
 | j,a,.cons p n ats k x=>.cons p (tR up fr n (a+aR D F j)) ats (qO up fr n.op n.b 0 (a+aR D F j) k) (qO up fr D F (j+1) a x)
theorem lL(up fr:Int)(n:Nd)(a:Int):(tR up fr n a).op=n.op/\(tR up fr n a).b=n.b:=by unfold tR;split<;>exact⟨rfl,rfl⟩
theorem FC(up fr:Int)(n:Nd)(a:Int):(fX up fr).em () n a=[tR up fr n a]:=by
 simp only[fX,tR];split<;>rfl
theorem oF(up fr:Int)(D G:Int):∀(j:Nat)(a:Int)(F:Fo),(fX up fr).E D G j a () F=row (qO up fr D G j a F)
 | _,_,.nil=>rfl
 | j,a,.cons p n ats k x=>by
  have e:∀s:Unit,s=():=fun _=>rfl;rw[bT.E_cons,bT.E1,FC,e ((fX up fr).nx () n (a+aR D G j)),e ((fX up fr).S1 (a+aR D G j) () n k),oF up fr _ _ _ _ k,oF up fr D G (j+1) a x];simp[qO,row]
theorem vS(up fr:Int)(a:Int)(n:Nd)(D:List Nd)(k:Fo):(fX up fr).E1 a () n D k=tR up fr n a::(D++row (qO up fr n.op n.b 0 a k)):=by
 have e:∀s:Unit,s=():=fun _=>rfl;rw[bT.E1,FC,e ((fX up fr).nx () n a),oF];rfl
theorem FA{up fr:Int}{n:Nd}{a:Int}(D:eU n=true)(U:0<=up)(O:(fX up fr).ok () n a=true):eU (tR up fr n a)=true:=by
 unfold tR;split
 . rename_i h
   simp only[fX,LZ h,MJ]at O;simp only[eU,ME,MJ]at D ⊢;obtain⟨⟨F,G⟩,I⟩:=D;refine⟨⟨?_,G⟩,I⟩;rw[h.1]at F ⊢;simp only[bR,if_true,MJ]at F ⊢;omega
 exact D
theorem yQ{up fr:Int}(Y:0<=up)(D I:Int):∀(F:Fo)(dl:List Bool)(j:Nat)(a:Int),Wf dl F->(fX up fr).G D I j a () F=true->Wf dl (qO up fr D I j a F)
 | .nil,[],_,_,_,_=>trivial
 | .nil,_::_,_,_,h,_=>h.elim
 | .cons _ _ _ _ _,[],_,_,h,_=>h.elim
 | .cons p n ats k x,d::dr,j,a,h,hg=>by
  obtain⟨hp,a0,O,hk,hx⟩:=h;rw[bT.G_cons,bT.G1,ME,ME]at hg;obtain⟨⟨o,s⟩,z⟩:=hg;have U:=lL up fr n (a+aR D I j);have Z:ds (tR up fr n (a+aR D I j))=ds n:=by simp only[ds,U.1,U.2]
  refine⟨hp,FA a0 Y o,?_,?_,yQ Y D I x dr (j+1) a hx z⟩
  . unfold gI at O ⊢;rw[U.1,U.2];exact O
  . rw[Z];exact yQ Y n.op n.b k (ds n) 0 (a+aR D I j) hk s
section
section
variable {P : Program}{ops : Array Oper}{Q : Exit->Act->World->Prop}{md : Region.Mode}{S : World->Prop}{l : Nat}
end
end
theorem gR(p:List Nd)(n:Nd)(a:List Nd)(k x:Fo):iN (.cons p n a k x)=p++iN x:=rfl
def cI(l:List Nd):TT:=match pp [false] l with
 | some (.cons _ n a k _,_)=>(n,a,k)
 | none=>(default,[],.nil)
 | some (.nil,_)=>(default,[],.nil)
theorem sH{l:List Nd}{n:Nd}{a:List Nd}{k:Fo}(h:Rt l n a k):cI l=(n,a,k):=by
 unfold cI;rw[h.pp]
theorem EM{b:Bk}{free:Int}{l:List Nd}(h:dQ b free l=0):bD b=0/\0<=free/\gT b b.entries.length (-1) l free=0:=by
 unfold dQ at h;split at h
 . rename_i D;exact absurd h D
 rename_i D
 split at h
 . cases h
 rename_i F
 exact⟨Decidable.not_not.1 D,by omega,h⟩
theorem rZ{b:Bk}{D F below:Int}{l:List Nd}(h:gT b D F l below=0):aZ l=0/\fZ l below=true/\∀m∈l,cE b D F m=true:=by
 unfold gT at h;split at h
 . rename_i G;exact absurd h G
 rename_i G
 split at h
 . cases h
 rename_i I
 split at h
 . rename_i O
   exact⟨Decidable.not_not.1 G,by simpa using I,List.all_eq_true.1 O⟩
 cases h
theorem xA:∀(F:Fo)(G:List Bool),Wf G F->KT F
 | .nil,_,_=>trivial
 | .cons _ _ _ _ _,[],h=>h.elim
 | .cons p n a k x,d::dr,h=>by
  obtain⟨_,D,_,O,U⟩:=h;refine⟨fun I=>?_,xA k _ O,xA x _ U⟩;simp only[eU,ME]at D;exact (fS D.1.1).1
theorem zT{n:Nd}(h:n.op=1):ds n=[]:=by simp[ds,cK,h]
theorem nA:∀(F:Fo)(I:List Bool),Wf I F->JZ F
 | .nil,_,_=>trivial
 | .cons _ _ _ _ _,[],h=>h.elim
 | .cons p n a k x,d::dr,h=>by
  obtain⟨_,U,D,G,Y⟩:=h;refine⟨fun O=>?_,nA k _ G,nA x _ Y⟩;rw[zT O]at G;constructor
  . unfold gI at D;rw[aN aA]at D;exact D
  . cases k with
    | nil=>rfl
    | cons _ _ _ _ _=>exact G.elim
theorem oC(up fr:Int)(p:List Nd)(n:Nd)(a:List Nd)(k:Fo):qO up fr 0 0 0 0 (.cons p n a k .nil)=.cons p (tR up fr n 0) a (qO up fr n.op n.b 0 0 k) .nil:=rfl
theorem xW{up fr v:Int}(D G:Int):∀(j:Nat)(a:Int)(F:Fo),lA (fun x z=>decide (v+up<=x-z)) D G j a (qO up fr D G j a F)=true->0<=up->lA (fun x z=>decide (v<=x-z)) D G j a F=true
 | _,_,.nil,h,_=>by simp[qO,lA]at h
 | j,a,.cons p n ats k x,h,O=>by
  have U:=lL up fr n (a+aR D G j);simp only[qO,lA,U.1,U.2,NM,ME,MJ]at h ⊢;rcases h with (⟨Y,I⟩|h)|h
  . refine .inl (.inl ⟨Y,?_⟩);unfold tR at I;split at I
    . simp only at I;omega
    omega
  . exact .inl (.inr (xW n.op n.b 0 _ k h O))
  . exact .inr (xW D G (j+1) a x h O)
theorem tK{up fr:Int}(D G:Int):∀(j:Nat)(a:Int)(F:Fo),∀m∈row (qO up fr D G j a F),m∈row F\/m.op=1
 | _,_,.nil,m,hm=>by simp[qO,row]at hm
 | j,a,.cons p n ats k x,m,hm=>by
  simp only[qO,row,MW,MU]at hm ⊢;rcases hm with hm|rfl|hm|hm|hm
  . exact .inl (.inl hm)
  . unfold tR;split
    . rename_i h;exact .inr h.1
    exact .inl (.inr (.inl rfl))
  . exact .inl (.inr (.inr (.inl hm)))
  . rcases tK n.op n.b 0 _ k m hm with h|h
    . exact .inl (.inr (.inr (.inr (.inl h))))
    exact .inr h
  . rcases tK D G (j+1) a x m hm with h|h
    . exact .inl (.inr (.inr (.inr (.inr h))))
    exact .inr h
theorem rT{b:Bk}{D F:Int}{m:Nd}(h:m.op=1):cE b D F m=true:=by
 unfold cE;rw[aN aA,aN aA,aN aA,aN aA,aN aA]
theorem II{b:Bk}{D F below:Int}{l:List Nd}(G:aZ l=0)(I:fZ l below=true)(O:∀m∈l,cE b D F m=true):gT b D F l below=0:=by
 unfold gT;rw[G,aN aD,I,aN aD,LZ (List.all_eq_true.2 O)]
theorem GV{b:Bk}{free:Int}{l:List Nd}(D:bD b=0)(G:0<=free)(F:gT b b.entries.length (-1) l free=0):dQ b free l=0:=by
 unfold dQ;rw[D,aN aD,aN aA,F]
theorem DS{l:List Nd}{n:Nd}{a:List Nd}{k:Fo}(h:Rt l n a k)(v:Int):fZ l v = !kU (fun x z=>decide (max v 0<=x-z)) 0 n k:=by
 unfold fZ KD;rw[h.shape,h.pp];simp
end Go.Proofs.Ytlahmbhimhmoaaa
