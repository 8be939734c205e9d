/- Merged: CvV, WhN, WhO. -/
import Derived.Test.YtlahmbhimhmoaaaVWhM
namespace Go.Proofs.Ytlahmbhimhmoaaa
set_option maxRecDepth 100000
set_option linter.unusedVariables false
set_option linter.unusedSimpArgs false
open Go.RowKit
open Go.Value renaming int → O
open Go.IntKind renaming i64 → S
variable {b:Bk}{f:Fc}{cv:OD}{n:Nat}
section
open Go.Lib renaming hid->aB
theorem JR:(Try.prog.info? 145).map (fun i=>(i.zero,i.size,i.bytes))=some (some (.agg #[O S 0,O S 0]),2,16):=by kernel_rfl
def yC:List Nd->List Value
 | []=>[]
 | x::r=>O S x.a::O S x.b::yC r
theorem AA:∀(l:List Nd)(x:Nd),yC (l++[x])=yC l++[O S x.a,O S x.b]
 | [],_=>rfl
 | y::r,x=>by simp only[yC,NN,AA r x]
theorem EV:∀(l:List Nd)(k:Nat),k<l.length->(yC l)[k*2]? = some (O S ((l.map CV).getD k (0,0)).1)/\(yC l)[k*2+1]? = some (O S ((l.map CV).getD k (0,0)).2)
 | [],k,h=>by cases h
 | x::r,0,_=>⟨rfl,rfl⟩
 | x::r,k+1,h=>by
  have:=EV r k (by simpa using h);rw[show (k+1)*2=k*2+1+1 from by omega];simpa[yC] using this
theorem G6{w:OE}{base c:Nat}{A:OC}{l:List Nd}(h:w.ownsRow base 145 2 (.slice A n c) n (yC l))(hl:l.length=n)(hn:n<=5000):lX w A n c (l.map CV):=by
 refine⟨by simpa using hl,by omega,fun h0=>?_⟩;obtain⟨Y,Z⟩:=h;rcases Z with⟨_,e⟩|⟨g,cap,F,he,hg,I,o,s,z,h6⟩
 . omega
 have G:=he;injection G with U e2 e3;subst U;have D:w.ownsRow base 145 2 (.slice (some ⟨g,0,none⟩) n c) n (yC l):=⟨Y,.inr ⟨g,cap,F,he,hg,I,o,s,z,h6⟩⟩;refine⟨g,0,rfl,?_,fun k hk=>?_⟩
 . have:w.heap[g]? = some _:=I;exact (Array.getElem?_eq_some_iff.1 this).1
 obtain⟨q1,q2⟩:=EV l k aA;rw[show 0+k*2=k*2 from by omega];exact⟨(D.cellAt (k*2) aA).trans q1,(D.cellAt (k*2+1) aA).trans q2⟩
theorem G2{w:OE}{g:Nat}{t:TypeId}{x y:Value}(h:aW w g t #[x,y]):∀D,some (⟨g,0,none⟩:Addr)=some D->∀j u,([x,y]:List Value)[j]? = some u->w.cell? (D.add j)=some u:=by
 intro D e j u G;injection e with e;subst e;have F:(⟨g,0,none⟩:Addr).add j=⟨g,j,none⟩:=by unfold Addr.add;split<;>simp_all
 rw[F,h.cell];simpa using G
def LO(l:List Nd)(w:OE)(e:Ending)(w':OE):Prop:=OB w w'/\∃A c,e=.returned (.slice A l.length c)/\lX w' A l.length c (l.map CV)
set_option maxHeartbeats 4000000 in
theorem nM{w:OE}{A:OC}{c:Nat}{nd:Nd}{l:List Nd}(ht:aX w A n c (nd::l))(hl:l.length<=4096):
 Calls Try.prog 64 #[.slice A n c] w (LO l w):=by
 have a8:l.length+1=n:=by have:=ht.len;simpa using this
 obtain⟨m,hm⟩:=OM l.length;obtain⟨bb,oo,rfl,c7,a0⟩:=ht.mem aA;have a6:=ht.cap;obtain rfl:n=m+1:=aA;obtain⟨HT,U⟩:=OF (fun (w':OE) (hb:OB w w')=>ht.below hb) hm;have c6:m<=4096:=aA;obtain⟨i0,hi,b0,b1,b3⟩:=info_parts JR;obtain⟨b5,c2,c3,c5⟩:=OI hi b0 b1 b3;clear ht hl a8 hm a0 hi b0 b1 b3;by_cases I:c=1
 . subst I;obtain rfl:m=0:=aA;have z:Hid (l=[]):=aB (ND U.o.symm);have e1:decide ((0:Int)<((0:Nat):Int))=false:=by decide
   go_in;go_wp2_with fail;go_loopw [3,9] (fun ov iv wr=>iv=O S 0/\ov=.slice none 0 0/\Hid (OB w wr)) (fun _ iv _=>0)
   case atStart=>exact⟨rfl,rfl,aB (MC _ _)⟩
   case round =>
    obtain⟨rfl,rfl,G⟩:=hrel;go_wp2_with fail;go_ret;refine⟨G.o,none,0,by rw[z.o];rfl,by rw[z.o];exact rfl,by rw[z.o];decide,fun h=>?_⟩;rw[z.o]at h;exact absurd h aE
 have c8:1<c:=aA;go_in;go_wp2_with fail;go_loopw [3,9] (fun ov iv wr=>∃(i c1:Nat)(A1:OC),i<=m/\iv=O S (i:Int)/\ov=.slice A1 i c1/\Hid (wr.ownsRow w.heap.size 145 2 (.slice A1 i c1) i (yC (l.take i)))/\Hid (OB w wr)) (fun _ iv _=>m-(intOf iv).toNat)
 case atStart=>exact⟨0,0,none,by omega,rfl,rfl,aB (NR _ _ _ _),aB (MC _ _)⟩
 case round =>
  obtain⟨i,c1,A1,hi,rfl,rfl,s,G⟩:=hrel;by_cases d0:i<m;rotate_left
  . have e1:decide ((i:Int)<(m:Int))=false:=MA aA;obtain rfl:i=m:=aA;have c0:Hid (lX wr A1 i c1 (l.map CV)):=aB (by
     have:=s.o;rw[OA (by have:=U.o;omega)]at this;exact G6 this U.o.symm aA)
    go_wp2_with fail;go_ret;unfold LO;rw[<-U.o];exact⟨G.o,A1,c1,rfl,c0.o⟩
  have e1:decide ((i:Int)<(m:Int))=true:=MB aA;obtain⟨b2,o2,a3,_,Z,I,D⟩:=(HT.o wr G.o).at_ (p:=i+1) aA;injection a3 with a3;injection a3 with e2 e3;subst e2 e3;have a7:i<l.length:=by have:=U.o;omega
  have a9:bB (nd::l) (i+1)=l[i]:=by
   unfold bB;rw[MK,List.getElem?_cons_succ,MI a7];rfl
  rw[a9]at Z I D;have a2:Hid (yC (l.take (i+1))=yC (l.take i)++[O S l[i].a,O S l[i].b]):=aB (by
   rw[List.take_succ_eq_append_getElem a7,AA])
  obtain⟨x,hx⟩:=OM (l[i]);rw[<-hx]at Z I D a2;obtain⟨xo,xa,xb⟩:=x;simp only at Z I D a2;have f0:wr.cell? ⟨bb,oo+3+i*3,none⟩=some (O S xo):=by rw[show oo+3+i*3=oo+(i+1)*3 from by omega];exact Z
  have f1:wr.cell? ⟨bb,oo+3+i*3+1,none⟩=some (O S xa):=by rw[show oo+3+i*3+1=oo+(i+1)*3+1 from by omega];exact I
  have f2:wr.cell? ⟨bb,oo+3+i*3+2,none⟩=some (O S xb):=by rw[show oo+3+i*3+2=oo+(i+1)*3+2 from by omega];exact D
  obtain⟨W5,Y⟩:=OM (wr.alloc (.cells #[O S xo,O S xa,O S xb] 42));have a4:Hid (OB w W5):=aB (by rw[Y];exact G.o.alloc G.o.size _);have b9:Hid (W5.ownsRow w.heap.size 145 2 (.slice A1 i c1) i (yC (l.take i))):=aB (by rw[Y];exact bY s.o (aQ _ _));have z5:∀k,W5.cell? ⟨wr.heap.size,k,none⟩=(#[O S xo,O S xa,O S xb]:Array Value)[k]?:=by rw[Y];exact aW.cell (aW.new wr 42 #[O S xo,O S xa,O S xb])
  obtain⟨a1,a5,b6⟩:=OK (a4.o.alloc a4.o.size (.cells #[O S xa,O S xb] 145)) (bY b9.o (aQ W5 (.cells #[O S xa,O S xb] 145))) (aW.new W5 145 #[O S xa,O S xb]);have b7:=aB (G2 b6.o);have c9:i<4096:=aA;clear Z I D a9 hx s G a6 c6;go_upto_region 5 with fail
  rw[<-Y];clear Y f0 f1 f2;go_wp2_with (at_builtin;refine bL rfl (cQ (.tmp 13) (.tmp 19) 120 rfl w.heap.size 145 i0 _ 2 16 Try.underlying120 b5.o c2.o c3.o c5.o rfl aE (.slice A1 i c1) i (yC (l.take i)) aF a5.o (some ⟨W5.heap.size,0,none⟩) 1 1 [O S xa,O S xb] aF rfl (fun e=>by cases e) b7.o (by simp[Value.oneCell']) aJ aA a1.o.size ?_);intro A4 c4 w4 F)
  have b8:Hid (w4.ownsRow w.heap.size 145 2 (.slice A4 (i+1) c4) (i+1) (yC (l.take (i+1)))):=aB (by rw[a2.o];exact F.own);have b4:Hid (OB w w4):=aB (a1.o.grown F.grown a1.o.size (fun g hg=>(aV a5.o hg).1));clear F;go_roundw
  case rel=>exact⟨i+1,c4,A4,by omega,by go_num,rfl,b8,b4⟩
  case measure=>simp[intOf];omega
end
section
inductive LW
 | bad (e:Int)
 | done (y:TT) (n:Nat)
def cL(cv:OD)(n:Nd)(i:Nat):List (List Nd):=cv++List.replicate (aR n.op n.b (i:Int)).toNat []
def nR(cv:OD)(n s:Nat):Prop:=2*cv.length+s+4096*n<=1980000
theorem AZ{free:Int}{x:TT}(hx:bJ b free x)(h7:x.1.op≠7):∀(i:Nat)(y:TT),(a9 x.2.2)[i]? = some y->2*(aR x.1.op x.1.b (i:Int)).toNat+bZ y<=bZ x:=by
 intro i y hy;have hm:y∈a9 x.2.2:=List.mem_of_getElem? hy;have e:bZ x=1+x.2.1.length+(row x.2.2).length:=cS x.1 x.2.1 x.2.2;have hk:=qC hm;by_cases U:(x.1.op=4\/x.1.op=5)/\i=1
 . obtain⟨U,rfl⟩:=U;have ha:aR x.1.op x.1.b ((1:Nat):Int)=1:=by unfold aR;rw[LZ (.inl ⟨U,rfl⟩)]
   rw[ha];obtain⟨p,q,I⟩:=gO hx.okt (U.elim (fun h=>.inr (.inr h)) (fun h=>.inr (.inl h)));rw[I]at hy;simp only[List.getElem?_cons_succ,List.getElem?_cons_zero,MS]at hy;subst hy;obtain⟨n,a,k⟩:=x
   match k,I with
   | .cons pr n1 a1 k1 (.cons qr n2 a2 k2 r),I =>
    simp only[a9,NW]at I;obtain⟨rfl,rfl,_⟩:=I;rw[dB,dB]at e;have h1:1<=bZ (n1,a1,k1):=by rw[cS];omega
    simp only at e ⊢;omega
 by_cases a3:x.1.op=12/\(i:Int) % 2=1
 . obtain⟨o,a5⟩:=a3;have ha:aR x.1.op x.1.b (i:Int)=x.1.b:=by unfold aR;rw[aN aA,LZ ⟨o,a5⟩]
   rw[ha];have a4:∀(F:Fo)(D:List Bool),Wf D F->∀(j:Nat)(z:TT),(a9 F)[j]? = some z->(a9 F).length-1+(D.filter (· = true)).length+bZ z<=(row F).length:=by
    intro F
    induction F with
    | nil=>intro D _ j z h;simp[a9]at h
    | cons p n a k x _ a0 =>
     intro D s j z h;cases D with
     | nil=>exact s.elim
     | cons d D =>
      obtain⟨hp,_,_,_,Y⟩:=s;rw[dB];have a8:(if d=true then 1 else 0)<=p.length:=by
       cases d with
       | false=>simp
       | true=>obtain⟨f,rfl,_⟩:=hp;simp
      have Z:((d::D).filter (· = true)).length=(if d=true then 1 else 0)+(D.filter (· = true)).length:=by cases d<;>simp;omega
      have a7:∀(G:Fo)(D:List Bool),Wf D G->(a9 G).length+(D.filter (· = true)).length<=(row G).length:=by
       intro G
       induction G with
       | nil=>intro D s;cases D with
        | nil=>simp[a9]
        | cons _ _=>exact s.elim
       | cons p n a k x _ a0 =>
        intro D s;cases D with
        | nil=>exact s.elim
        | cons d D =>
         obtain⟨hp,_,_,_,Y⟩:=s;have:=a0 D Y;rw[dB,dX,MN];have a8:(if d=true then 1 else 0)<=p.length:=by
          cases d with
          | false=>simp
          | true=>obtain⟨f,rfl,_⟩:=hp;simp
         have Z:((d::D).filter (· = true)).length=(if d=true then 1 else 0)+(D.filter (· = true)).length:=by cases d<;>simp;omega
         have h1:1<=bZ (n,a,k):=by rw[cS];omega
         omega
      have h2:=a7 x D Y;rw[dX]at h ⊢;rw[MN,Z];have h1:1<=bZ (n,a,k):=by rw[cS];omega
      cases j with
      | zero =>
       simp only[List.getElem?_cons_zero,MS]at h;subst h;omega
      | succ j =>
       simp only[List.getElem?_cons_succ]at h;have:=a0 D Y j z h;have hj:j<(a9 x).length:=by
        rw[NP]at h;exact h.1
       omega
   have h3:=a4 x.2.2 (ds x.1) hx.okt.wf i y hy;obtain⟨f1,f2,_,_,f5⟩:=gG hx.okt o;have a6:((ds x.1).filter (· = true)).length=x.1.b.toNat:=by
    unfold ds;rw[LZ o];generalize x.1.b.toNat=m
    induction m with
    | zero=>rfl
    | succ m ih=>rw[List.replicate_succ,NS,List.filter_append,MG,ih];simp;omega
   rw[f5,a6]at h3;omega
 have ha:aR x.1.op x.1.b (i:Int)=0:=by
  unfold aR;rw[aN aA,aN a3]
 rw[ha];simp only[Int.toNat_zero,Nat.mul_zero,ML];omega
theorem D4(D:fA b cv){a:Nat}(F:cv.length+a<=990000):fA b (cv++List.replicate a []):=by
 refine⟨by simpa using F,fun k G=>?_⟩;by_cases h:k<cv.length
 . have e:(cv++List.replicate a []).getD k []=cv.getD k []:=by simp[MK,List.getElem?_append_left h]
   rw[e];exact D.vals k h
 left;rw[MK,List.getElem?_append_right aA,List.getElem?_replicate];split<;>rfl
theorem CF(cv:OD)(n:Nd)(i:Nat):(cL cv n i).length=cv.length+(aR n.op n.b (i:Int)).toNat:=by simp[cL]
theorem FX{b:Bk}{cv:OD}(Z:bD b=0)(U:fA b cv):∀(g n:Nat)(f:Fc)(room:Int)(y:Fc)(m:Nat),i9 b cv g n f room=.done y m->bX b cv y=false
 | 0,n,f,room,y,m,h=>by cases h
 | g+1,n,f,room,y,m,h=>by
  have key:∀(F:Fc)(G:Nat),qJ b cv g G F room=.done y m->bX b cv y=false:=by
   intro F G D;unfold qJ at D;split at D
   . split at D
     . cases D
     split at D
     . cases D
     split at D
     . cases D
     exact FX Z U g _ _ _ y m D
   rename_i Y
   injection D with I o;subst I;simpa using Y
  cases hp:cW f with
  | none=>rw[gX hp]at h;exact key f n h
  | some p =>
   rw[kC hp]at h;cases hw:i9 b cv g n (cV p) (room-cJ f+bZ p) with
   | bad e=>rw[hw]at h;cases h
   | done z k=>rw[hw]at h;exact key _ k h
theorem AR{b:Bk}{cv:OD}(G:bD b=0)(F:fA b cv):∀(s:Nat)(f:Fc)(room:Int),cG b (cv.length:Int) f->(cJ f:Int)<=room->room<=4096->cJ f<s->∀y m,kS b cv 0 f room=.done y m->y=f/\m=0
 | 0,f,room,_,_,_,h,_,_,_=>absurd h aA
 | s+1,f,room,hf,o,U,hs,y,m,h=>by
  have key:F8 b cv 0 f room=.done y m->y=f/\m=0:=fun D=>by
   unfold F8 at D;split at D
   . rw[LZ rfl]at D;cases D
   injection D with Y Z;exact⟨Y.symm,Z.symm⟩
  cases hp:cW f with
  | none=>rw[qH G F hf U hp]at h;exact key h
  | some p =>
   obtain⟨I,p2⟩:=iL hf hp;have a0:=eO I;rw[qI G F hf o U hp]at h;cases hw:kS b cv 0 (cV p) (room-cJ f+bZ p) with
   | bad e=>rw[hw]at h;cases h
   | done z k =>
    rw[hw]at h;simp only at h;obtain⟨rfl,rfl⟩:=AR G F s (cV p) (room-cJ f+bZ p) (nK I) aA aA aA z k hw;rw[GX I,DG hf hp]at h;exact key h
theorem AQ(U:bD b=0)(G:fA b cv){y:Fc}{room:Int}(I:cG b (cv.length:Int) f)(D:(cJ f:Int)<=room)(F:room<=4096)(h:kS b cv n f room=.done y n):y=f:=by
 have Y:=(qK U G _ n f room I D F (NT _) y n h 0).1 aA;exact (AR U G _ f room I D F (NT _) y _ Y).1
theorem nR.mono{m s:Nat}(h:nR cv n s)(D:m<=n):nR cv m s:=by
 unfold nR at h ⊢;have:4096*m<=4096*n:=Nat.mul_le_mul_left _ D;omega
theorem iD(I:bD b=0)(G:fA b cv){m:Nat}{x:TT}(F:bJ b (cv.length:Int) x)(U:nR cv n (bZ x))(h:kS b cv n (cV x) 4096=.done f m):cG b (cv.length:Int) f/\cJ f<=4096/\m<=n/\bX b cv f=false/\nR cv m (cJ f)/\m*4097+cJ f<=n*4097+bZ x:=by
 have D:=eO F;have Y:bZ x<=4096:=F.few;obtain⟨Z,s,o⟩:=lR I G (nK F) aA (MR _) h;refine⟨Z,by omega,o,FX I G _ _ _ _ _ _ h,?_,?_⟩
 . by_cases he:m=n
   . subst he;rw[AQ I G (nK F) aA (MR _) h,D];exact U
   unfold nR at U ⊢;have:4096*(m+1)<=4096*n:=Nat.mul_le_mul_left _ aA;omega
 by_cases he:m=n
 . subst he;rw[AQ I G (nK F) aA (MR _) h,D];exact MF _
 have:(m+1)*4097<=n*4097:=Nat.mul_le_mul_right _ aA;omega
def eZ(b:Bk)(cv:OD)(n:Nat)(x:TT):Prop:=fA b cv/\bJ b (cv.length:Int) x/\nR cv n (bZ x)
theorem eZ.mono{m:Nat}{x:TT}(h:eZ b cv n x)(D:m<=n):eZ b cv m x:=⟨h.1,h.2.1,h.2.2.mono D⟩
theorem IX(o:fA b cv)(F:cG b (cv.length:Int) f)(D:bX b cv f=false)(Y:nR cv n (cJ f)){i:Nat}{y:TT}(G:(a9 f.1.2.2)[i]? = some y):eZ b (cL cv f.1.1 i) n y/\bZ y<cJ f:=by
 have U:f.1.1.op≠7:=fun h=>by
  unfold bX at D;rw[aN aA,LZ (.inl h)]at D;cases D
 have ha:=AZ F.head U i y G;have Z:bZ y<bZ f.1:=by
  have e:bZ f.1=1+f.1.2.1.length+(row f.1.2.2).length:=cS f.1.1 f.1.2.1 f.1.2.2;have:=qC (List.mem_of_getElem? G);omega
 have s:=(F.head.okt.around (i:Int)).1;have hz:cJ f=bZ f.1+cF f.2:=rfl;have I:=CF cv f.1.1 i;unfold nR at Y;refine⟨⟨D4 o aA,?_,?_⟩,by omega⟩
 . have e:((cL cv f.1.1 i).length:Int)=(cv.length:Int)+aR f.1.1.op f.1.1.b (i:Int):=by rw[I];omega
   rw[e];exact F.head.kid G
 unfold nR;rw[I];omega
theorem zL(G:fA b cv)(I:cG b (cv.length:Int) f)(F:nR cv n (cJ f)){i:Nat}{y:TT}(U:f.2[i]? = some y):eZ b cv n y/\bZ y<cJ f:=by
 have D:=List.mem_of_getElem? U;have:=l7 D;have hz:cJ f=bZ f.1+cF f.2:=rfl;unfold nR at F;exact⟨⟨G,I.args y D,by unfold nR;omega⟩,by omega⟩
end

end Go.Proofs.Ytlahmbhimhmoaaa
