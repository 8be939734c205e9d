/- Merged: WhN, GoW, SenseA. -/
import Derived.Test.YtjoddliplahgkaaGreatTWhS
namespace Go.Proofs.YtjoddliplahgkaaGreat
set_option linter.unusedVariables false
set_option linter.unusedSimpArgs false
open Go.RowKit
section
inductive uO
 | bad (e:Int)
 | done (y:TT) (n:Nat)
inductive WG
 | bad (e:Int)
 | done (ys:List TT) (n:Nat)
def fV(D:List (List Nd)->Nat->TT->uO)(cvs:Nat->List (List Nd)):Nat->List TT->Nat->WG
 | _,[],n=>.done [] n
 | i,x::r,n=>match D (cvs i) n x with
  | .bad e=>.bad e
  | .done y m=>match fV D cvs (i+1) r m with
   | .bad e=>.bad e
   | .done ys k=>.done (y::ys) k
def fH:Fo->List TT->Fo
 | .cons p _ _ _ x,y::ys=>.cons p y.1 y.2.1 y.2.2 (fH x ys)
 | F,_=>F
def cU(x:TT)(ys:List TT):TT:=(x.1,x.2.1,fH x.2.2 ys)
def eI(cv:aAA)(n:Nd)(i:Nat):List (List Nd):=cv++List.replicate (aR n.op n.b (i:Int)).toNat []
def EZ(F:List (List Nd)->Nat->TT->uO)(cv:aAA)(f:Fc)(n1:Nat):uO :=
 match fV F (eI cv f.1.1) 0 (bH f.1.2.2) n1 with
 | .bad e=>.bad e
 | .done D n2=>match fV F (fun _=>cv) 0 f.2 n2 with
  | .bad e=>.bad e
  | .done rs G=>if 4096<bL (cU f.1 D) then .bad 9 else if 4096<bL (cU f.1 D)+cB rs then .bad 9 else .done (dP (cU f.1 D) rs) G
def jS(b:Bk):Nat->List (List Nd)->Nat->TT->uO
 | 0,_,_,_=>.bad 99
 | g+1,cv,n,x=>match kI b cv n (bX x) 4096 with
  | .bad e=>.bad e
  | .done f n1=>EZ (jS b g) cv f n1
def GE(cv:aAA)(n s:Nat):Prop:=2*cv.length+s+4096*n<=1980000
theorem L0{b:Bk}{free:Int}{x:TT}(hx:bO b free x)(h7:x.1.op≠7):∀(i:Nat)(y:TT),(bH x.2.2)[i]? = some y->2*(aR x.1.op x.1.b (i:Int)).toNat+bL y<=bL x:=by
 intro i y hy;have hm:y∈bH x.2.2:=List.mem_of_getElem? hy;have e:bL x=1+x.2.1.length+(row x.2.2).length:=cS x.1 x.2.1 x.2.2;have hk:=oH hm;by_cases O:(x.1.op=4\/x.1.op=5)/\i=1
 . obtain⟨O,rfl⟩:=O;have ha:aR x.1.op x.1.b ((1:Nat):Int)=1:=by unfold aR;rw[XP (.inl ⟨O,rfl⟩)]
   rw[ha];obtain⟨p,q,I⟩:=kQ hx.okt (O.elim (fun h=>.inr (.inr h)) (fun h=>.inr (.inl h)));rw[I]at hy;simp only[List.getElem?_cons_succ,List.getElem?_cons_zero,YT]at hy;subst hy;obtain⟨n,a,k⟩:=x
   match k,I with
   | .cons pr n1 a1 k1 (.cons qr n2 a2 k2 r),I =>
    simp only[bH,ZI]at I;obtain⟨rfl,rfl,_⟩:=I;rw[eG,eG]at e;have h1:1<=bL (n1,a1,k1):=by rw[cS];omega
    simp only at e ⊢;omega
 by_cases a0:x.1.op=12/\(i:Int) % 2=1
 . obtain⟨Z,a4⟩:=a0;have ha:aR x.1.op x.1.b (i:Int)=x.1.b:=by unfold aR;rw[XN aA,XP ⟨Z,a4⟩]
   rw[ha];have a3:∀(F:Fo)(D:List Bool),Wf D F->∀(j:Nat)(z:TT),(bH F)[j]? = some z->(bH F).length-1+(D.filter (· = true)).length+bL z<=(row F).length:=by
    intro F
    induction F with
    | nil=>intro D _ j z h;simp[bH]at h
    | cons p n a k x _ s =>
     intro D o j z h;cases D with
     | nil=>exact o.elim
     | cons d D =>
      obtain⟨hp,_,_,_,U⟩:=o;rw[eG];have a7:(if d=true then 1 else 0)<=p.length:=by
       cases d with
       | false=>simp
       | true=>obtain⟨f,rfl,_⟩:=hp;simp
      have Y:((d::D).filter (· = true)).length=(if d=true then 1 else 0)+(D.filter (· = true)).length:=by cases d<;>simp;omega
      have a6:∀(G:Fo)(D:List Bool),Wf D G->(bH G).length+(D.filter (· = true)).length<=(row G).length:=by
       intro G
       induction G with
       | nil=>intro D o;cases D with
        | nil=>simp[bH]
        | cons _ _=>exact o.elim
       | cons p n a k x _ s =>
        intro D o;cases D with
        | nil=>exact o.elim
        | cons d D =>
         obtain⟨hp,_,_,_,U⟩:=o;have:=s D U;rw[eG,e8,YA];have a7:(if d=true then 1 else 0)<=p.length:=by
          cases d with
          | false=>simp
          | true=>obtain⟨f,rfl,_⟩:=hp;simp
         have Y:((d::D).filter (· = true)).length=(if d=true then 1 else 0)+(D.filter (· = true)).length:=by cases d<;>simp;omega
         have h1:1<=bL (n,a,k):=by rw[cS];omega
         omega
      have h2:=a6 x D U;rw[e8]at h ⊢;rw[YA,Y];have h1:1<=bL (n,a,k):=by rw[cS];omega
      cases j with
      | zero =>
       simp only[List.getElem?_cons_zero,YT]at h;subst h;omega
      | succ j =>
       simp only[List.getElem?_cons_succ]at h;have:=s D U j z h;have hj:j<(bH x).length:=by
        rw[ZH]at h;exact h.1
       omega
   have h3:=a3 x.2.2 (ds x.1) hx.okt.wf i y hy;obtain⟨f1,f2,_,_,f5⟩:=fN hx.okt Z;have a5:((ds x.1).filter (· = true)).length=x.1.b.toNat:=by
    unfold ds;rw[XP Z];generalize x.1.b.toNat=m
    induction m with
    | zero=>rfl
    | succ m ih=>rw[ZX,ZR,List.filter_append,XX,ih];simp;omega
   rw[f5,a5]at h3;omega
 have ha:aR x.1.op x.1.b (i:Int)=0:=by
  unfold aR;rw[XN aA,XN a0]
 rw[ha];simp only[Int.toNat_zero,Nat.mul_zero,YH];omega
theorem OX{b:Bk}{cv:aAA}(D:gG b cv){a:Nat}(F:cv.length+a<=990000):gG b (cv++List.replicate a []):=by
 refine⟨by simpa using F,fun k G=>?_⟩;by_cases h:k<cv.length
 . have e:(cv++List.replicate a []).getD k []=cv.getD k []:=by simp[YD,List.getElem?_append_left h]
   rw[e];exact D.vals k h
 left;rw[YD,List.getElem?_append_right aA,List.getElem?_replicate];split<;>rfl
theorem oU(cv:aAA)(n:Nd)(i:Nat):(eI cv n i).length=cv.length+(aR n.op n.b (i:Int)).toNat:=by simp[eI]
theorem xT:∀(F:Fo)(ys:List TT),ys.length=(bH F).length->bH (fH F ys)=ys
 | .nil,[],_=>rfl
 | .nil,_::_,h=>by simp[bH]at h
 | .cons p n a k x,[],h=>by simp[bH]at h
 | .cons p n a k x,y::ys,h=>by
  rw[e8]at h;simp only[fH,e8];rw[xT x ys (by simpa using h)]
theorem xU:∀(F:Fo)(D:List Bool)(ys:List TT),Wf D F->ys.length=(bH F).length->(∀y∈ys,nF y)->Wf D (fH F ys)
 | .nil,D,_,h,_,_=>by simp only[fH];exact h
 | .cons p n a k x,[],_,h,_,_=>h.elim
 | .cons p n a k x,d::D,[],_,h,_=>by simp[bH]at h
 | .cons p n a k x,d::D,y::ys,h,hl,hy=>by
  rw[e8]at hl;have G:=hy y aD;exact⟨h.1,G.ok,G.at_,G.wf,xU x D ys h.2.2.2.2 (by simpa using hl) (fun z hz=>hy z (by simp[hz]))⟩
theorem FS{p:Int->Int->Bool}{D G a:Int}:∀(F:Fo)(ys:List TT)(j:Nat),ys.length=(bH F).length->(∀i y,ys[i]? = some y->nI p (a+aR D G ((j+i:Nat):Int)) y.1 y.2.2=false)->oP p D G j a (fH F ys)=false
 | .nil,_,_,_,_=>by simp only[fH];rfl
 | .cons pr n at_ k x,[],j,h,_=>by simp[bH]at h
 | .cons pr n at_ k x,y::ys,j,h,hy=>by
  rw[e8]at h;simp only[fH];rw[eK,ZG];refine⟨by simpa using hy 0 y rfl,FS x ys (j+1) (by simpa using h) fun i z hz=>?_⟩;have:=hy (i+1) z (by simpa using hz)
  rwa [show j+(i+1)=j+1+i from by omega]at this
theorem tY:∀(F:Fo)(ys:List TT),∀m∈row (fH F ys),m∈row F\/∃y∈ys,m∈aW y
 | .nil,_,m,h=>by simp only[fH]at h;exact .inl h
 | .cons p n a k x,[],m,h=>by simp only[fH]at h;exact .inl h
 | .cons p n a k x,y::ys,m,h=>by
  simp only[fH,row,YW,YV]at h;rcases h with h|h|h|h|h
  . exact .inl (by simp[row,h])
  . exact .inr ⟨y,by simp,by simp[aW,h]⟩
  . exact .inr ⟨y,by simp,by simp[aW,h]⟩
  . exact .inr ⟨y,by simp,by simp[aW,h]⟩
  . rcases tY x ys m h with h|⟨z,hz,h⟩
    . exact .inl (by simp[row,h])
    exact .inr ⟨z,by simp[hz],h⟩
theorem IR{b:Bk}{free:Int}{x:TT}(D:bO b free x){ys:List TT}(Y:ys.length=(bH x.2.2).length)(U:∀(i:Nat)(y:TT),ys[i]? = some y->bO b (free+aR x.1.op x.1.b (i:Int)) y)(hs:bL (cU x ys)<=4096):bO b free (cU x ys):=by
 have O:∀y∈ys,nF y:=fun y h=>by
  obtain⟨i,G,rfl⟩:=ZL h;exact (U i _ (YB G)).okt
 refine⟨⟨D.okt.ok,D.okt.at_,xU _ _ _ D.okt.wf Y O⟩,hs,?_,fun m s=>?_⟩
 . have F:=D.low;unfold nI at F;rw[ZG]at F;show nI _ 0 x.1 (fH x.2.2 ys)=false;unfold nI;rw[ZG];refine⟨F.1,FS _ _ 0 Y fun i y h=>?_⟩;have Z:=(U i y h).low;rw[Int.zero_add,YH];exact oQ (p:=fun v z=>decide (free+aR x.1.op x.1.b (i:Int)<=v-z)) (q:=fun v z=>decide (free<=v-z)) (c := -aR x.1.op x.1.b (i:Int)) (fun v z o=>by
    simp only[YJ]at o ⊢;omega) (a:=aR x.1.op x.1.b (i:Int)) (by rw[show aR x.1.op x.1.b (i:Int) + -aR x.1.op x.1.b (i:Int)=0 from by omega];exact Z)
 have I:m=x.1\/m∈x.2.1\/m∈row (fH x.2.2 ys):=by simpa[cU,aW] using s
 rcases I with h|h|h
 . exact D.nod m (by simp[aW,h])
 . exact D.nod m (by simp[aW,h])
 rcases tY _ _ m h with h|⟨y,hy2,h⟩
 . exact D.nod m (by simp[aW,h])
 obtain⟨i,G,rfl⟩:=ZL hy2;exact (U i _ (YB G)).nod m h
theorem RN{b:Bk}{cv:aAA}(Y:bU b=0)(O:gG b cv):∀(g n:Nat)(f:Fc)(room:Int)(y:Fc)(m:Nat),mK b cv g n f room=.done y m->bT b cv y=false
 | 0,n,f,room,y,m,h=>by cases h
 | g+1,n,f,room,y,m,h=>by
  have key:∀(F:Fc)(G:Nat),yI b cv g G F room=.done y m->bT b cv y=false:=by
   intro F G D;unfold yI at D;split at D
   . split at D
     . cases D
     split at D
     . cases D
     split at D
     . cases D
     exact RN Y O g _ _ _ y m D
   rename_i U
   injection D with I Z;subst I;simpa using U
  cases hp:cQ f with
  | none=>rw[lM hp]at h;exact key f n h
  | some p =>
   rw[pK hp]at h;cases hw:mK b cv g n (bX p) (room-dA f+bL p) with
   | bad e=>rw[hw]at h;cases h
   | done z k=>rw[hw]at h;exact key _ k h
set_option maxRecDepth 20000 in
theorem LQ{b:Bk}{cv:aAA}(G:bU b=0)(F:gG b cv):∀(s:Nat)(f:Fc)(room:Int),dM b (cv.length:Int) f->(dA f:Int)<=room->room<=4096->dA f<s->∀y m,kI b cv 0 f room=.done y m->y=f/\m=0
 | 0,f,room,_,_,_,h,_,_,_=>absurd h aA
 | s+1,f,room,hf,Z,O,hs,y,m,h=>by
  have key:DL b cv 0 f room=.done y m->y=f/\m=0:=fun D=>by
   unfold DL at D;split at D
   . rw[XP rfl]at D;cases D
   injection D with U Y;exact⟨U.symm,Y.symm⟩
  cases hp:cQ f with
  | none=>rw[oM G F hf O hp]at h;exact key h
  | some p =>
   obtain⟨I,p2⟩:=gU hf hp;have o:=eY I;rw[iJ G F hf Z O hp]at h;cases hw:kI b cv 0 (bX p) (room-dA f+bL p) with
   | bad e=>rw[hw]at h;cases h
   | done z k =>
    rw[hw]at h;simp only at h;obtain⟨rfl,rfl⟩:=LQ G F s (bX p) (room-dA f+bL p) (lQ I) aA aA aA z k hw;rw[oS I,tL hf hp]at h;exact key h
theorem LP{b:Bk}{cv:aAA}(O:bU b=0)(G:gG b cv){n:Nat}{f y:Fc}{room:Int}(I:dM b (cv.length:Int) f)(D:(dA f:Int)<=room)(F:room<=4096)(h:kI b cv n f room=.done y n):y=f:=by
 have U:=(RM O G _ n f room I D F (YL _) y n h 0).1 aA;exact (LQ O G _ f room I D F (YL _) y _ U).1
theorem GE.mono{cv:aAA}{n m s:Nat}(h:GE cv n s)(D:m<=n):GE cv m s:=by
 unfold GE at h ⊢;have:4096*m<=4096*n:=Nat.mul_le_mul_left _ D;omega
theorem DM{b:Bk}{cv:aAA}(I:bU b=0)(G:gG b cv){n m:Nat}{x:TT}{f:Fc}(F:bO b (cv.length:Int) x)(O:GE cv n (bL x))(h:kI b cv n (bX x) 4096=.done f m):dM b (cv.length:Int) f/\dA f<=4096/\m<=n/\bT b cv f=false/\GE cv m (dA f)/\m*4097+dA f<=n*4097+bL x:=by
 have D:=eY F;have U:bL x<=4096:=F.few;obtain⟨Y,o,Z⟩:=rZ I G (lQ F) aA (YI _) h;refine⟨Y,by omega,Z,RN I G _ _ _ _ _ _ h,?_,?_⟩
 . by_cases he:m=n
   . subst he;rw[LP I G (lQ F) aA (YI _) h,D];exact O
   unfold GE at O ⊢;have:4096*(m+1)<=4096*n:=Nat.mul_le_mul_left _ aA;omega
 by_cases he:m=n
 . subst he;rw[LP I G (lQ F) aA (YI _) h,D];exact XU _
 have:(m+1)*4097<=n*4097:=Nat.mul_le_mul_right _ aA;omega
def GI(b:Bk)(cv:aAA)(n:Nat)(x:TT):Prop:=gG b cv/\bO b (cv.length:Int) x/\GE cv n (bL x)
theorem GI.mono{b:Bk}{cv:aAA}{n m:Nat}{x:TT}(h:GI b cv n x)(D:m<=n):GI b cv m x:=⟨h.1,h.2.1,h.2.2.mono D⟩
theorem KP{b:Bk}{cv:aAA}(Z:gG b cv){f:Fc}{n:Nat}(F:dM b (cv.length:Int) f)(D:bT b cv f=false)(U:GE cv n (dA f)){i:Nat}{y:TT}(G:(bH f.1.2.2)[i]? = some y):GI b (eI cv f.1.1 i) n y/\bL y<dA f:=by
 have O:f.1.1.op≠7:=fun h=>by
  unfold bT at D;rw[XN aA,XP (.inl h)]at D;cases D
 have ha:=L0 F.head O i y G;have Y:bL y<bL f.1:=by
  have e:bL f.1=1+f.1.2.1.length+(row f.1.2.2).length:=cS f.1.1 f.1.2.1 f.1.2.2;have:=oH (List.mem_of_getElem? G);omega
 have o:=(F.head.okt.around (i:Int)).1;have hz:dA f=bL f.1+cB f.2:=rfl;have I:=oU cv f.1.1 i;unfold GE at U;refine⟨⟨OX Z aA,?_,?_⟩,by omega⟩
 . have e:((eI cv f.1.1 i).length:Int)=(cv.length:Int)+aR f.1.1.op f.1.1.b (i:Int):=by rw[I];omega
   rw[e];exact F.head.kid G
 unfold GE;rw[I];omega
theorem J7{b:Bk}{cv:aAA}(G:gG b cv){f:Fc}{n:Nat}(I:dM b (cv.length:Int) f)(F:GE cv n (dA f)){i:Nat}{y:TT}(O:f.2[i]? = some y):GI b cv n y/\bL y<dA f:=by
 have D:=List.mem_of_getElem? O;have:=lX D;have hz:dA f=bL f.1+cB f.2:=rfl;unfold GE at F;exact⟨⟨G,I.args y D,by unfold GE;omega⟩,by omega⟩
theorem rC{b:Bk}{D:List (List Nd)->Nat->TT->uO}{cvs:Nat->List (List Nd)}:∀(L:List TT)(i n:Nat),(∀(j:Nat)(y:TT)(k:Nat),L[j]? = some y->k<=n->∀z m,D (cvs (i+j)) k y=.done z m->bO b ((cvs (i+j)).length:Int) z/\m<=k)->∀ys m,fV D cvs i L n=.done ys m->ys.length=L.length/\m<=n/\∀(j:Nat)(z:TT),ys[j]? = some z->bO b ((cvs (i+j)).length:Int) z
 | [],i,n,_,ys,m,h=>by
  injection h with F G;subst F G;exact⟨rfl,XU _,fun j z hz=>by simp at hz⟩
 | x::r,i,n,H,ys,m,h=>by
  simp only[fV]at h;cases I:D (cvs i) n x with
  | bad e=>rw[I]at h;cases h
  | done y k =>
   rw[I]at h;simp only at h;cases O:fV D cvs (i+1) r k with
   | bad e=>rw[O]at h;cases h
   | done zs l =>
    rw[O]at h;injection h with F G;subst F G;obtain⟨a1,a2⟩:=H 0 x n rfl (XU _) y k I;obtain⟨U,b2,Y⟩:=rC r (i+1) k (fun j z o hz Z z' s hh=>by
     have:=H (j+1) z o (by simpa using hz) aA z' s (by rwa [show i+(j+1)=i+1+j from by omega])
     rwa [show i+(j+1)=i+1+j from by omega]at this) zs l O
    refine⟨by simp[U],by omega,fun j z hz=>?_⟩;cases j with
    | zero =>
     simp only[List.getElem?_cons_zero,YT]at hz;subst hz;exact a1
    | succ j =>
     have:=Y j z (by simpa using hz)
     rwa [show i+1+j=i+(j+1) from by omega]at this
theorem sV{F D:List (List Nd)->Nat->TT->uO}{cvs:Nat->List (List Nd)}:∀(L:List TT)(i n:Nat),(∀(j:Nat)(y:TT)(k:Nat),L[j]? = some y->k<=n->F (cvs (i+j)) k y=D (cvs (i+j)) k y/\∀z m,F (cvs (i+j)) k y=.done z m->m<=k)->fV F cvs i L n=fV D cvs i L n
 | [],_,_,_=>rfl
 | x::r,i,n,H=>by
  simp only[fV];obtain⟨G,I⟩:=H 0 x n rfl (XU _);simp only[YF]at G I;rw[<-G];cases hx:F (cvs i) n x with
  | bad e=>rfl
  | done y k =>
   simp only;have Y:=I y k hx;rw[sV r (i+1) k (fun j z U hz O=>by
    have:=H (j+1) z U (by simpa using hz) aA
    rwa [show i+(j+1)=i+1+j from by omega]at this)]
theorem jI{b:Bk}(I:bU b=0):∀(g:Nat)(cv:aAA)(n:Nat)(x:TT),GI b cv n x->∀y m,jS b g cv n x=.done y m->bO b (cv.length:Int) y/\m<=n
 | 0,cv,n,x,_,y,m,h=>by cases h
 | g+1,cv,n,x,⟨hc,hx,hB⟩,y,m,h=>by
  simp only[jS]at h;cases hw:kI b cv n (bX x) 4096 with
  | bad e=>rw[hw]at h;cases h
  | done f n1 =>
   rw[hw]at h;simp only at h;obtain⟨G,q2,q3,q4,Z,_⟩:=DM I hc hx hB hw;unfold EZ at h;cases hk:fV (jS b g) (eI cv f.1.1) 0 (bH f.1.2.2) n1 with
   | bad e=>rw[hk]at h;cases h
   | done Y n2 =>
    rw[hk]at h;simp only at h;obtain⟨k1,k2,k3⟩:=rC (b:=b) (bH f.1.2.2) 0 n1 (fun j z k' hz F U O D=>by
     rw[YH]at D ⊢;exact jI I g _ _ _ ((KP hc G q4 Z hz).1.mono F) U O D) Y n2 hk
    cases ha:fV (jS b g) (fun _=>cv) 0 f.2 n2 with
    | bad e=>rw[ha]at h;cases h
    | done rs n3 =>
     rw[ha]at h;simp only at h;obtain⟨a1,a2,o⟩:=rC (b:=b) (cvs:=fun _=>cv) f.2 0 n2 (fun j z k' hz F U O D=>jI I g _ _ _ ((J7 hc G Z hz).1.mono aA) U O D) rs n3 ha;split at h
     . cases h
     . split at h
       . cases h
       injection h with s e2;subst s e2;have D:=IR G.head (ys:=Y) k1 (fun i z hz=>by
        have:=k3 i z hz;rw[YH,oU]at this;have h0:=(G.head.okt.around (i:Int)).1
        rwa [show ((cv.length+(aR f.1.1.op f.1.1.b (i:Int)).toNat:Nat):Int)=(cv.length:Int)+aR f.1.1.op f.1.1.b (i:Int) from by omega]at this) aA
       refine⟨lW _ _ D (fun a ha=>?_) aA,by omega⟩;obtain⟨i,hi,rfl⟩:=ZL ha;exact o i _ (YB hi)
end
def OE(b:Bk)(cv:aAA):Nat->TT->uO
 | 0,x=>match nS b cv (bL x+1) (bX x) with
  | .no=>.done x 0
  | .bad=>.bad 10
  | .yes _=>.bad 10
 | n+1,x=>match nS b cv (bL x+1) (bX x) with
  | .no=>.done x (n+1)
  | .bad=>.bad 9
  | .yes y=>if 4096<bL y then .bad 9 else OE b cv n y
def XD:R4->uO
 | .bad e=>.bad e
 | .done f k=>.done (gA f) k
theorem WD{b:Bk}{cv:aAA}(I:bU b=0)(G:gG b cv):∀(n:Nat)(x:TT),bO b (cv.length:Int) x->OE b cv n x=XD (kI b cv n (bX x) 4096):=by
 intro n
 induction n with
 | zero =>
  intro x F;have Z:=eY F;have U:bL x<=4096:=F.few;have D:=vB I G (bL x+1) (bX x) 4096 (lQ F) aA (YI _) aA;rw[PK I G (bL x+1) (bX x) 4096 (lQ F) aA (YI _)]at D;unfold OE;cases hg:nS b cv (bL x+1) (bX x) with
  | no =>
   rw[hg]at D;have O:kI b cv 0 (bX x) 4096=.done (bX x) 0:=D 0;rw[O];show uO.done x 0=.done (gA (bX x)) 0;rw[oS F]
  | bad =>
   rw[hg]at D;rw[show kI b cv 0 (bX x) 4096=.bad 10 from D.1];rfl
  | yes y =>
   rw[hg]at D;simp only at D ⊢;split at D
   . rw[show kI b cv 0 (bX x) 4096=.bad 10 from D.1];rfl
   . rw[show kI b cv 0 (bX x) 4096=.bad 10 from D.2.2.1];rfl
 | succ n ih =>
  intro x F;have Z:=eY F;have U:bL x<=4096:=F.few;have D:=vB I G (bL x+1) (bX x) 4096 (lQ F) aA (YI _) aA;rw[PK I G (bL x+1) (bX x) 4096 (lQ F) aA (YI _)]at D;unfold OE;cases hg:nS b cv (bL x+1) (bX x) with
  | no =>
   rw[hg]at D;have O:kI b cv (n+1) (bX x) 4096=.done (bX x) (n+1):=D (n+1);rw[O];show uO.done x (n+1)=.done (gA (bX x)) (n+1);rw[oS F]
  | bad =>
   rw[hg]at D;rw[show kI b cv (n+1) (bX x) 4096=.bad 9 from D.2 n];rfl
  | yes y =>
   rw[hg]at D;simp only at D ⊢;split at D
   . rename_i Y
     rw[XP aA,show kI b cv (n+1) (bX x) 4096=.bad 9 from D.2 n];rfl
   . rename_i Y
     rw[XN aA,show kI b cv (n+1) (bX x) 4096=kI b cv n (bX y) 4096 from D.2.2.2 n];exact ih y ((CJ I G _ _ y (lQ F) hg).2 aA)
section
section
variable {A : ZZ}{n c : Nat}{l : List Nd}
end
end
end Go.Proofs.YtjoddliplahgkaaGreat
