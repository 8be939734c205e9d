/- Merged: NmC, CvW, CvS. -/
import Derived.Test.YtlahmbhimhmoaaaVNmB
import Derived.Deep.RegionLawGrows
import Derived.Deep.Upon
namespace Go.Proofs.Ytlahmbhimhmoaaa
set_option maxHeartbeats 4000000
set_option maxRecDepth 100000
set_option linter.unusedVariables false
set_option linter.unusedSimpArgs false
open Go.RowKit
open Option renaming none → O, some → Y
open Go.Value renaming slice → X, pointer → Z
section
section
variable {nm : List (List Nd)->Nat->TT->LW}{cvs : Nat->List (List Nd)}{L ys : List TT}{n0 i n : Nat}
end
theorem lI{P:Program}{o:Oper}{a:Act}{w:OE}{K:Act->World->Prop}{Q:Exit->Act->World->Prop}
 (hg:o.guard=O) (s x:Operand) (t:TypeId) (a3:o.op=Op.call { callee:=Callee.builtin Builtin.append,args:=#[s,x],argTypes:=#[t,t] })
 (e:TypeId) (i:TypeInfo) (z:Value) (size F:Nat) (h1:P.underlying t=Y (.slice e)) (h2:P.info? e=Y i) (h3:i.zero=Y z) (h4:i.size=size) (h5:i.bytes=F) (h6:z.cells.size=size) (h7:0<size)
 (ao:OC) (n cap:Nat) (G:List Value) (hs:a.eval s=X ao n cap) (U:ao=O->n=0/\cap=0) (a2:G.length=n*size) (a0:∀b,ao=Y b->∀j u,G[j]? = Y u->w.cell? (b.add j)=Y u)
 (ad:Addr) (m c:Nat) (D:List Value) (hx:a.eval x=X (Y ad) m c) (hn:D.length=m*size) (hc:∀j u,D[j]? = Y u->w.cell? (ad.add j)=Y u) (a1:∀u∈D,u.oneCell'=true)
 (I:cap<n+m) (b1:n+m<=maxLen) (b2:(n+m)*F<=140737488355328)
 (hK:∀v' w',w'.ownsRow w.heap.size e size v' (n+m) (G++D)->w.grownBy w' O->K (a.put o.dst v') w'):Oper.wp P o a w K Q:=by
 have h:=step_append_grows (Q:=Q) (K:=K) (ops:=#[]) (E:=True) hg s x t a3 e i z size F h1 h2 h3 h4 h5 h6 h7 ao n cap G hs U a2 a0 ad m c D hx hn hc a1 I b1 b2 hK;have hw:Region.wanted o (yielded #[] a.tmps)=true:=by simp[Region.wanted,hg]
 rwa [LZ hw]at h
theorem mN{P:Program}{o:Oper}{a:Act}{w:OE}{K:Act->World->Prop}{Q:Exit->Act->World->Prop}
 (s x:Operand) (t:TypeId) (a0:o.op=Op.call { callee:=Callee.builtin Builtin.append,args:=#[s,x],argTypes:=#[t,t] })
 (e:TypeId) (i:TypeInfo) (U:P.underlying t=Y (.slice e)) (h2:P.info? e=Y i)
 (I:OC) (n cap:Nat) (hs:a.eval s=X I n cap) (z:n<=cap) (D:OC) (c:Nat) (hx:a.eval x=X D 0 c)
 (hK:K (a.put o.dst (X I n cap)) w):Oper.wp P o a w K Q:=by
 have G:Src P i.size t (X D 0 c) 0 [] w:=by
  cases D with
  | none=>exact Src.ofNil w U c
  | some D=>exact Src.ofSlice w U D 0 c [] aD (fun j u h=>by simp at h) (fun u h=>by cases h)
 have F:=run_append_nothing (P:=P) w t t o.type e i U h2 I n cap z (X D 0 c) G;unfold Oper.wp;simp[execOp,a0,resolve,invoke,builtin,hs,hx,F,Result.andThen];exact hK
theorem zA{w:OE}{b off m:Nat}(h:∀j,j<m->∃u,w.cell? ⟨b,off+j,O⟩=Y u):∃F:List Value,F.length=m/\∀j,j<m->w.cell? ⟨b,off+j,O⟩=F[j]?:=by
 refine⟨(List.range m).map fun j=>(w.cell? ⟨b,off+j,O⟩).getD undef,by simp,fun j D=>?_⟩;obtain⟨u,G⟩:=h j D;rw[List.getElem?_map,List.getElem?_range D];simp[G]
structure sL (w:OE) (Ad:OC) (nd cd:Nat) (xs:List Value):Prop where
 len:xs.length=nd
 cap:nd<=cd
 few:nd<=1000
 sl:∀x∈xs,∃A1 n1 c1,x=Value.slice A1 n1 c1
 mem:0<nd->∃gd,Ad=Y ⟨gd,0,O⟩/\gd<w.heap.size/\∀k,k<nd->w.cell? ⟨gd,k*2,O⟩=xs[k]?/\w.cell? ⟨gd,k*2+1,O⟩=Y (X O 0 0)
theorem sL.moved{S:Nat->Prop}{w w':OE}{D:OC}{nd I:Nat}{z:List Value}(h:sL w D nd I z)(s:aS S O w w')(hS:∀q,D=Y ⟨q,0,O⟩->¬ S q):sL w' D nd I z :=
 ⟨h.len,h.cap,h.few,h.sl,fun hn=>by
  obtain⟨F,e,o,hk⟩:=h.mem hn;have U:=s.block F o (hS F e) aD;refine⟨F,e,MD o s.size,fun k G=>?_⟩;obtain⟨h1,h2⟩:=hk k G;exact⟨(aP U _).trans h1,(aP U _).trans h2⟩⟩
theorem sL.of_own{w:OE}{base nd U:Nat}{I:OC}{D:List Value}(h:w.ownsRow base 54 2 (X I nd U) nd (dE D))(hl:D.length=nd)(hs:∀x∈D,∃o n1 s,x=Value.slice o n1 s)(hf:nd<=1000):sL w I nd U D:=by
 refine⟨hl,?_,hf,hs,fun hn=>?_⟩
 . rcases h.2 with⟨hv,F⟩|⟨g,cap,G,hv,_,_,h2,_⟩
   . omega
   injection hv with _ _ e3;omega
 have F:=h;rcases h.2 with⟨_,h2⟩|⟨g,cap,G,hv,hg,hh,_⟩
 . omega
 injection hv with z e2 e3;subst z;refine⟨g,rfl,(aV F rfl).2.1,fun k hk=>?_⟩;obtain⟨p1,p2⟩:=j3 D k aA;exact⟨(F.cellAt (k*2) aA).trans p1,(F.cellAt (k*2+1) aA).trans p2⟩
theorem nU{o:Oper}{a:Act}{w:OE}{K:Act->World->Prop}{Q:Exit->Act->World->Prop}
 (hg:o.guard=O) (s x:Operand) (b2:o.op=Op.call { callee:=Callee.builtin Builtin.append,args:=#[s,x],argTypes:=#[27,27] })
 {R:Nat->Prop} {cA:OC} {cn cc:Nat} {cv:OD} (G:oI R w cA cn cc cv) (hR:∀q,R q->q<w.heap.size) (c5:cn<=990000) (hs:a.eval s=X cA cn cn)
 {Ad:OC} {nd cd k:Nat} {z:List Value} (hd:sL w Ad nd cd z) (hk:k<=nd) (hx:a.eval x=X Ad k cd)
 (hK:∀a4 a5 w',OB w w'->oI (fun q=>R q\/(w.heap.size<=q/\q<w'.heap.size)) w' a4 (cn+k) a5 (cv++List.replicate k [])->K (a.put o.dst (X a4 (cn+k) a5)) w'):Oper.wp Try.prog o a w K Q:=by
 obtain⟨i0,hi,b9,c0,c3⟩:=info_parts ER;by_cases h0:k=0
 . subst h0;refine mN s x 27 b2 54 i0 Try.underlying27 hi cA cn cn hs (MF _) Ad cd hx ?_;have h9:=hK cA cn w (MC _ _) (by
    rw[List.replicate_zero,NF,MQ];exact⟨G.len,MF _,G.few,fun e=>by have:=G.nul e;have:=G.cap;omega,fun hn=>by
     obtain⟨b,off,e,hb,hm⟩:=G.mem hn;refine⟨b,off,e,.inl hb,fun j hj=>?_⟩;obtain⟨A1,n1,I,A2,n2,c2,y1,y2,y3⟩:=hm j hj;exact⟨A1,n1,I,A2,n2,c2,y1,y2,y3.keep fun q hq=>⟨.inl hq,fun _=>rfl⟩⟩⟩)
   rw[MQ]at h9;exact h9
 have c8:0<k:=aA;obtain⟨gd,rfl,c7,b4⟩:=hd.mem aA;have c4:=G.few;have c6:=hd.few
 -- what the old row holds
 have b0:∃olds:List Value,olds.length=cn*2/\∀b off,cA=Y ⟨b,off,O⟩->∀j,j<cn*2->w.cell? ⟨b,off+j,O⟩=olds[j]?:=by
  by_cases hn:0<cn
  . obtain⟨b,off,e,hb,hm⟩:=G.mem hn;obtain⟨vs,v1,v2⟩:=zA (w:=w) (b:=b) (off:=off) (m:=cn*2) (fun j hj=>by
     obtain⟨A1,n1,I,A2,n2,c2,y1,y2,_⟩:=hm (j / 2) aA;by_cases hp:j % 2=0
     . exact⟨_,by rw[show off+j=off+j / 2*2 from by omega];exact y1⟩
     exact⟨_,by rw[show off+j=off+j / 2*2+1 from by omega];exact y2⟩)
    refine⟨vs,v1,fun b' off' e' j hj=>?_⟩;rw[e]at e';simp only[MS,Addr.mk.injEq]at e';obtain⟨rfl,rfl,_⟩:=e';exact v2 j hj
  exact⟨[],by simp;omega,fun b off e j hj=>absurd hj aA⟩
 obtain⟨olds,a1,a2⟩:=b0;have b6:(dE (z.take k)).length=k*2:=by rw[pN,List.length_take,hd.len,Nat.min_eq_left hk]
 have a9:∀j u,(dE (z.take k))[j]? = Y u->w.cell? ((⟨gd,0,O⟩:Addr).add j)=Y u:=by
  intro j u D;have hj:j<k*2:=by
   have:=(NP.1 D).1;omega
  have ea:(⟨gd,0,O⟩:Addr).add j=⟨gd,j,O⟩:=by unfold Addr.add;split<;>simp_all
  rw[ea];have hl:j / 2<(z.take k).length:=by rw[List.length_take,hd.len];omega
  obtain⟨p1,p2⟩:=j3 (z.take k) (j / 2) hl;obtain⟨d1,d2⟩:=b4 (j / 2) aA;by_cases hp:j % 2=0
  . rw[show j=j / 2*2 from by omega]at D ⊢;rw[p1,List.getElem?_take,LZ aA]at D;rw[d1];exact D
  rw[show j=j / 2*2+1 from by omega]at D ⊢;rw[p2]at D;rw[d2];exact D
 have b1:∀u∈dE (z.take k),u.oneCell'=true:=by
  have:∀(ys:List Value),(∀x∈ys,∃A1 n1 I,x=Value.slice A1 n1 I)->∀u∈dE ys,u.oneCell'=true:=by
   intro ys
   induction ys with
   | nil=>intro _ u D;cases D
   | cons y ys ih =>
    intro h u D;simp only[dE,MU]at D;rcases D with rfl|rfl|D
    . obtain⟨A1,n1,I,rfl⟩:=h u aD;rfl
    . rfl
    . exact ih (fun x hx=>h x (by simp[hx])) u D
  exact this _ fun x hx=>hd.sl x (List.mem_of_mem_take hx)
 refine lI hg s x 27 b2 54 i0 _ 2 48 Try.underlying27 hi b9 c0 c3 rfl aE cA cn cn olds hs (fun e=>by have:=G.nul e;have:=G.cap;omega) a1 (fun b e j u D=>?_) ⟨gd,0,O⟩ k cd (dE (z.take k)) hx b6 a9 b1 aA aJ aA (fun v' w' F U=>?_)
 . by_cases hn:0<cn
   . obtain⟨b',off',e',_,_⟩:=G.mem hn;rw[e']at e;obtain rfl:=Option.some.inj e;have hj:j<cn*2:=by have:=(NP.1 D).1;omega
     have ea:(⟨b',off',O⟩:Addr).add j=⟨b',off'+j,O⟩:=by unfold Addr.add;split<;>simp_all
     rw[ea,a2 b' off' e' j hj];exact D
   have:=(NP.1 D).1;omega
 have a6:OB w w':=⟨U.os,U.tape,U.output,U.size,fun q hq=>U.block q hq aD⟩;obtain⟨b8,b7⟩:=F;rcases b7 with⟨_,hz⟩|⟨g',cap,b3,rfl,a7,hh,a0,a3⟩
 . omega
 have F:w'.ownsRow w.heap.size 54 2 (X (Y ⟨g',0,O⟩) (cn+k) cap) (cn+k) (olds++dE (z.take k)):=⟨b8,.inr ⟨g',cap,b3,rfl,a7,hh,a0,a3⟩⟩;have b5:=(aV F rfl).2.1;refine hK _ _ w' a6 ⟨by rw[MG,NX,G.len],a0,by omega,(fun e=>by cases e),fun _=>⟨g',0,rfl,.inr ⟨a7,b5⟩,fun j hj=>?_⟩⟩;rw[ML];have I:=F.cellAt (j*2) aA;have c2:=F.cellAt (j*2+1) aA;by_cases a8:j<cn
 . obtain⟨b,off,e,hb,hm⟩:=G.mem aA;obtain⟨A1,n1,k1,A2,n2,k2,y1,y2,y3⟩:=hm j a8;rw[List.getElem?_append_left aA,<-a2 b off e (j*2) aA,y1]at I;rw[List.getElem?_append_left aA,<-a2 b off e (j*2+1) aA,<-Nat.add_assoc,y2]at c2;refine⟨A1,n1,k1,A2,n2,k2,I,c2,?_⟩;have e3:(cv++List.replicate k []).getD j []=cv.getD j []:=by
    rw[MK,MK,List.getElem?_append_left (by rw[G.len];exact a8)]
   rw[e3];exact y3.keep fun q hq=>⟨.inl hq,fun o=>a6.cell (p:=⟨q,o,O⟩) (hR q hq)⟩
 have hl:j-cn<(z.take k).length:=by rw[List.length_take,hd.len];omega
 obtain⟨p1,p2⟩:=j3 (z.take k) (j-cn) hl;rw[List.getElem?_append_right aA,a1,show j*2-cn*2=(j-cn)*2 from by omega,p1,MI hl]at I;rw[List.getElem?_append_right aA,a1,show j*2+1-cn*2=(j-cn)*2+1 from by omega,p2]at c2;obtain⟨A1,n1,k1,ex⟩:=hd.sl ((z.take k)[j-cn]) (List.mem_of_mem_take (NO hl));rw[ex]at I;refine⟨A1,n1,k1,O,0,0,I,c2,?_⟩;have e3:(cv++List.replicate k []).getD j []=[]:=by
  rw[MK,List.getElem?_append_right (by rw[G.len];omega),List.getElem?_replicate];split<;>rfl
 rw[e3];exact⟨rfl,MF _,by decide,fun _=>rfl,fun h=>absurd h aE⟩
end
section
theorem o6{F G g cn cc:Nat}{cA:OC}{v:bA}{b:Bk}{U:OC}{o h:Nat}{f s:Int}{w:OE}(z:aW w F 27 #[X cA cn cc])(h2:aW w G 58 #[Z (Y ⟨g,0,O⟩)])(D:aW w g 60 (wO v b U o h f s)):
 CallsD Try.prog 66 #[Z (Y ⟨F,0,O⟩),Z (Y ⟨G,0,O⟩)] .returning w fun e u' w' =>
  e=.returned (.tuple #[])/\u'=.returning/\w'=w.setCell ⟨g,5,O⟩ (X cA cn cc):=by
 have z1:=z.cell 0;have z2:=h2.cell 0;have z3:=D.cell 5;have zf:=D.frozen;refine callsD_of_wpS Try.func66 rfl fun I cs hu=>?_;refine wpS_of_wp ?_;go_wp2_with fail;cases I
 simp_all [bodyPostS,results,Try.results66]
end
section
open Go.Lib renaming hid->aB
def IZ(Q:Exit->Act->World->Prop):Exit->Act->World->Prop
 | .panic _,_,_=>False
 | e,a,w=>Q e a w
theorem FY{P:Program}{c:Code}{Q:Exit->Act->World->Prop}{a:Act}{w:OE}(h:c.wp P (IZ Q) a w):c.wp P Q a w:=Code.wp_mono (fun e a w h=>by cases e<;>first|exact h|exact h.elim) h
theorem nI{w0 w:OE}{g:Nat}{v:bA}{b:Bk}{cA:OC}{cn cc:Nat}{cv:OD}{a9:Nat}(H:GB w0 g v b a9){f:Nat}(hw:lW w0 g v b cA cn cc cv f w)(hf:f<a9)(e1:f<=100000)(e0:cn<=990000){Ad:OC}{nd cd:Nat}{xs:List Value}(hd:sL w Ad nd cd xs)(e7:∀q,Ad=Y ⟨q,0,O⟩->q≠g){A:OC}{n c:Nat}{x:TT}(ht:a6 (fun q=>q<w.heap.size/\q≠g) w A n c (aT x)){B:OC}{m d:Nat}{y:TT}(hu:a6 (fun q=>q<w.heap.size/\q≠g) w B m d (aT y))(c3:eZ b (cv++List.replicate nd []) f x)(c4:eZ b (cv++List.replicate nd []) f y)(u:Bool):
 Calls Try.prog 49 #[Z (Y ⟨g,0,O⟩),X Ad nd cd,X A n c,X B m d,.bool u] w (zF g v b cA cn cc (dJ b a9 (cv++List.replicate nd []) u f x y) w):=by
 have e8:∀(fn:Fn)(first cap:Array Value)(w:OE),(Instr.makeFunc fn first cap).run Try.prog w=.ok (.func fn first cap) w:=fun _ _ _ _=>rfl;obtain⟨s,a2⟩:=OM (w.alloc (.cells #[Z (Y ⟨g,0,O⟩)] 58));have a4:OB w s:=by rw[a2];exact aQ _ _
 have k1:aW s w.heap.size 58 #[Z (Y ⟨g,0,O⟩)]:=by rw[a2];exact aW.new _ _ _
 have e3:s.heap.size=w.heap.size+1:=by rw[a2];simp
 obtain⟨W2,b0⟩:=OM (s.alloc (.cells #[X cA cn cc] 27));have b1:OB s W2:=by rw[b0];exact aQ _ _
 have k2:aW W2 s.heap.size 27 #[X cA cn cc]:=by rw[b0];exact aW.new _ _ _
 have a3:OB w W2:=a4.trans (b1.mono a4.size);have a1:=aB (hw.below a3);have hg:=hw.lt;have kc:=hw.blk.below a4 hg;obtain⟨c0,c1,d8,d9⟩:=OI (k1.below b1 k1.lt) k2 a2.symm b0.symm;have z1:=aW.cell k1;have zc:=aW.cell kc;have U:=aB a3;have c7:w.heap.size<W2.heap.size:=by have:=b1.size;omega
 have c8:s.heap.size<W2.heap.size:=k2.lt;have e2:w.heap.size≠g:=aA;have c9:s.heap.size≠g:=aA;obtain⟨d3,d4,HD,HH,HT,HU,d6,d7⟩:=OH (fun (W:OE)=>BL (w:=W) hw.ctx.cap hw.ctx.nul) hw.ctx hd H ht hu c3 c4;have e6:=aB a4;clear a2 b0 a4 b1 k1 k2 kc a3 e3 hw H hd ht hu c3 c4;go_enter_defers Try.func49,Try.ntmps49
 go_upto_region 1 with fail
 rw[d8.o];go_upto_region 3 with fail
 rw[d9.o];refine FY ?_;refine wp_region_held_drew (S:=(fun w'=>∀q,q<W2.heap.size->q≠g->w'.heap[q]? = W2.heap[q]?)) aC ?_ (fun hZ=>?_)
 . (try dsimp only);exact fun q _ _=>rfl
 have b4:Hid (OB W2 W2.drew):=aB (aU (MC _ _) 1);generalize W2.drew=Wq at *;refine tk 0 ?_ (fun wq hSw=>?_) hZ ?_;rotate_left
 . have za:=(aP (hSw (w.heap.size) c7 e2) 0).trans (c0.o.cell 0);go_simp;try with_reducible rfl
 try simp only[p7]
 refine tk 1 ?_ (fun wq hSw=>?_) hZ ?_;rotate_left
 . have zb:=(aP (hSw (s.heap.size) c8 c9) 0).trans (c1.o.cell 0);go_simp;try with_reducible rfl
 try simp only[p7]
 refine wpAnyH_take (i:=3) (v:=?_) rfl aC aC aC (fun _ _ _ h=>h) (Or.inl ⟨by rfl,fun wq hSw=>?_⟩) hZ ?_;rotate_left
 . (go_simp;try with_reducible rfl)
 try simp only[p7]
 refine r1 2 fun K hK=>?_;go_simp;go_at_call 67
 refine (d3.o Wq).mono ?_;rintro en Wq ⟨rfl,rfl⟩;go_wp2_with fail;refine hK.o _ _ (by exact fun q h1 _=>b4.o.block q h1) fun hZ=>?_;clear hK K;try simp only[p7]
 have a5:=aB (U.o.trans (b4.o.mono U.o.size));have b8:=aB (d4.o.keep (R':=fun q=>q<w.heap.size/\q≠g) (w':=Wq) fun q hq=>⟨hq,fun o=>a5.o.cell (p:=⟨q,o,O⟩) hq.1⟩);have b7:=aB (HD.o.moved (aS.of_below (S:=fun _=>False) a5.o) (fun _ _ h=>h));refine r1 4 fun K hK=>?_;refine nU rfl (.tmp 19) (.tmp 20) rfl b8.o (fun q hq=>by have:=hq.1;have:=a5.o.size;omega) e0 aF b7.o (MF _) aF ?_;intro a7 a8 w9 c5 b3;have F:=bK b4 c5;have b9:=aB b3;clear c5 b3;refine hK.o _ _ (by exact fun q h1 _=>F.o.block q h1) fun hZ=>?_;clear hK K;try simp only[p7]
 refine wpAnyH_take (i:=5) (v:=?_) rfl aC aC aC (fun _ _ _ h=>h) (Or.inl ⟨by rfl,fun wq hSw=>?_⟩) hZ ?_;rotate_left
 . (go_simp;try with_reducible rfl)
 try simp only[p7]
 refine wpAnyH_take (i:=6) (v:=?_) rfl aC aC aC (fun _ _ _ h=>h) (Or.inl ⟨by rfl,fun wq hSw=>?_⟩) hZ ?_;rotate_left
 . (go_simp;try with_reducible rfl)
 try simp only[p7]
 have a0:=aB (a1.o.blk.below F.o a1.o.lt);have zg:=aW.cell a0.o;have e5:=aW.frozen a0.o;refine r1 7 fun K hK=>?_;go_simp;refine hK.o _ _ (by exact fun q h1 h2=>(MH _ ⟨g,5,O⟩ _ q h2).trans (F.o.block q h1)) fun hZ=>?_;clear hK K;try simp only[p7]
 refine wpAnyH_done aC ?_ _;simp only[IZ];obtain⟨W5,D⟩:=OM (w9.setCell ⟨g,5,O⟩ (X a7 (cn+nd) a8));have f1:W5.heap.size=w9.heap.size:=by rw[D];exact dI _ _ _ _
 have c6:=a1.o.ge;have e9:=F.o.size;have f0:=a5.o.size;have d1:Hid (lW w0 g v b a7 (cn+nd) a8 (cv++List.replicate nd []) f W5):=aB ⟨by
  rw[D];exact (a1.o.bel.trans (F.o.mono a1.o.bel.size)).setCell (p:=⟨g,5,O⟩) c6 _,by
  rw[D];simpa using a0.o.set_ 5 (X a7 (cn+nd) a8),c6,b9.o.keep fun q hq=>by
  have d0:q≠g/\q<w9.heap.size:=by rcases hq with hq|hq<;>constructor<;>omega
  refine⟨⟨by omega,d0.1⟩,fun o=>?_⟩;rw[D];exact aP (MH w9 ⟨g,5,O⟩ _ q d0.1) o⟩
 have G:=aB (U.o.trans (F.o.mono U.o.size));have I:∀q,q<w.heap.size/\q≠g->(q<W5.heap.size/\q≠g)/\∀o,W5.cell? ⟨q,o,O⟩=w.cell? ⟨q,o,O⟩:=fun q hq=>by
  have:=G.o.size;refine⟨⟨by omega,hq.2⟩,fun o=>?_⟩;rw[D];exact (aP (MH w9 ⟨g,5,O⟩ _ q hq.2) o).trans (G.o.cell (p:=⟨q,o,O⟩) hq.1)
 have d5:Hid (aS (fun q=>q=g) O w W5):=aB (by rw[D];exact aS.setCell (S:=fun q=>q=g) (aS.of_below G.o) (p:=⟨g,5,O⟩) rfl _);have L1:Hid (aW W5 w.heap.size 58 #[Z (Y ⟨g,0,O⟩)]):=aB (by rw[D];exact (c0.o.below F.o c7).far (p:=⟨g,5,O⟩) aH _);have L2:Hid (aW W5 s.heap.size 27 #[X cA cn cc]):=aB (by rw[D];exact (c1.o.below F.o c8).far (p:=⟨g,5,O⟩) aH _);have d2:=aB (HH.o W5 a7 (cn+nd) a8 _ f u A n c x B m d y d1.o (HT.o.keep I) (HU.o.keep I) d6.o d7.o hf e1);rw[<-D];clear D I zg e5;have zp:=aW.cell L1.o;generalize dJ b a9 (cv++List.replicate nd []) u f x y=rr at *;go_wp2_with fail;refine (d2.o).mono ?_;rintro e w7 ⟨b2,h7⟩;have c2:=aB (aY d5.o b2);have K1:=aB (L1.o.moved b2 aA aD);have K2:=aB (L2.o.moved b2 aA aD);clear b2 zp;rcases h7 with⟨z,f3,hr,rfl,hk⟩|⟨is,k,hr,rfl,hk⟩
 . have b6:=hr;go_wp2_with fail;refine leaves_cons (f:=66) (args:=#[Z (Y ⟨s.heap.size,0,O⟩),Z (Y ⟨w.heap.size,0,O⟩)]) aD (by simp[go_sem]) ?_;refine (o6 K2.o K1.o hk).mono ?_;rintro e u' e4 ⟨rfl,rfl,rfl⟩;have HM:aS (fun q=>q=g) O w (w7.setCell ⟨g,5,O⟩ (X cA cn cc)):=aS.setCell (S:=fun q=>q=g) c2.o (p:=⟨g,5,O⟩) rfl _;have b5:=hk.set_ 5 (X cA cn cc);simp[Leaves,settle,results,Try.results49,go_sem];exact⟨HM,.inl ⟨z,f3,b6,rfl,by simpa using b5⟩⟩
 have b6:=hr;go_wp2_with fail;refine leaves_cons (f:=66) (args:=#[Z (Y ⟨s.heap.size,0,O⟩),Z (Y ⟨w.heap.size,0,O⟩)]) aD (by simp[go_sem]) ?_;refine (o6 K2.o K1.o hk).mono ?_;rintro e u' e4 ⟨rfl,rfl,rfl⟩;have HM:aS (fun q=>q=g) O w (w7.setCell ⟨g,5,O⟩ (X cA cn cc)):=aS.setCell (S:=fun q=>q=g) c2.o (p:=⟨g,5,O⟩) rfl _;have b5:=hk.set_ 5 (X cA cn cc);simp[Leaves,settle,results,Try.results49,go_sem];exact⟨HM,.inr ⟨is,k,b6,rfl,by simpa using b5⟩⟩
end
end Go.Proofs.Ytlahmbhimhmoaaa
