/- What a reader makes of bytes: plain. -/
import Derived.Test.YtplecfbdchmogaaGreatDOctP
import Derived.Test.YtplecfbdchmogaaGreatDBooks
namespace Go.Proofs.YtplecfbdchmogaaGreat
open Go.RowKit
def gF (c:Ct):List Nat:=cU c.args++cU c.outs
def cK (x:En):List Nat:=aH x.kind.toNat++if x.kind=2 then bU x.type++bU x.body else bU x.sort++cU x.params++cU x.indices++(aH x.ctors.length++x.ctors.flatMap gF)
def iI (p:Int×Int):List Nat:=aH p.1.toNat++aH p.2.toNat
def qX (b:Bk):List Nat :=
 aH b.vars.toNat++(aH b.orders.length++b.orders.flatMap eU)++(aH b.entries.length++b.entries.flatMap cK)++aH (b.nat+1).toNat++(aH b.prims.length++b.prims.flatMap iI)
def rS (b:Bk) (m t:List Nd):List Nat:=qX b++bU m++bU t
abbrev bL (α:Type):=Rd->α×Rd
def bL.seq {α β:Type} (f:bL α) (g:α->bL β):bL β:=fun s=>g (f s).1 (f s).2
def bL.pure {α:Type} (x:α):bL α:=fun s=>(x,s)
structure bL.Stays {α:Type} (f:bL α):Prop where
 err:∀ s,s.err ≠ 0->(f s).2=s
 odd:∀ s,s.odd=true->(f s).2.odd=true
structure cJ {α:Type} (f:bL α) (e:α->List Nat) (P:α->Prop):Prop where
 stays:f.Stays
 form:∀ x r,P x->f ⟨e x++r,0,false⟩=(x,⟨r,0,false⟩)
 cut:∀ x p,P x->p<(e x).length->(f ⟨(e x).take p,0,false⟩).2.err=4/\(f ⟨(e x).take p,0,false⟩).2.odd=false
 back:∀ s,(∀ c ∈ s.rest,c<256)->(f s).2.err=0->(f s).2.odd=false->s.err=0/\s.odd=false/\s.rest=e (f s).1++(f s).2.rest/\P (f s).1
 bytes:∀ x,∀ c ∈ e x,c<256
theorem sC {A B:List Nat} {p:Nat}:(A++B).take p=if p<A.length then A.take p else A++B.take (p-A.length):=by
 split
 · rw [List.take_append_of_le_length aA]
 rw [List.take_append,List.take_of_length_le aA]
theorem bL.Stays.seq {α β:Type} {f:bL α} {g:α->bL β} (hf:f.Stays) (hg:∀ x,(g x).Stays):(f.seq g).Stays :=
 ⟨fun s h=>((hg _).err _ (by rw [hf.err s h];exact h)).trans (hf.err s h),fun s h=>(hg _).odd _ (hf.odd s h)⟩
theorem cJ.two {α β γ:Type} {f:bL α} {g:bL β} {e:α->List Nat} {e':β->List Nat} {P:α->Prop} {P':β->Prop} (hf:cJ f e P) (hg:cJ g e' P') (mk:α->β->γ) (p1:γ->α) (p2:γ->β) (h1:∀ x y,p1 (mk x y)=x) (h2:∀ x y,p2 (mk x y)=y) (h3:∀ z,mk (p1 z) (p2 z)=z) :
 cJ (f.seq fun x=>g.seq fun y=>bL.pure (mk x y)) (fun z=>e (p1 z)++e' (p2 z)) (fun z=>P (p1 z)/\P' (p2 z)) where
 stays:=hf.stays.seq fun _=>hg.stays.seq fun _=>⟨fun _ _=>rfl,fun _ h=>h⟩
 form z r hz:=by
  simp only [bL.seq,bL.pure,List.append_assoc];rw [hf.form _ _ hz.1];dsimp only;rw [hg.form _ _ hz.2,h3]
 cut z p hz hp:=by
  simp only [bL.seq,bL.pure];rw [sC];split
  · rename_i hlt
    have h:=hf.cut _ p hz.1 hlt;rw [hg.stays.err _ (by rw [h.1];decide)];exact h
  rename_i hlt
  rw [hf.form _ _ hz.1];dsimp only;simp only [List.length_append] at hp;exact hg.cut _ _ hz.2 aA
 back s hb he ho:=by
  simp only [bL.seq,bL.pure] at he ho ⊢;have e1:(f s).2.err=0:=Classical.byContradiction fun h=>by rw [hg.stays.err _ h] at he;exact h he
  have o1:(f s).2.odd=false:=by
   cases h:(f s).2.odd
   · rfl
   rw [hg.stays.odd _ h] at ho;cases ho
  obtain ⟨a1,a2,a3,a4⟩:=hf.back s hb e1 o1;obtain ⟨_,_,b3,b4⟩:=hg.back _ (fun c hc=>hb c (by rw [a3];exact List.mem_append_right _ hc)) he ho;refine ⟨a1,a2,?_,?_⟩
  · rw [h1,h2,List.append_assoc,<-b3];exact a3
  rw [h1,h2];exact ⟨a4,b4⟩
 bytes z c hc:=by
  rcases List.mem_append.1 hc with h | h
  · exact hf.bytes _ c h
  exact hg.bytes _ c h
theorem cJ.dep {α β:Type} {f:bL α} {g:α->bL β} {e:α->List Nat} {e':α->β->List Nat} {P:α->Prop} {P':α->β->Prop} (hf:cJ f e P) (hg:∀ x,cJ (g x) (e' x) (P' x)) (key:β->α) (hk:∀ x y,P' x y->key y=x) :
 cJ (f.seq g) (fun y=>e (key y)++e' (key y) y) (fun y=>P (key y)/\P' (key y) y) where
 stays:=hf.stays.seq fun x=>(hg x).stays
 form y r hy:=by
  simp only [bL.seq,List.append_assoc];rw [hf.form _ _ hy.1];exact (hg _).form _ _ hy.2
 cut y p hy hp:=by
  simp only [bL.seq];rw [sC];split
  · rename_i hlt
    have h:=hf.cut _ p hy.1 hlt;rw [(hg _).stays.err _ (by rw [h.1];decide)];exact h
  rename_i hlt
  rw [hf.form _ _ hy.1];simp only [List.length_append] at hp;dsimp only;exact (hg _).cut _ _ hy.2 aA
 back s hb he ho:=by
  simp only [bL.seq] at he ho ⊢;have e1:(f s).2.err=0:=Classical.byContradiction fun h=>by rw [(hg _).stays.err _ h] at he;exact h he
  have o1:(f s).2.odd=false:=by
   cases h:(f s).2.odd
   · rfl
   rw [(hg _).stays.odd _ h] at ho;cases ho
  obtain ⟨a1,a2,a3,a4⟩:=hf.back s hb e1 o1;obtain ⟨_,_,b3,b4⟩:=(hg _).back _ (fun c hc=>hb c (by rw [a3];exact List.mem_append_right _ hc)) he ho;have hx:=hk _ _ b4;refine ⟨a1,a2,?_,?_⟩
  · rw [hx,List.append_assoc,<-b3];exact a3
  rw [hx];exact ⟨a4,b4⟩
 bytes y c hc:=by
  rcases List.mem_append.1 hc with h | h
  · exact hf.bytes _ c h
  exact (hg _).bytes _ c h
theorem cJ.map {α β:Type} {f:bL α} {e:α->List Nat} {P:α->Prop} (hf:cJ f e P) (mk:α->β) (p1:β->α) (h1:∀ x,p1 (mk x)=x) (P':β->Prop) (h2:∀ y,P' y->mk (p1 y)=y/\P (p1 y)) (h3:∀ x,P x->P' (mk x)):cJ (fun s=>(mk (f s).1,(f s).2)) (fun y=>e (p1 y)) P' where
 stays:=⟨hf.stays.err,hf.stays.odd⟩
 form y r hy:=by
  obtain ⟨a,b⟩:=h2 y hy;rw [hf.form _ _ b];dsimp only;rw [a]
 cut y p hy hp:=hf.cut _ _ (h2 y hy).2 hp
 back s hb he ho:=by
  obtain ⟨a1,a2,a3,a4⟩:=hf.back s hb he ho;exact ⟨a1,a2,by rw [h1];exact a3,h3 _ a4⟩
 bytes y c hc:=hf.bytes _ c hc
theorem cJ.weak {α:Type} {f:bL α} {e:α->List Nat} {P P':α->Prop} (hf:cJ f e P) (h:∀ x,P x ↔ P' x):cJ f e P' :=
 ⟨hf.stays,fun x r hx=>hf.form x r ((h x).2 hx),fun x p hx hp=>hf.cut x p ((h x).2 hx) hp,fun s hb he ho=>by
  obtain ⟨a1,a2,a3,a4⟩:=hf.back s hb he ho;exact ⟨a1,a2,a3,(h _).1 a4⟩,hf.bytes⟩
theorem cJ.write {α:Type} {f:bL α} {e e':α->List Nat} {P:α->Prop} (hf:cJ f e P) (h:∀ x,e' x=e x):cJ f e' P:=by
 have:e'=e:=funext h;rw [this];exact hf
theorem nQ {most:Nat} (hm:most<2 ^ 64):cJ (aJ most) aH (·<=most) where
 stays:=⟨fun s h=>by rw [eY h],fun s h=>by rw [bI];exact h⟩
 form x r hx:=xR hx hm r false
 cut x p hx hp:=by
  obtain ⟨a,b,_⟩:=AL hx hm hp false;exact ⟨a,b⟩
 back s hb he ho:=by
  obtain ⟨a,b,c⟩:=EK hb he;rw [bI] at ho;exact ⟨a,ho,c,b⟩
 bytes x c hc:=dJ x c hc
def aZ (most:Nat):bL Int:=fun s=>(((aJ most s).1:Int),(aJ most s).2)
theorem fP {most:Nat} (hm:most<2 ^ 64):cJ (aZ most) (fun z=>aH z.toNat) (fun z=>0<=z/\z<=most) :=
 (nQ hm).map (fun n=>(n:Int)) Int.toNat (fun x=>by simp) _ (fun y hy=>⟨by omega,by omega⟩) (fun x hx=>⟨by omega,by omega⟩)
def E6 (n:Nat):Int:=if n % 2=0 then ((n / 2:Nat):Int) else -((n / 2:Nat):Int)-1
theorem J7 (z:Int):E6 (mZ z)=z:=by
 unfold E6 mZ;split
 · split
   · omega
   omega
 split
 · omega
 omega
theorem J9 (n:Nat):mZ (E6 n)=n:=by
 unfold E6 mZ;split
 · rw [if_pos aA];omega
 rw [if_neg aA];omega
def gM:bL Int:=fun s=>(E6 (aJ 18446744073709551615 s).1,(aJ 18446744073709551615 s).2)
theorem u7:cJ gM (fun z=>aH (mZ z)) (fun z => -9223372036854775808<=z/\z<=9223372036854775807) :=
 (nQ (most:=18446744073709551615) (by decide)).map E6 mZ J9 _ (fun y hy=>⟨J7 y,by unfold mZ;split<;>omega⟩) (fun x hx=>by unfold E6;split<;>omega)
def aP {α:Type} (chk:Rd->Bool) (f:bL α):Nat->bL (List α)
 | 0,s=>([],s)
 | k+1,s=>if chk (f s).2 then ([],(f s).2) else if chk (aP chk f k (f s).2).2 then ([],(aP chk f k (f s).2).2) else ((f s).1::(aP chk f k (f s).2).1,(aP chk f k (f s).2).2)
def jH (s:Rd):Bool:=s.err != 0
def bK (s:Rd):Bool:=s.odd||s.err != 0
structure s8 (chk:Rd->Bool):Prop where
 err:∀ s,s.err ≠ 0->chk s=true
 well:∀ s,s.err=0->s.odd=false->chk s=false
theorem BU:s8 jH:=⟨fun s h=>by simpa [jH] using h,fun s h _=>by simpa [jH] using h⟩
theorem fB:s8 bK:=⟨fun s h=>by simp [bK,h],fun s h h2=>by simp [bK,h,h2]⟩
theorem dP {α:Type} {chk:Rd->Bool} {f:bL α} (hf:f.Stays) (hc:s8 chk) : ∀ k,(∀ s,s.err ≠ 0->aP chk f k s=([],s))/\(aP chk f k).Stays
 | 0=>⟨fun _ _=>rfl,⟨fun _ _=>rfl,fun _ h=>h⟩⟩
 | k+1=>by
  have h1:∀ s,s.err ≠ 0->aP chk f (k+1) s=([],s):=fun s h=>by
   simp only [aP];rw [hf.err s h,if_pos (hc.err s h)]
  refine ⟨h1,⟨fun s h=>by rw [h1 s h],fun s h => ?_⟩⟩;simp only [aP];split
  · exact hf.odd s h
  · split
    · exact (dP hf hc k).2.odd _ (hf.odd s h)
    exact (dP hf hc k).2.odd _ (hf.odd s h)
theorem pX {α:Type} {chk:Rd->Bool} {f:bL α} {e:α->List Nat} {P:α->Prop} (hf:cJ f e P) (hc:s8 chk) : ∀ k,cJ (aP chk f k) (fun xs=>xs.flatMap e) (fun xs=>xs.length=k/\∀ x ∈ xs,P x)
 | 0=>⟨(dP hf.stays hc 0).2,fun x r hx=>by
  obtain rfl:=List.eq_nil_of_length_eq_zero hx.1;rfl,fun x p hx hp=>by
  obtain rfl:=List.eq_nil_of_length_eq_zero hx.1;simp at hp,fun s hb he ho=>⟨he,ho,rfl,rfl,fun x hx=>by cases hx⟩,fun x c hc=>by
  obtain ⟨y,_,h⟩:=List.mem_flatMap.1 hc;exact hf.bytes y c h⟩
 | k+1=>by
  have ih:=pX hf hc k;refine ⟨(dP hf.stays hc (k+1)).2,fun xs r hx => ?_,fun xs p hx hp => ?_,fun s hb he ho => ?_,fun x c hc=>by
   obtain ⟨y,_,h⟩:=List.mem_flatMap.1 hc;exact hf.bytes y c h⟩
  · obtain ⟨x,xs,rfl⟩ : ∃ x t,xs=x::t:=by
     cases xs with
     | nil=>simp at hx
     | cons x t=>exact ⟨x,t,rfl⟩
    simp only [List.length_cons,Nat.add_right_cancel_iff,List.mem_cons,forall_eq_or_imp] at hx;simp only [aP,List.flatMap_cons,List.append_assoc];rw [hf.form _ _ hx.2.1];dsimp only;rw [hc.well _ rfl rfl,ih.form _ _ ⟨hx.1,hx.2.2⟩];dsimp only;rw [hc.well _ rfl rfl];rfl
  · obtain ⟨x,xs,rfl⟩ : ∃ x t,xs=x::t:=by
     cases xs with
     | nil=>simp at hx
     | cons x t=>exact ⟨x,t,rfl⟩
    simp only [List.length_cons,Nat.add_right_cancel_iff,List.mem_cons,forall_eq_or_imp] at hx;simp only [List.flatMap_cons] at hp ⊢;simp only [aP];rw [sC];split
    · rename_i hlt
      have h:=hf.cut _ p hx.2.1 hlt;rw [hc.err _ (by rw [h.1];decide)];exact h
    rename_i hlt
    rw [hf.form _ _ hx.2.1];dsimp only;simp only [List.length_append] at hp;have h:=ih.cut xs (p-(e x).length) ⟨hx.1,hx.2.2⟩ aA;rw [hc.well _ rfl rfl,hc.err _ (by rw [h.1];decide)];exact h
  · simp only [aP] at he ho ⊢;by_cases c1:chk (f s).2=true
    · rw [if_pos c1] at he ho;exfalso;have:=hc.well _ he ho;rw [this] at c1;cases c1
    rw [if_neg c1] at he ho ⊢;by_cases c2:chk (aP chk f k (f s).2).2=true
    · rw [if_pos c2] at he ho;exfalso;have:=hc.well _ he ho;rw [this] at c2;cases c2
    rw [if_neg c2] at he ho ⊢;dsimp only at he ho ⊢;have e1:(f s).2.err=0:=Classical.byContradiction fun h=>c1 (hc.err _ h);have o1:(f s).2.odd=false:=by
     cases h:(f s).2.odd
     · rfl
     rw [(dP hf.stays hc k).2.odd _ h] at ho;cases ho
    obtain ⟨a1,a2,a3,a4⟩:=hf.back s hb e1 o1;obtain ⟨_,_,b3,b4,b5⟩:=ih.back _ (fun c hc=>hb c (by rw [a3];exact List.mem_append_right _ hc)) he ho;refine ⟨a1,a2,?_,by simp [b4],fun x hx => ?_⟩
    · rw [List.flatMap_cons,List.append_assoc,<-b3];exact a3
    rcases List.mem_cons.1 hx with rfl | hx
    · exact a4
    exact b5 x hx
def bO {α:Type} (chk:Rd->Bool) (most:Nat) (f:bL α):bL (List α):=bL.seq (aJ most) fun n=>aP chk f n
theorem gV {α:Type} {chk:Rd->Bool} {f:bL α} {e:α->List Nat} {P:α->Prop} {most:Nat} (hm:most<2 ^ 64) (hf:cJ f e P) (hc:s8 chk):cJ (bO chk most f) (fun xs=>aH xs.length++xs.flatMap e) (fun xs=>xs.length<=most/\∀ x ∈ xs,P x) :=
 ((nQ hm).dep (fun n=>pX hf hc n) List.length (fun _ _ h=>h.1)).weak fun _=>⟨fun h=>⟨h.1,h.2.2⟩,fun h=>⟨h.1,rfl,h.2⟩⟩
def iW:bL Nd:=bL.seq (aZ 255) fun o=>bL.seq (aZ 1048576) fun a=>bL.seq (aZ 1048576) fun b=>bL.pure ⟨o,a,b⟩
def GU (n:Nd):Prop:=(0<=n.op/\n.op<=255)/\(0<=n.a/\n.a<=1048576)/\0<=n.b/\n.b<=1048576
theorem mB {α β γ δ:Type} {f:bL α} {g:bL β} {h:bL γ} {e1:α->List Nat} {e2:β->List Nat} {e3:γ->List Nat} {P1:α->Prop} {P2:β->Prop} {P3:γ->Prop} (hf:cJ f e1 P1) (hg:cJ g e2 P2) (hh:cJ h e3 P3) (mk:α->β->γ->δ) (p1:δ->α) (p2:δ->β) (p3:δ->γ) (h1:∀ x y z,p1 (mk x y z)=x) (h2:∀ x y z,p2 (mk x y z)=y) (h3:∀ x y z,p3 (mk x y z)=z) (h4:∀ d,mk (p1 d) (p2 d) (p3 d)=d) :
 cJ (bL.seq f fun x=>bL.seq g fun y=>bL.seq h fun z=>bL.pure (mk x y z)) (fun d=>e1 (p1 d)++(e2 (p2 d)++e3 (p3 d))) (fun d=>P1 (p1 d)/\P2 (p2 d)/\P3 (p3 d)) :=
 hf.two (hg.two hh Prod.mk Prod.fst Prod.snd (fun _ _=>rfl) (fun _ _=>rfl) fun _=>rfl) (fun x q=>mk x q.1 q.2) p1 (fun d=>(p2 d,p3 d)) (fun _ _=>h1 _ _ _) (fun _ q=>by rw [h2,h3]) fun d=>h4 d
theorem rX:cJ iW gG GU :=
 (mB (fP (most:=255) (by decide)) (fP (most:=1048576) (by decide)) (fP (most:=1048576) (by decide)) Nd.mk Nd.op Nd.a Nd.b (fun _ _ _=>rfl) (fun _ _ _=>rfl) (fun _ _ _=>rfl) fun _=>rfl).write fun n=>by simp [gG]
def bT:bL (List Nd):=bO jH 4096 iW
def m5 (t:List Nd):Prop:=t.length<=4096/\∀ n ∈ t,GU n
theorem fQ:cJ bT bU m5:=gV (by decide) rX BU
def eH:bL (List (List Nd)):=bO bK 255 bT
def p4 (ls:List (List Nd)):Prop:=ls.length<=255/\∀ t ∈ ls,m5 t
theorem gW:cJ eH cU p4:=gV (by decide) fQ fB
def eC:bL Nd:=bL.seq (aZ 255) fun o=>bL.seq gM fun a=>bL.seq (aZ 255) fun b=>bL.pure ⟨o,a,b⟩
def uW (n:Nd):Prop:=(0<=n.op/\n.op<=255)/\(-9223372036854775808<=n.a/\n.a<=9223372036854775807)/\0<=n.b/\n.b<=255
theorem pW:cJ eC eU uW :=
 (mB (fP (most:=255) (by decide)) u7 (fP (most:=255) (by decide)) Nd.mk Nd.op Nd.a Nd.b (fun _ _ _=>rfl) (fun _ _ _=>rfl) (fun _ _ _=>rfl) fun _=>rfl).write fun n=>by simp [eU]
def eK:bL Ct:=bL.seq eH fun a=>bL.seq eH fun o=>bL.pure ⟨a,o⟩
def tD (c:Ct):Prop:=p4 c.args/\p4 c.outs
theorem lB:cJ eK gF tD :=
 gW.two gW Ct.mk Ct.args Ct.outs (fun _ _=>rfl) (fun _ _=>rfl) fun _=>rfl
def dF:bL (Int×Int):=bL.seq (aZ 255) fun a=>bL.seq (aZ 255) fun o=>bL.pure (a,o)
def CF (p:Int×Int):Prop:=(0<=p.1/\p.1<=255)/\0<=p.2/\p.2<=255
theorem jV:cJ dF iI CF :=
 (fP (most:=255) (by decide)).two (fP (most:=255) (by decide)) Prod.mk Prod.fst Prod.snd (fun _ _=>rfl) (fun _ _=>rfl) fun _=>rfl
def fK (k:Int):bL En:=fun s =>
 if k=1 then (bL.seq bT fun so=>bL.seq eH fun ps=>bL.seq eH fun is=>bL.seq (bO bK 255 eK) fun cs=>bL.pure ⟨1,so,ps,is,cs,[],[]⟩) s
 else if k=2 then (bL.seq bT fun t=>bL.seq bT fun d=>bL.pure ⟨2,[],[],[],[],t,d⟩) s
 else (⟨k,[],[],[],[],[],[]⟩,⟨s.rest,s.err,s.odd||s.err==0⟩)
def bW:bL En:=bL.seq (aZ 2) fK
def nY (cs:List Ct):List Nat:=aH cs.length++cs.flatMap gF
def zF (cs:List Ct):Prop:=cs.length<=255/\∀ c ∈ cs,tD c
def JB (x:En):Prop:=x.kind=1/\(m5 x.sort/\p4 x.params/\p4 x.indices/\zF x.ctors)/\x.type=[]/\x.body=[]
def I0 (x:En):Prop:=x.kind=2/\(m5 x.type/\m5 x.body)/\x.sort=[]/\x.params=[]/\x.indices=[]/\x.ctors=[]
def kW (x:En):Prop:=JB x\/I0 x
theorem ER:cJ (bL.seq bT fun so=>bL.seq eH fun ps=>bL.seq eH fun is=>bL.seq (bO bK 255 eK) fun cs=>bL.pure (⟨1,so,ps,is,cs,[],[]⟩:En)) (fun x=>bU x.sort++(cU x.params++(cU x.indices++nY x.ctors))) JB:=by
 have h4:cJ (bO bK 255 eK) nY zF:=gV (by decide) lB fB;have h:=fQ.two (gW.two (gW.two h4 Prod.mk Prod.fst Prod.snd (fun _ _=>rfl) (fun _ _=>rfl) fun _=>rfl) Prod.mk Prod.fst Prod.snd (fun _ _=>rfl) (fun _ _=>rfl) fun _=>rfl) Prod.mk Prod.fst Prod.snd (fun _ _=>rfl) (fun _ _=>rfl) (fun _=>rfl);exact h.map (fun q=>(⟨1,q.1,q.2.1,q.2.2.1,q.2.2.2,[],[]⟩:En)) (fun x=>(x.sort,x.params,x.indices,x.ctors)) (fun _=>rfl) JB (fun y hy=>by
  obtain ⟨k,so,ps,is,cs,t,d⟩:=y;obtain ⟨h1,h2,h3,h4⟩:=hy;simp only at h1 h2 h3 h4;subst h1 h3 h4;exact ⟨rfl,h2⟩) fun x hx=>⟨rfl,hx,rfl,rfl⟩
theorem EQ:cJ (bL.seq bT fun t=>bL.seq bT fun d=>bL.pure (⟨2,[],[],[],[],t,d⟩:En)) (fun x=>bU x.type++bU x.body) I0:=by
 have h:=fQ.two fQ Prod.mk Prod.fst Prod.snd (fun _ _=>rfl) (fun _ _=>rfl) (fun _=>rfl);exact h.map (fun q=>(⟨2,[],[],[],[],q.1,q.2⟩:En)) (fun x=>(x.type,x.body)) (fun _=>rfl) I0 (fun y hy=>by
  obtain ⟨k,so,ps,is,cs,t,d⟩:=y;obtain ⟨h1,h2,h3,h4,h5,h6⟩:=hy;simp only at h1 h2 h3 h4 h5 h6;subst h1 h3 h4 h5 h6;exact ⟨rfl,h2⟩) fun x hx=>⟨rfl,hx,rfl,rfl,rfl,rfl⟩
theorem AP (k:Int):cJ (fK k) (fun x=>if k=2 then bU x.type++bU x.body else bU x.sort++(cU x.params++(cU x.indices++nY x.ctors))) (fun x=>x.kind=k/\kW x):=by
 by_cases h1:k=1
 · subst h1;have e:fK 1=_:=funext fun s=>if_pos rfl;rw [e];refine (ER.weak fun x=>⟨fun h=>⟨h.1,.inl h⟩,fun h => ?_⟩).write fun x=>if_neg (by decide);rcases h.2 with h2 | h2
   · exact h2
   have:=h2.1;rw [h.1] at this;cases this
 by_cases h2:k=2
 · subst h2;have e:fK 2=_:=funext fun s=>(if_neg (by decide)).trans (if_pos rfl);rw [e];refine (EQ.weak fun x=>⟨fun h=>⟨h.1,.inr h⟩,fun h => ?_⟩).write fun x=>if_pos rfl;rcases h.2 with h2 | h2
   · have:=h2.1;rw [h.1] at this;cases this
   exact h2
 have no:∀ x:En,¬ (x.kind=k/\kW x):=fun x h=>by
  rcases h.2 with h3 | h3
  · exact h1 (h.1.symm.trans h3.1)
  exact h2 (h.1.symm.trans h3.1)
 have e:∀ s,fK k s=(⟨k,[],[],[],[],[],[]⟩,⟨s.rest,s.err,s.odd||s.err==0⟩):=fun s=>(if_neg h1).trans (if_neg h2);refine ⟨⟨fun s hs => ?_,fun s hs => ?_⟩,fun x r hx=>absurd hx (no x),fun x p hx=>absurd hx (no x),fun s hb he ho => ?_,fun x c hc => ?_⟩
 · rw [e];have:(s.err==0)=false:=by simpa using hs
   simp only [this,Bool.or_false]
 · rw [e,hs];rfl
 · rw [e] at he ho;simp only at he ho;rw [he] at ho;simp at ho
 rw [if_neg h2] at hc;have h4:cJ (bO bK 255 eK) nY zF:=gV (by decide) lB fB;rcases List.mem_append.1 hc with h | h
 · exact fQ.bytes _ c h
 rcases List.mem_append.1 h with h | h
 · exact gW.bytes _ c h
 rcases List.mem_append.1 h with h | h
 · exact gW.bytes _ c h
 exact h4.bytes _ c h
theorem j8:cJ bW cK kW:=by
 have h:=(fP (most:=2) (by decide)).dep AP En.kind fun x y hy=>hy.1;refine (h.weak fun x=>⟨fun hx=>hx.2.2,fun hx=>⟨?_,rfl,hx⟩⟩).write fun x => ?_
 · rcases hx with hx | hx
   · rw [hx.1];decide
   rw [hx.1];decide
 unfold cK;split
 · rfl
 simp [nY]
end Go.Proofs.YtplecfbdchmogaaGreat
