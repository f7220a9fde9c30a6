/- Lemmas. -/
import Derived.Test.YtmhgnigpmompmaaGreatMk1
set_option linter.unusedVariables false
set_option linter.unusedSimpArgs false
set_option maxHeartbeats 16000000
namespace Go.Hp
open Go.RowKit
theorem AC.nat{w:World}{A:Option Addr}{n c:Nat}{b:Bool}{x:Int}(h:AC w (.agg #[.bool b,.slice A n c]) x):Bl w (.slice A n c) x.natAbs:=by
 obtain⟨A',c',e,_,_,k⟩:=h.form;simp only[Value.agg.injEq,Array.mk.injEq,List.cons.injEq,Value.slice.injEq]at e;obtain⟨_,⟨rfl,rfl,rfl⟩,_⟩:=e;exact k
def BL(n b:Nat):Prop:=n < 2^b/\(0 < b->2^(b - 1)<=n)
theorem BL.zero:BL 0 0:=⟨Ab,fun h=>absurd h Ab⟩
theorem BL.top{ds:List Nat}{j:Nat}(hd:AV ds)(hl:0 < ds.length)(h1:dg ds (ds.length - 1) < 2^j)(h2:0 < j)(h3:2^(j - 1)<=dg ds (ds.length - 1)):BL (nv ds) (32*(ds.length - 1)+j):=by
 have h:=AA ds (ds.length - 1);rw[List.take_of_length_le Aa]at h;have hb:=DW (hd.take (ds.length - 1));have hb2:bp (ds.take (ds.length - 1)).length<=bp (ds.length - 1):=Fx (by rw[List.length_take];omega);generalize dg ds (ds.length - 1)=d at *;have hp:=Cq (ds.length - 1);generalize hmm:ds.length - 1=m at *;constructor
 ·rw[h,Nat.pow_add,<-hp]
  have:bp m*(d+1)<=bp m*2^j:=Nat.mul_le_mul_left _ h1;rw[Nat.mul_add]at this;omega
 ·intro _
  rw[h,show 32*m+j - 1=32*m+(j - 1) by omega,Nat.pow_add,<-hp];have:bp m*2^(j - 1)<=bp m*d:=Nat.mul_le_mul_left _ h3;omega
theorem BL.le{n b m:Nat}(h:BL n b)(hm:n < 2^m):b<=m:=by
 rcases Nat.lt_or_ge m b with h1 | h1
 ·have h2:=h.2 Aa
  have:2^m<=2^(b - 1):=Nat.pow_le_pow_right Ab Aa;omega
 ·exact h1
def co(l:List Rat)(i:Nat):Rat:=l.getD i 0
def tl(F:Nat->Rat)(n:Nat):Rat:=F (n+1)
def cs(a:Rat)(F:Nat->Rat):Nat->Rat
 | 0=>a
 | n+1=>F n
def cv(F G:Nat->Rat):Nat->Rat
 | 0=>F 0*G 0
 | n+1=>F 0*G (n+1)+cv (tl F) G n
def pad(F G:Nat->Rat)(n:Nat):Rat:=F n+G n
def psb(F G:Nat->Rat)(n:Nat):Rat:=F n - G n
def psc(a:Rat)(F:Nat->Rat)(n:Nat):Rat:=a*F n
def pz(_:Nat):Rat:=0
def pone:Nat->Rat:=cs 1 pz
def Xk(F:Nat->Rat)(n:Nat):Rat:=(n:Rat)*F n
def pd(F:Nat->Rat)(n:Nat):Rat:=((n+1:Nat):Rat)*F (n+1)
theorem CJ(F G:Nat->Rat):cv F G 0=F 0*G 0:=by unfold cv;rfl
theorem BK(F G:Nat->Rat)(n:Nat):cv F G (n+1)=F 0*G (n+1)+cv (tl F) G n:=by rw[cv]
theorem Xm(F:Nat->Rat):cs (F 0) (tl F)=F:=by funext n;cases n<;>rfl
theorem j3(F G:Nat->Rat):tl (cv F G)=pad (psc (F 0) (tl G)) (cv (tl F) G):=by funext n;exact BK F G n
theorem YE(F G:Nat->Rat):tl (pad F G)=pad (tl F) (tl G):=rfl
theorem dQ(a:Rat)(F:Nat->Rat):tl (psc a F)=psc a (tl F):=rfl
theorem jL:tl pz=pz:=rfl
theorem Jz(F:Nat->Rat):cv F pz=pz:=by
 funext n
 induction n generalizing F with
 | zero=>rw[CJ];exact Rat.mul_zero _
 | succ n ih=>rw[BK,ih];show F 0*0+0=0;grind
theorem Cv(F:Nat->Rat):cv pz F=pz:=by
 funext n
 induction n with
 | zero=>rw[CJ];exact Rat.zero_mul _
 | succ n ih=>rw[BK,jL,ih];show 0*_+0=0;grind
theorem F8(F G H:Nat->Rat):cv F (pad G H)=pad (cv F G) (cv F H):=by
 funext n
 induction n generalizing F with
 | zero=>simp only[CJ,pad];grind
 | succ n ih=>have:=ih (tl F);simp only[BK,pad]at this ⊢;rw[this];grind
theorem D5(F G H:Nat->Rat):cv (pad F G) H=pad (cv F H) (cv G H):=by
 funext n
 induction n generalizing F G with
 | zero=>simp only[CJ,pad];grind
 | succ n ih=>have:=ih (tl F) (tl G);simp only[BK,YE,this];simp only[pad,BK];grind
theorem NC(a:Rat)(F G:Nat->Rat):cv F (psc a G)=psc a (cv F G):=by
 funext n
 induction n generalizing F with
 | zero=>simp only[CJ,psc];grind
 | succ n ih=>have:=ih (tl F);simp only[BK,psc]at this ⊢;rw[this];grind
theorem Cz(a:Rat)(F G:Nat->Rat):cv (psc a F) G=psc a (cv F G):=by
 funext n
 induction n generalizing F with
 | zero=>simp only[CJ,psc];grind
 | succ n ih=>have:=ih (tl F);simp only[BK,dQ,this];simp only[psc,BK];grind
theorem Qf(F G:Nat->Rat):psb F G=pad F (psc (-1) G):=by funext n;simp only[psb,pad,psc];grind
theorem FR(F G H:Nat->Rat):cv (psb F G) H=psb (cv F H) (cv G H):=by rw[Qf,Qf,D5,Cz]
theorem Qv(F G:Nat->Rat)(n:Nat):cv F G (n+1)=cv F (tl G) n+F (n+1)*G 0:=by
 induction n generalizing F with
 | zero=>simp only[BK,CJ,tl]
 | succ n ih=>rw[BK,ih,BK];simp only[tl];grind
theorem AX(F G:Nat->Rat):cv F G=cv G F:=by
 funext n
 induction n generalizing F G with
 | zero=>simp only[CJ];grind
 | succ n ih=>rw[BK,Qv,ih];grind
theorem Ai(F G H:Nat->Rat):cv (cv F G) H=cv F (cv G H):=by
 funext n
 induction n generalizing F with
 | zero=>simp only[CJ];grind
 | succ n ih =>
  rw[BK,j3,D5,Cz];have h1:∀ A B:Nat->Rat,pad A B n=A n+B n:=fun _ _=>rfl;have h2:∀(a:Rat) (B:Nat->Rat),psc a B n=a*B n:=fun _ _=>rfl;rw[h1,h2,ih,BK F,BK G,CJ];grind
theorem Ck(F:Nat->Rat):cv pone F=F:=by
 funext n
 cases n with
 | zero=>rw[CJ];show 1*_=_;grind
 | succ n=>rw[BK];show 1*_+cv pz F n=_;rw[Cv];show _+0=_;grind
theorem I4(F:Nat->Rat):cv F pone=F:=by rw[AX,Ck]
theorem Lx(a:Rat)(F G:Nat->Rat):cv (cs a F) G=pad (psc a G) (cs 0 (cv F G)):=by
 funext n
 cases n with
 | zero=>rw[CJ];show a*_=a*_+0;grind
 | succ n=>rw[BK];rfl
theorem Xp(F G:Nat->Rat):cv (cs 0 F) G=cs 0 (cv F G):=by
 rw[Lx]
 funext n
 show 0*G n+_=_;grind
/-! ### sums -/
def sm(n:Nat)(f:Nat->Rat):Rat:=match n with
 | 0=>0
 | n+1=>sm n f+f n
theorem EO(f:Nat->Rat):sm 0 f=0:=rfl
theorem Br(n:Nat)(f:Nat->Rat):sm (n+1) f=sm n f+f n:=rfl
theorem CF{n:Nat}{f g:Nat->Rat}(h:∀ i,i < n->f i=g i):sm n f=sm n g:=by
 induction n with
 | zero=>rfl
 | succ n ih=>rw[Br,Br,ih (fun i hi=>h i Aa),h n Aa]
theorem Rb(n:Nat)(f:Nat->Rat):sm (n+1) f=f 0+sm n (fun i=>f (i+1)):=by
 induction n with
 | zero=>simp only[Br,EO];grind
 | succ n ih=>rw[Br,ih,Br n];grind
theorem Mv(n:Nat):sm n (fun _=>0)=0:=by
 induction n with
 | zero=>rfl
 | succ n ih=>rw[Br,ih];grind
theorem iA(n:Nat)(f g:Nat->Rat):sm n (fun i=>f i+g i)=sm n f+sm n g:=by
 induction n with
 | zero=>simp only[EO];grind
 | succ n ih=>rw[Br,ih,Br,Br];grind
theorem Tv(n:Nat)(a:Rat)(f:Nat->Rat):sm n (fun i=>a*f i)=a*sm n f:=by
 induction n with
 | zero=>simp only[EO];grind
 | succ n ih=>rw[Br,ih,Br];grind
theorem QA(F G:Nat->Rat)(n:Nat):cv F G n=sm (n+1) (fun i=>F i*G (n - i)):=by
 induction n generalizing F with
 | zero=>rw[CJ,Br,EO];grind
 | succ n ih =>
  rw[BK,ih,Rb (n+1)];congr 1
  apply CF
  intro i hi;show F (i+1)*_=F (i+1)*G (n+1 - (i+1));rw[show n+1 - (i+1)=n - i from by omega]
/-! ### degrees -/
def Bq(n:Nat)(F:Nat->Rat):Prop:=∀ i,n<=i->F i=0
theorem Bq.mono{n m:Nat}{F:Nat->Rat}(h:Bq n F)(k:n<=m):Bq m F:=fun i hi=>h i Aa
theorem Bq.tl{n:Nat}{F:Nat->Rat}(h:Bq (n+1) F):Bq n (tl F):=fun i hi=>h (i+1) Aa
theorem Bq.pad{n:Nat}{F G:Nat->Rat}(h:Bq n F)(k:Bq n G):Bq n (pad F G):=fun i hi=>by show F i+G i=0;rw[h i hi,k i hi];grind
theorem Bq.psb{n:Nat}{F G:Nat->Rat}(h:Bq n F)(k:Bq n G):Bq n (psb F G):=fun i hi=>by show F i - G i=0;rw[h i hi,k i hi];grind
theorem Bq.psc{n:Nat}{F:Nat->Rat}(a:Rat)(h:Bq n F):Bq n (psc a F):=fun i hi=>by show a*F i=0;rw[h i hi];exact Rat.mul_zero _
theorem Bq.pz(n:Nat):Bq n pz:=fun _ _=>rfl
theorem Bq.cs{n:Nat}{F:Nat->Rat}(a:Rat)(h:Bq n F):Bq (n+1) (cs a F):=fun i hi=>by
 obtain⟨i,rfl⟩:∃ j,i=j+1:=⟨i - 1,Aa⟩
 exact h i Aa
theorem Bq.zero{F:Nat->Rat}(h:Bq 0 F):F=Hp.pz:=by funext i;exact h i (Nat.zero_le _)
theorem Bq.cv{n m:Nat}{F G:Nat->Rat}(h:Bq n F)(k:Bq m G):Bq (n+m - 1) (cv F G):=by
 induction n generalizing F with
 | zero=>rw[h.zero,Cv];exact fun _ _=>rfl
 | succ n ih =>
  intro i hi;have h1:=ih h.tl;cases i with
  | zero =>
   rw[CJ,k 0 Aa];exact Rat.mul_zero _
  | succ i =>
   rw[BK,k (i+1) Aa];rcases Nat.eq_zero_or_pos n with h0 | h0
   ·subst h0;rw[h.tl.zero,Cv];show _*0+0=0;grind
   ·rw[h1 i Aa];grind
theorem TG{n m:Nat}{F G:Nat->Rat}(h:Bq (n+1) F)(k:Bq (m+1) G):cv F G (n+m)=F n*G m:=by
 induction n generalizing F with
 | zero =>
  cases m with
  | zero=>rw[CJ]
  | succ m=>rw[Nat.zero_add,BK,h.tl.zero,Cv];show _+0=_;grind
 | succ n ih =>
  have:=ih h.tl;rw[show n+1+m=n+m+1 from Aa,BK,this,k (n+m+1) Aa];show _*0+F (n+1)*G m=_;grind
theorem KS(l:List Rat):Bq l.length (co l):=fun i hi=>by unfold co;rw[List.getD_eq_getElem?_getD,List.getElem?_eq_none hi];rfl
theorem PU:co []=pz:=rfl
theorem Fb{l:List Rat}{i:Nat}(h:i < l.length):co l i=l[i]:=by unfold co;rw[List.getD_eq_getElem?_getD,List.getElem?_eq_getElem h];rfl
def Ae(F:Nat->Rat):Prop:=∃ n,Bq n F
theorem Mx{p:Nat->Prop}(h:∃ n,p n):∃ n,p n/\∀ m,m < n->¬ p m:=by
 obtain⟨n,hn⟩:=h;induction n using Nat.strongRecOn with
 | _ n ih =>
  by_cases hm:∃ m,m < n/\p m
  ·obtain⟨m,h1,h2⟩:=hm;exact ih m h1 h2
  ·exact⟨n,hn,fun m h1 h2=>hm ⟨m,h1,h2⟩⟩
open Classical in
/-- One more than the degree;0 of 0. -/
noncomputable def pl(F:Nat->Rat):Nat:=if h:Ae F then(Mx h).choose else 0
theorem AB{F:Nat->Rat}(h:Ae F):Bq (pl F) F:=by
 unfold pl;rw[dif_pos h];exact(Mx h).choose_spec.1
theorem BX{F:Nat->Rat}{n:Nat}(h:Bq n F):pl F<=n:=by
 have hf:Ae F:=⟨n,h⟩
 rcases Nat.lt_or_ge n (pl F)with hlt | hge
 ·unfold pl at hlt;rw[dif_pos hf]at hlt
  exact absurd h ((Mx hf).choose_spec.2 n hlt)
 ·exact hge
theorem EH{F:Nat->Rat}(h:Ae F)(h0:0 < pl F):F (pl F - 1)≠0:=by
 intro e;have:=BX (F:=F) (n:=pl F - 1) fun i hi=>by
  rcases Nat.eq_or_lt_of_le hi with e' | e'
  ·rw[<-e'];exact e
  ·exact AB h i Aa
 omega
theorem Jr{F:Nat->Rat}{n:Nat}(h:Bq n F)(h0:0 < n->F (n - 1)≠0):pl F=n:=by
 have h1:=BX h;rcases Nat.lt_or_ge (pl F) n with hlt | hge
 ·exact absurd (AB ⟨n,h⟩ (n - 1) Aa) (h0 Aa)
 ·omega
theorem BJ:pl pz=0:=by have:=BX (Bq.pz 0);omega
theorem BF{F:Nat->Rat}(h:Ae F):pl F=0↔F=pz:=by
 constructor
 ·intro e;have:=AB h;rw[e]at this;exact this.zero
 ·rintro rfl;exact BJ
theorem Ae.pad{F G:Nat->Rat}(h:Ae F)(k:Ae G):Ae (pad F G):=by
 obtain⟨n,h⟩:=h;obtain⟨m,k⟩:=k;exact⟨max n m,(h.mono Aa).pad (k.mono Aa)⟩
theorem Ae.psb{F G:Nat->Rat}(h:Ae F)(k:Ae G):Ae (psb F G):=by
 obtain⟨n,h⟩:=h;obtain⟨m,k⟩:=k;exact⟨max n m,(h.mono Aa).psb (k.mono Aa)⟩
theorem Ae.psc{F:Nat->Rat}(a:Rat)(h:Ae F):Ae (psc a F):=by obtain⟨n,h⟩:=h;exact⟨n,h.psc a⟩
theorem Ae.cv{F G:Nat->Rat}(h:Ae F)(k:Ae G):Ae (cv F G):=by obtain⟨n,h⟩:=h;obtain⟨m,k⟩:=k;exact⟨_,h.cv k⟩
theorem Ae.pz:Ae pz:=⟨0,Bq.pz 0⟩
theorem Ae.co(l:List Rat):Ae (co l):=⟨_,KS l⟩
theorem Ae.cs{F:Nat->Rat}(a:Rat)(h:Ae F):Ae (cs a F):=by obtain⟨n,h⟩:=h;exact⟨n+1,h.cs a⟩
theorem Ee{F G:Nat->Rat}(h:Ae F)(k:Ae G)(hF:F≠pz)(hG:G≠pz):pl (cv F G)=pl F+pl G - 1:=by
 have p1:0 < pl F:=Nat.pos_of_ne_zero fun e=>hF ((BF h).1 e);have p2:0 < pl G:=Nat.pos_of_ne_zero fun e=>hG ((BF k).1 e);refine Jr ((AB h).cv (AB k)) fun _=>?_;have h1:=AB h;have h2:=AB k;have e:=TG (n:=pl F - 1) (m:=pl G - 1) (F:=F) (G:=G) (by rw[show pl F - 1+1=pl F from by omega];exact h1) (by rw[show pl G - 1+1=pl G from by omega];exact h2);rw[show pl F+pl G - 1 - 1=pl F - 1+(pl G - 1)from Aa,e]
 intro h0;rcases Rat.mul_eq_zero.1 h0 with h0 | h0
 ·exact EH h p1 h0
 ·exact EH k p2 h0
theorem JU{F G:Nat->Rat}(h:Ae F)(k:Ae G)(e:cv F G=pz):F=pz\/G=pz:=by
 by_cases hF:F=pz
 ·exact .inl hF
 ·by_cases hG:G=pz
  ·exact .inr hG
  ·have:=Ee h k hF hG
   rw[e,BJ]at this;have p1:0 < pl F:=Nat.pos_of_ne_zero fun e=>hF ((BF h).1 e);have p2:0 < pl G:=Nat.pos_of_ne_zero fun e=>hG ((BF k).1 e);have:=Jr (F:=F) (n:=1) (fun i hi=>?_) (fun _=>?_)
   ·exact absurd (by
     have hF1:F 0≠0:=by have:=EH h p1;rwa[show pl F - 1=0 from by omega]at this
     have hG1:G 0≠0:=by have:=EH k p2;rwa[show pl G - 1=0 from by omega]at this
     have h0:cv F G 0=0:=by rw[e];rfl
     rw[CJ]at h0;rcases Rat.mul_eq_zero.1 h0 with h0 | h0
     ·exact hF1 h0
     ·exact hG1 h0) not_false
   ·have:pl F=1:=by omega
    exact AB h i Aa
   ·have:=EH h p1
    rwa[show pl F - 1=0 from by omega]at this
/-! ### division -/
theorem Ma{F G Q R Q' R':Nat->Rat}(hG:Ae G)(hQ:Ae Q)(hQ':Ae Q')(h0:G≠pz)(h:F=pad (cv Q G) R)(h':F=pad (cv Q' G) R')(hR:Bq (pl G - 1) R)(hR':Bq (pl G - 1) R'):Q=Q'/\R=R':=by
 have p2:0 < pl G:=Nat.pos_of_ne_zero fun e=>h0 ((BF hG).1 e);have e1:cv (psb Q Q') G=psb R' R:=by
  rw[FR]
  funext n
  have:=congrFun (h.symm.trans h') n;simp only[pad,psb]at this ⊢;grind
 have hs:Bq (pl G - 1) (cv (psb Q Q') G):=by rw[e1];exact hR'.psb hR
 have hz:psb Q Q'=pz:=by
  by_cases hz:psb Q Q'=pz
  ·exact hz
  ·have h1:=Ee (hQ.psb hQ') hG hz h0
   have h2:=BX hs;have p1:0 < pl (psb Q Q'):=Nat.pos_of_ne_zero fun e=>hz ((BF (hQ.psb hQ')).1 e);omega
 constructor
 ·funext n
  have:=congrFun hz n;simp only[psb,pz]at this;grind
 ·rw[hz,Cv]at e1
  funext n
  have:=congrFun e1 n;simp only[psb,pz]at this;grind
/-! ### derivations -/
theorem dI(F:Nat->Rat):tl (Xk F)=pad (Xk (tl F)) (tl F):=by
 funext n
 simp only[tl,Xk,pad];have:((n+1:Nat):Rat)=(n:Rat)+1:=by simp
 rw[this];grind
theorem bJ(F G:Nat->Rat):Xk (cv F G)=pad (cv (Xk F) G) (cv F (Xk G)):=by
 funext n
 induction n generalizing F with
 | zero =>
  simp only[Xk,pad,CJ];have:((0:Nat):Rat)=0:=rfl;rw[this];grind
 | succ n ih =>
  have h:=ih (tl F);have h1:∀ A B:Nat->Rat,∀ m,pad A B m=A m+B m:=fun _ _ _=>rfl;have h2:∀(A:Nat->Rat) m,Xk A m=(m:Rat)*A m:=fun _ _=>rfl;rw[h1,h2]at h;rw[h1,h2,BK,BK,BK,dI,D5,h1,h2,h2];have e:((n+1:Nat):Rat)=(n:Rat)+1:=by simp
  have e0:((0:Nat):Rat)=0:=rfl;rw[e,e0];grind
theorem X9(F:Nat->Rat):pd F=tl (Xk F):=rfl
theorem Kk(F G:Nat->Rat):pd (cv F G)=pad (cv (pd F) G) (cv F (pd G)):=by
 funext n
 rw[X9,bJ,YE];show cv (Xk F) G (n+1)+cv F (Xk G) (n+1)=cv (pd F) G n+cv F (pd G) n;have e0:((0:Nat):Rat)=0:=rfl;rw[BK,Qv,<-X9,<-X9];show((0:Nat):Rat)*F 0*_+_+(_+_*(((0:Nat):Rat)*G 0))=_;rw[e0];grind
/-! ### values -/
def CR:Nat->(Nat->Rat)->Rat->Rat
 | 0,_,_=>0
 | n+1,F,x=>F 0+x*CR n (tl F) x
theorem Tu(n:Nat)(x:Rat):CR n pz x=0:=by
 induction n with
 | zero=>rfl
 | succ n ih=>show 0+x*CR n pz x=0;rw[ih];grind
theorem LW{n m:Nat}{F:Nat->Rat}(h:Bq n F)(k:n<=m)(x:Rat):CR m F x=CR n F x:=by
 induction n generalizing F m with
 | zero=>rw[h.zero,Tu];rfl
 | succ n ih =>
  obtain⟨m,rfl⟩:∃ j,m=j+1:=⟨m - 1,Aa⟩
  show F 0+x*CR m (tl F) x=F 0+x*CR n (tl F) x;rw[ih h.tl Aa]
noncomputable def ev(F:Nat->Rat)(x:Rat):Rat:=CR (pl F) F x
theorem EA{n:Nat}{F:Nat->Rat}(h:Bq n F)(x:Rat):ev F x=CR n F x:=(LW (AB ⟨n,h⟩) (BX h) x).symm
theorem U0(n:Nat)(F G:Nat->Rat)(x:Rat):CR n (pad F G) x=CR n F x+CR n G x:=by
 induction n generalizing F G with
 | zero=>show(0:Rat)=0+0;grind
 | succ n ih =>
  show F 0+G 0+x*CR n (pad (tl F) (tl G)) x=F 0+x*CR n (tl F) x+(G 0+x*CR n (tl G) x);rw[ih];grind
theorem Z7(n:Nat)(a:Rat)(F:Nat->Rat)(x:Rat):CR n (psc a F) x=a*CR n F x:=by
 induction n generalizing F with
 | zero=>show(0:Rat)=a*0;grind
 | succ n ih =>
  show a*F 0+x*CR n (psc a (tl F)) x=a*(F 0+x*CR n (tl F) x);rw[ih];grind
theorem IK{F G:Nat->Rat}(h:Ae F)(k:Ae G)(x:Rat):ev (pad F G) x=ev F x+ev G x:=by
 obtain⟨n,h⟩:=h;obtain⟨m,k⟩:=k;have h1:=h.mono (Nat.le_max_left n m);have k1:=k.mono (Nat.le_max_right n m);rw[EA (h1.pad k1),EA h1,EA k1,U0]
theorem FM{F:Nat->Rat}(a:Rat)(h:Ae F)(x:Rat):ev (psc a F) x=a*ev F x:=by
 obtain⟨n,h⟩:=h;rw[EA (h.psc a),EA h,Z7]
theorem eO{F G:Nat->Rat}(h:Ae F)(k:Ae G)(x:Rat):ev (psb F G) x=ev F x - ev G x:=by
 rw[Qf,IK h (k.psc _),FM _ k];grind
theorem QI(x:Rat):ev pz x=0:=by unfold ev;rw[Tu]
theorem Oc{F:Nat->Rat}(a:Rat)(h:Ae F)(x:Rat):ev (cs a F) x=a+x*ev F x:=by
 obtain⟨n,h⟩:=h;rw[EA (h.cs a),EA h];rfl
theorem Ei{F G:Nat->Rat}(h:Ae F)(k:Ae G)(x:Rat):ev (cv F G) x=ev F x*ev G x:=by
 obtain⟨n,h⟩:=h;induction n generalizing F with
 | zero=>rw[h.zero,Cv,QI];grind
 | succ n ih =>
  have e:=Lx (F 0) (tl F) G;rw[Xm]at e;have hf:Ae (tl F):=⟨n,h.tl⟩
  rw[e,IK (k.psc _) ((hf.cv k).cs 0),FM _ k,Oc 0 (hf.cv k),ih h.tl];have e2:=Oc (F 0) hf x;rw[Xm]at e2;rw[e2];grind
noncomputable def ld(F:Nat->Rat):Rat:=F (pl F - 1)
def mono(k:Nat)(a:Rat)(n:Nat):Rat:=if n=k then a else 0
def sh(k:Nat)(F:Nat->Rat)(n:Nat):Rat:=if n < k then 0 else F (n - k)
theorem ER(k:Nat)(a:Rat):Bq (k+1) (mono k a):=fun i hi=>by unfold mono;rw[if_neg Aa]
theorem K4(k:Nat)(a:Rat):mono k a k=a:=if_pos rfl
theorem F3{k i:Nat}{a:Rat}(h:i≠k):mono k a i=0:=if_neg h
theorem YL(F:Nat->Rat):sh 0 F=F:=by funext n;unfold sh;rw[if_neg Aa];rfl
theorem ZX(k:Nat)(F:Nat->Rat):sh (k+1) F=cs 0 (sh k F):=by
 funext n
 cases n with
 | zero=>unfold sh;rw[if_pos Aa];rfl
 | succ n =>
  show sh (k+1) F (n+1)=sh k F n;unfold sh;by_cases h:n < k
  ·rw[if_pos h,if_pos Aa]
  ·rw[if_neg h,if_neg Aa,show n+1 - (k+1)=n - k from by omega]
theorem Vr(k:Nat)(a:Rat):mono (k+1) a=cs 0 (mono k a):=by
 funext n
 cases n with
 | zero=>unfold mono;rw[if_neg Aa];rfl
 | succ n =>
  show mono (k+1) a (n+1)=mono k a n;unfold mono;by_cases h:n=k
  ·rw[if_pos h,if_pos Aa]
  ·rw[if_neg h,if_neg Aa]
theorem Vd(a:Rat):mono 0 a=cs a pz:=by funext n;cases n<;>rfl
theorem Gf(k:Nat)(a:Rat)(F:Nat->Rat):cv (mono k a) F=psc a (sh k F):=by
 induction k with
 | zero=>rw[Vd,Lx,Cv,YL];funext n;cases n<;>simp only[pad,psc,cs,pz]<;>grind
 | succ k ih=>rw[Vr,Xp,ih,ZX];funext n;cases n<;>simp only[psc,cs]<;>grind
theorem Ae.mono(k:Nat)(a:Rat):Ae (mono k a):=⟨_,ER k a⟩
theorem CW{F:Nat->Rat}(h:Ae F)(h0:F≠pz):ld F≠0:=EH h (Nat.pos_of_ne_zero fun e=>h0 ((BF h).1 e))
theorem AQ{F:Nat->Rat}(h:Ae F)(h0:F≠pz):0 < pl F:=Nat.pos_of_ne_zero fun e=>h0 ((BF h).1 e)
theorem EW{n:Nat}{R G:Nat->Rat}(hG:Ae G)(h0:G≠pz)(hR:Bq (n+pl G) R):Bq (n+pl G - 1) (psb R (cv (mono n (R (n+pl G - 1) / ld G)) G)):=by
 have hp:=AQ hG h0;have hl:=CW hG h0;intro i hi;rw[Gf];show R i - _*sh n G i=0;unfold sh;rw[if_neg Aa];rcases Nat.eq_or_lt_of_le hi with e | e
 ·rw[<-e,show n+pl G - 1 - n=pl G - 1 from by omega]
  show _ - _ / ld G*ld G=0;grind
 ·rw[hR i Aa,AB hG (i - n) Aa];grind
theorem GX{F G:Nat->Rat}(hF:Ae F)(hG:Ae G)(h0:G≠pz):∃ Q R,Ae Q/\F=pad (cv Q G) R/\Bq (pl G - 1) R:=by
 have hp:=AQ hG h0
 suffices H:∀ n (F:Nat->Rat),Bq (n+pl G - 1) F->∃ Q R,Ae Q/\F=pad (cv Q G) R/\Bq (pl G - 1) R from by
  obtain⟨n,hn⟩:=hF;exact H n F (hn.mono Aa)
 intro n;induction n with
 | zero=>intro F h;exact⟨pz,F,Ae.pz,by rw[Cv];funext n;simp only[pad,pz];grind,by rwa[Nat.zero_add]at h⟩
 | succ n ih =>
  intro F h;obtain⟨Q,R,h1,h2,h3⟩:=ih _ (EW (n:=n) hG h0 (show Bq (n+pl G) F from h.mono Aa));refine⟨pad (mono n (F (n+pl G - 1) / ld G)) Q,R,(Ae.mono _ _).pad h1,?_,h3⟩;rw[D5]
  funext m
  have:=congrFun h2 m;simp only[pad,psb]at this ⊢;grind
open Classical in
/-- Quotient and remainder. -/
noncomputable def pq(F G:Nat->Rat):Nat->Rat:=if h:Ae F/\Ae G/\G≠pz then(GX h.1 h.2.1 h.2.2).choose else pz
noncomputable def pr(F G:Nat->Rat):Nat->Rat:=psb F (cv (pq F G) G)
theorem Dy(F G:Nat->Rat):Ae (pq F G):=by
 unfold pq
 split
 ·rename_i h;exact(GX h.1 h.2.1 h.2.2).choose_spec.choose_spec.1
 ·exact Ae.pz
theorem EE{F G:Nat->Rat}(hF:Ae F)(hG:Ae G):Ae (pr F G):=hF.psb ((Dy F G).cv hG)
theorem KL(F G:Nat->Rat):F=pad (cv (pq F G) G) (pr F G):=by funext n;simp only[pad,pr,psb];grind
theorem Er{F G:Nat->Rat}(hF:Ae F)(hG:Ae G)(h0:G≠pz):Bq (pl G - 1) (pr F G):=by
 have h:Ae F/\Ae G/\G≠pz:=⟨hF,hG,h0⟩
 obtain⟨R,h1,h2,h3⟩:=(GX hF hG h0).choose_spec;have e:pq F G=(GX hF hG h0).choose:=by unfold pq;rw[dif_pos h]
 have e2:pr F G=R:=by
  unfold pr;rw[e]
  funext n
  have:=congrFun h2 n;simp only[psb,pad]at this ⊢;grind
 rw[e2];exact h3
theorem IL{F G Q R:Nat->Rat}(hF:Ae F)(hG:Ae G)(h0:G≠pz)(hQ:Ae Q)(h:F=pad (cv Q G) R)(hR:Bq (pl G - 1) R):Q=pq F G/\R=pr F G:=
 Ma hG hQ (Dy F G) h0 h (KL F G) hR (Er hF hG h0)
theorem Nn{F G:Nat->Rat}(hF:Ae F)(hG:Ae G)(h0:G≠pz):pq (cv F G) G=F/\pr (cv F G) G=pz:=by
 have:=IL (hF.cv hG) hG h0 hF (R:=pz) (by funext n;simp only[pad,pz];grind) (Bq.pz _);exact⟨this.1.symm,this.2.symm⟩
/-! ### divisors -/
def Dv(D F:Nat->Rat):Prop:=∃ Q,Ae Q/\F=cv Q D
theorem Dv.refl(F:Nat->Rat):Dv F F:=⟨pone,⟨1,(Bq.pz 0).cs 1⟩,(Ck F).symm⟩
theorem Dv.zero(D:Nat->Rat):Dv D pz:=⟨pz,Ae.pz,(Cv D).symm⟩
theorem Dv.trans{D E F:Nat->Rat}(h:Dv D E)(k:Dv E F):Dv D F:=by
 obtain⟨Q,hQ,rfl⟩:=h;obtain⟨S,hS,rfl⟩:=k;exact⟨cv S Q,hS.cv hQ,(Ai _ _ _).symm⟩
theorem Dv.pad{D F G:Nat->Rat}(h:Dv D F)(k:Dv D G):Dv D (pad F G):=by
 obtain⟨Q,hQ,rfl⟩:=h;obtain⟨S,hS,rfl⟩:=k;exact⟨Hp.pad Q S,hQ.pad hS,(D5 _ _ _).symm⟩
theorem Dv.psb{D F G:Nat->Rat}(h:Dv D F)(k:Dv D G):Dv D (psb F G):=by
 obtain⟨Q,hQ,rfl⟩:=h;obtain⟨S,hS,rfl⟩:=k;exact⟨Hp.psb Q S,hQ.psb hS,(FR _ _ _).symm⟩
theorem Dv.psc{D F:Nat->Rat}(a:Rat)(h:Dv D F):Dv D (psc a F):=by
 obtain⟨Q,hQ,rfl⟩:=h;exact⟨Hp.psc a Q,hQ.psc a,(Cz _ _ _).symm⟩
theorem Dv.mul{D F:Nat->Rat}(h:Dv D F){G:Nat->Rat}(hG:Ae G):Dv D (cv G F):=by
 obtain⟨Q,hQ,rfl⟩:=h;exact⟨cv G Q,hG.cv hQ,(Ai _ _ _).symm⟩
theorem C9(a b:Rat)(F:Nat->Rat):psc a (psc b F)=psc (a*b) F:=by funext n;simp only[psc];grind
theorem Cu(F:Nat->Rat):psc 1 F=F:=by funext n;simp only[psc];grind
theorem ZZ{a:Rat}(h:a≠0)(F:Nat->Rat):psc (1 / a) (psc a F)=F:=by rw[C9,show 1 / a*a=1 from Af,Cu]
theorem Dv.unit{D F:Nat->Rat}{a:Rat}(h:Dv (Hp.psc a D) F):Dv D F:=by
 obtain⟨Q,hQ,rfl⟩:=h;exact⟨Hp.psc a Q,hQ.psc a,by rw[Cz,NC]⟩
theorem Dv.le{D F:Nat->Rat}(hD:Ae D)(hF:Ae F)(h0:F≠pz)(h:Dv D F):pl D<=pl F:=by
 obtain⟨Q,hQ,rfl⟩:=h;have hD0:D≠pz:=fun e=>h0 (by rw[e,Jz]);have hQ0:Q≠pz:=fun e=>h0 (by rw[e,Cv]);rw[Ee hQ hD hQ0 hD0];have:=AQ hQ hQ0;omega
theorem CK{a:Rat}(ha:a≠0){F:Nat->Rat}(h:Ae F):pl (psc a F)=pl F:=by
 refine Jr ((AB h).psc a) fun h0 e=>?_;rcases Rat.mul_eq_zero.1 (show a*F (pl F - 1)=0 from e)with e | e
 ·exact ha e
 ·exact EH h h0 e
theorem EF(a:Rat):psc a pz=pz:=by funext n;simp only[psc,pz];grind
noncomputable def mn(F:Nat->Rat):Nat->Rat:=psc (1 / ld F) F
theorem Lm:mn pz=pz:=EF _
theorem Lb{F:Nat->Rat}(h:Ae F):Ae (mn F):=h.psc _
theorem KX{a:Rat}(h:a≠0):1 / a≠0:=by intro e;have:1 / a*a=1:=Af;rw[e]at this;grind
theorem QS{F:Nat->Rat}(h:Ae F):pl (mn F)=pl F:=by
 by_cases h0:F=pz
 ·rw[h0,Lm]
 ·exact CK (KX (CW h h0)) h
theorem Uu{F:Nat->Rat}(h:Ae F)(h0:F≠pz):ld (mn F)=1:=by
 have:=CW h h0;unfold ld;rw[QS h];show 1 / ld F*ld F=1;grind
theorem jJ{F:Nat->Rat}(h:Ae F)(h0:F≠pz):mn F≠pz:=fun e=>by
 have:=QS h;rw[e,BJ]at this;have:=AQ h h0;omega
theorem GA{F:Nat->Rat}(h:Ae F):Dv (mn F) F:=by
 by_cases h0:F=pz
 ·rw[h0];exact Dv.zero _
 ·exact⟨psc (ld F) pone,Ae.psc _ ⟨1,(Bq.pz 0).cs 1⟩,by
   have:=CW h h0;rw[Cz,Ck];unfold mn;rw[C9,show ld F*(1 / ld F)=1 from Af,Cu]⟩
theorem GD(F:Nat->Rat):Dv F (mn F):=(Dv.refl F).psc _
def Lt(F G D:Nat->Rat):Prop:=Ae D/\(D≠pz->ld D=1)/\Dv D F/\Dv D G/\∀ E,Ae E->Dv E F->Dv E G->Dv E D
theorem Lp{F:Nat->Rat}(h:Dv pz F):F=pz:=by obtain⟨Q,_,rfl⟩:=h;exact Jz Q
theorem Um{D E:Nat->Rat}(hD:Ae D)(hE:Ae E)(h1:D≠pz->ld D=1)(h2:E≠pz->ld E=1)(h:Dv D E)(k:Dv E D):D=E:=by
 by_cases h0:D=pz
 ·subst h0;exact(Lp h).symm
 ·have hE0:E≠pz:=fun e=>h0 (by rw[e]at k;exact Lp k)
  have l1:=h.le hD hE hE0;have l2:=k.le hE hD h0;obtain⟨Q,hQ,e⟩:=h;have hQ0:Q≠pz:=fun e'=>hE0 (by rw[e,e',Cv]);have hl:=Ee hQ hD hQ0 h0;rw[<-e]at hl;have hp:=AQ hQ hQ0;have hp2:=AQ hD h0;have hq1:pl Q=1:=by omega
  have hq:Q=cs (Q 0) pz:=by
   have:=AB hQ;rw[hq1]at this
   funext n
   cases n with
   | zero=>rfl
   | succ n=>exact this (n+1) Aa
  have e2:E=psc (Q 0) D:=by
   rw[e,hq,Lx,Cv]
   funext n
   cases n<;>simp only[pad,psc,cs,pz]<;>grind
  have e3:ld E=Q 0*ld D:=by
   unfold ld;rw[show pl E=pl D from Aa,e2];rfl
  rw[h1 h0,h2 hE0]at e3;rw[e2,show Q 0=1 from Af,Cu]
theorem Lt.uniq{F G D E:Nat->Rat}(h:Lt F G D)(k:Lt F G E):D=E:=
 Um h.1 k.1 h.2.1 k.2.1 (k.2.2.2.2 D h.1 h.2.2.1 h.2.2.2.1) (h.2.2.2.2 E k.1 k.2.2.1 k.2.2.2.1)
theorem Lt.of{F G F' G' D:Nat->Rat}(h:∀ E,Ae E->(Dv E F/\Dv E G↔Dv E F'/\Dv E G'))(k:Lt F G D):Lt F' G' D:=by
 obtain⟨a,b,c,d,e⟩:=k;have:=(h D a).1 ⟨c,d⟩;exact⟨a,b,this.1,this.2,fun E hE h1 h2=>by have:=(h E hE).2 ⟨h1,h2⟩;exact e E hE this.1 this.2⟩
theorem Lt.zero{F:Nat->Rat}(h:Ae F):Lt F pz (mn F):=
 ⟨Lb h,fun h0=>Uu h fun e=>h0 (by rw[e,Lm]),GA h,Dv.zero _,fun E _ h1 _=>h1.trans (GD F)⟩
theorem LV{F G E:Nat->Rat}:Dv E G/\Dv E (pr F G)↔Dv E F/\Dv E G:=by
 have e:=KL F G;constructor
 ·rintro⟨h1,h2⟩
  refine⟨?_,h1⟩;rw[e];exact(h1.mul (Dy F G)).pad h2
 ·rintro⟨h1,h2⟩
  exact⟨h2,h1.psb (h2.mul (Dy F G))⟩
theorem Oo{F E:Nat->Rat}(h:Ae F):Dv E (mn F)↔Dv E F:=⟨fun(k:Dv E (mn F))=>k.trans (GA h),fun(k:Dv E F)=>k.trans (GD F)⟩
/-! ### the cofactors -/
def kI(F G D U V:Nat->Rat):Prop:=Lt F G D/\Ae U/\Ae V/\pad (cv U F) (cv V G)=D/\Bq (pl G - pl D) U
theorem kI.uniq{F G D U V D' U' V':Nat->Rat}(hG:Ae G)(h0:G≠pz)(h:kI F G D U V)(k:kI F G D' U' V'):D=D'/\U=U'/\V=V':=by
 obtain⟨h1,h2,h3,h4,h5⟩:=h;obtain⟨k1,k2,k3,k4,k5⟩:=k;obtain rfl:=h1.uniq k1;have hD0:D≠pz:=fun e=>h0 (Lp (by have:=h1.2.2.2.1;rwa[e]at this));obtain⟨A,hA,eA⟩:=h1.2.2.1;obtain⟨B,hB,eB⟩:=h1.2.2.2.1;have hB0:B≠pz:=fun e=>h0 (by rw[eB,e,Cv])
 -- U A+V B=1
 have c1:∀ {X Y:Nat->Rat},Ae X->Ae Y->cv X D=cv Y D->X=Y:=by
  intro X Y hX hY e;have:cv (psb X Y) D=pz:=by rw[FR,e];funext n;simp only[psb,pz];grind
  rcases JU (hX.psb hY) h1.1 this with e | e
  ·funext n;have:=congrFun e n;simp only[psb,pz]at this;grind
  ·exact absurd e hD0
 have hp1:Ae pone:=⟨1,(Bq.pz 0).cs 1⟩
 have one:pad (cv U A) (cv V B)=pone:=by
  apply c1 ((h2.cv hA).pad (h3.cv hB)) hp1
  rw[D5,Ai,Ai,<-eA,<-eB,h4,Ck]
 -- (U - U') F=(V' - V) G
 have e1:cv (psb U U') A=cv (psb V' V) B:=by
  apply c1 ((h2.psb k2).cv hA) ((k3.psb h3).cv hB)
  rw[Ai,Ai,<-eA,<-eB,FR,FR];have:=h4.trans k4.symm
  funext n
  have:=congrFun this n;simp only[pad,psb]at this ⊢;grind
 -- B divides U - U'
 have e2:Dv B (psb U U'):=by
  have:psb U U'=pad (cv (cv U (psb V' V)) B) (cv (cv V (psb U U')) B):=by
   calc psb U U'=cv (psb U U') pone:=(I4 _).symm
    _=pad (cv U (cv (psb U U') A)) (cv V (cv (psb U U') B)):=by
     rw[<-one,F8,<-Ai,<-Ai,AX (psb U U') U,AX (psb U U') V,Ai,Ai]
    _=_:=by rw[e1,Ai,Ai]
  rw[this];exact((Dv.refl B).mul (h2.cv (k3.psb h3))).pad ((Dv.refl B).mul (h3.cv (h2.psb k2)))
 have hpB:pl G=pl B+pl D - 1:=by rw[eB];exact Ee hB h1.1 hB0 hD0
 have hz:psb U U'=pz:=by
  by_cases hz:psb U U'=pz
  ·exact hz
  ·have l1:=e2.le hB (h2.psb k2) hz
   have l2:=BX (h5.psb k5);have l3:=AQ (h2.psb k2) hz;have l4:=AQ h1.1 hD0;omega
 have hU:U=U':=by funext n;have:=congrFun hz n;simp only[psb,pz]at this;grind
 refine⟨rfl,hU,?_⟩;subst hU;have:cv (psb V V') G=pz:=by
  rw[FR];have:=h4.trans k4.symm
  funext n
  have:=congrFun this n;simp only[pad,psb,pz]at this ⊢;grind
 rcases JU (h3.psb k3) hG this with e | e
 ·funext n;have:=congrFun e n;simp only[psb,pz]at this;grind
 ·exact absurd e h0
/-! ### roots -/
theorem DT{n:Nat}(F:Nat->Rat)(x:Rat):CR (n+1) F x=F 0+x*CR n (tl F) x:=rfl
def aB(n:Nat)(F:Nat->Rat)(x:Rat)(i:Nat):Rat:=CR n (fun j=>F (i+1+j)) x
theorem ZH{n:Nat}{F:Nat->Rat}(h:Bq (n+1) F)(x:Rat):Bq n (aB n F x):=fun i hi=>by
 have:(fun j=>F (i+1+j))=pz:=by funext j;exact h _ Aa
 unfold aB;rw[this,Tu]
theorem gQ{n:Nat}{F:Nat->Rat}(h:Bq (n+1) F)(x:Rat):F=pad (cv (cs (-x) pone) (aB n F x)) (cs (ev F x) pz):=by
 rw[Lx,Ck];have step:∀ i,CR (n+1) (fun j=>F (i+j)) x=F i+x*aB n F x i:=fun i=>by
  rw[DT];unfold aB;have:tl (fun j=>F (i+j))=fun j=>F (i+1+j):=by funext j;show F (i+(j+1))=_;rw[show i+(j+1)=i+1+j from by omega]
  rw[this];rfl
 funext i
 cases i with
 | zero =>
  have h0:=step 0;rw[show(fun j=>F (0+j))=F from by funext j;rw[Nat.zero_add],<-EA h]at h0;simp only[pad,psc,cs];rw[h0];grind
 | succ i =>
  have h1:=step (i+1);have h2:CR (n+1) (fun j=>F (i+1+j)) x=aB n F x i:=by
   unfold aB;exact LW (fun j hj=>h _ Aa) Aa x
  rw[h2]at h1;simp only[pad,psc,cs,pz];rw[h1];grind
theorem I7:∀ {l:List Rat} {F:Nat->Rat},Bq l.length F->l.Nodup->(∀ x∈l,ev F x=0)->F=pz
 | [],_,h,_,_=>h.zero
 | x::l,F,h,hn,hr=>by
  have e:=gQ (n:=l.length) h x;have hs:=ZH (n:=l.length) h x;rw[hr x List.mem_cons_self]at e;have e2:F=cv (cs (-x) pone) (aB l.length F x):=by
   have:cs (0:Rat) pz=pz:=by funext n;cases n<;>rfl
   rw[this]at e
   funext n
   have:=congrFun e n;simp only[pad,pz]at this;rw[this];grind
  have hp:Ae (cs (-x) pone):=Ae.cs _ ⟨1,(Bq.pz 0).cs 1⟩;have hz:aB l.length F x=pz:=by
   apply I7 hs (List.nodup_cons.1 hn).2
   intro y hy;have h1:=hr y (List.mem_cons_of_mem _ hy);have h2:ev pone y=1:=by unfold pone;rw[Oc _ Ae.pz,QI];grind
   have h3:ev (cs (-x) pone) y = -x+y:=by rw[Oc (F:=pone) _ ⟨1,(Bq.pz 0).cs 1⟩,h2];grind
   rw[e2,Ei hp ⟨_,hs⟩,h3]at h1;rcases Rat.mul_eq_zero.1 h1 with h | h
   ·have:x=y:=by grind
    subst this;exact absurd hy (List.nodup_cons.1 hn).1
   ·exact h
  rw[e2,hz,Jz]
/-! ### series -/
def rv(d:Nat)(F:Nat->Rat)(n:Nat):Rat:=if n<=d then F (d - n)else 0
def CB(D X:Nat)(F:Nat->Rat):Prop:=0 < D/\∀ i,∃ m:Int,F i=(m:Rat) / (D:Rat)/\m.natAbs<=X
def CD(s:Nat)(F:Nat->Rat):Prop:=∃ D X:Nat,CB D X F/\sz D<=s/\sz X<=s
theorem IW(n:Int)(d:Nat):(n:Rat) / (d:Rat)=Rat.divInt n d:=by
 rw[Rat.divInt_eq_div];rfl
theorem Jp{d:Nat}(h:0 < d):(d:Rat)≠0:=by
 intro e;have:(d:Rat)=((0:Nat):Rat):=e;have:=Rat.natCast_inj.1 this;omega
theorem CD.pos{s:Nat}{F:Nat->Rat}(h:CD s F):1<=s:=by
 obtain⟨D,X,⟨h0,_⟩,hD,_⟩:=h;have:=DU (n:=D) Aa;omega
theorem CD.elem{s:Nat}{F:Nat->Rat}(h:CD s F)(i:Nat):qsz (F i)<=s:=by
 have hp:=h.pos;obtain⟨D,X,⟨h0,hN⟩,hD,hX⟩:=h;obtain⟨m,e,hm⟩:=hN i;rw[e,IW];have:=Bf hm;exact Dc Aa (by simpa using hD) hp
theorem CD.mono{s t:Nat}{F:Nat->Rat}(h:CD s F)(k:s<=t):CD t F:=by
 obtain⟨D,X,h0,hD,hX⟩:=h;exact⟨D,X,h0,Aa,Aa⟩
theorem CD.pz:CD 1 pz:=⟨1,0,⟨Aa,fun _=>⟨0,by show(0:Rat)=_;grind,Ab⟩⟩,Ab,Ab⟩
theorem Gn(a:Rat):a=(a.num:Rat) / (a.den:Rat):=by rw[IW];exact(Rat.num_divInt_den a).symm
theorem CB.psc{D X:Nat}{F:Nat->Rat}(a:Rat)(h:CB D X F):CB (D*a.den) (a.num.natAbs*X) (psc a F):=by
 obtain⟨h0,hN⟩:=h;refine⟨Nat.mul_pos h0 a.den_pos,fun i=>?_⟩;obtain⟨m,e,hm⟩:=hN i;refine⟨a.num*m,?_,?_⟩
 ·show a*F i=_
  have h1:=Jp h0;have h2:=Jp a.den_pos;have h3:=Gn a;rw[e,Rat.intCast_mul,Rat.natCast_mul];generalize (a.num:Rat)=x at *;generalize (a.den:Rat)=y at *;rw[h3];grind
 ·rw[Int.natAbs_mul];exact Nat.mul_le_mul_left _ hm
theorem CD.psc{s:Nat}{F:Nat->Rat}(a:Rat)(h:CD s F):CD (s+qsz a) (psc a F):=by
 obtain⟨D,X,h0,hD,hX⟩:=h;refine⟨_,_,h0.psc a,?_,?_⟩
 ·have:=Ca D a.den;unfold qsz;omega
 ·have:=Ca a.num.natAbs X;unfold qsz;omega
theorem CB.pad{D X E Y:Nat}{F G:Nat->Rat}(h:CB D X F)(k:CB E Y G):CB (D*E) (X*E+Y*D) (pad F G):=by
 obtain⟨h0,hN⟩:=h;obtain⟨k0,hM⟩:=k;refine⟨Nat.mul_pos h0 k0,fun i=>?_⟩;obtain⟨m,e,hm⟩:=hN i;obtain⟨n,f,hn⟩:=hM i;refine⟨m*(E:Int)+n*(D:Int),?_,?_⟩
 ·show F i+G i=_
  have h1:=Jp h0;have h2:=Jp k0;rw[e,f,Rat.intCast_add,Rat.intCast_mul,Rat.intCast_mul,Rat.natCast_mul,Rat.intCast_natCast,Rat.intCast_natCast];grind
 ·refine Nat.le_trans (Int.natAbs_add_le _ _) ?_
  rw[Int.natAbs_mul,Int.natAbs_mul,Int.natAbs_natCast,Int.natAbs_natCast];exact Nat.add_le_add (Nat.mul_le_mul_right _ hm) (Nat.mul_le_mul_right _ hn)
theorem CD.pad{s t:Nat}{F G:Nat->Rat}(h:CD s F)(k:CD t G):CD (s+t+1) (pad F G):=by
 obtain⟨D,X,h0,hD,hX⟩:=h;obtain⟨E,Y,k0,hE,hY⟩:=k;refine⟨_,_,h0.pad k0,?_,?_⟩
 ·have:=Ca D E;omega
 ·have a2:=Gi (X*E) (Y*D)
  have a3:=Ca X E;have a4:=Ca Y D;omega
theorem CD.neg{s:Nat}{F:Nat->Rat}(h:CD s F):CD s (Hp.psc (-1) F):=by
 obtain⟨D,X,h0,hD,hX⟩:=h;have:=h0.psc (-1);rw[show(-1:Rat).den=1 from rfl,show(-1:Rat).num.natAbs=1 from rfl,Nat.mul_one,Nat.one_mul]at this;exact⟨D,X,this,hD,hX⟩
theorem CD.psb{s t:Nat}{F G:Nat->Rat}(h:CD s F)(k:CD t G):CD (s+t+1) (psb F G):=by
 rw[Qf];exact h.pad k.neg
theorem CB.cs{D X:Nat}{F:Nat->Rat}(a:Rat)(h:CB D X F):CB (D*a.den) (X*a.den+a.num.natAbs*D) (cs a F):=by
 obtain⟨h0,hN⟩:=h;refine⟨Nat.mul_pos h0 a.den_pos,fun i=>?_⟩;have h1:=Jp h0;have h2:=Jp a.den_pos;cases i with
 | zero =>
  refine⟨a.num*(D:Int),?_,?_⟩
  ·show a=_
   have h3:=Gn a;rw[Rat.intCast_mul,Rat.natCast_mul,Rat.intCast_natCast];generalize (a.num:Rat)=x at *;generalize (a.den:Rat)=y at *;rw[h3];grind
  ·rw[Int.natAbs_mul,Int.natAbs_natCast];exact Nat.le_add_left _ _
 | succ i =>
  obtain⟨m,e,hm⟩:=hN i;refine⟨m*(a.den:Int),?_,?_⟩
  ·show F i=_
   rw[e,Rat.intCast_mul,Rat.natCast_mul,Rat.intCast_natCast];generalize (a.den:Rat)=y at *;grind
  ·rw[Int.natAbs_mul,Int.natAbs_natCast]
   exact Nat.le_trans (Nat.mul_le_mul_right _ hm) (Nat.le_add_right _ _)
theorem CD.cs{s:Nat}{F:Nat->Rat}(a:Rat)(h:CD s F):CD (s+qsz a+1) (cs a F):=by
 obtain⟨D,X,h0,hD,hX⟩:=h;refine⟨_,_,h0.cs a,?_,?_⟩
 ·have:=Ca D a.den;unfold qsz;omega
 ·have a2:=Gi (X*a.den) (a.num.natAbs*D)
  have a3:=Ca X a.den;have a4:=Ca a.num.natAbs D;unfold qsz;omega
theorem CD.of{n k:Nat}{F:Nat->Rat}(h:Bq n F)(hk:∀ i,i < n->qsz (F i)<=k):CD (1+n*(k+1)) F:=by
 induction n generalizing F with
 | zero=>rw[h.zero];exact CD.pz.mono Aa
 | succ n ih =>
  have:=(ih h.tl fun i hi=>hk (i+1) Aa).cs (F 0);rw[Xm]at this;have h0:=hk 0 Aa;refine this.mono ?_;rw[Nat.succ_mul];omega
theorem CB.cv{n D X E Y:Nat}{F G:Nat->Rat}(hs:Bq n F)(h:CB D X F)(k:CB E Y G):CB (D*E) (n*(X*Y)) (cv F G):=by
 have h0:=h.1;have k0:=k.1;have h1:=Jp h0;have h2:=Jp k0;refine⟨Nat.mul_pos h0 k0,fun i=>?_⟩;induction n generalizing F i with
 | zero=>rw[hs.zero,Cv];exact⟨0,by show(0:Rat)=_;grind,Ac⟩
 | succ n ih =>
  have ht:CB D X (tl F):=⟨h0,fun i=>h.2 (i+1)⟩
  obtain⟨a,ea,ha⟩:=h.2 0;obtain⟨b,eb,hb⟩:=k.2 i;have hab:(a*b).natAbs<=X*Y:=by rw[Int.natAbs_mul];exact Nat.mul_le_mul ha hb
  cases i with
  | zero =>
   refine⟨a*b,?_,?_⟩
   ·rw[CJ,ea,eb,Rat.intCast_mul,Rat.natCast_mul];grind
   ·rw[Nat.succ_mul];omega
  | succ i =>
   obtain⟨m,em,hm⟩:=ih hs.tl ht i;refine⟨a*b+m,?_,?_⟩
   ·rw[BK,ea,eb,em,Rat.intCast_add,Rat.intCast_mul,Rat.natCast_mul];grind
   ·have:=Int.natAbs_add_le (a*b) m
    rw[Nat.succ_mul];omega
theorem CD.cv{n s t:Nat}{F G:Nat->Rat}(hs:Bq n F)(hn:n < 4294967296)(h:CD s F)(k:CD t G):CD (s+t+1) (cv F G):=by
 obtain⟨D,X,h0,hD,hX⟩:=h;obtain⟨E,Y,k0,hE,hY⟩:=k;refine⟨_,_,h0.cv hs k0,?_,?_⟩
 ·have:=Ca D E;omega
 ·have a2:=Ca n (X*Y)
  have a3:=Ca X Y;have:=Yz hn;omega
theorem CB.step{n D X E Y:Nat}{R G:Nat->Rat}(hG:Ae G)(h0:G≠Hp.pz)(h:CB D X R)(k:CB E Y G){M:Int}(hM:ld G=(M:Rat) / (E:Rat)) :
  CB (D*M.natAbs) (2*(X*max Y M.natAbs)) (Hp.psb R (Hp.cv (Hp.mono n (R (n+pl G - 1) / ld G)) G)):=by
 have hl:=CW hG h0;have h1:=Jp h.1;have h2:=Jp k.1;have hM0:M≠0:=by rintro rfl;apply hl;rw[hM];grind
 have hMq:(M:Rat)≠0:=by simpa using hM0
 refine⟨Nat.mul_pos h.1 Aa,fun i=>?_⟩;obtain⟨a,ea,ha⟩:=h.2 i;obtain⟨b,eb,hb⟩:=h.2 (n+pl G - 1);obtain⟨g,eg,hg⟩:∃ g:Int,sh n G i=(g:Rat) / (E:Rat)/\g.natAbs<=Y:=by
  unfold sh
  split
  ·exact⟨0,Af,Ac⟩
  ·exact k.2 _
 have key:Hp.psb R (Hp.cv (Hp.mono n (R (n+pl G - 1) / ld G)) G) i=((a*M - b*g:Int):Rat) / ((D:Rat)*(M:Rat)):=by
  rw[Gf];show R i - _*sh n G i=_;rw[ea,eb,eg,hM,Rat.intCast_sub,Rat.intCast_mul,Rat.intCast_mul];generalize (M:Rat)=m at *;generalize (E:Rat)=e at *;generalize (D:Rat)=d at *;grind
 have hbd:(a*M - b*g).natAbs<=2*(X*max Y M.natAbs):=by
  have h1:=Int.natAbs_sub_le (a*M) (b*g);rw[Int.natAbs_mul,Int.natAbs_mul]at h1;have h2:a.natAbs*M.natAbs<=X*max Y M.natAbs:=Nat.mul_le_mul ha (Nat.le_max_right _ _);have h3:b.natAbs*g.natAbs<=X*max Y M.natAbs:=Nat.mul_le_mul hb (Nat.le_trans hg (Nat.le_max_left _ _));omega
 rcases Int.le_total 0 M with hp | hp
 ·refine⟨a*M - b*g,?_,hbd⟩
  rw[key,Rat.natCast_mul];congr 2;rw[<-Rat.intCast_natCast];congr 1;omega
 ·refine⟨-(a*M - b*g),?_,by rw[Int.natAbs_neg];exact hbd⟩
  rw[key,Rat.natCast_mul];have:((M.natAbs:Nat):Rat) = -(M:Rat):=by rw[<-Rat.intCast_natCast,<-Rat.intCast_neg];congr 1;omega
  rw[this];generalize (M:Rat)=m at *;rw[Rat.intCast_neg];grind
theorem CB.lead{E Y:Nat}{G:Nat->Rat}(k:CB E Y G):∃ M:Int,ld G=(M:Rat) / (E:Rat)/\M.natAbs<=Y:=k.2 _
theorem CD.step{n s t:Nat}{R G:Nat->Rat}(hG:Ae G)(h0:G≠Hp.pz)(h:CD s R)(k:CD t G):CD (s+t+1) (Hp.psb R (Hp.cv (Hp.mono n (R (n+pl G - 1) / ld G)) G)):=by
 obtain⟨D,X,h1,hD,hX⟩:=h;obtain⟨E,Y,k1,hE,hY⟩:=k;obtain⟨M,e,hM⟩:=k1.lead;refine⟨_,_,h1.step hG h0 k1 e,?_,?_⟩
 ·have:=Ca D M.natAbs;have:=Bf hM;omega
 ·rw[Nat.max_eq_left hM]
  have:=Ca 2 (X*Y);have:=Ca X Y;have:sz 2=1:=by decide
  omega
theorem Pp{n:Nat}{F G:Nat->Rat}(hF:Bq (n+pl G) F)(hG:Ae G)(h0:G≠pz) :
  pr F G=pr (psb F (cv (mono n (F (n+pl G - 1) / ld G)) G)) G/\pq F G=pad (mono n (F (n+pl G - 1) / ld G)) (pq (psb F (cv (mono n (F (n+pl G - 1) / ld G)) G)) G):=by
 obtain⟨F',hF'⟩:∃ F',F'=psb F (cv (mono n (F (n+pl G - 1) / ld G)) G):=⟨_,rfl⟩
 rw[<-hF'];have hfin:Ae F':=by rw[hF'];exact Ae.psb ⟨_,hF⟩ ((Ae.mono _ _).cv hG)
 have:=IL ⟨_,hF⟩ hG h0 (Q:=pad (mono n (F (n+pl G - 1) / ld G)) (pq F' G)) (R:=pr F' G) ((Ae.mono _ _).pad (Dy _ _)) ?_ (Er hfin hG h0)
 ·exact⟨this.2.symm,this.1.symm⟩
 ·have e:=KL F' G
  rw[D5]
  funext m
  have e:=congrFun e m;have e2:=congrFun hF' m;simp only[pad,psb]at e e2 ⊢;grind
theorem M8{F G:Nat->Rat}(hF:Bq (pl G - 1) F)(hG:Ae G)(h0:G≠pz):pr F G=F/\pq F G=pz:=by
 have:=IL ⟨_,hF⟩ hG h0 (Q:=pz) (R:=F) Ae.pz (by rw[Cv];funext m;simp only[pad,pz];grind) hF;exact⟨this.2.symm,this.1.symm⟩
theorem CD.pr{n s t:Nat}{F G:Nat->Rat}(hF:Bq (n+pl G - 1) F)(hG:Ae G)(h0:G≠Hp.pz)(h:CD s F)(k:CD t G):CD (s+n*(t+1)) (pr F G):=by
 have hp:=AQ hG h0;induction n generalizing s F with
 | zero=>rw[Nat.zero_add]at hF;rw[(M8 hF hG h0).1];exact h.mono Aa
 | succ n ih =>
  have hF':Bq (n+pl G) F:=hF.mono Aa;rw[(Pp hF' hG h0).1];refine(ih (EW hG h0 hF') (h.step hG h0 k)).mono ?_;rw[Nat.succ_mul];omega
theorem L9{n:Nat}{F G:Nat->Rat}(hF:Bq (n+pl G - 1) F)(hG:Ae G)(h0:G≠pz):Bq n (pq F G):=by
 have hp:=AQ hG h0;induction n generalizing F with
 | zero=>rw[Nat.zero_add]at hF;rw[(M8 hF hG h0).2];exact Bq.pz 0
 | succ n ih =>
  have hF':Bq (n+pl G) F:=hF.mono Aa;rw[(Pp hF' hG h0).2];exact(ER n _).pad ((ih (EW hG h0 hF')).mono Aa)
theorem PM{n s t:Nat}{F G:Nat->Rat}(hF:Bq (n+pl G - 1) F)(hG:Ae G)(h0:G≠pz)(h:CD s F)(k:CD t G)(i:Nat):qsz (pq F G i)<=s+n*(t+1)+t:=by
 have hp:=AQ hG h0;induction n generalizing s F with
 | zero=>rw[Nat.zero_add]at hF;rw[(M8 hF hG h0).2];have:=h.pos;show qsz 0<=_;have:qsz 0=1:=Ab;omega
 | succ n ih =>
  have hF':Bq (n+pl G) F:=hF.mono Aa;have h1:=ih (EW hG h0 hF') (h.step hG h0 k);have h2:=L9 (EW hG h0 hF') hG h0;rw[(Pp hF' hG h0).2];show qsz (mono n _ i+_)<=_;by_cases hi:i=n
  ·rw[hi,K4,h2 n Aa]
   have:=Jc (F (n+pl G - 1)) (ld G);have:=h.elem (n+pl G - 1);have:qsz (ld G)<=t:=k.elem _;have e:F (n+pl G - 1) / ld G+0=F (n+pl G - 1) / ld G:=by grind
   rw[e,Nat.succ_mul];omega
  ·rw[F3 hi]
   have e:∀ a:Rat,0+a=a:=fun a=>by grind
   rw[e,Nat.succ_mul];omega
theorem CD.pq{n s t:Nat}{F G:Nat->Rat}(hF:Bq (n+pl G - 1) F)(hG:Ae G)(h0:G≠Hp.pz)(h:CD s F)(k:CD t G):CD (1+n*(s+n*(t+1)+t+1)) (pq F G):=
 CD.of (L9 hF hG h0) fun i _=>PM hF hG h0 h k i
theorem UT{l m:List Rat}{i:Nat}(h:i < l.length):co (l ++ m) i=co l i:=by
 rw[Fb Dn,Fb h,List.getElem_append_left h]
theorem TK{l:List Rat}{i:Nat}(h:l.length<=i):co l i=0:=KS l i h
theorem GH(l:List Rat):co (BR l)=co l:=by
 refine N7 (p:=fun l=>co (BR l)=co l) rfl (fun l d ih=>?_) l;by_cases h:d=0
 ·subst h
  rw[DY,ih]
  funext i
  rcases Nat.lt_or_ge i l.length with hi | hi
  ·rw[UT hi]
  ·rw[TK hi]
   rcases Nat.eq_or_lt_of_le hi with e | e
   ·subst e;rw[Fb Ac];simp
   ·rw[TK Dn]
 ·rw[I9 _ _ h]
def Ij(l:List Rat):Prop:=∀ h:0 < l.length,l[l.length - 1]≠0
theorem Fu(l:List Rat):Ij (BR l):=by
 refine N7 (p:=fun l=>Ij (BR l)) (fun h=>absurd h (by simp[BR])) (fun l d ih=>?_) l;by_cases h:d=0
 ·subst h;rw[DY];exact ih
 ·rw[I9 _ _ h];intro _;simpa using h
theorem Ij.pl{l:List Rat}(h:Ij l):pl (co l)=l.length:=by
 refine Jr (KS l) fun h0=>?_;rw[Fb Aa];exact h h0
theorem bQ{l m:List Rat}(hl:l.length=m.length)(h:co l=co m):l=m:=by
 apply List.ext_getElem hl
 intro i h1 h2;have:=congrFun h i;rwa[Fb h1,Fb h2]at this
theorem Ij.uniq{l m:List Rat}(h:Ij l)(k:Ij m)(e:co l=co m):l=m:=bQ (by rw[<-h.pl,<-k.pl,e]) e
theorem Qh{n:Nat}{F:Nat->Rat}(h:Bq n F):co ((List.range n).map F)=F:=by
 funext i
 rcases Nat.lt_or_ge i n with hi | hi
 ·rw[Fb (by simpa using hi)];simp
 ·rw[TK (by simpa using hi),h i hi]
def FV(base:Nat)(w:World)(v:Value)(F:Nat->Rat):Prop:=∃ l,RV base w v l/\Ij l/\co l=F
theorem FV.ext{base:Nat}{w w':World}{v:Value}{F:Nat->Rat}(h:FV base w v F)(e:Ext w w'):FV base w' v F:=by
 obtain⟨l,h1,h2,h3⟩:=h;exact⟨l,h1.ext e,h2,h3⟩
theorem FV.base_le{base b:Nat}{w:World}{v:Value}{F:Nat->Rat}(h:FV base w v F)(hb:b<=base):FV b w v F:=by
 obtain⟨l,h1,h2,h3⟩:=h;exact⟨l,h1.base_le hb,h2,h3⟩
theorem FV.fin{base:Nat}{w:World}{v:Value}{F:Nat->Rat}(h:FV base w v F):Ae F:=by
 obtain⟨l,_,_,rfl⟩:=h;exact Ae.co l
theorem RV.has{base:Nat}{w:World}{v:Value}{l:List Rat}(h:RV base w v l)(hs:∀ q∈l,qsz q<=274877906944):RI 0 w v l:=by
 obtain⟨A,c,h1,h2,h3,h4⟩:=h;refine⟨A,c,h1,h2,h3,fun h0=>?_⟩;obtain⟨g,o,q1,q2,q3⟩:=h4 h0;refine⟨g,o,q1,Nat.zero_le _,fun j hj=>?_⟩;obtain⟨cs,r1,r2,r3⟩:=q3 j hj;exact⟨cs,r1,r2,r3.has (hs _ (List.getElem_mem hj))⟩
theorem FV.form{base:Nat}{w:World}{v:Value}{F:Nat->Rat}(h:FV base w v F):∃ A c l,v = .slice A (pl F) c/\pl F<=c/\c<=9223372036854775807/\MM base w A l/\l.length=pl F/\Ij l/\co l=F:=by
 obtain⟨l,⟨A,c,h1,h2,h3,h4⟩,h5,rfl⟩:=h;have:=h5.pl;exact⟨A,c,l,by rw[this];exact h1,Aa,h3,h4,this.symm,h5,rfl⟩
theorem FV.qs{base:Nat}{w:World}{v:Value}{F:Nat->Rat}(h:FV base w v F):∃ l,RV base w v l/\l.length=pl F/\Ij l/\co l=F:=by
 obtain⟨l,h1,h5,rfl⟩:=h;exact⟨l,h1,h5.pl.symm,h5,rfl⟩
theorem dJ{l:List Rat}{q:Rat}(h:q∈l):∃ i,q=co l i:=by
 obtain⟨i,hi,e⟩:=List.getElem_of_mem h;exact⟨i,by rw[Fb hi,e]⟩
theorem FV.hs{base:Nat}{w:World}{v:Value}{F:Nat->Rat}(h:FV base w v F)(hs:∀ i,qsz (F i)<=274877906944):∃ l,RI 0 w v l/\l.length=pl F/\Ij l/\co l=F:=by
 obtain⟨l,h1,h2,h3,rfl⟩:=h.qs;exact⟨l,h1.has (fun q hq=>by obtain⟨i,rfl⟩:=dJ hq;exact hs i),h2,h3,rfl⟩
theorem FV.of_trim{base:Nat}{w:World}{v:Value}{l:List Rat}{F:Nat->Rat}(h:RV base w v (BR l))(e:co l=F):FV base w v F:=
 ⟨_,h,Fu l,by rw[GH,e]⟩
theorem FV.nil(base:Nat)(w:World)(c:Nat:=0):FV base w (.slice none 0 0) pz:=⟨[],CE.nil 4 BQ base w,fun h=>absurd h Ac,PU⟩
theorem RI.qsz{base:Nat}{w:World}{v:Value}{l:List Rat}(h:RI base w v l):∀ q∈l,Hp.qsz q<=274877906944:=by
 obtain⟨A,c,h1,h2,h3,h4⟩:=h;intro q hq;obtain⟨i,hi,rfl⟩:=List.getElem_of_mem hq;obtain⟨g,o,q1,q2,q3⟩:=h4 Aa;obtain⟨cs,r1,r2,r3⟩:=q3 i hi;exact r3.qsz
theorem UM{cs:Array Value}{a b:Value}(e:Value.agg cs = .agg #[a,b]):cs=#[a,b]:=by injection e
def LZ(base:Nat)(w:World)(v:Value)(l:List Int):Prop:=CE 2 AC base w v l
def LJ(base:Nat)(w:World)(A:Option Addr)(l:List Int):Prop:=Dx 2 AC base w A l
def Ey(base:Nat)(w:World)(v:Value)(l:List Int):Prop:=CE 2 Bh base w v l
def Lj(base:Nat)(w:World)(A:Option Addr)(l:List Int):Prop:=Dx 2 Bh base w A l
theorem LZ.ext{base:Nat}{w w':World}{v:Value}{l:List Int}(h:LZ base w v l)(e:Ext w w'):LZ base w' v l:=CE.ext h e fun _ _ q=>q.kd e.kd
theorem Ey.ext{base:Nat}{w w':World}{v:Value}{l:List Int}(h:Ey base w v l)(e:Ext w w'):Ey base w' v l:=CE.ext h e fun _ _ q=>q.kd e.kd
theorem LJ.ext{base:Nat}{w w':World}{A:Option Addr}{l:List Int}(h:LJ base w A l)(e:Ext w w'):LJ base w' A l:=Dx.ext h e fun _ _ q=>q.kd e.kd
theorem Lj.ext{base:Nat}{w w':World}{A:Option Addr}{l:List Int}(h:Lj base w A l)(e:Ext w w'):Lj base w' A l:=Dx.ext h e fun _ _ q=>q.kd e.kd
theorem AC.ext_{w w':World}{v:Value}{x:Int}(h:AC w v x)(e:Ext w w'):AC w' v x:=h.kd e.kd
theorem Bh.cells{w:World}{v:Value}{x:Int}(h:Bh w v x):∃ b A n c,v = .agg #[.bool b,.slice A n c]:=by
 obtain⟨b,A,n,c,N,e,_⟩:=h.form;exact⟨b,A,n,c,e⟩
theorem Lj.at_{base:Nat}{w:World}{A:Option Addr}{l:List Int}(h:Lj base w A l){j:Nat}(hj:j < l.length) :
  ∃ g o b A1 n c,A=some ⟨g,o,none⟩/\base<=g/\w.cell? ⟨g,o+j*2,none⟩=some (.bool b)/\w.cell? ⟨g,o+j*2+1,none⟩=some (.slice A1 n c)/\Bh w (.agg #[.bool b,.slice A1 n c]) l[j]:=by
 obtain⟨g,o,ha,hb,hc⟩:=h Aa;obtain⟨cs,q1,q2,q3⟩:=hc j hj;obtain⟨b,A1,n,c,e⟩:=q3.cells;obtain rfl:=UM e;exact⟨g,o,b,A1,n,c,ha,hb,q2 0 Aa,q2 1 Aa,q3⟩
theorem LJ.at_{base:Nat}{w:World}{A:Option Addr}{l:List Int}(h:LJ base w A l){j:Nat}(hj:j < l.length) :
  ∃ g o b A1 n c,A=some ⟨g,o,none⟩/\base<=g/\w.cell? ⟨g,o+j*2,none⟩=some (.bool b)/\w.cell? ⟨g,o+j*2+1,none⟩=some (.slice A1 n c)/\AC w (.agg #[.bool b,.slice A1 n c]) l[j]:=by
 obtain⟨g,o,ha,hb,hc⟩:=h Aa;obtain⟨cs,q1,q2,q3⟩:=hc j hj;obtain⟨b,A1,n,c,e⟩:=q3.cells;obtain rfl:=UM e;exact⟨g,o,b,A1,n,c,ha,hb,q2 0 Aa,q2 1 Aa,q3⟩
theorem Ey.at_{base n c:Nat}{w:World}{A:Option Addr}{l:List Int}(h:Ey base w (.slice A n c) l){j:Nat}(hj:j < l.length) :
  ∃ g o b A1 n1 c1,A=some ⟨g,o,none⟩/\base<=g/\w.cell? ⟨g,o+j*2,none⟩=some (.bool b)/\w.cell? ⟨g,o+j*2+1,none⟩=some (.slice A1 n1 c1)/\Bh w (.agg #[.bool b,.slice A1 n1 c1]) l[j]:=by
 obtain⟨A',c',e,_,_,hA⟩:=h;have:A'=A:=by injection e with h1;exact h1.symm
 subst this;exact Lj.at_ hA hj
theorem LZ.at_{base n c:Nat}{w:World}{A:Option Addr}{l:List Int}(h:LZ base w (.slice A n c) l){j:Nat}(hj:j < l.length) :
  ∃ g o b A1 n1 c1,A=some ⟨g,o,none⟩/\base<=g/\w.cell? ⟨g,o+j*2,none⟩=some (.bool b)/\w.cell? ⟨g,o+j*2+1,none⟩=some (.slice A1 n1 c1)/\AC w (.agg #[.bool b,.slice A1 n1 c1]) l[j]:=by
 obtain⟨A',c',e,_,_,hA⟩:=h;have:A'=A:=by injection e with h1;exact h1.symm
 subst this;exact LJ.at_ hA hj
theorem AC.two{w:World}{b:Bool}{A:Option Addr}{n c:Nat}{x:Int}(h:AC w (.agg #[.bool b,.slice A n c]) x):n=sz x.natAbs/\b=decide (x < 0):=by
 obtain⟨A',c',e,_⟩:=h.form;have e:=UM e;simp only[Array.mk.injEq,List.cons.injEq,Value.bool.injEq,Value.slice.injEq,and_true]at e;exact⟨e.2.2.1,e.1⟩
theorem LZ.has{base:Nat}{w:World}{v:Value}{l:List Int}(h:LZ base w v l)(hs:∀ x∈l,sz x.natAbs<=1099511627776):Ey 0 w v l:=by
 obtain⟨A,c,h1,h2,h3,h4⟩:=h;refine⟨A,c,h1,h2,h3,fun h0=>?_⟩;obtain⟨g,o,q1,q2,q3⟩:=h4 h0;refine⟨g,o,q1,Nat.zero_le _,fun j hj=>?_⟩;obtain⟨cs,r1,r2,r3⟩:=q3 j hj;exact⟨cs,r1,r2,r3.has (hs _ (List.getElem_mem hj))⟩
theorem Ey.sz{base:Nat}{w:World}{v:Value}{l:List Int}(h:Ey base w v l):∀ x∈l,Hp.sz x.natAbs<=1099511627776:=by
 obtain⟨A,c,h1,h2,h3,h4⟩:=h;intro q hq;obtain⟨i,hi,rfl⟩:=List.getElem_of_mem hq;obtain⟨g,o,q1,q2,q3⟩:=h4 Aa;obtain⟨cs,r1,r2,r3⟩:=q3 i hi;exact r3.sz
theorem Ey.len{base:Nat}{w:World}{v:Value}{l:List Int}(h:Ey base w v l):∃ A c,v = .slice A l.length c:=CE.len h
/-! ### arrays of the call's own -/
def Cn(w:World)(g:Nat)(t:TypeId)(l:List Int):Prop:=
 ∃ cs,Be w g t cs/\l.length*2<=cs.size/\∀ j (h:j < l.length),∃ b A n c,cs[j*2]? = some (.bool b)/\cs[j*2+1]? = some (.slice A n c)/\AC w (.agg #[.bool b,.slice A n c]) l[j]
section
variable{w w':World}{g:Nat}{t:TypeId}{l:List Int}
theorem Cn.lt(h:Cn w g t l):g < w.heap.size:=by obtain⟨cs,h1,_⟩:=h;exact h1.lt
theorem Cn.frozen(h:Cn w g t l)(i:Nat):w.frozen? ⟨g,i,none⟩=false:=by obtain⟨cs,h1,_⟩:=h;exact h1.frozen i
theorem Cn.ext(h:Cn w g t l)(e:Ext w w'):Cn w' g t l:=by
 obtain⟨cs,h1,h2,h3⟩:=h;refine⟨cs,h1.ext e,h2,fun j hj=>?_⟩;obtain⟨b,A,n,c,q0,q1,q⟩:=h3 j hj;exact⟨b,A,n,c,q0,q1,q.kd e.kd⟩
theorem Cn.upd{G:List Nat}(h:Cn w g t l)(U:Cj G w w')(hg:g∉G):Cn w' g t l:=by
 obtain⟨cs,h1,h2,h3⟩:=h;refine⟨cs,h1.upd U hg,h2,fun j hj=>?_⟩;obtain⟨b,A,n,c,q0,q1,q⟩:=h3 j hj;exact⟨b,A,n,c,q0,q1,q.kd U.kd⟩
theorem Cn.at_(h:Cn w g t l){j:Nat}(hj:j < l.length) :
  ∃ b A n c,w.cell? ⟨g,j*2,none⟩=some (.bool b)/\w.cell? ⟨g,j*2+1,none⟩=some (.slice A n c)/\AC w (.agg #[.bool b,.slice A n c]) l[j]:=by
 obtain⟨cs,h1,h2,h3⟩:=h;obtain⟨b,A,n,c,q0,q1,q⟩:=h3 j hj;exact⟨b,A,n,c,h1.cell q0,h1.cell q1,q⟩
theorem Cn.put(h:Cn w g t l){k:Nat}(hk:k < l.length){b:Bool}{A:Option Addr}{n c:Nat}{q:Int}(hq:AC w (.agg #[.bool b,.slice A n c]) q) :
  ∃ W,W=(w.setCell ⟨g,k*2,none⟩ (.bool b)).setCell ⟨g,k*2+1,none⟩ (.slice A n c)/\Cn W g t (l.set k q)/\Cj [g] w W:=by
 obtain⟨cs,h1,h2,h3⟩:=h;have B1:=h1.set_ (k*2) (u := .bool b) rfl;have B2:=B1.set_ (k*2+1) (u := .slice A n c) rfl;have U:Cj [g] w _:=(Cj.set_ h1.nodig (k*2) (.bool b)).trans (Cj.set_ B1.nodig (k*2+1) (.slice A n c));refine⟨_,rfl,⟨_,B2,by simpa using h2,fun j hj=>?_⟩,U⟩;have hj':j < l.length:=by simpa using hj
 by_cases e:j=k
 ·subst e
  refine⟨b,A,n,c,?_,?_,?_⟩
  ·rw[Array.getElem?_setIfInBounds_ne Aa,Array.getElem?_setIfInBounds,if_pos rfl,if_pos Aa]
  ·rw[Array.getElem?_setIfInBounds,if_pos rfl,if_pos Dn]
  ·rw[List.getElem_set_self]
   exact hq.kd U.kd
 ·obtain⟨b,A,n,c,q0,q1,q⟩:=h3 j hj'
  refine⟨b,A,n,c,?_,?_,?_⟩
  ·rw[Array.getElem?_setIfInBounds_ne Aa,Array.getElem?_setIfInBounds_ne Aa];exact q0
  ·rw[Array.getElem?_setIfInBounds_ne Aa,Array.getElem?_setIfInBounds_ne Aa];exact q1
  ·rw[List.getElem_set_ne Aa];exact q.kd U.kd
theorem Kb(w:World):AC w (.agg #[.bool false,.slice none 0 0]) 0:=
 ⟨false,[],⟨_,rfl,none,0,rfl,Nat.le_refl _,Aa,fun d hd=>by simp at hd,fun h=>by simp at h⟩,rfl,fun h=>by simp at h,fun h=>by cases h⟩
theorem Cn.new(w:World)(t:TypeId)(n:Nat):Cn (w.alloc (.cells (madeCells #[.bool false,.slice none 0 0] (n*2)) t)) w.heap.size t (List.replicate n 0):=by
 have key:∀ j i v,j < n->i < 2->#[Value.bool false,.slice none 0 0][i]? = some v->(madeCells #[Value.bool false,.slice none 0 0] (n*2))[j*2+i]? = some v:=by
  intro j i v hj hi hv;rw[Array.getElem?_eq_getElem (by rw[size_madeCells];omega)];simp only[madeCells,Array.getElem_map,Array.getElem_range];rw[show(j*2+i) % #[Value.bool false,.slice none 0 0].size=i from by show(j*2+i) % 2=i;omega]
  match i,hi with
  | 0,_=>exact hv
  | 1,_=>exact hv
 refine⟨_,Be.new w t _ ?_,by rw[size_madeCells,List.length_replicate];exact Nat.le_refl _,fun j hj=>?_⟩
 ·rw[Array.all_eq_true]
  intro i hi;have hi':i < n*2:=by rw[size_madeCells]at hi;exact hi
  have hs:=Array.getElem?_eq_getElem hi;generalize (madeCells #[Value.bool false,Value.slice none 0 0] (n*2))[i]=u at *;have h4:i % 2=0\/i % 2=1:=by omega
  rcases h4 with h | h
  ·have:=key (i / 2) 0 _ Aa Aa rfl
   rw[show i / 2*2+0=i from Aa,hs]at this;cases this;rfl
  ·have:=key (i / 2) 1 _ Aa Aa rfl
   rw[show i / 2*2+1=i from Aa,hs]at this;cases this;rfl
 ·have hj':j < n:=by simpa using hj
  refine⟨false,none,0,0,key j 0 _ hj' Aa rfl,key j 1 _ hj' Aa rfl,?_⟩;rw[List.getElem_replicate];exact Kb _
theorem Cn.row(h:Cn w g t l){base:Nat}(hb:base<=g):LJ base w (some ⟨g,0,none⟩) l:=fun _=>by
 obtain⟨cs,h1,h2,h3⟩:=h;refine⟨g,0,rfl,hb,fun j hj=>?_⟩;obtain⟨b,A,n,c,q0,q1,q⟩:=h3 j hj;refine⟨_,rfl,?_,q⟩;intro i hi
 match i,hi with
 | 0,_=>simpa using h1.cell q0
 | 1,_=>simpa using h1.cell q1
theorem Cn.pre(h:Cn w g t l)(n:Nat):Cn w g t (l.take n):=by
 obtain⟨cs,h1,h2,h3⟩:=h;have hl:(l.take n).length<=l.length:=List.length_take_le' _ _;refine⟨cs,h1,Aa,fun j hj=>?_⟩;have:=h3 j Aa;rw[List.getElem_take];exact this
end
/-! ### rows that are appended to -/
def KW(w:World)(v:Value)(base:Nat)(q:Int)(t:TypeId):Prop:=Nk 2 AC w v base q t
theorem KW.ext{w w':World}{v:Value}{base:Nat}{q:Int}{t:TypeId}(h:KW w v base q t)(e:Ext w w'):KW w' v base q t:=Nk.ext h e fun _ _ h=>h.kd e.kd
theorem KW.mk{w:World}{b:Bool}{A:Option Addr}{n c:Nat}{q:Int}(h:AC w (.agg #[.bool b,.slice A n c]) q){base:Nat}(hb:base<=w.heap.size)(t:TypeId) :
  KW (w.alloc (.cells #[.bool b,.slice A n c] t)) (.slice (some ⟨w.heap.size,0,none⟩) 1 1) base q t:=
 ⟨_,_,rfl,hb,Be.new w t _ (by simp[Ag]),rfl,h.kd ((Ext.refl w).alloc _).kd⟩
theorem AC.one{w:World}{cs:Array Value}{q:Int}(h:AC w (.agg cs) q):(∀ u∈cs.toList,u.oneCell'=true)/\nodig cs=true/\cs.size=2:=by
 obtain⟨b,A,n,c,e⟩:=h.cells;obtain rfl:=UM e;refine⟨fun u hu=>?_,by simp[nodig,Ag],rfl⟩;simp at hu;rcases hu with rfl | rfl<;>rfl
theorem AC.el{w:World}{v:Value}{q:Int}(h:AC w v q){p:Prop}(k:∀ b A n c,v = .agg #[.bool b,.slice A n c]->AC w (.agg #[.bool b,.slice A n c]) q->p):p:=by
 obtain⟨b,A,n,c,e⟩:=h.cells;exact k b A n c e (e▸h)
def Dq(base:Nat)(e:TypeId)(w:World)(v:Value)(l:List Int):Prop:=BH 2 AC base e w v l
theorem Dq.ext{base:Nat}{e:TypeId}{w w':World}{v:Value}{l:List Int}(h:Dq base e w v l)(x:Ext w w'):Dq base e w' v l:=BH.ext h x fun _ _ q=>q.kd x.kd
theorem Dq.upd{base:Nat}{e:TypeId}{w w':World}{v:Value}{l:List Int}{G:List Nat}(h:Dq base e w v l)(U:Cj G w w')(hg:∀ g∈G,g < base):Dq base e w' v l:=
 BH.upd h U (fun g hb hG=>by have:=hg g hG;have:=(BH.blk_ge h g hb).1;omega) fun _ _ q=>q.kd U.kd
theorem Dq.row{base:Nat}{e:TypeId}{w:World}{v:Value}{l:List Int}(h:Dq base e w v l):LZ base w v l:=BH.row h
theorem Dq.from_{base:Nat}{e:TypeId}{a w w':World}{v:Value}{l:List Int}(h:Dq base e w v l)(U:Cj (blk v) w w')(x:Ext a w)(hb:a.heap.size<=base):Ext a w':=
 U.from_ x fun g hg=>Nat.le_trans hb (BH.blk_ge h g hg).1
theorem Dq.box{base:Nat}{e t:TypeId}{w w':World}{v:Value}{l:List Int}{g:Nat}{cs:Array Value}(h:Dq base e w v l)(U:Cj (blk v) w w')(b:Be w g t cs)(hb:g < base):Be w' g t cs:=
 b.upd U fun hg=>by have:=(BH.blk_ge h g hg).1;omega
theorem KW.own{w:World}{v:Value}{base:Nat}{q:Int}{t:TypeId}(h:KW w v base q t):Dq base t w v [q]:=by
 obtain⟨g,cs,rfl,h1,h2,h3,h4⟩:=h;refine⟨[cs],rfl,fun c hc=>by simp at hc;subst hc;exact h3,⟨by simp[h3],.inr ⟨g,1,cs,rfl,h1,h2,Nat.le_refl _,Ab,by simp[h3],?_⟩⟩,fun j hj hj'=>?_⟩
 ·simp[List.take_of_length_le,h3]
 ·have:j=0:=by simpa using hj
  subst this;exact h4
/-! ### polynomials -/
def zq(l:List Int):List Rat:=l.map fun(n:Int)=>(n:Rat)
theorem En(l:List Int):(zq l).length=l.length:=by simp[zq]
theorem Ms{l:List Int}{i:Nat}(h:i < l.length):(zq l)[i]'(by rw[En];exact h)=(l[i]:Rat):=by simp[zq]
theorem ZV(l:List Int)(n:Nat):zq (l.take n)=(zq l).take n:=by simp[zq]
theorem KG{a b:Int}(h:(a:Rat)=(b:Rat)):a=b:=by simpa using congrArg Rat.num h
def cz(l:List Int):Nat->Rat:=co (zq l)
theorem Cb{l:List Int}{i:Nat}(h:i < l.length):cz l i=(l[i]:Rat):=by unfold cz;rw[Fb (by rw[En];exact h),Ms h]
theorem Iw{l:List Int}{i:Nat}(h:l.length<=i):cz l i=0:=TK (by rw[En];exact h)
theorem Ct(l:List Int):Bq l.length (cz l):=fun _ h=>Iw h
theorem Ae.cz(l:List Int):Ae (cz l):=⟨_,Ct l⟩
theorem Bz(n:Int):qsz (n:Rat)=max (sz n.natAbs) 1:=by unfold qsz;simp;rfl
theorem Ql{l:List Int}{s:Nat}(h:∀ x∈l,sz x.natAbs<=s)(hs:1<=s)(i:Nat):qsz (cz l i)<=s:=by
 rcases Nat.lt_or_ge i l.length with hi | hi
 ·rw[Cb hi,Bz];have:=h _ (List.getElem_mem hi);omega
 ·rw[Iw hi];exact hs
def ZI(F:Nat->Rat):Prop:=∀ i,∃ n:Int,F i=(n:Rat)
theorem ZI.cz(l:List Int):ZI (cz l):=fun i=>by
 rcases Nat.lt_or_ge i l.length with hi | hi
 ·exact⟨_,Cb hi⟩
 ·exact⟨0,by rw[Iw hi];rfl⟩
theorem ZI.num{F:Nat->Rat}(h:ZI F)(i:Nat):F i=((F i).num:Rat):=by obtain⟨n,e⟩:=h i;rw[e];rfl
def DF(n:Nat)(F:Nat->Rat):List Int:=(List.range n).map fun i=>(F i).num
theorem Bb(n:Nat)(F:Nat->Rat):(DF n F).length=n:=by simp[DF]
theorem Ia{n:Nat}{F:Nat->Rat}(h:ZI F)(hs:Bq n F):cz (DF n F)=F:=by
 funext i
 rcases Nat.lt_or_ge i n with hi | hi
 ·rw[Cb (by rw[Bb];exact hi)];simp only[DF,List.getElem_map,List.getElem_range];exact(h.num i).symm
 ·rw[Iw (by rw[Bb];exact hi),hs i hi]
def Rq(l:List Int):List Int:=l.take (BR (zq l)).length
theorem Mq(l:List Int):zq (Rq l)=BR (zq l):=by unfold Rq;rw[ZV];exact(Fq _).symm
theorem Ob(l:List Int):(Rq l).length=(BR (zq l)).length:=by rw[<-En,Mq]
theorem Xz(l:List Int):(BR (zq l)).length<=l.length:=by have:=Om (zq l);rw[En]at this;exact this
def AY(base:Nat)(w:World)(v:Value)(F:Nat->Rat):Prop:=∃ l,LZ base w v l/\Ij (zq l)/\cz l=F
theorem AY.ext{base:Nat}{w w':World}{v:Value}{F:Nat->Rat}(h:AY base w v F)(e:Ext w w'):AY base w' v F:=by
 obtain⟨l,h1,h2,h3⟩:=h;exact⟨l,h1.ext e,h2,h3⟩
theorem AY.base_le{base b:Nat}{w:World}{v:Value}{F:Nat->Rat}(h:AY base w v F)(hb:b<=base):AY b w v F:=by
 obtain⟨l,h1,h2,h3⟩:=h;exact⟨l,CE.base_le h1 hb,h2,h3⟩
theorem AY.fin{base:Nat}{w:World}{v:Value}{F:Nat->Rat}(h:AY base w v F):Ae F:=by
 obtain⟨l,_,_,rfl⟩:=h;exact Ae.cz l
theorem AY.form{base:Nat}{w:World}{v:Value}{F:Nat->Rat}(h:AY base w v F):∃ A c l,v = .slice A (pl F) c/\pl F<=c/\c<=9223372036854775807/\LJ base w A l/\l.length=pl F/\Ij (zq l)/\cz l=F:=by
 obtain⟨l,⟨A,c,h1,h2,h3,h4⟩,h5,rfl⟩:=h;have:=h5.pl;rw[En]at this;exact⟨A,c,l,by unfold cz;rw[this];exact h1,by unfold cz;omega,h3,h4,this.symm,h5,rfl⟩
theorem AY.shape{base:Nat}{w:World}{v:Value}{F:Nat->Rat}(h:AY base w v F):∃ A c,v = .slice A (pl F) c/\pl F<=c/\c<=9223372036854775807:=by
 obtain⟨A,c,l,h1,h2,h3,_⟩:=h.form;exact⟨A,c,h1,h2,h3⟩
theorem AY.zs{base:Nat}{w:World}{v:Value}{F:Nat->Rat}(h:AY base w v F):∃ l,LZ base w v l/\l.length=pl F/\Ij (zq l)/\cz l=F:=by
 obtain⟨l,h1,h5,rfl⟩:=h;exact⟨l,h1,by have:=h5.pl;rw[En]at this;exact this.symm,h5,rfl⟩
theorem AY.hz{base:Nat}{w:World}{v:Value}{F:Nat->Rat}(h:AY base w v F)(hs:∀ i,qsz (F i)<=1099511627776):∃ l,Ey 0 w v l/\l.length=pl F/\Ij (zq l)/\cz l=F:=by
 obtain⟨l,h1,h2,h3,rfl⟩:=h.zs;exact⟨l,h1.has (fun q hq=>by
  obtain⟨i,hi,rfl⟩:=List.getElem_of_mem hq;have:=hs i;rw[Cb hi,Bz]at this;omega),h2,h3,rfl⟩
theorem AY.of_trim{base:Nat}{w:World}{v:Value}{l:List Int}{F:Nat->Rat}(h:LZ base w v (Rq l))(e:cz l=F):AY base w v F:=
 ⟨_,h,by rw[Mq];exact Fu _,by unfold cz;rw[Mq,GH];exact e⟩
theorem AY.nil(base:Nat)(w:World):AY base w (.slice none 0 0) pz:=⟨[],CE.nil 2 AC base w,fun h=>absurd h (by simp[zq]),PU⟩
theorem AY.empty(base:Nat)(w:World)(A:Option Addr)(c:Nat)(hc:c<=9223372036854775807):AY base w (.slice A 0 c) pz:=
 ⟨[],⟨A,c,rfl,Nat.zero_le _,hc,fun h=>absurd h Ac⟩,fun h=>absurd h (by simp[zq]),PU⟩
def BA(w:World)(g:Nat)(t:TypeId)(x:Int):Prop:=∃ b A n c,Be w g t #[.bool b,.slice A n c]/\AC w (.agg #[.bool b,.slice A n c]) x
theorem BA.ext{w w':World}{g:Nat}{t:TypeId}{x:Int}(h:BA w g t x)(e:Ext w w'):BA w' g t x:=by
 obtain⟨b,A,n,c,h1,h2⟩:=h;exact⟨b,A,n,c,h1.ext e,h2.kd e.kd⟩
theorem BA.lt{w:World}{g:Nat}{t:TypeId}{x:Int}(h:BA w g t x):g < w.heap.size:=by obtain⟨b,A,n,c,h1,h2⟩:=h;exact h1.lt
theorem BA.upd{w w':World}{g:Nat}{t:TypeId}{x:Int}{G:List Nat}(h:BA w g t x)(U:Cj G w w')(hg:g∉G):BA w' g t x:=by
 obtain⟨b,A,n,c,h1,h2⟩:=h;exact⟨b,A,n,c,h1.upd U hg,h2.kd U.kd⟩
theorem BA.mk{w:World}{g:Nat}{t:TypeId}{x:Int}{b:Bool}{A:Option Addr}{n c:Nat}(h:Be w g t #[.bool b,.slice A n c])(k:AC w (.agg #[.bool b,.slice A n c]) x):BA w g t x:=⟨b,A,n,c,h,k⟩
theorem BA.zero{w:World}{g:Nat}{t:TypeId}(h:Be w g t #[.bool false,.slice none 0 0]):BA w g t 0:=⟨_,_,_,_,h,Kb w⟩
def ct:Nat->(Nat->Rat)->Nat
 | 0,_=>0
 | n+1,F=>Int.gcd (ct n F) (F n).num
theorem Ha(n:Nat)(F:Nat->Rat):ct (n+1) F=Int.gcd (ct n F) (F n).num:=rfl
theorem XF(F:Nat->Rat):∀ n i,i < n->(ct n F:Int)∣(F i).num
 | n+1,i,h=>by
  rw[Ha];rcases Nat.lt_or_ge i n with l | l
  ·exact Int.dvd_trans (Int.gcd_dvd_left _ _) (XF F n i l)
  ·obtain rfl:i=n:=by omega
   exact Int.gcd_dvd_right _ _
theorem XD{F:Nat->Rat}{d:Int}:∀ {n:Nat},(∀ i,i < n->d∣(F i).num)->d∣(ct n F:Int)
 | 0,_=>⟨0,by show((0:Nat):Int)=_;simp⟩
 | n+1,h=>by rw[Ha];exact Int.dvd_coe_gcd (XD fun i hi=>h i Aa) (h n Aa)
theorem iB{F:Nat->Rat}{n m:Nat}(h:Bq n F)(k:n<=m):ct m F=ct n F:=by
 induction m with
 | zero =>
  obtain rfl:n=0:=by omega
  rfl
 | succ m ih =>
  rcases Nat.eq_or_lt_of_le k with e | e
  ·rw[e]
  ·rw[Ha,h m Aa,ih Aa];simp
noncomputable def cn(F:Nat->Rat):Nat:=ct (pl F) F
theorem iK{F:Nat->Rat}{n:Nat}(h:Bq n F):cn F=ct n F:=(iB (AB ⟨n,h⟩) (BX h)).symm
theorem FP{F:Nat->Rat}(h:Ae F)(i:Nat):(cn F:Int)∣(F i).num:=by
 rcases Nat.lt_or_ge i (pl F)with l | l
 ·exact XF F _ i l
 ·rw[AB h i l];exact⟨0,Ac⟩
theorem Wz{F:Nat->Rat}{d:Int}(h:∀ i,d∣(F i).num):d∣(cn F:Int):=XD fun i _=>h i
theorem OG:cn pz=0:=by unfold cn;rw[BJ];rfl
theorem Jw{F:Nat->Rat}(hz:ZI F)(h:Ae F)(h0:F≠pz):cn F≠0:=fun e=>h0 (by
 funext i
 have:=FP h i;rw[e]at this;have h1:(F i).num=0:=by simpa using this
 rw[hz.num i,h1];rfl)
theorem JC{F:Nat->Rat}{s:Nat}(h:∀ i,qsz (F i)<=s)(n:Nat):sz (ct n F)<=s:=by
 induction n with
 | zero=>show sz 0<=s;rw[Uz];exact Nat.zero_le _
 | succ n ih =>
  rw[Ha];by_cases h0:ct n F=0
  ·rw[h0]
   have:=h n;unfold qsz at this;have e:Int.gcd ((0:Nat):Int) (F n).num=(F n).num.natAbs:=by simp
   rw[e];omega
  ·refine Nat.le_trans (Bf ?_) ih
   exact Nat.le_of_dvd Aa (by have:=Int.gcd_dvd_left (ct n F:Int) (F n).num;exact Int.natCast_dvd_natCast.1 this)
noncomputable def pcn(F:Nat->Rat):Int:=if ld F < 0 then -(cn F:Int)else cn F
theorem J5{F:Nat->Rat}(h:Ae F)(i:Nat):pcn F∣(F i).num:=by
 unfold pcn;split
 ·exact Int.neg_dvd.2 (FP h i)
 ·exact FP h i
theorem Fj(F:Nat->Rat):(pcn F).natAbs=cn F:=by unfold pcn;split<;>simp
theorem Ew{F:Nat->Rat}(hz:ZI F)(h:Ae F)(h0:F≠pz):pcn F≠0:=fun e=>Jw hz h h0 (by rw[<-Fj,e];rfl)
noncomputable def pp(F:Nat->Rat):Nat->Rat:=psc (1 / (pcn F:Rat)) F
theorem IR:pp pz=pz:=EF _
theorem NG{F:Nat->Rat}(hz:ZI F)(h:Ae F)(h0:F≠pz)(i:Nat):pp F i=(((F i).num / pcn F:Int):Rat):=by
 obtain⟨k,hk⟩:=J5 h i;have hp:=Ew hz h h0;have hp':(pcn F:Rat)≠0:=fun e=>hp (by exact_mod_cast e);rw[hk,Int.mul_ediv_cancel_left _ hp];show 1 / (pcn F:Rat)*F i=_;rw[hz.num i,hk,Rat.intCast_mul];grind
theorem II{F:Nat->Rat}(hz:ZI F)(h:Ae F):ZI (pp F):=by
 by_cases h0:F=pz
 ·rw[h0,IR];intro i;exact⟨0,rfl⟩
 ·intro i;exact⟨_,NG hz h h0 i⟩
theorem Db{F:Nat->Rat}(h:Ae F):Ae (pp F):=h.psc _
theorem DR{F:Nat->Rat}(hz:ZI F)(h:Ae F):pl (pp F)=pl F:=by
 by_cases h0:F=pz
 ·rw[h0,IR]
 ·have hp':(pcn F:Rat)≠0:=fun e=>Ew hz h h0 (by exact_mod_cast e)
  exact CK (KX hp') h
theorem Xi{F:Nat->Rat}(hz:ZI F)(h:Ae F)(h0:F≠pz):pp F≠pz:=fun e=>h0 ((BF h).1 (by rw[<-DR hz h,e,BJ]))
theorem Ow{F:Nat->Rat}(hz:ZI F)(h:Ae F)(h0:F≠pz):F=psc (pcn F:Rat) (pp F):=by
 have hp':(pcn F:Rat)≠0:=fun e=>Ew hz h h0 (by exact_mod_cast e);unfold pp;rw[C9,show(pcn F:Rat)*(1 / (pcn F:Rat))=1 from Af,Cu]
theorem PS{x y:Int}(hy:y∣x):sz (x / y).natAbs<=sz x.natAbs:=by
 obtain⟨k,rfl⟩:=hy;by_cases h:y=0
 ·subst h;simp
 ·rw[Int.mul_ediv_cancel_left _ h,Int.natAbs_mul]
  exact Bf (Nat.le_mul_of_pos_left _ Aa)
theorem F6{F:Nat->Rat}(hz:ZI F)(h:Ae F){s:Nat}(hs:∀ i,qsz (F i)<=s)(i:Nat):qsz (pp F i)<=s:=by
 by_cases h0:F=pz
 ·rw[h0,IR];have:=hs 0;rw[h0]at this;exact this
 ·rw[NG hz h h0,Bz]
  have h1:=PS (J5 h i);have h2:=hs i;have h3:=FY (F i);unfold qsz at h2 h3;have:sz 1=1:=by decide
  have:1<=s:=by have:=hs i;have:=FY (F i);omega
  omega
theorem Cc{n i:Nat}(F:Nat->Rat)(h:i < (DF n F).length):(DF n F)[i]=(F i).num:=by simp[DF]
def sg(i:Nat):Rat:=if i % 2=0 then 1 else -1
theorem GZ:sg 0=1:=rfl
theorem K3(i:Nat):sg (i+1) = - sg i:=by
 unfold sg;rcases Nat.mod_two_eq_zero_or_one i with h | h
 ·rw[if_neg Aa,if_pos h]
 ·rw[if_pos Aa,if_neg Aa];rfl
theorem SI(i j:Nat):sg (i+j)=sg i*sg j:=by
 induction j with
 | zero=>rw[Nat.add_zero,GZ];grind
 | succ j ih=>rw[<-Nat.add_assoc,K3,K3,ih];grind
theorem TP(i:Nat):sg i*sg i=1:=by
 induction i with
 | zero=>rw[GZ];grind
 | succ i ih=>rw[K3];grind
def sk(i k:Nat):Nat:=if k < i then k else k+1
theorem jG(i k:Nat):sk i k≠i:=by unfold sk;split<;>omega
theorem jR{i k n:Nat}(h:k < n):sk i k < n+1:=by unfold sk;split<;>omega
def D8(i:Nat)(A:Nat->Nat->Rat):Nat->Nat->Rat:=fun r c=>A (sk i r) (c+1)
def JX:Nat->(Nat->Nat->Rat)->Rat
 | 0,_=>1
 | n+1,A=>sm (n+1) fun i=>sg i*A i 0*JX n (D8 i A)
theorem EX(n:Nat)(A:Nat->Nat->Rat):JX (n+1) A=sm (n+1) fun i=>sg i*A i 0*JX n (D8 i A):=by rw[JX]
theorem CL:∀ {n:Nat} {A B:Nat->Nat->Rat},(∀ i j,i < n->j < n->A i j=B i j)->JX n A=JX n B
 | 0,_,_,_=>rfl
 | n+1,A,B,h=>by
  rw[EX,EX];refine CF fun i hi=>?_;rw[h i 0 hi Aa,CL (n:=n) (A:=D8 i A) (B:=D8 i B) fun r c hr hc=>h _ _ (jR hr) Aa]
def Ex(A:Nat->Nat->Rat)(i:Nat)(v:Nat->Rat):Nat->Nat->Rat:=fun r c=>if r=i then v c else A r c
theorem Ku(A:Nat->Nat->Rat)(i:Nat):Ex A i (A i)=A:=by
 funext r c;unfold Ex;split
 ·rename_i h;rw[h]
 ·rfl
theorem Gj(A:Nat->Nat->Rat)(i:Nat)(v:Nat->Rat):D8 i (Ex A i v)=D8 i A:=by
 funext r c;unfold D8 Ex;rw[if_neg (jG i r)]
theorem Fw(A:Nat->Nat->Rat){i k:Nat}(h:i≠k)(v:Nat->Rat):D8 k (Ex A i v)=Ex (D8 k A) (if i < k then i else i - 1) (fun c=>v (c+1)):=by
 funext r c
 unfold D8 Ex;have:sk k r=i↔r=(if i < k then i else i - 1):=by unfold sk;split<;>split<;>omega
 by_cases e:sk k r=i
 ·rw[if_pos e,if_pos (this.1 e)]
 ·rw[if_neg e,if_neg (fun q=>e (this.2 q))]
theorem Qb:∀ {n:Nat} (A:Nat->Nat->Rat) {i:Nat},i < n->∀(a b:Rat) (u v:Nat->Rat),JX n (Ex A i fun c=>a*u c+b*v c)=a*JX n (Ex A i u)+b*JX n (Ex A i v)
 | 0,_,_,h,_,_,_,_=>absurd h Aa
 | n+1,A,i,h,a,b,u,v=>by
  rw[EX,EX,EX,<-Tv,<-Tv,<-iA];refine CF fun k hk=>?_;by_cases e:i=k
  ·subst e
   rw[Gj,Gj,Gj];simp only[Ex,if_pos];grind
  ·rw[Fw A e,Fw A e,Fw A e]
   have:=Qb (n:=n) (D8 k A) (i:=if i < k then i else i - 1) (by split<;>omega) a b (fun c=>u (c+1)) (fun c=>v (c+1));rw[this];simp only[Ex,if_neg (Ne.symm e)];grind
def sw(i:Nat)(A:Nat->Nat->Rat):Nat->Nat->Rat:=fun r=>A (if r=i then i+1 else if r=i+1 then i else r)
theorem U4{f g:Nat->Rat}{i:Nat}(h1:f i = - g (i+1))(h2:f (i+1) = - g i):∀ {n:Nat},i+1 < n->(∀ k,k < n->k≠i->k≠i+1->f k = - g k)->sm n f = - sm n g
 | 0,h,_=>absurd h Aa
 | n+1,h,k=>by
  by_cases e:i+1=n
  ·subst e
   have:sm i f=sm i (fun k=>(-1)*g k):=CF fun j hj=>by rw[k j Aa Aa Aa];grind
   rw[Br,Br,Br,Br,this,Tv,h1,h2];grind
  ·rw[Br,Br,U4 h1 h2 (n:=n) Aa fun j hj=>k j Aa,k n Aa Aa Aa];grind
theorem SL:∀ {n:Nat} (A:Nat->Nat->Rat) {i:Nat},i+1 < n->JX n (sw i A) = - JX n A
 | 0,_,_,h=>absurd h Aa
 | n+1,A,i,h=>by
  rw[EX,EX];refine U4 (i:=i) ?_ ?_ h fun k hk h1 h2=>?_
  ·have:D8 i (sw i A)=D8 (i+1) A:=by
    funext r c;unfold D8 sw sk
    refine congrArg (fun x=>A x (c+1)) ?_
    repeat' split
    all_goals omega
   rw[this,K3];have:sw i A i 0=A (i+1) 0:=by unfold sw;rw[if_pos rfl]
   rw[this];grind
  ·have:D8 (i+1) (sw i A)=D8 i A:=by
    funext r c;unfold D8 sw sk
    refine congrArg (fun x=>A x (c+1)) ?_
    repeat' split
    all_goals omega
   rw[this,K3];have:sw i A (i+1) 0=A i 0:=by unfold sw;rw[if_neg Aa,if_pos rfl]
   rw[this];grind
  ·have e:D8 k (sw i A)=sw (if i < k then i else i - 1) (D8 k A):=by
    funext r c;unfold D8 sw sk
    refine congrArg (fun x=>A x (c+1)) ?_
    repeat' split
    all_goals omega
   rw[e,SL (n:=n) (D8 k A) (i:=if i < k then i else i - 1) (by split<;>omega)];have:sw i A k 0=A k 0:=by unfold sw;rw[if_neg h1,if_neg h2]
   rw[this];grind
theorem MQ:∀(d:Nat) {n:Nat} (A:Nat->Nat->Rat) {i:Nat},i+d+1 < n->A i=A (i+d+1)->JX n A=0
 | 0,n,A,i,h,e=>by
  have:sw i A=A:=by
   funext r;unfold sw
   by_cases a:r=i
   ·subst a;rw[if_pos rfl];exact e.symm
   ·rw[if_neg a]
    by_cases b:r=i+1
    ·subst b;rw[if_pos rfl];exact e
    ·rw[if_neg b]
  have h2:=SL A (i:=i) (by omega:i+1 < n);rw[this]at h2;grind
 | d+1,n,A,i,h,e=>by
  have h2:=SL A (i:=i+d+1) (by omega:i+d+1+1 < n);have h3:=MQ d (n:=n) (sw (i+d+1) A) (i:=i) Aa (by
   unfold sw;rw[if_neg Aa,if_neg Aa,if_pos rfl];exact e)
  grind
theorem Vb{n i j:Nat}{A:Nat->Nat->Rat}(hi:i < n)(hj:j < n)(h:i≠j)(e:A i=A j):JX n A=0:=by
 rcases Nat.lt_or_gt_of_ne h with h | h
 ·exact MQ (j - i - 1) A (i:=i) Aa (by rw[show i+(j - i - 1)+1=j from by omega];exact e)
 ·exact MQ (i - j - 1) A (i:=j) Aa (by rw[show j+(i - j - 1)+1=i from by omega];exact e.symm)
theorem ZP{n i j:Nat}(A:Nat->Nat->Rat)(hi:i < n)(hj:j < n)(h:i≠j)(t:Rat):JX n (Ex A i fun c=>A i c+t*A j c)=JX n A:=by
 have h1:=Qb A hi 1 t (A i) (A j);rw[Ku,Vb (A:=Ex A i (A j)) hi hj h (by funext c;simp only[Ex,if_pos];rw[if_neg (Ne.symm h)])]at h1;rw[show(fun c=>A i c+t*A j c)=fun c=>1*A i c+t*A j c from by funext c;grind,h1];grind
theorem jS(A:Nat->Nat->Rat)(i:Nat)(u v:Nat->Rat):Ex (Ex A i u) i v=Ex A i v:=by funext r c;unfold Ex;split<;>rfl
theorem RH{n i:Nat}(A:Nat->Nat->Rat)(hi:i < n)(t:Nat->Rat)(p:Nat->Nat):∀ k,(∀ j,j < k->p j < n/\p j≠i)->JX n (Ex A i fun c=>A i c+sm k fun j=>t j*A (p j) c)=JX n A
 | 0,_=>by
  rw[show(fun c=>A i c+sm 0 fun j=>t j*A (p j) c)=A i from by funext c;rw[EO];grind,Ku]
 | k+1,h=>by
  have h1:=RH A hi t p k fun j hj=>h j Aa;obtain⟨h2,h3⟩:=h k Aa;have h4:=ZP (Ex A i fun c=>A i c+sm k fun j=>t j*A (p j) c) hi h2 (Ne.symm h3) (t k);rw[h1,jS]at h4;rw[<-h4];congr 2;funext c
  simp only[Ex,if_pos,if_neg h3,Br];grind
theorem QN{n:Nat}(A:Nat->Nat->Rat)(P:Nat->Bool)(k:Nat->Nat)(t:Nat->Nat->Rat)(p:Nat->Nat->Nat)(h:∀ i j,i < n->P i=true->j < k i->p i j < n/\P (p i j)=false) :
  JX n (fun r c=>if P r then A r c+sm (k r) (fun j=>t r j*A (p r j) c)else A r c)=JX n A:=by
 have key:∀ s,s<=n->JX n (fun r c=>if P r&&decide (r < s)then A r c+sm (k r) (fun j=>t r j*A (p r j) c)else A r c)=JX n A:=by
  intro s;induction s with
  | zero=>intro _;refine CL fun i j _ _=>?_;rw[if_neg Ac]
  | succ s ih =>
   intro hs;have h1:=ih Aa;cases hP:P s with
   | false =>
    rw[<-h1];refine CL fun i j _ _=>?_;by_cases e:i=s
    ·subst e;rw[if_neg (by simp[hP]),if_neg (by simp[hP])]
    ·have:decide (i < s+1)=decide (i < s):=by simp;omega
     rw[this]
   | true =>
    obtain⟨B,hB⟩:∃ B:Nat->Nat->Rat,B=fun r c=>if P r&&decide (r < s)then A r c+sm (k r) (fun j=>t r j*A (p r j) c)else A r c:=⟨_,rfl⟩
    rw[<-hB]at h1;have hs0:B s=A s:=by funext c;rw[hB];show(if _ then _ else _)=_;rw[if_neg Ac]
    have hp:∀ j,j < k s->B (p s j)=A (p s j):=fun j hj=>by
     obtain⟨_,h3⟩:=h s j Aa hP hj
     funext c;rw[hB];show(if _ then _ else _)=_;rw[if_neg (by simp[h3])]
    have h2:=RH B (i:=s) (by omega:s < n) (t s) (p s) (k s) fun j hj=>by
     obtain⟨h2,h3⟩:=h s j Aa hP hj;exact⟨h2,fun e=>by rw[e,hP]at h3;cases h3⟩
    rw[<-h1,<-h2];refine CL fun i c _ _=>?_;unfold Ex;by_cases e:i=s
    ·subst e
     rw[if_pos (by simp[hP]),if_pos rfl,hs0];congr 1;exact CF fun j hj=>by rw[hp j hj]
    ·have:decide (i < s+1)=decide (i < s):=by simp;omega
     rw[this,if_neg e,hB]
 rw[<-key n (Nat.le_refl n)];refine CL fun i j hi _=>?_;rw[show decide (i < n)=true from by simpa using hi,Bool.and_true]
theorem OD{n:Nat}(A:Nat->Nat->Rat)(a:Rat):∀ s,s<=n->JX n (fun r c=>if r < s then a*A r c else A r c)=a^s*JX n A
 | 0,_=>by
  rw[show(fun r c=>if r < 0 then a*A r c else A r c)=A from by funext r c;rw[if_neg Aa]];rw[Rat.pow_zero];grind
 | s+1,h=>by
  obtain⟨B,hB⟩:∃ B:Nat->Nat->Rat,B=fun r c=>if r < s then a*A r c else A r c:=⟨_,rfl⟩
  have h1:=OD (n:=n) A a s Aa;rw[<-hB]at h1;have h2:=Qb B (i:=s) (by omega:s < n) a 0 (B s) (B s);rw[Ku,h1]at h2;rw[Rat.pow_succ];rw[show JX n (fun r c=>if r < s+1 then a*A r c else A r c)=JX n (Ex B s fun c=>a*B s c+0*B s c)from ?_,h2]
  ·grind
  ·refine CL fun i c _ _=>?_
   unfold Ex;by_cases e:i=s
   ·subst e;rw[if_pos Aa,if_pos rfl,hB];simp only;rw[if_neg Aa];grind
   ·rw[if_neg e,hB];simp only
    by_cases e2:i < s
    ·rw[if_pos e2,if_pos Aa]
    ·rw[if_neg e2,if_neg Aa]
theorem Wu{n k:Nat}{f:Nat->Rat}(hk:k < n)(h:∀ i,i < n->i≠k->f i=0):sm n f=f k:=by
 induction n with
 | zero=>omega
 | succ n ih =>
  rw[Br];by_cases e:k=n
  ·subst e
   have:sm k f=sm k (fun _=>0):=CF fun j hj=>h j Aa Aa;rw[this,Mv];grind
  ·rw[ih Aa fun i hi=>h i Aa,h n Aa (fun q=>e q.symm)];grind
theorem P7{n k:Nat}{A:Nat->Nat->Rat}(hk:k < n+1)(h:∀ i,i < n+1->i≠k->A i 0=0):JX (n+1) A=sg k*A k 0*JX n (D8 k A):=by
 rw[EX,Wu (f:=fun i=>sg i*A i 0*JX n (D8 i A)) hk fun i hi e=>by rw[h i hi e];grind]
def Q9(m:Nat)(F:Nat->Rat)(n:Nat)(G:Nat->Rat):Nat->Nat->Rat:=fun r c=>if r < n then(if c<=m+r then F (m+r - c)else 0)else(if c<=r then G (r - c)else 0)
def I1(m:Nat)(F:Nat->Rat)(n:Nat)(G:Nat->Rat):Rat:=JX (m+n) (Q9 m F n G)
theorem jZ(r:Nat):sk 0 r=r+1:=by unfold sk;rw[if_neg Aa]
theorem TC{m n:Nat}{F G:Nat->Rat}(hF:Bq (m+1) F)(hG:Bq (n+1) G):I1 (m+1) F n G=sg n*G n*I1 m F n G:=by
 unfold I1;rw[show m+1+n=m+n+1 from Aa,P7 (k:=n) Aa]
 ·congr 1
  ·congr 1
   show(if n < n then _ else _)=_;rw[if_neg Aa,if_pos Aa];rfl
  ·refine CL fun r c hr hc=>?_
   unfold D8 Q9 sk;by_cases h:r < n
   ·rw[if_pos h,if_pos h,if_pos h]
    by_cases h2:c<=m+r
    ·rw[if_pos h2,if_pos Aa];congr 1;omega
    ·rw[if_neg h2,if_neg Aa]
   ·rw[if_neg h,if_neg Aa,if_neg h]
    by_cases h2:c<=r
    ·rw[if_pos h2,if_pos Aa];congr 1;omega
    ·rw[if_neg h2,if_neg Aa]
 ·intro i hi hne
  unfold Q9;by_cases h:i < n
  ·rw[if_pos h,if_pos Aa];exact hF _ Aa
  ·rw[if_neg h,if_pos Aa];exact hG _ Aa
theorem SQ{m n:Nat}{F G:Nat->Rat}(hF:Bq (m+1) F)(hG:m=0\/Bq (n+1) G):I1 m F (n+1) G=F m*I1 m F n G:=by
 unfold I1;rw[show m+(n+1)=m+n+1 from Aa,P7 (k:=0) Aa]
 ·rw[GZ,show Q9 m F (n+1) G 0 0=F m from by unfold Q9;rw[if_pos Aa,if_pos Aa];rfl]
  rw[show(1:Rat)*F m=F m from by grind];congr 1;refine CL fun r c hr hc=>?_;unfold D8;rw[jZ];unfold Q9;by_cases h:r < n
  ·rw[if_pos Aa,if_pos h]
   by_cases h2:c<=m+r
   ·rw[if_pos h2,if_pos Aa];congr 1;omega
   ·rw[if_neg h2,if_neg Aa]
  ·rw[if_neg Aa,if_neg h]
   by_cases h2:c<=r
   ·rw[if_pos h2,if_pos Aa];congr 1;omega
   ·rw[if_neg h2,if_neg Aa]
 ·intro i hi hne
  unfold Q9;by_cases h:i < n+1
  ·rw[if_pos h,if_pos Aa];exact hF _ Aa
  ·rw[if_neg h,if_pos Aa]
   rcases hG with rfl | hG
   ·omega
   ·exact hG _ Aa
theorem OJ{f:Nat->Rat}{a:Nat}(h:∀ i,a<=i->f i=0):∀ {b},a<=b->sm b f=sm a f:=by
 intro b hb;obtain⟨k,rfl⟩:∃ k,b=a+k:=⟨b - a,Aa⟩
 clear hb;induction k with
 | zero=>rfl
 | succ k ih=>rw[<-Nat.add_assoc,Br,ih,h _ Aa];grind
theorem WT{Q G:Nat->Rat}{k:Nat}(h:Bq k Q)(d:Nat):cv Q G d=sm k fun j=>Q j*if j<=d then G (d - j)else 0:=by
 obtain⟨f,hf⟩:∃ f:Nat->Rat,f=fun j=>Q j*if j<=d then G (d - j)else 0:=⟨_,rfl⟩
 rw[<-hf];have h1:cv Q G d=sm (d+1) f:=by
  rw[QA];refine CF fun i hi=>?_;rw[hf];simp only;rw[if_pos Aa]
 have h2:sm (max k (d+1)) f=sm k f:=OJ (fun i hi=>by rw[hf];simp only;rw[h i hi];grind) Aa;have h3:sm (max k (d+1)) f=sm (d+1) f:=OJ (fun i hi=>by rw[hf];simp only;rw[if_neg Aa];grind) Aa;rw[h1,<-h3,h2]
theorem OO{m n:Nat}{F G Q:Nat->Rat}(h:n<=m)(hQ:Bq (m - n+1) Q):I1 m (pad F (cv Q G)) n G=I1 m F n G:=by
 unfold I1;rw[<-QN (Q9 m F n G) (fun r=>decide (r < n)) (fun _=>m - n+1) (fun _ j=>Q j) (fun r j=>m+r - j) fun i j hi hp hj=>by
  simp only[decide_eq_true_eq]at hp;exact⟨Aa,Dn⟩]
 refine CL fun r c hr hc=>?_;by_cases h1:r < n
 ·rw[if_pos (by simpa using h1)]
  unfold Q9;rw[if_pos h1,if_pos h1];by_cases h2:c<=m+r
  ·rw[if_pos h2,if_pos h2]
   show F _+cv Q G _=_;rw[WT hQ];congr 1;refine CF fun j hj=>?_;rw[if_neg (show ¬ m+r - j < n by omega)];by_cases h3:j<=m+r - c
   ·rw[if_pos h3,if_pos Aa];congr 2;omega
   ·rw[if_neg h3,if_neg Aa]
  ·rw[if_neg h2,if_neg h2]
   have:sm (m - n+1) (fun j=>Q j*if m+r - j < n then(if c<=m+(m+r - j)then F (m+(m+r - j) - c)else 0)else if c<=m+r - j then G (m+r - j - c)else 0)=sm (m - n+1) (fun _=>0):=CF fun j hj=>by
    rw[if_neg Aa,if_neg Aa];grind
   rw[this,Mv];grind
 ·rw[if_neg (by simpa using h1)]
  unfold Q9;rw[if_neg h1,if_neg h1]
theorem QE{m n:Nat}{F G Q:Nat->Rat}(h:m<=n)(hQ:Bq (n - m+1) Q):I1 m F n (pad G (cv Q F))=I1 m F n G:=by
 unfold I1;rw[<-QN (Q9 m F n G) (fun r=>decide (n<=r)) (fun _=>n - m+1) (fun _ j=>Q j) (fun r j=>r - j - m) fun i j hi hp hj=>by
  simp only[decide_eq_true_eq]at hp;exact⟨Aa,Dn⟩]
 refine CL fun r c hr hc=>?_;by_cases h1:r < n
 ·rw[if_neg Dn]
  unfold Q9;rw[if_pos h1,if_pos h1]
 ·rw[if_pos Dn]
  unfold Q9;rw[if_neg h1,if_neg h1];by_cases h2:c<=r
  ·rw[if_pos h2,if_pos h2]
   show G _+cv Q F _=_;rw[WT hQ];congr 1;refine CF fun j hj=>?_;rw[if_pos (show r - j - m < n by omega)];by_cases h3:j<=r - c
   ·rw[if_pos h3,if_pos Aa];congr 2;omega
   ·rw[if_neg h3,if_neg Aa]
  ·rw[if_neg h2,if_neg h2]
   have:sm (n - m+1) (fun j=>Q j*if r - j - m < n then(if c<=m+(r - j - m)then F (m+(r - j - m) - c)else 0)else if c<=r - j - m then G (r - j - m - c)else 0)=sm (n - m+1) (fun _=>0):=CF fun j hj=>by
    rw[if_pos Aa,if_neg Aa];grind
   rw[this,Mv];grind
theorem Sq{F:Nat->Rat}(hF:Bq 1 F)(G:Nat->Rat):∀ n,I1 0 F n G=F 0^n
 | 0=>by rw[Rat.pow_zero];rfl
 | n+1=>by rw[SQ hF (.inl rfl),Sq hF G n,Rat.pow_succ];grind
theorem Qj(F:Nat->Rat){G:Nat->Rat}(hG:Bq 1 G):∀ m,I1 m F 0 G=G 0^m
 | 0=>by rw[Rat.pow_zero];rfl
 | m+1=>by
  have:I1 (m+1) F 0 G=sg 0*G 0*I1 m F 0 G:=by
   unfold I1;rw[show m+1+0=m+0+1 from Aa,P7 (k:=0) Aa]
   ·rw[show Q9 (m+1) F 0 G 0 0=G 0 from by unfold Q9;rw[if_neg Aa,if_pos Aa]]
    congr 1;refine CL fun r c hr hc=>?_;unfold D8;rw[jZ];unfold Q9;rw[if_neg (show ¬ r+1 < 0 by omega),if_neg (show ¬ r < 0 by omega)];by_cases h2:c<=r
    ·rw[if_pos h2,if_pos (show c+1<=r+1 by omega)];congr 1;omega
    ·rw[if_neg h2,if_neg (show ¬ c+1<=r+1 by omega)]
   ·intro i hi hne
    unfold Q9;rw[if_neg Aa,if_pos Aa];exact hG _ Aa
  rw[this,Qj F hG m,Rat.pow_succ,GZ];grind
theorem LF(m n:Nat):sg ((m+1)*n)=sg (m*n)*sg n:=by rw[Nat.succ_mul,SI]
theorem TT{m n:Nat}{F G:Nat->Rat}(h:n<=m)(hF:Bq (m+1) F)(hG:Bq (n+1) G)(h0:G n≠0):∃ Q,Bq (m - n+1) Q/\Bq m (pad F (cv Q G)):=by
 refine⟨mono (m - n) (-(F m / G n)),ER _ _,fun i hi=>?_⟩;rw[Gf];show F i+_*sh (m - n) G i=0;rcases Nat.eq_or_lt_of_le hi with e | e
 ·subst e;unfold sh;rw[if_neg Aa,show m - (m - n)=n from by omega];grind
 ·unfold sh;rw[hF i Aa,if_neg Aa,hG (i - (m - n)) Aa];grind
theorem Nu:∀(s:Nat) {m n:Nat} {F G:Nat->Rat},m+n<=s->Bq (m+1) F->Bq (n+1) G->I1 n G m F=sg (m*n)*I1 m F n G
 | s,0,n,F,G,_,hF,_=>by rw[Qj G hF,Sq hF G,Nat.zero_mul,GZ];grind
 | s,m+1,0,F,G,_,_,hG=>by rw[Sq hG F,Qj F hG,Nat.mul_zero,GZ];grind
 | 0,m+1,n+1,_,_,h,_,_=>absurd h Aa
 | s+1,m+1,n+1,F,G,hs,hF,hG=>by
  have hf:∀ {F:Nat->Rat},Bq (m+1) F->I1 (n+1) G (m+1) F=sg ((m+1)*(n+1))*I1 (m+1) F (n+1) G:=fun {F} h=>by
   rw[SQ hG (.inr h),TC h hG,Nu s (m:=m) (n:=n+1) Aa h hG,LF];have:=TP (n+1);grind
  have hg:∀ {G:Nat->Rat},Bq (n+1) G->I1 (n+1) G (m+1) F=sg ((m+1)*(n+1))*I1 (m+1) F (n+1) G:=fun {G} h=>by
   rw[TC h hF,SQ hF (.inr h),Nu s (m:=m+1) (n:=n) Aa hF h,Nat.mul_comm (m+1) (n+1),LF n (m+1),Nat.mul_comm n (m+1)];have:=TP (m+1);grind
  by_cases h1:F (m+1)=0
  ·exact hf fun i hi=>by
    rcases Nat.eq_or_lt_of_le hi with e | e
    ·rw[<-e];exact h1
    ·exact hF i Aa
  ·by_cases h2:G (n+1)=0
   ·exact hg fun i hi=>by
     rcases Nat.eq_or_lt_of_le hi with e | e
     ·rw[<-e];exact h2
     ·exact hG i Aa
   ·rcases Nat.le_total (n+1) (m+1)with h3 | h3
    ·obtain⟨Q,hQ,hR⟩:=TT h3 hF hG h2
     rw[<-OO h3 hQ,<-QE h3 hQ];exact hf hR
    ·obtain⟨Q,hQ,hR⟩:=TT h3 hG hF h1
     rw[<-OO h3 hQ,<-QE h3 hQ];exact hg hR
theorem M6{m n:Nat}{F G:Nat->Rat}(hF:Bq (m+1) F)(hG:Bq (n+1) G):I1 n G m F=sg (m*n)*I1 m F n G:=Nu (m+n) (Nat.le_refl _) hF hG
theorem Rj{r n:Nat}{R G:Nat->Rat}(hR:Bq (r+1) R)(hG:Bq (n+1) G):∀ k,I1 (r+k) R n G=sg (n*k)*G n^k*I1 r R n G
 | 0=>by rw[Nat.mul_zero,GZ,Rat.pow_zero];show I1 r R n G=_;grind
 | k+1=>by
  rw[<-Nat.add_assoc,TC (hR.mono Aa) hG,Rj hR hG k,Nat.mul_succ,SI,Rat.pow_succ];grind
theorem Xg{m n r:Nat}{F G Q R:Nat->Rat}(h:n<=m)(hr:r<=m)(hG:Bq (n+1) G)(hQ:Bq (m - n+1) Q)(hR:Bq (r+1) R)(e:F=pad (cv Q G) R):I1 m F n G=sg (m*n)*G n^(m - r)*I1 n G r R:=by
 rw[show F=pad R (cv Q G)from by rw[e];funext i;simp only[pad];grind,OO h hQ];have h1:=Rj hR hG (m - r);rw[show r+(m - r)=m from by omega]at h1;rw[h1,M6 hR hG,show m*n=n*(m - r)+r*n from by rw[Nat.mul_sub,Nat.mul_comm n m,Nat.mul_comm n r];have:=Nat.mul_le_mul_right n hr;omega,SI];have:=TP (r*n);grind
theorem Ur{m n:Nat}(a:Rat)(F G:Nat->Rat):I1 m (psc a F) n G=a^n*I1 m F n G:=by
 unfold I1;rw[<-OD (Q9 m F n G) a n Aa];refine CL fun r c _ _=>?_;unfold Q9;by_cases h:r < n
 ·rw[if_pos h,if_pos h,if_pos h]
  split
  ·rfl
  ·grind
 ·rw[if_neg h,if_neg h,if_neg h]
theorem XT{m n:Nat}(a:Rat){F G:Nat->Rat}(hF:Bq (m+1) F)(hG:Bq (n+1) G):I1 m F n (psc a G)=a^m*I1 m F n G:=by
 have h1:=M6 (hG.psc a) hF;have h2:=M6 hG hF;rw[h1,h2,Ur];grind
noncomputable def res(F G:Nat->Rat):Rat:=if pl F=0\/pl G=0 then 0 else I1 (pl F - 1) F (pl G - 1) G
theorem Xn{f:Nat->Rat}:∀ {n:Nat},(∀ i,i < n->∃ z:Int,f i=(z:Rat))->∃ z:Int,sm n f=(z:Rat)
 | 0,_=>⟨0,rfl⟩
 | n+1,h=>by
  obtain⟨a,ha⟩:=Xn (n:=n) fun i hi=>h i Aa;obtain⟨b,hb⟩:=h n Aa;exact⟨a+b,by rw[Br,ha,hb,Rat.intCast_add]⟩
theorem IM:qsz 0=1:=by decide
def El(N:Nat)(F:Nat->Rat):List (Option Rat):=(List.range N).map fun i=>some (F i)
theorem Ro(N:Nat)(F:Nat->Rat):(El N F).length=N:=by simp[El]
theorem XE{N:Nat}{F G:Nat->Rat}{p:Nat}{x:Rat}(h:∀ n,G n=if n=p then x else F n):(El N F).set p (some x)=El N G:=by
 apply List.ext_getElem
 ·simp[El]
 ·intro i h1 h2
  have hi:i < N:=by simpa[El] using h2
  rw[List.getElem_set];simp only[El,List.getElem_map,List.getElem_range];rw[h i];by_cases e:p=i
  ·rw[if_pos e,if_pos e.symm]
  ·rw[if_neg e,if_neg (fun e'=>e e'.symm)]
theorem Yq{N:Nat}{F:Nat->Rat}{i:Nat}(h:i < (El N F).length):(El N F)[i]=some (F i):=by simp[El]
theorem KH(N:Nat)(F:Nat->Rat):El N F=((List.range N).map F).map some:=by simp[El]
theorem Fs(N:Nat)(F:Nat->Rat):((List.range N).map F).length=N:=by simp
def mx(j:Nat)(F' F:Nat->Rat)(i:Nat):Rat:=if i < j then F' i else F i
theorem Ui(F' F:Nat->Rat):mx 0 F' F=F:=by funext i;unfold mx;rw[if_neg Aa]
theorem Xo(j:Nat)(F' F:Nat->Rat):mx j F' F j=F j:=by unfold mx;rw[if_neg Aa]
theorem S9{N j:Nat}(F' F:Nat->Rat):(DF N (mx j F' F)).set j (F' j).num=DF N (mx (j+1) F' F):=by
 apply List.ext_getElem
 ·simp[DF]
 ·intro i h1 h2
  rw[List.getElem_set,Cc,Cc];unfold mx;by_cases e:j=i
  ·subst e;rw[if_pos rfl,if_pos Aa]
  ·rw[if_neg e]
   by_cases e2:i < j
   ·rw[if_pos e2,if_pos Aa]
   ·rw[if_neg e2,if_neg Aa]
theorem Wt{N j:Nat}(h:N<=j)(F' F:Nat->Rat):DF N (mx j F' F)=DF N F':=by
 apply List.ext_getElem
 ·simp[DF]
 ·intro i h1 h2
  rw[Cc,Cc];unfold mx;rw[Bb]at h1;rw[if_pos Aa]
theorem Zi{j:Nat}{F' F:Nat->Rat}(h:∀ i,j<=i->F' i=F i):mx j F' F=F':=by
 funext i;unfold mx;split
 ·rfl
 ·exact(h i Aa).symm
theorem ZQ{j:Nat}{F' F:Nat->Rat}(h:∀ i,i < j->F' i=F i):mx j F' F=F:=by
 funext i;unfold mx;split
 ·exact h i Aa
 ·rfl
theorem ZI.psc{F:Nat->Rat}(h:ZI F)(a:Int):ZI (psc (a:Rat) F):=fun i=>by
 obtain⟨n,e⟩:=h i;exact⟨a*n,by show(a:Rat)*F i=_;rw[e,Rat.intCast_mul]⟩
theorem ZI.pad{F G:Nat->Rat}(h:ZI F)(k:ZI G):ZI (pad F G):=fun i=>by
 obtain⟨n,e⟩:=h i;obtain⟨m,e'⟩:=k i;exact⟨n+m,by show F i+G i=_;rw[e,e',Rat.intCast_add]⟩
theorem ZI.psb{F G:Nat->Rat}(h:ZI F)(k:ZI G):ZI (psb F G):=fun i=>by
 obtain⟨n,e⟩:=h i;obtain⟨m,e'⟩:=k i;exact⟨n - m,by show F i - G i=_;rw[e,e',Rat.intCast_sub]⟩
theorem ZI.pz:ZI pz:=fun _=>⟨0,rfl⟩
theorem ZI.sh{F:Nat->Rat}(h:ZI F)(k:Nat):ZI (sh k F):=fun i=>by
 unfold Hp.sh;split
 ·exact⟨0,rfl⟩
 ·exact h _
theorem ZI.mono(k:Nat)(a:Int):ZI (mono k (a:Rat)):=fun i=>by
 unfold Hp.mono;split
 ·exact⟨a,rfl⟩
 ·exact⟨0,rfl⟩
theorem ZI.at_{F:Nat->Rat}(h:ZI F)(i:Nat):F i=((F i).num:Rat):=h.num i
theorem num_add(a b:Int):((a:Rat)+(b:Rat)).num=a+b:=by rw[<-Rat.intCast_add];rfl
theorem num_sub(a b:Int):((a:Rat) - (b:Rat)).num=a - b:=by rw[<-Rat.intCast_sub];rfl
theorem num_mul(a b:Int):((a:Rat)*(b:Rat)).num=a*b:=by rw[<-Rat.intCast_mul];rfl
theorem ZI.num_add{F G:Nat->Rat}(h:ZI F)(k:ZI G)(i j:Nat):(F i+G j).num=(F i).num+(G j).num:=by rw[h.num i,k.num j,Hp.num_add];rfl
theorem ZI.num_sub{F G:Nat->Rat}(h:ZI F)(k:ZI G)(i j:Nat):(F i - G j).num=(F i).num - (G j).num:=by rw[h.num i,k.num j,Hp.num_sub];rfl
theorem ZI.num_mul{F G:Nat->Rat}(h:ZI F)(k:ZI G)(i j:Nat):(F i*G j).num=(F i).num*(G j).num:=by rw[h.num i,k.num j,Hp.num_mul];rfl
theorem WC{F G:Nat->Rat}(h:ZI F)(k:ZI G)(i j:Nat):qsz (F i+G j)<=max (qsz (F i)) (qsz (G j))+1:=by
 rw[h.num i,k.num j,<-Rat.intCast_add,Bz,Bz,Bz];have h1:=Gi (F i).num.natAbs (G j).num.natAbs;have h2:=Bf (Int.natAbs_add_le (F i).num (G j).num);omega
theorem Nq{F G:Nat->Rat}(h:ZI F)(k:ZI G)(i j:Nat):qsz (F i - G j)<=max (qsz (F i)) (qsz (G j))+1:=by
 rw[h.num i,k.num j,<-Rat.intCast_sub,Bz,Bz,Bz];have h1:=Gi (F i).num.natAbs (G j).num.natAbs;have h2:=Bf (show((F i).num - (G j).num).natAbs<=(F i).num.natAbs+(G j).num.natAbs by omega);omega
/-! ### pseudo-division -/
noncomputable def D6(F G:Nat->Rat):Nat->Nat->Rat
 | 0=>F
 | k+1=>psb (psc (ld G) (D6 F G k)) (psc (D6 F G k (pl F - 1 - k)) (sh (pl F - pl G - k) G))
noncomputable def Gr(F G:Nat->Rat):Nat->Nat->Rat
 | 0=>pz
 | k+1=>pad (psc (ld G) (Gr F G k)) (mono (pl F - pl G - k) (D6 F G k (pl F - 1 - k)))
theorem EI{F G:Nat->Rat}(hF:ZI F)(hG:ZI G):∀ k,ZI (D6 F G k)
 | 0=>hF
 | k+1=>by
  have ih:=EI hF hG k;have h1:=hG.num (pl G - 1);have h2:=ih.num (pl F - 1 - k);unfold D6;rw[show ld G=((G (pl G - 1)).num:Rat)from h1,h2];exact(ih.psc _).psb ((hG.sh _).psc _)
theorem Sr{F G:Nat->Rat}(hF:ZI F)(hG:ZI G):∀ k,ZI (Gr F G k)
 | 0=>ZI.pz
 | k+1=>by
  have ih:=Sr hF hG k;have h1:=hG.num (pl G - 1);have h2:=(EI hF hG k).num (pl F - 1 - k);unfold Gr;rw[show ld G=((G (pl G - 1)).num:Rat)from h1,h2];exact(ih.psc _).pad (ZI.mono _ _)
theorem JW{F G:Nat->Rat}(hF:Ae F)(hG:Ae G)(h0:G≠pz):∀ k,k<=pl F+1 - pl G->Bq (pl F - k) (D6 F G k)
 | 0,_=>AB hF
 | k+1,hk=>fun i hi=>by
  have ih:=JW hF hG h0 k Aa;have hp:=AQ hG h0;unfold D6;show ld G*D6 F G k i - D6 F G k (pl F - 1 - k)*sh (pl F - pl G - k) G i=0;by_cases e:i=pl F - 1 - k
  ·subst e
   have:sh (pl F - pl G - k) G (pl F - 1 - k)=ld G:=by
    unfold sh;rw[if_neg Aa];show G _=G _;congr 1;omega
   rw[this];grind
  ·have h1:D6 F G k i=0:=ih i Aa
   have h2:sh (pl F - pl G - k) G i=0:=by
    unfold sh;split
    ·rfl
    ·exact AB hG _ Aa
   rw[h1,h2];grind
theorem Je{F G:Nat->Rat}(h:pl G<=pl F):∀ k,k<=pl F+1 - pl G->Bq (pl F+1 - pl G) (Gr F G k)/\∀ i,i+k < pl F+1 - pl G->Gr F G k i=0
 | 0,_=>⟨Bq.pz _,fun _ _=>rfl⟩
 | k+1,hk=>by
  obtain⟨h1,h2⟩:=Je h k Aa;unfold Gr;refine⟨(h1.psc _).pad ((ER _ _).mono Aa),fun i hi=>?_⟩;show ld G*Gr F G k i+mono (pl F - pl G - k) _ i=0;rw[h2 i Aa,F3 Aa];grind
theorem PH{F G:Nat->Rat}:∀ k,psc (ld G^k) F=pad (cv (Gr F G k) G) (D6 F G k)
 | 0=>by rw[Rat.pow_zero,Cu];unfold Gr D6;rw[Cv];funext i;simp only[pad,pz];grind
 | k+1=>by
  have ih:=PH (F:=F) (G:=G) k;rw[show Gr F G (k+1)=pad (psc (ld G) (Gr F G k)) (mono (pl F - pl G - k) (D6 F G k (pl F - 1 - k)))from rfl,show D6 F G (k+1)=psb (psc (ld G) (D6 F G k)) (psc (D6 F G k (pl F - 1 - k)) (sh (pl F - pl G - k) G))from rfl];generalize D6 F G k (pl F - 1 - k)=a;generalize D6 F G k=P at ih ⊢;generalize Gr F G k=Q at ih ⊢;rw[D5,Gf,Cz];generalize sh (pl F - pl G - k) G=H
  funext i
  have:=congrFun ih i;simp only[psc,pad,psb,Rat.pow_succ]at this ⊢;generalize cv Q G i=u at this ⊢;generalize P i=v at this ⊢;generalize H i=y at this ⊢;grind
theorem J4{F G:Nat->Rat}(hF:Ae F)(hG:Ae G)(h0:G≠pz):Gr F G (pl F+1 - pl G)=psc (ld G^(pl F+1 - pl G)) (pq F G)/\D6 F G (pl F+1 - pl G)=psc (ld G^(pl F+1 - pl G)) (pr F G):=by
 have hp:=AQ hG h0;have e1:=PH (F:=F) (G:=G) (pl F+1 - pl G);have hs:Bq (pl G - 1) (D6 F G (pl F+1 - pl G)):=by
  by_cases h:pl G<=pl F
  ·exact(JW hF hG h0 _ (Nat.le_refl _)).mono Aa
  ·rw[show pl F+1 - pl G=0 from by omega];exact(AB hF).mono Aa
 have hq:Ae (Gr F G (pl F+1 - pl G)):=by
  by_cases h:pl G<=pl F
  ·exact⟨_,(Je h _ (Nat.le_refl _)).1⟩
  ·rw[show pl F+1 - pl G=0 from by omega];exact Ae.pz
 have d1:=IL (hF.psc (ld G^(pl F+1 - pl G))) hG h0 hq e1 hs;have d2:=IL (hF.psc (ld G^(pl F+1 - pl G))) hG h0 ((Dy F G).psc (ld G^(pl F+1 - pl G))) (R:=psc (ld G^(pl F+1 - pl G)) (pr F G)) (by
  rw[Cz]
  funext i
  have:=congrFun (KL F G) i;simp only[psc,pad]at this ⊢;rw[this];grind) ((Er hF hG h0).psc _)
 exact⟨d1.1.trans d2.1.symm,d1.2.trans d2.2.symm⟩
theorem FX{F G:Nat->Rat}{s t:Nat}(hF:ZI F)(hG:ZI G)(hs:∀ i,qsz (F i)<=s)(ht:∀ i,qsz (G i)<=t):∀ k i,qsz (D6 F G k i)<=s+k*(t+1)
 | 0,i=>by have:=hs i;show qsz (F i)<=_;omega
 | k+1,i=>by
  have ih:=FX hF hG hs ht k;have hz:=EI hF hG k;have h1:=hG.num (pl G - 1);have h2:=hz.num (pl F - 1 - k);have hA:ZI (psc (ld G) (D6 F G k)):=by rw[show ld G=((G (pl G - 1)).num:Rat)from h1];exact hz.psc _
  have hB:ZI (psc (D6 F G k (pl F - 1 - k)) (sh (pl F - pl G - k) G)):=by rw[h2];exact(hG.sh _).psc _
  have h3:=Nq hA hB i i;have h4:qsz (psc (ld G) (D6 F G k) i)<=t+(s+k*(t+1)):=by
   have a:=CG (ld G) (D6 F G k i);have b:=ht (pl G - 1);have c:=ih i;show qsz (ld G*D6 F G k i)<=_;have:qsz (ld G)<=t:=b;omega
  have h5:qsz (psc (D6 F G k (pl F - 1 - k)) (sh (pl F - pl G - k) G) i)<=(s+k*(t+1))+t:=by
   have a:=CG (D6 F G k (pl F - 1 - k)) (sh (pl F - pl G - k) G i);have c:=ih (pl F - 1 - k);have b:qsz (sh (pl F - pl G - k) G i)<=t:=by
    unfold sh;split
    ·have:=ht 0;have h1:=FY (G 0);rw[IM];omega
    ·exact ht _
   show qsz (D6 F G k (pl F - 1 - k)*sh (pl F - pl G - k) G i)<=_;omega
  unfold D6;rw[Nat.succ_mul];show qsz (psc (ld G) (D6 F G k) i - psc (D6 F G k (pl F - 1 - k)) (sh (pl F - pl G - k) G) i)<=_;omega
theorem TZ{F G:Nat->Rat}{s t:Nat}(hF:ZI F)(hG:ZI G)(hs:∀ i,qsz (F i)<=s)(ht:∀ i,qsz (G i)<=t)(h:pl G<=pl F):∀ k,k<=pl F+1 - pl G->∀ i,qsz (Gr F G k i)<=s+k*(t+1)
 | 0,_,i=>by have:=hs i;have h1:=FY (F i);show qsz 0<=_;rw[IM];omega
 | k+1,hk,i=>by
  have ih:=TZ hF hG hs ht h k Aa;have h2:=(Je h k Aa).2;have h3:=FX hF hG hs ht k (pl F - 1 - k);unfold Gr;rw[Nat.succ_mul];show qsz (ld G*Gr F G k i+mono (pl F - pl G - k) _ i)<=_;by_cases e:i=pl F - pl G - k
  ·subst e
   rw[h2 _ Aa,K4,show ∀ x:Rat,ld G*0+x=x from fun x=>by grind];omega
  ·rw[F3 e,show ∀ x:Rat,x+0=x from fun x=>by grind]
   have a:=CG (ld G) (Gr F G k i);have b:=ht (pl G - 1);have c:=ih i;have:qsz (ld G)<=t:=b;omega
theorem ME{F G:Nat->Rat}(hF:Ae F)(hG:Ae G)(h:F≠pz)(k:G≠pz):res F G=I1 (pl F - 1) F (pl G - 1) G:=by
 have:=AQ hF h;have:=AQ hG k;unfold res;rw[if_neg Aa]
theorem J8{F:Nat->Rat}(h:Ae F):Bq (pl F - 1+1) F:=(AB h).mono Aa
theorem FK(q:Rat):sz q.num.natAbs<=qsz q:=by unfold qsz;omega
theorem Kh(a:Int):∀ n:Nat,((a:Rat))^n=((a^n:Int):Rat)
 | 0=>by rw[Rat.pow_zero,Int.pow_zero];rfl
 | n+1=>by rw[Rat.pow_succ,Kh a n,Int.pow_succ,Rat.intCast_mul]
theorem OT{a:Rat}(h:a≠0):∀ n:Nat,a^n≠0
 | 0=>by rw[Rat.pow_zero];decide
 | n+1=>by
  rw[Rat.pow_succ];intro e;rcases Rat.mul_eq_zero.1 e with e | e
  ·exact OT h n e
  ·exact h e
theorem QT(a:Rat)(m:Nat):∀ n:Nat,(a^m)^n=a^(m*n)
 | 0=>by rw[Rat.pow_zero,Nat.mul_zero,Rat.pow_zero]
 | n+1=>by
  rw[Rat.pow_succ,QT a m n,Nat.mul_succ];generalize m*n=k;induction m with
  | zero=>rw[Rat.pow_zero];grind
  | succ m ih=>rw[Rat.pow_succ,<-Nat.add_assoc,Rat.pow_succ,<-ih];grind
theorem IX(x:Int)(s:Nat)(h:sz x.natAbs<=s):∀ n:Nat,sz (x^n).natAbs<=1+n*s
 | 0=>by rw[Int.pow_zero];have:sz (1:Int).natAbs<=1:=Ab;omega
 | n+1=>by
  rw[Int.pow_succ,Int.natAbs_mul,Nat.succ_mul];have h1:=Ca (x^n).natAbs x.natAbs;have h2:=IX x s h n;omega
theorem Me(x:Int)(s:Nat)(h:sz x.natAbs<=s){n:Nat}(hn:0 < n):sz (x^n).natAbs<=n*s:=by
 obtain⟨n,rfl⟩:∃ k,n=k+1:=⟨n - 1,Aa⟩
 clear hn;induction n with
 | zero=>rw[Int.pow_succ,Int.pow_zero,Int.one_mul];omega
 | succ n ih =>
  rw[Int.pow_succ,Int.natAbs_mul,Nat.succ_mul];have h1:=Ca (x^(n+1)).natAbs x.natAbs;omega
theorem UW{F G:Nat->Rat}(hF:Ae F)(hG:Ae G)(hf:F≠pz)(hg:G≠pz)(h:pl G<=pl F)(hzF:ZI F)(hzG:ZI G){R:Nat->Rat}(hR:R=D6 F G (pl F+1 - pl G))(h0:R≠pz) :
  res F G*ld G^((pl F+1 - pl G)*(pl G - 1))=sg ((pl F - 1)*(pl G - 1))*((pcn R:Int):Rat)^(pl G - 1)*ld G^(pl F - 1 - (pl R - 1))*res G (pp R):=by
 have hp:=AQ hG hg;have hRz:ZI R:=hR▸EI hzF hzG _;have hRs:Bq (pl G - 1) R:=by
  rw[hR];exact(JW hF hG hg _ (Nat.le_refl _)).mono Aa
 have hRf:Ae R:=⟨_,hRs⟩
 have hrl:=BX hRs;have hrp:=AQ hRf h0;have hP:=Xi hRz hRf h0;have hPf:=Db hRf;have hPl:=DR hRz hRf;rw[ME hF hG hf hg,ME hG hPf hg hP,hPl,<-QT,Rat.mul_comm,<-Ur];have e:=PH (F:=F) (G:=G) (pl F+1 - pl G);rw[<-hR]at e;rw[Xg (r:=pl R - 1) Aa Aa (J8 hG) ((Je h _ (Nat.le_refl _)).1.mono Aa) (J8 hRf) e];have e2:I1 (pl G - 1) G (pl R - 1) R=((pcn R:Int):Rat)^(pl G - 1)*I1 (pl G - 1) G (pl R - 1) (pp R):=by
  have:=XT ((pcn R:Int):Rat) (m:=pl G - 1) (n:=pl R - 1) (J8 hG) (G:=pp R) (by have:=J8 hPf;rw[hPl]at this;exact this);rw[<-Ow hRz hRf h0]at this;exact this
 rw[e2];show _*G (pl G - 1)^_*_=_*_*G (pl G - 1)^_*_;grind
theorem Y7{F G:Nat->Rat}(hF:Ae F)(hG:Ae G)(hf:F≠pz)(hg:G≠pz):res F G=sg ((pl F - 1)*(pl G - 1))*res G F:=by
 rw[ME hF hG hf hg,ME hG hF hg hf,M6 (J8 hF) (J8 hG)];have:=TP ((pl F - 1)*(pl G - 1));grind
theorem VC{F G:Nat->Rat}(hF:Ae F)(hG:Ae G)(hf:F≠pz)(h:pl G=1):res F G=G 0^(pl F - 1):=by
 have hg:G≠pz:=fun e=>by rw[e,BJ]at h;omega
 rw[ME hF hG hf hg,h];exact Qj F (h▸AB hG) _
structure Jm(F0 G0:Nat->Rat)(D S:Nat)(F G:Nat->Rat)(x y:Int):Prop where
 fF:Ae F
 fG:Ae G
 nF:F≠pz
 nG:G≠pz
 zF:ZI F
 zG:ZI G
 eq:res F0 G0*(y:Rat)=(x:Rat)*res F G
 ny:y≠0
 len:pl F+pl G<=D
 qF:∀ i,qsz (F i)+1<=(S+1)*2^(D - (pl F+pl G))
 qG:∀ i,qsz (G i)+1<=(S+1)*2^(D - (pl F+pl G))
 sx:sz x.natAbs<=1+(D - (pl F+pl G))*(D*((S+1)*2^D))
 sy:sz y.natAbs<=1+(D - (pl F+pl G))*(D*((S+1)*2^D))
theorem Jm.start{F G:Nat->Rat}{S:Nat}(hF:Ae F)(hG:Ae G)(hf:F≠pz)(hg:G≠pz)(zF:ZI F)(zG:ZI G)(qF:∀ i,qsz (F i)<=S)(qG:∀ i,qsz (G i)<=S):Jm F G (pl F+pl G) S F G 1 1:=
  ⟨hF,hG,hf,hg,zF,zG,Af,Ab,Nat.le_refl _,fun i=>by have:=qF i;rw[Nat.sub_self,Nat.pow_zero];omega,fun i=>by have:=qG i;rw[Nat.sub_self,Nat.pow_zero];omega,
    by have:sz (1:Int).natAbs<=1:=by decide
       omega,by have:sz (1:Int).natAbs<=1:=Ab;omega⟩
def Zz(k:Nat)(x:Int):Int:=if k % 2=1 then -x else x
theorem aR(k:Nat)(x:Int):((Zz k x:Int):Rat)=sg k*(x:Rat):=by
 unfold Zz sg;rcases Nat.mod_two_eq_zero_or_one k with h | h
 ·rw[if_neg Aa,if_pos h];grind
 ·rw[if_pos h,if_neg Aa,Rat.intCast_neg];grind
theorem M5(k:Nat)(x:Int):(Zz k x).natAbs=x.natAbs:=by unfold Zz;split<;>simp
theorem Jm.swap{F0 G0 F G:Nat->Rat}{D S:Nat}{x y:Int}(h:Jm F0 G0 D S F G x y):Jm F0 G0 D S G F (Zz ((pl F - 1)*(pl G - 1)) x) y:=
 ⟨h.fG,h.fF,h.nG,h.nF,h.zG,h.zF,by rw[h.eq,Y7 h.fF h.fG h.nF h.nG,aR];grind,h.ny,by have:=h.len;omega,by rw[Nat.add_comm (pl G)];exact h.qG,by rw[Nat.add_comm (pl G)];exact h.qF,
  by rw[M5,Nat.add_comm (pl G)];exact h.sx,by rw[Nat.add_comm (pl G)];exact h.sy⟩
theorem MP(d:Nat):d+1<=2^d:=by
 induction d with
 | zero=>decide
 | succ d ih=>rw[Nat.pow_succ];omega
theorem Jm.room{F0 G0 F G:Nat->Rat}{D S:Nat}{x y:Int}(h:Jm F0 G0 D S F G x y)(hl:pl G<=pl F){R:Nat->Rat}(hR:R=D6 F G (pl F+1 - pl G)) :
  (∀ i,qsz (F i)<=(S+1)*2^D)/\(∀ i,qsz (G i)<=(S+1)*2^D)/\(∀ i,qsz (R i)+1<=(S+1)*2^(D - (pl F+pl G)+(pl F+1 - pl G))):=by
 have up:∀ a:Nat,a<=D->(S+1)*2^a<=(S+1)*2^D:=fun a ha=>Nat.mul_le_mul_left _ (Nat.pow_le_pow_right Ab ha);have h1:=up (D - (pl F+pl G)) Aa;refine⟨fun i=>by have:=h.qF i;omega,fun i=>by have:=h.qG i;omega,fun i=>?_⟩;obtain⟨M,hM⟩:∃ M,M=(S+1)*2^(D - (pl F+pl G)):=⟨_,rfl⟩
 have hp:0 < M:=by rw[hM];exact Nat.mul_pos Aa (Nat.pow_pos Ab)
 have h2:=FX (s:=M - 1) (t:=M - 1) h.zF h.zG (fun i=>by have:=h.qF i;omega) (fun i=>by have:=h.qG i;omega) (pl F+1 - pl G) i;rw[<-hR]at h2;rw[Nat.pow_add,<-Nat.mul_assoc,<-hM];have h3:=MP (pl F+1 - pl G);have h4:M*(pl F+1 - pl G+1)<=M*2^(pl F+1 - pl G):=Nat.mul_le_mul_left _ h3;rw[Nat.mul_succ,Nat.mul_comm M]at h4;rw[show M - 1+1=M from by omega]at h2;omega
theorem Jm.step{F0 G0 F G:Nat->Rat}{D S:Nat}{x y:Int}(h:Jm F0 G0 D S F G x y)(h1:1 < pl G)(hl:pl G<=pl F){R:Nat->Rat}(hR:R=D6 F G (pl F+1 - pl G))(h0:R≠pz) :
  Jm F0 G0 D S G (pp R) (Zz ((pl F - 1)*(pl G - 1)) x*pcn R^(pl G - 1)*(ld G).num^(pl F - 1 - (pl R - 1))) (y*(ld G).num^((pl F+1 - pl G)*(pl G - 1))):=by
 have hRz:ZI R:=hR▸EI h.zF h.zG _;have hRs:Bq (pl G - 1) R:=by rw[hR];exact(JW h.fF h.fG h.nG _ (Nat.le_refl _)).mono Aa
 have hRf:Ae R:=⟨_,hRs⟩
 have hrl:=BX hRs;have hrp:=AQ hRf h0;have hPl:=DR hRz hRf;have hld:ld G=((ld G).num:Rat):=h.zG.num _;have hldn:(ld G).num≠0:=fun e=>CW h.fG h.nG (by rw[hld,e];rfl);obtain⟨b1,b2,b3⟩:=h.room hl hR;have hlen:=h.len;obtain⟨M,hM⟩:∃ M,M=(S+1)*2^D:=⟨_,rfl⟩
 have hup:∀ a:Nat,a<=D->(S+1)*2^a<=M:=fun a ha=>by rw[hM];exact Nat.mul_le_mul_left _ (Nat.pow_le_pow_right Ab ha)
 have hRq:∀ i,qsz (R i)<=M:=fun i=>by
  have a:=b3 i;have b:=hup (D - (pl F+pl G)+(pl F+1 - pl G)) Aa;omega
 have hmono:∀ a b:Nat,a<=b->(S+1)*2^a<=(S+1)*2^b:=fun a b hab=>Nat.mul_le_mul_left _ (Nat.pow_le_pow_right Ab hab);have hsld:sz (ld G).num.natAbs<=M:=by
  have a:=FK (G (pl G - 1));have b:=b2 (pl G - 1);show sz (G (pl G - 1)).num.natAbs<=M;omega
 have hspc:sz (pcn R).natAbs<=M:=by rw[Fj];exact JC hRq _
 obtain⟨d,hd⟩:∃ d,d=pl F - pl R:=⟨_,rfl⟩
 have hD:D - (pl G+pl R)=D - (pl F+pl G)+d:=by omega
 refine⟨h.fG,Db hRf,h.nG,Xi hRz hRf h0,h.zG,II hRz hRf,?_,?_,by rw[hPl];omega,fun i=>?_,fun i=>?_,?_,?_⟩
 ·have e:=UW h.fF h.fG h.nF h.nG hl h.zF h.zG hR h0
  have e2:=h.eq;rw[Rat.intCast_mul,Rat.intCast_mul,Rat.intCast_mul,<-Kh,<-Kh,<-Kh,<-hld,aR];grind
 ·exact Int.mul_ne_zero h.ny (Int.pow_ne_zero hldn)
 ·rw[hPl,hD];exact Nat.le_trans (h.qG i) (hmono _ _ Aa)
 ·have a:=F6 hRz hRf (s:=(S+1)*2^(D - (pl F+pl G)+(pl F+1 - pl G)) - 1) (fun i=>by have:=b3 i;omega) i
  have b:=hmono (D - (pl F+pl G)+(pl F+1 - pl G)) (D - (pl F+pl G)+d) Aa;have c:=FY (pp R i);have p:0 < (S+1)*2^(D - (pl F+pl G)+(pl F+1 - pl G)):=Nat.mul_pos Aa (Nat.pow_pos Ab);rw[hPl,hD];omega
 ·rw[hPl,hD,Nat.add_mul,<-hM,Int.natAbs_mul,Int.natAbs_mul,M5]
  have a1:=h.sx;rw[<-hM]at a1;have a2:=Ca (x.natAbs*(pcn R^(pl G - 1)).natAbs) ((ld G).num^(pl F - 1 - (pl R - 1))).natAbs;have a3:=Ca x.natAbs (pcn R^(pl G - 1)).natAbs;have a4:=Me _ _ hspc (n:=pl G - 1) Aa;have a5:=Me _ _ hsld (n:=pl F - 1 - (pl R - 1)) Aa;rw[show pl F - 1 - (pl R - 1)=d from by omega]at a2 a5 ⊢;have a6:(pl G - 1)*M+d*M<=d*(D*M):=by
   have c1:(pl G - 1+d)*M<=(d*D)*M:=Nat.mul_le_mul_right _ (by
    have c2:d*(pl G)<=d*D:=Nat.mul_le_mul_left _ Aa;have c3:1*(pl G - 1)<=d*(pl G - 1):=Nat.mul_le_mul_right _ Aa;have c4:d*(pl G)=d*(pl G - 1)+d:=by rw[<-Nat.mul_succ];congr 1;omega
    omega)
   rw[Nat.add_mul,Nat.mul_assoc]at c1;exact c1
  omega
 ·rw[hPl,hD,Nat.add_mul,<-hM,Int.natAbs_mul]
  have a1:=h.sy;rw[<-hM]at a1;have a2:=Ca y.natAbs ((ld G).num^((pl F+1 - pl G)*(pl G - 1))).natAbs;have a4:=Me _ _ hsld (n:=(pl F+1 - pl G)*(pl G - 1)) (Nat.mul_pos Aa Aa);have a6:(pl F+1 - pl G)*(pl G - 1)*M<=d*(D*M):=by
   rw[Nat.mul_assoc];exact Nat.mul_le_mul Aa (Nat.mul_le_mul_right _ Aa)
  omega
theorem Jm.end_{F0 G0 F G:Nat->Rat}{D S:Nat}{x y:Int}(h:Jm F0 G0 D S F G x y)(h1:pl G=1)(hz:∃ z:Int,res F0 G0=(z:Rat)) :
  y∣x*(G 0).num^(pl F - 1)/\x*(G 0).num^(pl F - 1) / y=(res F0 G0).num:=by
 obtain⟨z,hz⟩:=hz;have e:=h.eq;rw[VC h.fF h.fG h.nF h1,h.zG.num 0,Kh,<-Rat.intCast_mul,hz,<-Rat.intCast_mul]at e;have e2:=KG e;rw[<-e2,hz];exact⟨⟨z,Int.mul_comm _ _⟩,by rw[Int.mul_ediv_cancel _ h.ny];rfl⟩
theorem Ext.a4{w w':World}{o p q r:Obj}(h:Ext ((((w.alloc o).alloc p).alloc q).alloc r) w'):Ext w w':=h.a1.a1.a1.a1
theorem I6{w w1:World}{g h n c n' c':Nat}{A A':Option Addr}{b b':Bool}{x y:Int}(hx:AC w1 (.agg #[.bool b,.slice A n c]) x)(hy:AC w1 (.agg #[.bool b',.slice A' n' c']) y)(he:Ext w w1)(hn:AJ w1 g)(hn':AJ w1 h)(hg:w.heap.size<=g)(hh:w.heap.size<=h) :
  AC ((((w1.setCell ⟨g,0,none⟩ (.bool b)).setCell ⟨g,1,none⟩ (.slice A n c)).setCell ⟨h,0,none⟩ (.bool b')).setCell ⟨h,1,none⟩ (.slice A' n' c')) (.agg #[.bool b,.slice A n c]) x /\
  AC ((((w1.setCell ⟨g,0,none⟩ (.bool b)).setCell ⟨g,1,none⟩ (.slice A n c)).setCell ⟨h,0,none⟩ (.bool b')).setCell ⟨h,1,none⟩ (.slice A' n' c')) (.agg #[.bool b',.slice A' n' c']) y /\
  Ext w ((((w1.setCell ⟨g,0,none⟩ (.bool b)).setCell ⟨g,1,none⟩ (.slice A n c)).setCell ⟨h,0,none⟩ (.bool b')).setCell ⟨h,1,none⟩ (.slice A' n' c')):=by
 have k:=((((KD.refl w1).set_ (i:=0) hn (.bool b)).set_ (i:=1) (hn.set_ rfl) (.slice A n c)).set_ (i:=0) ((hn'.set_ rfl).set_ rfl) (.bool b')).set_ (i:=1) (((hn'.set_ rfl).set_ rfl).set_ rfl) (.slice A' n' c');exact⟨hx.kd k,hy.kd k,(((he.setCell _ _ hg).setCell _ _ hg).setCell _ _ hh).setCell _ _ hh⟩
theorem AC.zero(w:World):AC w (.agg #[.bool false,.slice none 0 0]) 0:=
 ⟨false,[],⟨_,rfl,none,0,rfl,Ac,Aa,AV.nil,fun h=>by simp at h⟩,rfl,fun h=>absurd rfl h,fun h=>by cases h⟩
theorem euclid{x q r:Int}{M:Nat}(s:Bool)(h0:0<=r)(h1:r < M)(h:x=M*q+r) :
  x / (if s then -(M:Int)else M)=(if s then -q else q)/\x % (if s then -(M:Int)else M)=r:=by
 have hp:(0:Int) < M:=by omega
 have k:=(Int.ediv_emod_unique hp (a:=x) (r:=r) (q:=q)).2 ⟨by rw[h,Int.add_comm],h0,h1⟩;cases s
 ·exact k
 ·simp only[if_true,Int.ediv_neg,Int.emod_neg]
  exact⟨by rw[k.1],k.2⟩
theorem NF{N M:Nat}(s:Bool)(h:0 < M):(N:Int) / (if s then -(M:Int)else M)=(if s then -((N / M:Nat):Int)else(N / M:Nat))/\(N:Int) % (if s then -(M:Int)else M)=(N % M:Nat):=
 euclid s Aa (by have:=Nat.mod_lt N h;omega) (by have:=Nat.div_add_mod N M;rw[<-Int.natCast_mul];omega)
theorem LA{N M:Nat}(s:Bool)(h:0 < M)(h0:N % M=0):(-(N:Int)) / (if s then -(M:Int)else M)=(if (!s)then -((N / M:Nat):Int)else(N / M:Nat))/\(-(N:Int)) % (if s then -(M:Int)else M)=(N % M:Nat):=by
 have:=euclid (x:=-(N:Int)) (q:=-((N / M:Nat):Int)) (r:=(N % M:Nat)) (M:=M) s Aa (by have:=Nat.mod_lt N h;omega) (by have:=Nat.div_add_mod N M;rw[Int.mul_neg,<-Int.natCast_mul];omega);cases s<;>simpa using this
theorem MS{N M:Nat}(s:Bool)(h:0 < M)(h0:0 < N % M):(-(N:Int)) / (if s then -(M:Int)else M)=(if (!s)then -((N / M+1:Nat):Int)else(N / M+1:Nat))/\(-(N:Int)) % (if s then -(M:Int)else M)=(M - N % M:Nat):=by
 have hl:=Nat.mod_lt N h;have:=euclid (x:=-(N:Int)) (q:=-((N / M+1:Nat):Int)) (r:=(M - N % M:Nat)) (M:=M) s Aa Aa (by have:=Nat.div_add_mod N M;rw[Int.mul_neg,<-Int.natCast_mul,Nat.mul_add];omega);cases s<;>simpa using this
theorem Ci.unit(w:World)(t:TypeId):Ci (w.alloc (.cells #[.int .u32 1] t)) (.slice (some ⟨w.heap.size,0,none⟩) 1 1) 1 1:=by
 have h:BG (w.alloc (.cells #[.int .u32 1] t)) w.heap.size t [1]:=heap_alloc_new w _;exact⟨[1],h.digv Ac Ac Aa,by simp[Cm,BM],Ac⟩
theorem BC.uniq{w:World}{v:Value}{ds es:List Nat}(h:BC w v ds)(k:BC w v es):ds=es:=by
 obtain⟨A,c,rfl,h1,_,h2⟩:=h;obtain⟨A',c',he,k1,_,k2⟩:=k;have hl:ds.length=es.length:=by have:=congrArg (fun v=>match v with | Value.slice _ n _=>n | _=>0) he;simpa using this
 obtain rfl:A=A':=by have:=congrArg (fun v=>match v with | Value.slice p _ _=>p | _=>none) he;simpa using this
 apply List.ext_getElem hl
 intro i hi hi';obtain⟨a,rfl,ha⟩:=h2.2 Aa;obtain⟨b,hb,hb'⟩:=k2.2 Aa;cases hb;have h1:=ha i hi;have h2:=hb' i hi';rw[h1]at h2;simp only[Option.some.injEq,Value.int.injEq,true_and]at h2;omega
theorem Bl.uniq{w:World}{v:Value}{n m:Nat}(h:Bl w v n)(k:Bl w v m):n=m:=by
 obtain⟨ds,h1,rfl,_⟩:=h;obtain⟨es,k1,rfl,_⟩:=k;rw[h1.uniq k1]
open Classical in
/-- The number that a value reads as. -/
noncomputable def TN(v:Value)(w:World):Nat:=if h:∃ n,Bl w v n then h.choose else 0
theorem Md{w:World}{v:Value}{n:Nat}(h:Bl w v n):TN v w=n:=by
 unfold TN;rw[dif_pos ⟨n,h⟩];exact Bl.uniq (Exists.choose_spec (p:=fun n=>Bl w v n) ⟨n,h⟩) h
theorem AC.parts{w:World}{v:Value}{x:Int}(h:AC w v x):∃ b A n c,v = .agg #[.bool b,.slice A n c]/\n=sz x.natAbs/\b=decide (x < 0):=by
 obtain⟨A,c,e,_⟩:=h.form;exact⟨_,_,_,_,e,rfl,rfl⟩
theorem bD{x:Int}(h:x=0):(((sz x.natAbs:Nat):Int)==0)=true:=by subst h;rfl
theorem YB{x:Int}(h:x≠0):(((sz x.natAbs:Nat):Int)==0)=false:=by
 have:=DU (n:=x.natAbs) Aa;simp;omega
theorem GU(p:Int):(Rat.divInt p 1).num=p/\((Rat.divInt p 1).den:Int)=1:=by
 rw[Rat.num_divInt,Rat.den_divInt];simp
theorem CQ{p q:Int}(hq:0 < q):(Rat.divInt p q).num=p / (Int.gcd p q:Nat)/\((Rat.divInt p q).den:Int)=q / (Int.gcd p q:Nat):=by
 have hq0:q≠0:=by omega
 rw[Rat.num_divInt,Rat.den_divInt,if_neg hq0,Int.sign_eq_one_of_pos hq,Int.one_mul,Int.gcd_comm q p];refine⟨rfl,?_⟩;have:((q.natAbs:Nat):Int)=q:=by omega
 rw[Int.natCast_ediv,this]
theorem V6{p q:Int}(hq:0 < q){k:Nat}(h:sz q.natAbs<=k):sz ((Int.gcd p q:Nat):Int).natAbs<=k:=by
 refine Nat.le_trans (Bf ?_) h;rw[Int.natAbs_natCast];exact Nat.le_of_dvd Aa (Nat.gcd_dvd_right _ _)
def LP(x y:Int):Int:=if y < 0 then -((Int.gcd x y:Nat):Int)else(Int.gcd x y:Nat)
theorem iC{x y:Int}(h:y≠0):LP x y≠0:=by
 have:=Int.gcd_pos_of_ne_zero_right x h;unfold LP;split<;>omega
theorem Vh{x y:Int}(h:y≠0):(Rat.divInt x y).num=x / LP x y/\((Rat.divInt x y).den:Int)=y / LP x y:=by
 unfold LP;by_cases hy:y < 0
 ·rw[if_pos hy]
  have h1:=CQ (p:=-x) (q:=-y) Aa;rw[Rat.neg_divInt_neg,Int.gcd_neg,Int.neg_gcd]at h1;have hg:=Int.gcd_pos_of_ne_zero_right x h;rw[Int.ediv_neg,Int.ediv_neg,<-Int.neg_ediv_of_dvd (Int.gcd_dvd_left ..),<-Int.neg_ediv_of_dvd (Int.gcd_dvd_right ..)];exact h1
 ·rw[if_neg hy]
  exact CQ Aa
theorem dS{x y:Int}{k:Nat}(h:y≠0)(hk:sz y.natAbs<=k):sz (LP x y).natAbs<=k:=by
 refine Nat.le_trans (Bf ?_) hk;have e:(LP x y).natAbs=Int.gcd x y:=by unfold LP;split<;>simp
 rw[e];exact Nat.le_of_dvd Aa (Nat.gcd_dvd_right _ _)
theorem BN.sizes{w:World}{v:Value}{q:Rat}(h:BN w v q):sz q.num.natAbs<=274877906944/\sz ((q.den:Int)).natAbs<=274877906944:=by
 have:=h.qsz;unfold Hp.qsz at this;rw[Int.natAbs_natCast];omega
theorem BQ.parts4{w:World}{b b':Bool}{A A':Option Addr}{n c n' c':Nat}{q:Rat}(h:BQ w (.agg #[.bool b,.slice A n c,.bool b',.slice A' n' c']) q):AC w (.agg #[.bool b,.slice A n c]) q.num/\AC w (.agg #[.bool b',.slice A' n' c']) (q.den:Int):=by
 obtain⟨_,_,_,_,_,_,_,_,e,h1,h2⟩:=h;have e:=Ru e;simp only[Array.mk.injEq,List.cons.injEq,Value.bool.injEq,Value.slice.injEq,and_true]at e;obtain⟨rfl,⟨rfl,rfl,rfl⟩,rfl,rfl,rfl,rfl⟩:=e;exact⟨h1,h2⟩
theorem M7(q:Rat):sz q.num.natAbs<=qsz q:=by unfold qsz;omega
theorem K9(q:Rat):sz ((q.den:Int)).natAbs<=qsz q:=by rw[Int.natAbs_natCast];unfold qsz;omega
theorem Ji{x y:Int}{a b:Nat}(hx:sz x.natAbs<=a)(hy:sz y.natAbs<=b):sz (x*y).natAbs<=a+b:=by
 rw[Int.natAbs_mul];have:=Ca x.natAbs y.natAbs;omega
theorem ZM{x y:Int}{a:Nat}(hx:sz x.natAbs<=a)(hy:sz y.natAbs<=a):sz (x+y).natAbs<=a+1:=by
 have h1:=Bf (Int.natAbs_add_le x y);have h2:=Gi x.natAbs y.natAbs;omega
theorem O1(p q:Rat):Rat.divInt (p.num*q.den+q.num*p.den) (p.den*q.den)=p+q:=by
 have hp:(p.den:Int)≠0:=by have:=p.den_nz;omega
 have hq:(q.den:Int)≠0:=by have:=q.den_nz;omega
 rw[<-Rat.divInt_add_divInt _ _ hp hq,Rat.num_divInt_den,Rat.num_divInt_den]
theorem BN.zero(w:World):BN w (.agg #[.bool false,.slice none 0 0,.bool false,.slice none 0 0]) 0:=
 ⟨_,_,_,_,_,_,_,_,0,0,rfl,(AC.zero w).has Ab,(AC.zero w).has Ab,Ab,Ab,Ac⟩
theorem CS.full_at{w:World}{g:Nat}{t:TypeId}{N:Nat}{F:Nat->Rat}(h:CS w g t (El N F)){j:Nat}(hj:j < N) :
  ∃ b A n c b' A' n' c',w.cell? ⟨g,j*4,none⟩=some (.bool b)/\w.cell? ⟨g,j*4+1,none⟩=some (.slice A n c)/\w.cell? ⟨g,j*4+2,none⟩=some (.bool b')/\w.cell? ⟨g,j*4+3,none⟩=some (.slice A' n' c')/\BQ w (.agg #[.bool b,.slice A n c,.bool b',.slice A' n' c']) (F j):=by
 obtain⟨b,A,n,c,b',A',n',c',q0,q1,q2,q3,q⟩:=h.at_ (j:=j) (by rw[Ro];exact hj);rw[Yq]at q;exact⟨b,A,n,c,b',A',n',c',q0,q1,q2,q3,q⟩
theorem Zn{x:Int}(h1 : -9223372036854775808<=x)(h2:x<=9223372036854775808):qsz (x:Rat)<=2:=by
 have h3:=J9 (n:=x.natAbs) Aa;have h4:sz 1=1:=by decide
 show max (sz x.natAbs) (sz 1)<=2;omega
theorem V9{n:Nat}(h:n<=1099511627776):n+1<=maxLen:=by simp only[maxLen];omega
end Go.Hp
namespace Go.Proofs.YtmhgnigpmompmaaGreat
open Go.RowKit Go.Hp
theorem Ou(v u:Value)(N M:Nat)(w:World)(hv:Bl w v N)(hu:Bl w u M):Bj 110 #[v,u] w (fun r _=>r = .bool (decide (N < M))):=by
 obtain⟨ds,hd,rfl,ht⟩:=hv;obtain⟨es,he,rfl,ht'⟩:=hu;exact Zo v u ds es w hd he ht ht'
theorem TI(v u:Value)(N M l m:Nat)(w:World)(hv:Ci w v N l)(hu:Ci w u M m)(hn:l<=1099511627776)(hm:m<=1099511627776) :
  Bj 109 #[v,u] w (fun r w'=>Ci w' r (N+M) (max l m+1)):=by
 obtain⟨ds,hd,rfl,hl⟩:=hv;obtain⟨es,he,rfl,hl'⟩:=hu;exact Ah.imp (gL v u ds es w hd he Aa Aa) fun _ _ ⟨k,h1,h2,h3⟩=>⟨k,h1,h2,Aa⟩
theorem NI(v u:Value)(N M:Nat)(w:World)(hv:Bl w v N)(hu:Bl w u M)(hle:M<=N)(hn:sz N<=1099511627776) :
  Bj 111 #[v,u] w (fun r w'=>Ci w' r (N - M) (sz N)):=by
 obtain⟨ds,hd,hN,ht,hl⟩:=hv.len;obtain⟨es,he,hM,ht',hl'⟩:=hu.len;subst hN hM;exact Ah.imp (Zt v u ds es w hd he Aa (by rw[hl,hl'];exact Bf hle) hle) fun _ _ ⟨k,h1,h2,h3⟩=>⟨k,h1,h2,Aa⟩
theorem WS(v u:Value)(x y:Int)(w:World)(hv:Bh w v x)(hu:Bh w u y)(sx:sz x.natAbs<=549755813888)(sy:sz y.natAbs<=549755813888):Bj 61 #[v,u] w (fun r w'=>AC w' r (x+y)):=by
 have HV:=Ad hv;have HU:=Ad hu;obtain⟨neg,A,n,c,N,rfl,-,-,-,-,-⟩:=hv.form;obtain⟨neg',A',n',c',M,rfl,-,-,-,-,-⟩:=hu.form;clear hv hu
 go_enter Tryz.func61,Tryz.ntmps61
 go_wp2_with fail
 refine kJ 6 [7,8,9,10,5,6] [2,3] [_,_] [(kv ?_),(fun γ=>γ 1),(kv ?_),(fun γ=>γ 3),(fun γ=>γ 4),(fun γ=>γ 5)] (fun γ w'=>[True,AC w' (γ 1) x,True,AC w' (γ 3) y,Bc w' (γ 4) (w.heap.size+3) #[.bool false,.slice none 0 0] 26,Bc w' (γ 5) (w.heap.size+3) #[.bool false,.slice none 0 0] 26]) ?s1 ?_
 case s1 =>
  iterate 6 refine⟨?_,?_⟩
  trivial
  iterate 1 focus
   refine Ba fun _ w' he R hR=>?_;have hc:=he.cells;go_simp;exact Bi hR
  ·refine Ba fun _ w' he R hR=>?_
   go_simp;exact Bg (FC _ x w' (HV.out.ext he.a3)) hR
  iterate 1 focus
   refine Ba fun _ w' he R hR=>?_;have hc:=he.cells;go_simp;exact Bi hR
  ·refine Ba fun _ w' he R hR=>?_
   go_simp;exact Bg (FC _ y w' (HU.out.ext he.a3)) hR
  ·refine Ba fun _ w' he R hR=>?_
   go_simp;exact hR _ _ ((Ext.refl _).alloc _) rfl (Bc.mk (Nat.le_trans Ac he.size) (by simp[Ag]))
  ·refine Ba fun _ w' he R hR=>?_
   go_simp;exact hR _ _ ((Ext.refl _).alloc _) rfl (Bc.mk (Nat.le_trans Ac he.size) (by simp[Ag]))
 intro γ w1 hx1 hF hA;have na4x5:γ 4≠γ 5:=hA 4 5 Ab Ab Ab ⟨_,_,rfl,rfl⟩ ⟨_,_,rfl,rfl⟩;clear hA;have p1:AC w1 (γ 1) x:=Av.get hF 1 Ab;have p3:AC w1 (γ 3) y:=Av.get hF 3 Ab;have p4:Bc w1 (γ 4) (w.heap.size+3) #[.bool false,.slice none 0 0] 26:=Av.get hF 4 Ab;have p5:Bc w1 (γ 5) (w.heap.size+3) #[.bool false,.slice none 0 0] 26:=Av.get hF 5 Ab;clear hF;simp only[Bd,Nat.reduceAdd];generalize γ 1=g1 at *
 generalize γ 3=g3 at *;generalize γ 4=g4 at *;generalize γ 5=g5 at *;clear γ;obtain⟨ga,rfl,hga,ea⟩:=p4;obtain⟨gb,rfl,hgb,eb⟩:=p5;have hab:ga≠gb:=fun e=>na4x5 (by rw[e]);clear na4x5;obtain⟨A1,c1,rfl,q1,q2,-⟩:=p1.form;obtain⟨A2,c2,rfl,q3,q4,-⟩:=p3.form;obtain⟨bx,hbx⟩:∃ b,b=decide (x < 0):=⟨_,rfl⟩
 obtain⟨by_,hby⟩:∃ b,b=decide (y < 0):=⟨_,rfl⟩
 rw[<-hbx]at p1 ⊢;rw[<-hby]at p3 ⊢;have Hb:=Ad (Au hbx hby);clear hbx hby;have cea:=ea.cells2;have fea:=ea.frozen;have ceb:=eb.cells2;have feb:=eb.frozen
 go_upto_region 2 with(fail)
 obtain⟨W1,eW,ea',U⟩:=ea.put2 (.bool bx) (.slice A1 (sz x.natAbs) c1);rw[<-eW];clear eW ea;replace p1:=p1.kd U.kd;replace p3:=p3.kd U.kd;replace eb:=eb.upd U Ak;replace hx1:=U.from_ hx1 Ak;have ea:=ea';clear U ea';obtain⟨W2,eW,eb',U⟩:=eb.put2 (.bool by_) (.slice A2 (sz y.natAbs) c2);rw[<-eW];clear eW eb;replace p1:=p1.kd U.kd;replace p3:=p3.kd U.kd;replace ea:=ea.upd U Ak;replace hx1:=U.from_ hx1 Ak
 have eb:=eb';clear U eb';clear cea ceb fea feb;have cea:=ea.cells2;have fea:=ea.frozen;have ceb:=eb.cells2;have feb:=eb.frozen;have hc1:=hx1.cells;have hf1:=hx1.frozens;replace p1:=p1.nat;replace p3:=p3.nat;by_cases hs:bx=by_
 ·subst hs
  have hb:(bx==bx)=true:=by simp
  go_wp2_with fail
  refine CV 7 [16,17,18,19,20,21,22] [5,6] [_,_] [(kv ?_),(kv ?_),(kv ?_),(kv ?_),(kv ?_),(kv ?_),(fun γ=>γ 6)] (fun γ w'=>[True,True,True,True,True,True,Ci w' (γ 6) (x.natAbs+y.natAbs) (max (sz x.natAbs) (sz y.natAbs)+1)]) ?s2 ?_
  case s2 =>
   iterate 7 refine⟨?_,?_⟩
   trivial
   iterate 6 focus
    refine Ba fun _ w' he R hR=>?_;have hc:=he.cells;have cq0:=(ea.ext he).cells2;have cq1:=(eb.ext he).cells2;go_simp;exact Bi hR
   ·refine Ba fun _ w' he R hR=>?_
    go_simp;exact Bg (TI _ _ _ _ _ _ w' ((p1.ext he).num (Nat.le_refl _)) ((p3.ext he).num (Nat.le_refl _)) Aa Aa) hR
  intro γ w3 hx3 hF;have p6:Ci w3 (γ 6) (x.natAbs+y.natAbs) (max (sz x.natAbs) (sz y.natAbs)+1):=Av.get hF 6 Ab;clear hF;simp only[Bd,Nat.reduceAdd];generalize γ 6=g6 at *;clear γ
  go_wp2_with fail
  refine AR (CY (x+y) bx _ _ _ _ (by have h1:=Hb.out.1;have h2:=Hb.out.2;rw[h1]at h2 ⊢;by_cases e1:x < 0<;>by_cases e2:y < 0<;>simp[e1,e2]at h2 ⊢ <;> omega) p6 Aa) ?_;rintro r w4 hr hx4;clear hc1 hf1 p6;replace hx1:=(hx1.trans hx3).trans hx4;obtain⟨b5,A5,n5,c5,rfl⟩:=hr.cells;have hc1:=hx1.cells;have hf1:=hx1.frozens;have Hfin:=Ad (Cr hr hx1.a3 (AJ.at_ hx1 (g:=w.heap.size+2) Ac (by simp[Ag])) Aa);clear hr
  go_wp2;refine bodyPost_ret (v := .agg #[.bool b5,.slice A5 n5 c5]) (by simp[results,Tryz.results61,go_sem,hc1]) rfl ?_;exact Hfin.out
 ·have hb:(bx==by_)=false:=by simpa using hs
  go_wp2_with fail
  refine AR (Ou _ _ _ _ _ p1 p3) ?_;rintro r w3 rfl hx3;clear hc1 hf1 hb cea ceb fea feb;replace hx1:=hx1.trans hx3;replace p1:=p1.ext hx3;replace p3:=p3.ext hx3;replace ea:=ea.ext hx3;replace eb:=eb.ext hx3;clear hx3;have hc1:=hx1.cells;have hf1:=hx1.frozens;have cea:=ea.cells2;have fea:=ea.frozen;have ceb:=eb.cells2;have feb:=eb.frozen;by_cases hlt:x.natAbs < y.natAbs
  ·have hb2:decide (x.natAbs < y.natAbs)=true:=by simpa using hlt
   go_wp2_with fail
   refine CV 7 [29,30,31,32,33,34,35] [6,5] [_,_] [(kv ?_),(kv ?_),(kv ?_),(kv ?_),(kv ?_),(kv ?_),(fun γ=>γ 6)] (fun γ w'=>[True,True,True,True,True,True,Ci w' (γ 6) (y.natAbs - x.natAbs) (sz y.natAbs)]) ?s3 ?_
   case s3 =>
    iterate 7 refine⟨?_,?_⟩
    trivial
    iterate 6 focus
     refine Ba fun _ w' he R hR=>?_;have hc:=he.cells;have cq0:=(ea.ext he).cells2;have cq1:=(eb.ext he).cells2;go_simp;exact Bi hR
    ·refine Ba fun _ w' he R hR=>?_
     go_simp;exact Bg (NI _ _ _ _ w' (p3.ext he) (p1.ext he) Aa Aa) hR
   intro γ w4 hx4 hF;have p6:Ci w4 (γ 6) (y.natAbs - x.natAbs) (sz y.natAbs):=Av.get hF 6 Ab;clear hF;simp only[Bd,Nat.reduceAdd];generalize γ 6=g6 at *;clear γ
   go_wp2_with fail
   refine AR (CY (x+y) by_ _ _ _ _ (by have h1:=Hb.out.1;have h2:=Hb.out.2;rw[h2];rw[h1,h2]at hs;by_cases e1:x < 0<;>by_cases e2:y < 0<;>simp[e1,e2]at hs ⊢ <;> omega) p6 Aa) ?_;rintro r w5 hr hx5;clear hc1 hf1 p6;replace hx1:=(hx1.trans hx4).trans hx5;obtain⟨b5,A5,n5,c5,rfl⟩:=hr.cells;have hc1:=hx1.cells;have hf1:=hx1.frozens;have Hfin:=Ad (Cr hr hx1.a3 (AJ.at_ hx1 (g:=w.heap.size+2) Ac (by simp[Ag])) Aa)
   clear hr;go_wp2;refine bodyPost_ret (v := .agg #[.bool b5,.slice A5 n5 c5]) (by simp[results,Tryz.results61,go_sem,hc1]) rfl ?_;exact Hfin.out
  ·have hb2:decide (x.natAbs < y.natAbs)=false:=by simpa using hlt
   go_wp2_with fail
   refine CV 7 [37,38,39,40,41,42,43] [5,6] [_,_] [(kv ?_),(kv ?_),(kv ?_),(kv ?_),(kv ?_),(kv ?_),(fun γ=>γ 6)] (fun γ w'=>[True,True,True,True,True,True,Ci w' (γ 6) (x.natAbs - y.natAbs) (sz x.natAbs)]) ?s4 ?_
   case s4 =>
    iterate 7 refine⟨?_,?_⟩
    trivial
    iterate 6 focus
     refine Ba fun _ w' he R hR=>?_;have hc:=he.cells;have cq0:=(ea.ext he).cells2;have cq1:=(eb.ext he).cells2;go_simp;exact Bi hR
    ·refine Ba fun _ w' he R hR=>?_
     go_simp;exact Bg (NI _ _ _ _ w' (p1.ext he) (p3.ext he) Aa Aa) hR
   intro γ w4 hx4 hF;have p6:Ci w4 (γ 6) (x.natAbs - y.natAbs) (sz x.natAbs):=Av.get hF 6 Ab;clear hF;simp only[Bd,Nat.reduceAdd];generalize γ 6=g6 at *;clear γ
   go_wp2_with fail
   refine AR (CY (x+y) bx _ _ _ _ (by have h1:=Hb.out.1;have h2:=Hb.out.2;rw[h1];rw[h1,h2]at hs;by_cases e1:x < 0<;>by_cases e2:y < 0<;>simp[e1,e2]at hs ⊢ <;> omega) p6 Aa) ?_;rintro r w5 hr hx5;clear hc1 hf1 p6;replace hx1:=(hx1.trans hx4).trans hx5;obtain⟨b5,A5,n5,c5,rfl⟩:=hr.cells;have hc1:=hx1.cells;have hf1:=hx1.frozens;have Hfin:=Ad (Cr hr hx1.a3 (AJ.at_ hx1 (g:=w.heap.size+2) Ac (by simp[Ag])) Aa)
   clear hr;go_wp2;refine bodyPost_ret (v := .agg #[.bool b5,.slice A5 n5 c5]) (by simp[results,Tryz.results61,go_sem,hc1]) rfl ?_;exact Hfin.out
theorem jI(v u:Value)(x y:Int)(w:World)(hv:Bh w v x)(hu:Bh w u y)(sx:sz x.natAbs<=549755813888)(sy:sz y.natAbs<=549755813888):Bj 178 #[v,u] w (fun r w'=>AC w' r (x - y)):=by
 have HV:=Ad hv;have HU:=Ad hu;obtain⟨neg,A,n,c,N,rfl,-,-,-,-,-⟩:=hv.form;obtain⟨neg',A',n',c',M,rfl,-,-,-,-,-⟩:=hu.form;clear hv hu
 go_enter Tryz.func178,Tryz.ntmps178
 go_wp2_with fail
 refine CV 3 [5,6,7] [2,3] [_,_] [(kv ?_),(kv ?_),(fun γ=>γ 2)] (fun γ w'=>[True,True,AC w' (γ 2) (-y)]) ?s5 ?_
 case s5 =>
  iterate 3 refine⟨?_,?_⟩
  trivial
  iterate 2 focus
   refine Ba fun _ w' he R hR=>?_;have hc:=he.cells;go_simp;exact Bi hR
  ·refine Ba fun _ w' he R hR=>?_
   go_simp;exact Bg (Qr _ y w' (HU.out.ext he.a3)) hR
 intro γ w1 hx1 hF;have p2:AC w1 (γ 2) (-y):=Av.get hF 2 Ab;clear hF;simp only[Bd,Nat.reduceAdd];generalize γ 2=g2 at *;clear γ
 go_wp2_with fail
 refine AR (WS _ _ x (-y) _ (HV.out.ext hx1.a3) (p2.has (by rw[Int.natAbs_neg];omega)) sx (by rw[Int.natAbs_neg];exact sy)) ?_;rintro r w2 hr hx2;replace hx1:=hx1.trans hx2;clear hx2 p2;rw[<-Int.sub_eq_add_neg]at hr;obtain⟨b5,A5,n5,c5,rfl⟩:=hr.cells;have hc1:=hx1.cells;have hf1:=hx1.frozens;have Hfin:=Ad (Cr hr hx1.a3 (AJ.at_ hx1 (g:=w.heap.size+2) Ac (by simp[Ag])) Aa);clear hr;go_wp2;refine bodyPost_ret (v := .agg #[.bool b5,.slice A5 n5 c5]) (by simp[results,Tryz.results178,go_sem,hc1]) rfl ?_
 exact Hfin.out
theorem eH(v:Value)(ds:List Nat)(w:World)(hv:BC w v ds)(hn:ds.length<=2) :
  Bj 154 #[v] w (fun r _=>r = .int .u64 (nv ds:Nat)):=by
 obtain⟨A,p1,rfl,hl,hc,hA⟩:=hv
 go_enter Tryz.func154,Tryz.ntmps154
 go_wp2
 go_loopw [3,4] (fun nw iv wr=>∃ k:Nat,k<=ds.length/\(∃ q:Int,q+1=k/\iv = .int .i64 q)/\nw = .int .u64 (nv (ds.drop k):Nat)/\Ext w wr) (fun _ iv _=>(intOf iv+1).toNat)
 case atStart=>exact⟨ds.length,Nat.le_refl _,⟨_,Aa,rfl⟩,by rw[List.drop_length];rfl,Ext.refl _⟩
 case round =>
  obtain⟨k,hk,⟨q,hq,rfl⟩,rfl,hx⟩:=hrel;have hb:=DW (AV.drop hA.1 k);have hb2:bp (ds.drop k).length<=bp (2 - k):=Fx (by rw[List.length_drop];omega);by_cases hk0:0 < k
  ·obtain⟨k,rfl⟩:∃ j,k=j+1:=⟨k - 1,Aa⟩
   obtain rfl:q=(k:Int):=by omega
   clear hq;have hb3:bp (2 - (k+1))<=4294967296:=by rw[<-Nh];exact Fx Aa
   have hd:=De (show k < ds.length by omega);rw[<-Dj (show k < ds.length by omega)]at hd;obtain⟨a,rfl,hca⟩:=BI hA (k:=k) Aa;replace hca:=hx.cell hca;have x1:=AU hA.1 k;generalize hxx:dg ds k=x at *;generalize hyy:nv (ds.drop (k+1))=y at *;have hy:y < 4294967296:=by omega
   clear hb hb2 hb3 hxx;have Hd:=Ad hd;clear hd hyy;go_wp2
   go_roundw
   case rel=>exact⟨k,Aa,⟨_,Aa,rfl⟩,by rw[Hd.out];go_num,hx⟩
   case measure=>simp[intOf]<;>omega
  ·obtain rfl:k=0:=by omega
   have q1:q < 0:=by omega
   clear hb hb2;go_wp2
   go_ret
   exact Ah.mk (by rw[List.drop_zero];rfl) hx
theorem UH(N:Nat)(w:World)(hN:N < 18446744073709551616) :
  Bj 155 #[.int .u64 (N:Nat)] w (fun r w'=>Bl w' r N):=by
 have key:∀(n g:Nat) (W:World) (t:TypeId) (a b:Int),a=(n % 4294967296:Nat)->b=(n / 4294967296:Nat)->g=W.heap.size->n < 18446744073709551616->Ci (W.alloc (.cells #[.int .u32 a,.int .u32 b] t)) (.slice (some ⟨g,0,none⟩) 2 2) n 2:=by
  intro n g W t a b ha hb hg hn;subst ha hb hg;have hb:BG (W.alloc (.cells #[.int .u32 (n % 4294967296:Nat),.int .u32 (n / 4294967296:Nat)] t)) W.heap.size t [n % 4294967296,n / 4294967296]:=L8 (heap_alloc_new W _);exact⟨_,hb.digv (AV.cons Aa (AV.cons Aa AV.nil)) (c:=2) Ac Aa,by simp[Cm,BM];omega,Ac⟩
 have Hk:=Ad key;clear key
 go_enter Tryz.func155,Tryz.ntmps155
 go_wp2_with fail
 refine AR (GK _ N 2 _ (Hk.out N _ _ _ _ _ Aa Aa Ac Aa) Aa) ?_;rintro r w1 hr hx1;go_wp2
 go_ret
 exact Ah.mk hr hx1.a1
theorem U9(v u:Value)(x y:Int)(w:World)(hv:Bh w v x)(hu:Bh w u y)(sx:sz x.natAbs<=549755813888)(sy:sz y.natAbs<=549755813888):Bj 62 #[v,u] w (fun r w'=>AC w' r (x*y)):=by
 obtain⟨neg,A,n,c,N,rfl,h1,h2,h3,hN,hx⟩:=hv.form;obtain⟨neg',A',n',c',M,rfl,k1,k2,k3,kN,hy⟩:=hu.form;have HN:=Ad hN;have HM:=Ad kN;clear hN hv hu kN;have sN:sz N<=549755813888:=by rw[hx]at sx;cases neg<;>simpa using sx
 have sM:sz M<=549755813888:=by rw[hy]at sy;cases neg'<;>simpa using sy
 have Hz:=Ad (show x*y=if (neg != neg')=true then -((N*M:Nat):Int)else((N*M:Nat):Int) by rw[hx,hy];cases neg<;>cases neg'<;>simp[Int.neg_mul,Int.mul_neg]);clear hx hy sx sy
 go_enter Tryz.func62,Tryz.ntmps62
 go_wp2_with fail
 refine CV 5 [12,13,14,15,16] [2,3] [_,_] [(kv ?_),(kv ?_),(fun γ=>γ 2),(kv ?_),(kv ?_)] (fun γ w'=>[True,True,Bl w' (γ 2) N,True,True]) ?s1 ?_
 case s1 =>
  iterate 5 refine⟨?_,?_⟩
  trivial
  iterate 2 focus
   refine Ba fun _ w' he R hR=>?_;have hc:=he.cells;go_simp;exact Bi hR
  ·refine Ba fun _ w' he R hR=>?_
   go_simp;exact Bg (GK _ N n w' (HN.out.ext he.a3) Aa) hR
  iterate 2 focus
   refine Ba fun _ w' he R hR=>?_;have hc:=he.cells;go_simp;exact Bi hR
 intro γ w1 hx1 hF;have p2:Bl w1 (γ 2) N:=Av.get hF 2 Ab;clear hF;simp only[Bd,Nat.reduceAdd];generalize γ 2=g2 at *;clear γ
 go_wp2_with fail
 refine AR (GK _ M n' _ (HM.out.ext hx1.a3) Aa) ?_;rintro r w2 p5 hx2;replace p2:=p2.ext hx2;replace hx1:=hx1.trans hx2;clear hx2;obtain⟨ds,hd,hnv,-,hl⟩:=p2.len;obtain⟨es,he,hnv',-,hl'⟩:=p5.len;clear p2 p5;obtain⟨E,r1,rfl,hdl,hdc,hE⟩:=hd;obtain⟨F,r2,rfl,hel,hec,hF⟩:=he;have hdn:ds.length<=549755813888:=by omega
 have hen:es.length<=549755813888:=by omega
 rw[<-hnv,<-hnv']at Hz;clear hnv hnv' hl hl' sN sM HN HM h1 h2 h3 k1 k2 k3;have hmk:=fun W=>Du (ds.length+es.length) ((ds.length:Int)+es.length) Aa Aa W;go_wp2
 go_loopw [8] (fun iv wr=>∃ (i:Nat) (l:List Nat),i<=ds.length/\iv = .int .i64 i/\l.length=ds.length+es.length/\BG wr w2.heap.size 113 l/\AV l/\(∀ q,i+es.length<=q->dg l q=0)/\nv l=nv (ds.take i)*nv es/\Ext w2 wr) (fun iv _=>ds.length - (intOf iv).toNat)
 case atStart=>exact⟨0,_,Nat.zero_le _,rfl,List.length_replicate,BG.new _ _ _,AV.zeros _,fun q _=>by unfold dg;rw[List.getD_eq_getElem?_getD,List.getElem?_replicate];split<;>rfl,by rw[IE];simp[BM],(Ext.refl w2).alloc _⟩
 case round =>
  obtain⟨i,l,hi,rfl,hll,hblk,hdl,hz,hval,hx⟩:=hrel;have Hll:=Ad hll;clear hll;have Hval:=Ad hval;clear hval;have Hz':=Ad hz;clear hz;by_cases hil:i < ds.length
  ·obtain⟨a,rfl,hca⟩:=BI hE hil
   have x1:=AU hE.1 i;generalize hxx:dg ds i=x at *;have Hx:=Ad hxx;clear hxx;go_wp2;obtain⟨wo,rfl⟩:∃ wo:World,wo=wr:=⟨_,rfl⟩
   go_loopw [9,10] (fun cv jv wr=>∃ (j c0:Nat) (m:List Nat),j<=es.length/\jv = .int .i64 j/\cv = .int .u64 c0/\c0 < 4294967296/\m.length=ds.length+es.length/\BG wr w2.heap.size 113 m/\AV m/\(∀ q,i+es.length<=q->dg m q=0)/\nv m+c0*(bp i*bp j)=nv l+x*bp i*nv (es.take j)/\Ext w2 wr) (fun _ jv _=>es.length - (intOf jv).toNat)
   case atStart=>exact⟨0,0,l,Nat.zero_le _,rfl,rfl,Aa,Hll.out,hblk,hdl,Hz'.out,by simp[BM],hx⟩
   case round =>
    obtain⟨j,c0,m,hj,rfl,rfl,hc0,hml,hbm,hdm,hzm,hvm,hxm⟩:=hrel;have Hml:=Ad hml;clear hml;have Hvm:=Ad hvm;clear hvm;have Hzm:=Ad hzm;clear hzm;by_cases hje:j < es.length
    ·obtain⟨b,rfl,hcb⟩:=BI hF hje
     replace hcb:=hxm.cell hcb;have hcar:=hxm.cell hca;have y1:=AU hF.1 j;generalize hyy:dg es j=y at *;have Hy:=Ad hyy;clear hyy;have hmc:=hbm.celld (i:=i+j) (by have:=Hml.out;omega);have z1:=AU hdm (i+j);have hfz:=hbm.frozen (i+j);generalize hzz:dg m (i+j)=z at *;have Hzz:=Ad hzz;clear hzz;have hxy:x*y<=4294967295*4294967295:=Nat.mul_le_mul Aa Aa;have hxy2:x*y<=18446744065119617025:=hxy;clear hxy;have k1:(0:Int)<=(x:Int)*y:=by rw[<-Int.natCast_mul];omega
     have k2:(x:Int)*y<=18446744065119617025:=by rw[<-Int.natCast_mul];omega
     have Hxy:=Ad hxy2;clear hxy2;go_wp2;refine CV 20 [36,37,38,39,40,41,42,43,44,45,46,47,48,49,50,51,52,53,54,55] [5,8,6,10,7,9] [_,_,_,_,_,_] [(kv ?_),(kv ?_),(kv ?_),(kv ?_),(kv ?_),(kv ?_),(kv ?_),(kv ?_),(kv ?_),(kv ?_),(kv ?_),(kv ?_),(kv ?_),(kv ?_),(kv ?_),(kv ?_),(kv ?_),(kv ?_),(kv ?_),(kv ?_)] (fun γ w'=>[True,True,True,True,True,True,True,True,True,True,True,True,True,True,True,True,True,True,True,True]) ?s2 ?_
     case s2 =>
      iterate 20 refine⟨?_,?_⟩
      trivial
      iterate 20 focus
       refine Ba fun _ w' he R hR=>?_;have hc:=he.cells;have cq0:=he.cell hcar;have cq1:=he.cell hcb;have cq2:=he.cell hmc;go_simp;(try go_ints);(try(rw[if_neg Aa]));(try(rw[if_pos Aa]));(try go_simp);(try go_ints)
       exact Bi hR
     intro γ w3 hx3 hF;clear hF;simp only[Bd,Nat.reduceAdd];clear γ;replace hbm:=hbm.ext hx3;replace hxm:=hxm.trans hx3;have hmc:=hbm.celld (i:=i+j) (by have:=Hml.out;omega);have hfz:=hbm.frozen (i+j);rw[Hzz.out]at hmc;go_wp2
     go_roundw
     case rel =>
      have hml:=Hml.out;have e1:(((x*y+z+c0) % 4294967296:Nat):Int)=((x:Int)*y+z+c0) % 4294967296:=by rw[<-Int.natCast_mul];omega
      have e2:(((x*y+z+c0) / 4294967296:Nat):Int)=((x:Int)*y+z+c0) / 4294967296:=by rw[<-Int.natCast_mul];omega
      refine⟨j+1,(x*y+z+c0) / 4294967296,m.set (i+j) ((x*y+z+c0) % 4294967296),Aa,by go_num,by rw[e2],by have:=Hxy.out;omega,by simpa using hml,hbm.setI _ _ e1.symm,hdm.set Aa _,fun q hq=>by rw[EB Aa];exact Hzm.out q hq,?_,hxm.setCell _ _ (Nat.le_refl _)⟩;have hs:=MF (l:=m) (p:=i+j) (d:=(x*y+z+c0) % 4294967296) Aa;rw[Hzz.out,Io]at hs;rw[AA,Hy.out,Bo];exact QB hs Hvm.out
     case measure=>simp[intOf];omega
    ·obtain rfl:j=es.length:=by omega
     have hmc:=hbm.celld (i:=i+es.length) (by have:=Hml.out;omega);have hfz:=hbm.frozen (i+es.length);go_wp2
     go_roundw
     case rel =>
      have hml:=Hml.out;refine⟨i+1,m.set (i+es.length) c0,Aa,by go_num,by simpa using hml,hbm.setI _ _ Aa,hdm.set Aa _,fun q hq=>by rw[EB Aa];exact Hzm.out q Aa,?_,hxm.setCell _ _ (Nat.le_refl _)⟩;have hs:=MF (l:=m) (p:=i+es.length) (d:=c0) Aa;rw[Hzm.out _ (Nat.le_refl _),Nat.mul_zero,Nat.add_zero,Io]at hs;have h1:=Hvm.out;rw[List.take_of_length_le (Nat.le_refl _),Hval.out]at h1;rw[hs,AA,Hx.out,Nat.mul_comm _ c0,h1]
      grind
     case measure=>simp[intOf];omega
  ·obtain rfl:i=ds.length:=by omega
   have hll:=Hll.out;have hq:=hblk.digv hdl (c:=ds.length+es.length) Aa Aa;rw[hll]at hq;have hr:Ci wr _ (nv ds*nv es) (ds.length+es.length):=⟨l,hq,by rw[Hval.out,List.take_of_length_le (Nat.le_refl _)],Aa⟩
   clear hq hll hblk hdl;replace hx1:=hx1.trans hx;have hc1:=hx1.cells;have hf1:=hx1.frozens
   go_wp2_with fail
   refine AR (CY (x*y) (neg != neg') _ _ _ _ Hz.out hr Aa) ?_;rintro r w4 hr hx4;clear hc1 hf1;replace hx1:=hx1.trans hx4;clear hx hx4;obtain⟨b5,A5,n5,c5,rfl⟩:=hr.cells;have hc1:=hx1.cells;have hf1:=hx1.frozens;have Hfin:=Ad (Cr hr hx1.a3 (AJ.at_ hx1 (g:=w.heap.size+2) Ac (by simp[Ag])) Aa);clear hr;go_wp2;refine bodyPost_ret (v := .agg #[.bool b5,.slice A5 n5 c5]) (by simp[results,Tryz.results62,go_sem,hc1]) rfl ?_
   exact Hfin.out
theorem bZ(v:Value)(x:Int)(w:World)(hv:Bh w v x):Bj 46 #[v] w (fun r _=>∃ b:Nat,r = .int .i64 b/\BL x.natAbs b):=by
 obtain⟨neg,A,n,c,N,rfl,h1,h2,h3,hN,hx⟩:=hv.form;have HN:=Ad hN;clear hN hv;have Hx:=Ad (show x.natAbs=N by rw[hx];cases neg<;>simp);clear hx
 go_enter Tryz.func46,Tryz.ntmps46
 go_wp2_with fail
 refine AR (GK _ N n _ (HN.out.ext ((Ext.refl w).alloc _)) Aa) ?_;rintro r w1 hr hx1;obtain⟨ds,hd,hnv,ht,hl⟩:=hr.len;obtain⟨E,p1,rfl,hl1,hc1,hE⟩:=hd;have HX:=Ad (show x.natAbs=nv ds by rw[Hx.out,<-hnv]);have hx:=hx1.a1;have hm:ds.length<=1099511627776:=by rw[hl];exact Nat.le_trans HN.out.sz h3
 clear hx1 hr hl HN Hx hnv h1 h2 h3;rcases Nat.eq_zero_or_pos ds.length with h0 | h0
 ·have hb:(((ds.length:Nat):Int)==0)=true:=by rw[h0];rfl
  have:ds=[]:=List.eq_nil_of_length_eq_zero h0;clear h0;have Hd:=Ad this;clear this;go_wp2
  go_ret
  exact Ah.mk ⟨0,rfl,by rw[HX.out,Hd.out];exact BL.zero⟩ hx
 ·have hb:(((ds.length:Nat):Int)==0)=false:=beq_eq_false_iff_ne.2 Aa
  obtain⟨a,ha,hca⟩:=BI hE (k:=ds.length - 1) Aa;have x1:=AU hE.1 (ds.length - 1);have hd0:dg ds (ds.length - 1)≠0:=by
   rw[Dj Aa];have:=ht (List.ne_nil_of_length_pos h0);rwa[List.getLast_eq_getElem]at this
  obtain⟨d,hdd⟩:∃ d,d=dg ds (ds.length - 1):=⟨_,rfl⟩
  rw[<-hdd]at hca x1 hd0;replace hca:=hca;have Hd:=Ad (Au hdd ht);clear hdd ht;obtain⟨m,hmm⟩:∃ m,ds.length=m+1:=⟨ds.length - 1,Aa⟩
  rw[hmm]at hca hb hl1 hm ⊢;clear h0;have Hm:=Ad hmm;clear hmm;subst ha;rw[Nat.add_sub_cancel]at hca;go_wp2
  go_loopw [4,5] (fun bv tv wr=>∃ j:Nat,j<=32/\bv = .int .i64 (32*m+j:Nat)/\tv = .int .u32 (d / 2^j:Nat)/\(0 < j->2^(j - 1)<=d)/\Ext w wr) (fun _ tv _=>(intOf tv).toNat)
  case atStart=>exact⟨0,Aa,by go_num,Ac,fun h=>absurd h Ab,hx⟩
  case round =>
   obtain⟨j,hj,rfl,rfl,hlow,hx⟩:=hrel;have Hlow:=Ad hlow;clear hlow;obtain⟨t,htt⟩:∃ t,d / 2^j=t:=⟨_,rfl⟩
   rw[htt];have t1:t < 4294967296:=by rw[<-htt];exact Nat.lt_of_le_of_lt (Nat.div_le_self _ _) x1
   have h2:d / 2^(j+1)=t / 2:=by rw[<-htt,Nat.pow_succ,Nat.div_div_eq_div_mul]
   have h3:0 < t->2^j<=d:=fun h=>by
    rcases Nat.lt_or_ge d (2^j)with h' | h'
    ·rw[Nat.div_eq_of_lt h']at htt;omega
    ·exact h'
   have h4:t=0->d < 2^j:=fun h=>by
    rcases Nat.lt_or_ge d (2^j)with h' | h'
    ·exact h'
    ·have:=Nat.div_pos h' (Nat.two_pow_pos j);omega
   have H:=Ad (Au h2 (Au h3 h4));clear h2 h3 h4 htt;by_cases ht0:0 < t
   ·have hj32:j < 32:=by
     rcases Nat.lt_or_ge j 32 with h | h
     ·exact h
     ·have:=H.out.2.1 ht0
      have h5:2^32<=2^j:=Nat.pow_le_pow_right Ab h;omega
    go_wp2
    go_roundw
    case rel=>exact⟨j+1,Aa,by go_num,by rw[H.out.1];go_num,fun _=>H.out.2.1 ht0,hx⟩
    case measure=>simp[intOf]<;>omega
   ·have ht1:t=0:=by omega
    go_wp2
    go_ret
    refine Ah.mk ⟨32*m+j,rfl,?_⟩ hx;have hj0:0 < j:=by
     rcases Nat.eq_zero_or_pos j with h | h
     ·subst h;have:=H.out.2.2 ht1;omega
     ·exact h
    have:=BL.top (ds:=ds) (j:=j) hE.1 (by have:=Hm.out;omega) (by rw[<-Hd.out.1];exact H.out.2.2 ht1) hj0 (by rw[<-Hd.out.1];exact Hlow.out hj0);rw[Hm.out,Nat.add_sub_cancel]at this;rw[HX.out];exact this
theorem FE.made(w:World)(z base:Nat)(hb:base<=w.heap.size)(hz:z<=70368744177664):FE base (w.alloc (.cells (FJ z) 113)) (.slice (some ⟨w.heap.size,0,none⟩) z z) (List.replicate z 0):=by
 unfold FE;rw[List.length_replicate];refine⟨Ac,.inr ⟨_,_,_,rfl,hb,heap_alloc_new w _,Nat.le_refl _,by simp only[maxLen];omega,by simp[FJ],by simp[FJ,dv]⟩⟩
theorem ZF{L X p S c d B:Nat}(h:L+c*p=X):L+p*((d*S+c) % B)+(d*S+c) / B*(B*p)=X+p*(d*S):=by
 have e:(d*S+c) % B+B*((d*S+c) / B)=d*S+c:=Nat.mod_add_div _ _;generalize (d*S+c) % B=r at *;generalize (d*S+c) / B=q at *;grind
theorem VK(v:Value)(ds:List Nat)(s:Nat)(w:World)(hv:BC w v ds)(hs:s<=70368744177664)(hn:ds.length<=2199023255552) :
  Bj 191 #[v,.int .i64 (s:Nat)] w (fun r w'=>Bl w' r (nv ds*2^s)):=by
 obtain⟨A,p1,rfl,hl,hc,hA⟩:=hv;obtain⟨z,hz⟩:∃ z,z=s / 32:=⟨_,rfl⟩
 obtain⟨p,hp⟩:∃ p,p=s % 32:=⟨_,rfl⟩
 have hp32:p < 32:=by omega
 have hmk:=fun W=>Du z z rfl Aa W;obtain⟨S,hS⟩:∃ S,2^p=S:=⟨_,rfl⟩
 have hSi:(2:Int)^p=(S:Nat):=by rw[<-hS];simp
 have hS1:S<=2147483648:=by rw[<-hS];exact Nat.pow_le_pow_right Ab (show p<=31 by omega)
 have hS0:0 < S:=by rw[<-hS];exact Nat.two_pow_pos _
 have Hs:=Ad (show 2^s=S*bp z by rw[Cq,<-hS,<-Nat.pow_add];congr 1;omega);have e1:(s:Int) / 32=z:=by omega
 have e2:(s:Int) % 32=p:=by omega
 have e3:(s:Int) < 70368744177665:=by omega
 clear hz hp hS
 go_enter Tryz.func191,Tryz.ntmps191
 go_wp2
 go_loopw [5,6,7] (fun ov cv iv wr=>∃ (k c0:Nat) (l:List Nat),k<=ds.length/\iv = .int .i64 k/\cv = .int .u64 c0/\c0 < 2147483648/\l.length=k+z/\FE w.heap.size wr ov l/\AV l/\nv l+c0*bp (k+z)=nv (ds.take k)*(S*bp z)/\Ext w wr) (fun _ _ iv _=>ds.length - (intOf iv).toNat)
 case atStart=>exact⟨0,0,List.replicate z 0,Nat.zero_le _,rfl,rfl,Aa,Ac,FE.made w z _ (Nat.le_refl _) Aa,AV.zeros _,by rw[IE];simp[BM],(Ext.refl w).alloc _⟩
 case round =>
  obtain⟨k,c0,l,hk,rfl,rfl,hc0,hll,hown,hdl,hval,hx⟩:=hrel;have x1:=AU hA.1 k;have Hl:=Ad (Au hll (Au hdl hval));clear hll hdl hval;have Hown:=Ad hown;clear hown;have hsz:=hx.size;by_cases hkm:k < ds.length
  ·obtain⟨a,rfl,hca⟩:=BI hA hkm
   generalize hxx:dg ds k=x at *;have Hx:=Ad hxx;clear hxx;replace hca:=hx.cell hca;have hxS:x*S<=4294967295*2147483648:=Nat.mul_le_mul Aa hS1;have hxS2:x*S<=9223372034707292160:=hxS;clear hxS;have k1:(0:Int)<=(x:Int)*S:=by rw[<-Int.natCast_mul];omega
   have k2:(x:Int)*S<=9223372034707292160:=by rw[<-Int.natCast_mul];omega
   have e4:(((x*S+c0) % 4294967296:Nat):Int)=((x:Int)*S+c0) % 4294967296:=by rw[<-Int.natCast_mul];omega
   have e5:(((x*S+c0) / 4294967296:Nat):Int)=((x:Int)*S+c0) / 4294967296:=by rw[<-Int.natCast_mul];omega
   have Hq:=Ad (Au hxS2 (Au e4 e5));clear hxS2 e4 e5
   go_wp2_with (at_builtin;refine AO rfl _ _ 24 rfl u5 (.slice (some ⟨wr.heap.size,0,none⟩) 1 1) rfl rfl (Dh wr w.heap.size _ _ l ((x*S+c0) % 4294967296) _ _ Hown.out (by exact Hq.out.2.1.symm) (by have:=Hl.out.1;omega) hsz rfl) ?_)
   rintro v' w2 hown hg;replace hx:=(Hown.out.alloc _).from_ hg (hx.alloc _) (Nat.le_refl _);have Hown':=Ad hown;clear hown hg;go_wp2
   go_roundw
   case rel=>exact⟨k+1,(x*S+c0) / 4294967296,_,Aa,by go_num,by rw[Hq.out.2.2],by have:=Hq.out.1;omega,by rw[List.length_append,Hl.out.1];simp;omega,Hown'.out,Hl.out.2.1.append (AV.cons Aa AV.nil),by
    rw[DI,Hl.out.1,AA,Hx.out,show k+1+z=(k+z)+1 by omega,Bo,Nat.add_mul,ZF Hl.out.2.2,Io];congr 1;grind,hx⟩
   case measure=>simp[intOf];omega
  ·obtain rfl:k=ds.length:=by omega
   go_wp2_with (at_builtin;refine AO rfl _ _ 24 rfl u5 (.slice (some ⟨wr.heap.size,0,none⟩) 1 1) rfl rfl (Dh wr w.heap.size _ _ l c0 _ _ Hown.out Aa (by have:=Hl.out.1;omega) hsz rfl) ?_)
   rintro v' w2 hown hg;replace hx:=(Hown.out.alloc _).from_ hg (hx.alloc _) (Nat.le_refl _);have hN:Ci w2 v' (nv ds*2^s) (ds.length+z+1):=⟨_,hown.digv (Hl.out.2.1.append (AV.cons Aa AV.nil)),by
    have h3:=Hl.out.2.2;rw[List.take_of_length_le (Nat.le_refl _)]at h3;rw[DI,Hl.out.1,Hs.out,<-h3,Nat.mul_comm],by rw[List.length_append,Hl.out.1];simp⟩
   have hzz:z<=2199023255552:=by omega
   clear hown hg
   go_wp2_with fail
   refine AR (GK _ _ _ _ hN Aa) ?_;rintro r w3 hr hx3;go_wp2
   go_ret
   exact Ah.mk hr (hx.trans hx3)
theorem TU(v:Value)(x:Int)(w:World)(hv:Bh w v x):Bj 163 #[v] w (fun r _=>∃ b:Bool,r = .bool b/\(b=true->x=1)):=by
 obtain⟨neg,A,n,c,N,rfl,h1,h2,h3,hN,hx⟩:=hv.form;clear hv;by_cases hn:n=1
 ·subst hn
  obtain⟨ds,hd,rfl,hl⟩:=hN;obtain⟨A',c',he,hl',_,hA⟩:=hd;have hlen:ds.length=1:=by have:=congrArg (fun v=>match v with | Value.slice _ n _=>n | _=>0) he;simpa using this.symm
  rw[hlen]at he;cases he
  match ds,hlen,hA,hx with
  | [d],_,hA,hx =>
   obtain⟨a,rfl,hcb⟩:=BI hA (k:=0) Ac;replace hcb:=fun o=>((Ext.refl w).alloc o).cell (show w.cell? a=some (.int .u32 (d:Nat))from hcb);have hd1:d < 4294967296:=hA.1 d Ac;have Hx:=Ad (show d=1->neg=false->x=1 by rintro rfl rfl;rw[hx];simp[Cm,BM]);clear hx hA hl hl'
   go_enter Tryz.func163,Tryz.ntmps163
   by_cases hd:d=1
   ·have hb:(((d:Nat):Int)==1)=true:=by subst hd;rfl
    have H:=Ad (show neg=false->x=1 from Hx.out hd);clear Hx hd;go_wp2
    go_ret
    exact Ah.mk ⟨!neg,rfl,fun h=>H.out (by simpa using h)⟩ ((Ext.refl w).alloc _)
   ·have hb:(((d:Nat):Int)==1)=false:=by simp;omega
    clear Hx hd;go_wp2
    go_ret
    exact Ah.mk ⟨false,rfl,fun h=>by cases h⟩ ((Ext.refl w).alloc _)
 ·have hb:(((n:Nat):Int)==1)=false:=by simp;omega
  clear hx hN hn
  go_enter Tryz.func163,Tryz.ntmps163
  go_wp2
  go_ret
  exact Ah.mk ⟨false,rfl,fun h=>by cases h⟩ ((Ext.refl w).alloc _)
theorem YA(v u:Value)(neg':Bool)(x:Int)(M:Nat)(w:World)(hv:Bh w v x)(hu:Bl w u M)(hM:sz M<=1099511627776) :
  Bj 164 #[v,.bool neg',u] w (fun r w'=>AC w' r (x+if neg' then -(M:Int)else M)):=by
 obtain⟨neg,A,n,c,N,rfl,h1,h2,h3,hN,hx⟩:=hv.form;have HN:=Ad hN;have HU:=Ad hu;clear hN hv hu;have hs:sz N<=n:=HN.out.sz;obtain⟨z,hz⟩:∃ z,z=x+if neg' then -(M:Int)else M:=⟨_,rfl⟩
 rw[<-hz];have Hz:=Ad (Au hx hz);clear hx hz
 go_enter Tryz.func164,Tryz.ntmps164
 go_wp2_with fail
 refine AR (BD _ N n _ (HN.out.ext (((Ext.refl w).alloc _).alloc _))) ?_;rintro r w1 hr hx1;have hu1:Bl w1 u M:=HU.out.ext hx1.a2;clear HU;have Hr:=Ad (Au hr hu1);clear hr hu1;by_cases hsg:neg=neg'
 ·subst hsg
  have hb:(neg==neg)=true:=by simp
  have hc1:=hx1.cells;have hf1:=hx1.frozens
  go_wp2_with fail
  refine AR (Ry _ _ N M (sz N) (sz M) w1 (Hr.out.1.num (Nat.le_refl _)) (Hr.out.2.num (Nat.le_refl _)) Aa Aa) ?_;rintro r2 w2 hr2 hx2;clear hc1 hf1
  go_wp2_with fail
  refine AR (Cs z neg _ (N+M) _ w2 (by rw[Hz.out.2,Hz.out.1];cases neg<;>simp<;>omega) hr2) ?_;rintro r3 w3 hr3 hx3;obtain⟨b,A2,n2,c2,rfl⟩:=hr3.cells;replace hx1:=(hx1.trans hx2).trans hx3;have hc1:=hx1.cells;have hf1:=hx1.frozens;have Hfin:=Ad (Cr hr3 hx1.a2 (AJ.at_ hx1 (g:=w.heap.size+1) Ac (by simp[Ag])) Aa);clear hr3 hr2;go_wp2;refine bodyPost_ret (v := .agg #[.bool b,.slice A2 n2 c2]) (by simp[results,Tryz.results164,go_sem,hc1]) rfl ?_
  exact Hfin.out
 ·have hb:(neg==neg')=false:=by simpa using hsg
  have hneg:neg'=!neg:=by cases neg<;>cases neg'<;>simp_all
  subst hneg;have hc1:=hx1.cells;have hf1:=hx1.frozens;clear hsg
  go_wp2_with fail
  refine AR (LC _ _ N M w1 Hr.out.1 Hr.out.2 Aa Aa) ?_;rintro r2 w2 rfl hx2;replace Hr:=Ad (Au (Hr.out.1.ext hx2) (Hr.out.2.ext hx2));replace hx1:=hx1.trans hx2;clear hc1 hf1 hx2;have hc1:=hx1.cells;have hf1:=hx1.frozens;by_cases hle:M<=N
  ·have hb2:decide (cmp N M>=0)=true:=by
    rcases Nat.lt_or_eq_of_le hle with e | e
    ·rw[Ph e];rfl
    ·rw[Tf e.symm];rfl
   have hb3:decide (0<=cmp N M)=true:=hb2;have Hle:=Ad hle;clear hle
   go_wp2_with fail
   have hb0:=hx1.a1.box (i:=0) rfl rfl;refine CV 5 [24,25,26,27,28] [3,7,2] [_,_,_] [(kv ?_),(kv ?_),(kv ?_),(kv ?_),(fun γ=>γ 4)] (fun γ w'=>[True,True,True,True,Ci w' (γ 4) (N - M) (sz N)]) ?s1 ?_
   case s1 =>
    iterate 5 refine⟨?_,?_⟩
    trivial
    iterate 4 focus
     refine Ba fun _ w' he R hR=>?_;have hc:=he.cells;have cq0:=he.cell hb0;go_simp;exact Bi hR
    ·refine Ba fun _ w' he R hR=>?_
     go_simp;exact Bg (NN _ _ N M w' (Hr.out.1.ext he) (Hr.out.2.ext he) Hle.out Aa) hR
   intro γ w3 hx3 hF;have p4:Ci w3 (γ 4) (N - M) (sz N):=Av.get hF 4 Ab;clear hF;simp only[Bd,Nat.reduceAdd];generalize γ 4=g4 at *;clear γ
   go_wp2_with fail
   refine AR (Cs z neg _ (N - M) _ w3 (by have:=Hle.out;rw[Hz.out.2,Hz.out.1];cases neg<;>simp<;>omega) p4) ?_;rintro r3 w4 hr3 hx4;obtain⟨b,A2,n2,c2,rfl⟩:=hr3.cells;replace hx1:=(hx1.trans hx3).trans hx4;clear hc1 hf1;have hc1:=hx1.cells;have hf1:=hx1.frozens;have Hfin:=Ad (Cr hr3 hx1.a2 (AJ.at_ hx1 (g:=w.heap.size+1) Ac (by simp[Ag])) Aa);clear hr3 p4;go_wp2;refine bodyPost_ret (v := .agg #[.bool b,.slice A2 n2 c2]) (by simp[results,Tryz.results164,go_sem,hc1]) rfl ?_
   exact Hfin.out
  ·have hb2:decide (0<=cmp N M)=false:=by rw[PZ Aa];rfl
   have Hle:=Ad hle;clear hle
   go_wp2_with fail
   refine AR (NN _ _ M N w2 Hr.out.2 Hr.out.1 (by have:=Hle.out;omega) Aa) ?_;rintro r2 w3 hr2 hx3;clear hc1 hf1
   go_wp2_with fail
   refine AR (Cs z (!neg) _ (M - N) _ w3 (by have:=Hle.out;rw[Hz.out.2,Hz.out.1];cases neg<;>simp<;>omega) hr2) ?_;rintro r3 w4 hr3 hx4;obtain⟨b,A2,n2,c2,rfl⟩:=hr3.cells;replace hx1:=(hx1.trans hx3).trans hx4;have hc1:=hx1.cells;have hf1:=hx1.frozens;have Hfin:=Ad (Cr hr3 hx1.a2 (AJ.at_ hx1 (g:=w.heap.size+1) Ac (by simp[Ag])) Aa);clear hr3 hr2;go_wp2;refine bodyPost_ret (v := .agg #[.bool b,.slice A2 n2 c2]) (by simp[results,Tryz.results164,go_sem,hc1]) rfl ?_
   exact Hfin.out
theorem N8(v u:Value)(x y:Int)(w:World)(hv:Bh w v x)(hu:Bh w u y):Bj 124 #[v,u] w (fun r w'=>AC w' r (x+y)):=by
 have Hv:=Ad hv;obtain⟨neg,A,n,c,N,rfl,h1,h2,h3,hN,hx⟩:=hv.form;obtain⟨neg',A',n',c',M,rfl,k1,k2,k3,kN,hy⟩:=hu.form;have HN:=Ad kN;clear hN hv hu kN hx;have hs:sz M<=n':=HN.out.sz;have Hy:=Ad hy;clear hy
 go_enter Tryz.func124,Tryz.ntmps124
 go_wp2_with fail
 refine CV 6 [5,6,7,8,9,10] [2,3] [_,_] [(kv ?_),(kv ?_),(kv ?_),(kv ?_),(kv ?_),(fun γ=>γ 5)] (fun γ w'=>[True,True,True,True,True,Bl w' (γ 5) M]) ?s2 ?_
 case s2 =>
  iterate 6 refine⟨?_,?_⟩
  trivial
  iterate 5 focus
   refine Ba fun _ w' he R hR=>?_;have hc:=he.cells;go_simp;exact Bi hR
  ·refine Ba fun _ w' he R hR=>?_
   go_simp;exact Bg (BD _ M n' w' (HN.out.ext he.a3)) hR
 intro γ w1 hx1 hF;have p5:Bl w1 (γ 5) M:=Av.get hF 5 Ab;clear hF;simp only[Bd,Nat.reduceAdd];generalize γ 5=g5 at *;clear γ
 go_wp2_with fail
 refine AR (YA _ _ neg' x M w1 (Hv.out.ext hx1.a3) p5 Aa) ?_;rintro r w2 hr hx2;rw[<-Hy.out]at hr;obtain⟨b,A2,n2,c2,rfl⟩:=hr.cells;replace hx1:=hx1.trans hx2;have hc1:=hx1.cells;have hf1:=hx1.frozens;have Hfin:=Ad (Cr hr hx1.a3 (AJ.at_ hx1 (g:=w.heap.size+2) Ac (by simp[Ag])) Aa);clear hr p5;go_wp2;refine bodyPost_ret (v := .agg #[.bool b,.slice A2 n2 c2]) (by simp[results,Tryz.results124,go_sem,hc1]) rfl ?_
 exact Hfin.out
theorem Dr(v u:Value)(x y:Int)(w:World)(hv:Bh w v x)(hu:Bh w u y):Bj 118 #[v,u] w (fun r w'=>AC w' r (x*y)):=by
 obtain⟨neg,A,n,c,N,rfl,h1,h2,h3,hN,hx⟩:=hv.form;obtain⟨neg',A',n',c',M,rfl,k1,k2,k3,kN,hy⟩:=hu.form;have HN:=Ad hN;have HM:=Ad kN;clear hN hv hu kN;have hs:sz N<=n:=HN.out.sz;have hs':sz M<=n':=HM.out.sz;have Hz:=Ad (show x*y=if (neg != neg')=true then -((N*M:Nat):Int)else((N*M:Nat):Int) by rw[hx,hy];cases neg<;>cases neg'<;>simp[Int.neg_mul,Int.mul_neg]);clear hx hy
 go_enter Tryz.func118,Tryz.ntmps118
 go_wp2_with fail
 refine CV 12 [5,6,7,8,9,10,11,12,13,14,15,16] [2,3] [_,_] [(kv ?_),(kv ?_),(kv ?_),(kv ?_),(kv ?_),(kv ?_),(kv ?_),(fun γ=>γ 7),(kv ?_),(kv ?_),(fun γ=>γ 10),(fun γ=>γ 11)] (fun γ w'=>[True,True,True,True,True,True,True,Bl w' (γ 7) N,True,True,Bl w' (γ 10) M,Ci w' (γ 11) (N*M) (sz N+sz M)]) ?s3 ?_
 case s3 =>
  iterate 12 refine⟨?_,?_⟩
  trivial
  iterate 7 focus
   refine Ba fun _ w' he R hR=>?_;have hc:=he.cells;go_simp;(try go_ints);(try(rw[if_neg Aa]));(try(rw[if_pos Aa]));(try go_simp);(try go_ints)
   exact Bi hR
  ·refine Ba fun _ w' he R hR=>?_
   go_simp;exact Bg (BD _ N n w' (HN.out.ext he.a3)) hR
  iterate 2 focus
   refine Ba fun _ w' he R hR=>?_;have hc:=he.cells;go_simp;exact Bi hR
  ·refine Ba fun _ w' he R hR=>?_
   go_simp;exact Bg (BD _ M n' w' (HM.out.ext he.a3)) hR
  ·refine FO fun γ w' he hf R hR=>?_;have f7:Bl w' (γ 7) N:=hf 7 Ab;have f10:Bl w' (γ 10) M:=hf 10 Ab;clear hf
   go_simp;exact Bg (Vz _ _ N M (sz N) (sz M) w' (f7.num (Nat.le_refl _)) (f10.num (Nat.le_refl _)) Aa Aa) hR
 intro γ w1 hx1 hF;have p7:Bl w1 (γ 7) N:=Av.get hF 7 Ab;have p10:Bl w1 (γ 10) M:=Av.get hF 10 Ab;have p11:Ci w1 (γ 11) (N*M) (sz N+sz M):=Av.get hF 11 Ab;clear hF;simp only[Bd,Nat.reduceAdd];generalize γ 7=g7 at *;generalize γ 10=g10 at *;generalize γ 11=g11 at *;clear γ
 go_wp2_with fail
 refine AR (Cs (x*y) (neg != neg') _ (N*M) _ w1 Hz.out p11) ?_;rintro r w2 hr hx2;obtain⟨b,A2,n2,c2,rfl⟩:=hr.cells;replace hx1:=hx1.trans hx2;have hc1:=hx1.cells;have hf1:=hx1.frozens;have Hfin:=Ad (Cr hr hx1.a3 (AJ.at_ hx1 (g:=w.heap.size+2) Ac (by simp[Ag])) Aa);clear hr p7 p10 p11;go_wp2;refine bodyPost_ret (v := .agg #[.bool b,.slice A2 n2 c2]) (by simp[results,Tryz.results118,go_sem,hc1]) rfl ?_
 exact Hfin.out
def MX(x y:Int)(r:Value)(w:World):Prop:=∃ a b,r = .tuple #[a,b,.int .i64 (if y=0 then 5 else 0)]/\AC w a (x / y)/\AC w b (if y=0 then 0 else x % y)
theorem Kv(v u:Value)(x y:Int)(w:World)(hv:Bh w v x)(hu:Bh w u y):Bj 136 #[v,u] w ((MX x y)):=by
 obtain⟨neg,A,n,c,N,rfl,h1,h2,h3,hN,hx⟩:=hv.form;obtain⟨neg',A',n',c',M,rfl,k1,k2,k3,kN,hy⟩:=hu.form;have HN:=Ad hN;have HM:=Ad kN;clear hN hv hu kN;have hs:sz N<=n:=HN.out.sz;have hs':sz M<=n':=HM.out.sz;have Hxy:=Ad (Au hx hy);clear hx hy
 go_enter Tryz.func136,Tryz.ntmps136
 go_wp2_with fail
 refine AR (BD _ M n' _ (HM.out.ext (((((Ext.refl w).alloc _).alloc _).alloc _).alloc _))) ?_;rintro r w1 hr hx1;obtain⟨A3,c3,rfl,q1,q2⟩:=hr.form;by_cases hM0:M=0
 ·have hb:(((sz M:Nat):Int)==0)=true:=by subst hM0;rfl
  have Hy:=Ad (show y=0 by rw[Hxy.out.2,hM0];cases neg'<;>rfl);clear Hxy hM0;have hc1:=hx1.cells;have hf1:=hx1.frozens;have Hfin:=Ad (I6 (AC.zero w1) (AC.zero w1) hx1.a4 (AJ.at_ hx1.a1 (g:=w.heap.size+1+1) Ac (by simp[Ag])) (AJ.at_ hx1 (g:=w.heap.size+1+1+1) Ac (by simp[Ag])) Aa Aa);clear hr;go_wp2;refine bodyPost_ret (v := .tuple #[.agg #[.bool false,.slice none 0 0],.agg #[.bool false,.slice none 0 0],.int .i64 5]) (by simp[results,Tryz.results136,go_sem,hc1]) rfl ?_
  refine Ah.mk ⟨_,_,by rw[Hy.out];rfl,?_,?_⟩ Hfin.out.2.2
  ·rw[Hy.out,Int.ediv_zero];exact Hfin.out.1
  ·rw[Hy.out,if_pos rfl];exact Hfin.out.2.1
 ·have hMp:=DU hM0
  have hb:(((sz M:Nat):Int)==0)=false:=by simp;omega
  have Hr:=Ad hr;clear hr;have H0:=Ad hM0;clear hM0;have hc1:=hx1.cells;have hf1:=hx1.frozens
  go_wp2_with fail
  refine AR (BD _ N n w1 (HN.out.ext hx1.a4)) ?_;rintro r w2 hr hx2;clear hc1 hf1;replace Hr:=Ad (Hr.out.ext hx2);replace hx1:=hx1.trans hx2;clear hx2
  go_wp2_with fail
  refine AR (MU _ _ N M w2 hr Hr.out (by have:=H0.out;omega) Aa Aa) ?_;rintro r2 w3 ⟨a,b,rfl,ha,hb'⟩ hx2;obtain⟨A4,c4,rfl,d1,d2⟩:=hb'.form;replace Hr:=Ad (Hr.out.ext hx2);replace hx1:=hx1.trans hx2;clear hx2 hr;have hc1:=hx1.cells;have hf1:=hx1.frozens;have Hq:=Ad ha;have Hm:=Ad hb';clear ha hb';have HY:=Ad (show y≠0 by have:=H0.out;rw[Hxy.out.2];cases neg'<;>simp<;>omega);cases neg
  ·have HE:=Ad (show x / y=(if neg'=true then -((N / M:Nat):Int)else(N / M:Nat))/\x % y=(if false=true then -((N % M:Nat):Int)else(N % M:Nat)) by
    rw[Hxy.out.1,Hxy.out.2];exact NF neg' (by have:=H0.out;omega))
   go_wp2_with fail
   refine AR (Cs (x / y) neg' _ (N / M) _ w3 HE.out.1 (Hq.out.num (Nat.le_refl _))) ?_;rintro rq w4 hrq hx3;obtain⟨bq,Aq,nq,cq,rfl⟩:=hrq.cells
   go_wp2_with fail
   refine AR (Cs (x % y) false _ (N % M) _ w4 HE.out.2 (Ci.ext (Hm.out.num (Nat.le_refl _)) hx3)) ?_;rintro rr w5 hrr hx4;obtain⟨br,Ar,nr,cr,rfl⟩:=hrr.cells;replace hrq:=hrq.ext hx4;replace hx1:=(hx1.trans hx3).trans hx4;clear hc1 hf1 hx3 hx4;have hc1:=hx1.cells;have hf1:=hx1.frozens;have Hfin:=Ad (I6 hrq hrr hx1.a4 (AJ.at_ hx1.a1 (g:=w.heap.size+1+1) Ac (by simp[Ag])) (AJ.at_ hx1 (g:=w.heap.size+1+1+1) Ac (by simp[Ag])) Aa Aa)
   clear hrq hrr;go_wp2;refine bodyPost_ret (v := .tuple #[.agg #[.bool bq,.slice Aq nq cq],.agg #[.bool br,.slice Ar nr cr],.int .i64 0]) (by simp[results,Tryz.results136,go_sem,hc1]) rfl ?_;exact Ah.mk ⟨_,_,by rw[if_neg HY.out],Hfin.out.1,by rw[if_neg HY.out];exact Hfin.out.2.1⟩ Hfin.out.2.2
  ·by_cases hr0:N % M=0
   ·have HE:=Ad (show x / y=(if (!neg')=true then -((N / M:Nat):Int)else(N / M:Nat))/\x % y=(if false=true then -((N % M:Nat):Int)else(N % M:Nat)) by
     rw[Hxy.out.1,Hxy.out.2];exact LA neg' (by have:=H0.out;omega) hr0)
    have hb2:decide (0 < sz (N % M))=false:=by rw[hr0];rfl
    clear hr0
    go_wp2_with fail
    refine AR (Cs (x / y) (!neg') _ (N / M) _ w3 HE.out.1 (Hq.out.num (Nat.le_refl _))) ?_;rintro rq w4 hrq hx3;obtain⟨bq,Aq,nq,cq,rfl⟩:=hrq.cells
    go_wp2_with fail
    refine AR (Cs (x % y) false _ (N % M) _ w4 HE.out.2 (Ci.ext (Hm.out.num (Nat.le_refl _)) hx3)) ?_;rintro rr w5 hrr hx4;obtain⟨br,Ar,nr,cr,rfl⟩:=hrr.cells;replace hrq:=hrq.ext hx4;replace hx1:=(hx1.trans hx3).trans hx4;clear hc1 hf1 hx3 hx4;have hc1:=hx1.cells;have hf1:=hx1.frozens;have Hfin:=Ad (I6 hrq hrr hx1.a4 (AJ.at_ hx1.a1 (g:=w.heap.size+1+1) Ac (by simp[Ag])) (AJ.at_ hx1 (g:=w.heap.size+1+1+1) Ac (by simp[Ag])) Aa Aa)
    clear hrq hrr;go_wp2;refine bodyPost_ret (v := .tuple #[.agg #[.bool bq,.slice Aq nq cq],.agg #[.bool br,.slice Ar nr cr],.int .i64 0]) (by simp[results,Tryz.results136,go_sem,hc1]) rfl ?_;exact Ah.mk ⟨_,_,by rw[if_neg HY.out],Hfin.out.1,by rw[if_neg HY.out];exact Hfin.out.2.1⟩ Hfin.out.2.2
   ·have HE:=Ad (show x / y=(if (!neg')=true then -((N / M+1:Nat):Int)else(N / M+1:Nat))/\x % y=(if false=true then -((M - N % M:Nat):Int)else(M - N % M:Nat)) by
     rw[Hxy.out.1,Hxy.out.2];exact MS neg' (by have:=H0.out;omega) Aa)
    have hb2:decide (0 < sz (N % M))=true:=by have:=DU hr0;simpa using this
    clear hr0;have hsq:sz (N / M)<=sz N:=Bf (Nat.div_le_self _ _)
    go_wp2_with fail
    refine AR (Ry _ _ (N / M) 1 (sz N) 1 _ ((Hq.out.ext ((Ext.refl w3).alloc _)).num hsq) (Ci.unit _ _) Aa Aa) ?_;rintro r4 w4 hr4 hx4;replace Hr:=Ad (Hr.out.ext hx4.a1);replace Hm:=Ad (Hm.out.ext hx4.a1);replace hx1:=hx1.trans hx4.a1;clear hc1 hf1 hx4 hb2 Hq;have hc1:=hx1.cells;have hf1:=hx1.frozens
    go_wp2_with fail
    refine AR (NN _ _ M (N % M) w4 Hr.out Hm.out (Nat.le_of_lt (Nat.mod_lt _ (by have:=H0.out;omega))) Aa) ?_;rintro r5 w5 hr5 hx5;replace hr4:=hr4.ext hx5;replace hx1:=hx1.trans hx5;clear hc1 hf1 hx5 Hr Hm;have hc1:=hx1.cells;have hf1:=hx1.frozens;have Hr4:=Ad hr4;have Hr5:=Ad hr5;clear hr4 hr5
    go_wp2_with fail
    refine AR (Cs (x / y) (!neg') _ (N / M+1) _ w5 HE.out.1 Hr4.out) ?_;rintro rq w6 hrq hx3;obtain⟨bq,Aq,nq,cq,rfl⟩:=hrq.cells
    go_wp2_with fail
    refine AR (Cs (x % y) false _ (M - N % M) _ w6 HE.out.2 (Ci.ext Hr5.out hx3)) ?_;rintro rr w7 hrr hx4;obtain⟨br,Ar,nr,cr,rfl⟩:=hrr.cells;replace hrq:=hrq.ext hx4;replace hx1:=(hx1.trans hx3).trans hx4;clear hc1 hf1 hx3 hx4;have hc1:=hx1.cells;have hf1:=hx1.frozens;have Hfin:=Ad (I6 hrq hrr hx1.a4 (AJ.at_ hx1.a1 (g:=w.heap.size+1+1) Ac (by simp[Ag])) (AJ.at_ hx1 (g:=w.heap.size+1+1+1) Ac (by simp[Ag])) Aa Aa)
    clear hrq hrr;go_wp2;refine bodyPost_ret (v := .tuple #[.agg #[.bool bq,.slice Aq nq cq],.agg #[.bool br,.slice Ar nr cr],.int .i64 0]) (by simp[results,Tryz.results136,go_sem,hc1]) rfl ?_;exact Ah.mk ⟨_,_,by rw[if_neg HY.out],Hfin.out.1,by rw[if_neg HY.out];exact Hfin.out.2.1⟩ Hfin.out.2.2
theorem Ke(a b:Nat):Nat.gcd b (a % b)=Nat.gcd a b:=by rw[Nat.gcd_comm a b,Nat.gcd_rec b a,Nat.gcd_comm]
theorem Su(v u:Value)(N M:Nat)(w:World)(hv:Bl w v N)(hu:Bl w u M)(hN:sz N<=1099511627776)(hM:sz M<=1099511627776) :
  Bj 143 #[v,u] w (fun r w'=>Bl w' r (Nat.gcd N M)):=by
 have Hv:=Ad hv;have Hu:=Ad hu;clear hv hu;obtain⟨G,hG⟩:∃ G,G=Nat.gcd N M:=⟨_,rfl⟩
 rw[<-hG];have HG:=Ad hG;clear hG
 go_enter Tryz.func143,Tryz.ntmps143
 go_wp2
 go_loopw [0,1] (fun av bv wr=>∃ A B:Nat,Bl wr av A/\Bl wr bv B/\Nat.gcd A B=G/\sz A<=1099511627776/\sz B<=1099511627776/\Ext w wr) (fun _ bv wr=>TN bv wr)
 case atStart=>exact⟨N,M,Hv.out,Hu.out,HG.out.symm,hN,hM,Ext.refl _⟩
 case round =>
  obtain⟨A,B,hA,hB,hAB,h1,h2,hx⟩:=hrel;have HA:=Ad hA;have HB:=Ad hB;have HAB:=Ad hAB;obtain⟨p,c,rfl,_,_⟩:=hA.form;obtain⟨p',c',rfl,_,_⟩:=hB.form;clear hA hB hAB;by_cases hB0:B=0
  ·have hb:decide (0 < sz B)=false:=by rw[hB0];rfl
   have H0:=Ad hB0;clear hB0
   go_wp2_with fail
   refine AR (Jd _ A _ HA.out Aa) ?_;rintro r w1 hr hx1;go_wp2
   go_ret
   have:=HAB.out;rw[H0.out,Nat.gcd_zero_right]at this;exact Ah.mk (this▸hr) (hx.trans hx1)
  ·have hb:decide (0 < sz B)=true:=by have:=DU hB0;simpa using this
   have H0:=Ad hB0;clear hB0;by_cases hsm:sz A<=2/\sz B<=2
   ·have hb1:decide (((sz A:Nat):Int)<=2)=true:=by have:=hsm.1;simp;omega
    have hb2:decide (((sz B:Nat):Int)<=2)=true:=by have:=hsm.2;simp;omega
    have hA64:A < 18446744073709551616:=by have:=Ef.1 hsm.1;rwa[IP]at this
    have hB64:B < 18446744073709551616:=by have:=Ef.1 hsm.2;rwa[IP]at this
    clear hsm
    go_wp2_with fail
    refine AR (RP _ A _ HA.out hA64) ?_;rintro r w1 rfl hx1
    go_wp2_with fail
    refine AR (RP _ B _ (HB.out.ext hx1) hB64) ?_;rintro r w2 rfl hx2;replace hx:=(hx.trans hx1).trans hx2;clear hx1 hx2;go_wp2
    go_loopw [5,6] (fun av bv wx=>∃ A' B':Nat,av = .int .u64 A'/\bv = .int .u64 B'/\Nat.gcd A' B'=G/\A' < 18446744073709551616/\B' < 18446744073709551616/\Ext w wx) (fun _ bv _=>(intOf bv).toNat)
    case atStart=>exact⟨A,B,rfl,rfl,HAB.out,hA64,hB64,hx⟩
    case round =>
     obtain⟨A',B',rfl,rfl,hg,k1,k2,hx'⟩:=hrel;have Hg:=Ad hg;clear hg;by_cases hB0:B'=0
     ·subst hB0
      go_wp2_with fail
      refine AR (Mj A' _ rfl _ k1) ?_;rintro r w3 hr hx3;go_wp2
      go_ret
      have:=Hg.out;rw[Nat.gcd_zero_right]at this;exact Ah.mk (this▸hr) (hx'.trans hx3)
     ·have hp:(1:Int)<=B':=by omega
      have hb:((B':Int) != 0)=true:=by simp;omega
      go_wp2
      go_quiet (fail)
      go_wp2
      go_roundw
      case rel=>exact⟨B',A' % B',Ac,Ac,by rw[Ke,Hg.out],k2,by have:=Nat.mod_lt A' (show 0 < B' by omega);omega,hx'.drewN _⟩
      case measure =>
       have:=Nat.mod_lt A' (show 0 < B' by omega);simp only[intOf,Array.getD,Int.toNat_natCast]<;>simp<;>omega
   ·have hb1:decide (((sz A:Nat):Int)<=2)=false\/(decide (((sz A:Nat):Int)<=2)=true/\decide (((sz B:Nat):Int)<=2)=false):=by
     by_cases q:sz A<=2
     ·right;simp;omega
     ·left;simp;omega
    clear hsm;rcases hb1 with hb1 | ⟨hb1,hb2⟩
    all_goals
     go_wp2_with fail
     refine AR (MU _ _ A B wr HA.out HB.out (by have:=H0.out;omega) Aa Aa) ?_;rintro r w1 ⟨q,m,rfl,hq,hm⟩ hx1;have hlt:=Nat.mod_lt A (show 0 < B by have:=H0.out;omega);have hm1:=Md hm;have hb1:=Md HB.out;have hsz:=Bf (Nat.le_of_lt hlt);have Hm:=Ad hm;clear hm;go_wp2
     go_roundw
     case rel=>exact⟨B,A % B,HB.out.ext hx1,Hm.out,by rw[Ke,HAB.out],h2,Aa,hx.trans hx1⟩
     case measure=>simpa[hm1,hb1] using hlt
def Kn(B:Nat)(w:World)(v:Value)(ds:List Nat):Prop:=BC w v ds/\(0 < ds.length->∀ a n c,v = .slice (some a) n c->a.block≠B)
theorem Kn.ext{B:Nat}{w w':World}{v:Value}{ds:List Nat}(h:Kn B w v ds)(e:Ext w w'):Kn B w' v ds:=⟨h.1.ext e,h.2⟩
theorem Kn.of_own{B base:Nat}{w:World}{v:Value}{ds:List Nat}(h:Tg base w v ds)(hb:B < base):Kn B w v ds:=⟨h.1,fun h0 a n c e=>by have:=h.2 h0 a n c e;omega⟩
theorem Kn.of_old{B:Nat}{w:World}{v:Value}{ds:List Nat}(h:BC w v ds)(hb:w.heap.size<=B):Kn B w v ds:=⟨h,fun h0 a n c e=>by
 obtain⟨A,c',e',_,_,_,hA⟩:=h;obtain⟨a',ha,hc⟩:=hA h0;rw[e']at e;simp only[Value.slice.injEq]at e;rw[ha]at e;simp only[Option.some.injEq]at e;have hlt:=hc 0 h0;have:(a'.add 0).block < w.heap.size:=by
  rcases Nat.lt_or_ge (a'.add 0).block w.heap.size with h | h
  ·exact h
  ·unfold World.cell? at hlt
   rw[Array.getElem?_eq_none h]at hlt;cases hlt
 have e2:(a'.add 0).block=a'.block:=rfl;rw[<-e.1];omega⟩
theorem Kn.set_{B:Nat}{w:World}{v:Value}{ds:List Nat}(h:Kn B w v ds)(i:Nat)(u:Value):Kn B (w.setCell ⟨B,i,none⟩ u) v ds:=⟨by
 obtain⟨A,c,e,h1,h2,hd,hA⟩:=h.1;refine⟨A,c,e,h1,h2,hd,fun h0=>?_⟩;obtain⟨a,ha,hc⟩:=hA h0;have hne:=h.2 h0 a _ _ (by rw[e,ha]);refine⟨a,ha,fun j hj=>?_⟩;have hb:(w.setCell ⟨B,i,none⟩ u).heap[(a.add j).block]? = w.heap[(a.add j).block]? := Below.heap_setCell w ⟨B,i,none⟩ u _ (by
  have e2:(a.add j).block=a.block:=by unfold Addr.add;split<;>rfl
  rw[e2];exact hne)
 have h3:=hc j hj;unfold World.cell? at h3 ⊢;rw[hb];exact h3,h.2⟩
theorem Va{l:List Nat}{t z p:Nat}(hd:AV l)(hz:z < l.length)(hp:p < 32)(h:nv l=2^(32*z+p+1)*t):dg l z+2^p < 4294967296/\nv (l.set z (dg l z+2^p))=nv l+2^(32*z+p):=by
 have e1:=DV l z Aa;have e2:=De hz;rw[<-Dj hz]at e2;have hb:=DW (AV.take hd z);have hlen:(l.take z).length=z:=by rw[List.length_take];omega
 rw[hlen]at hb;have hx:=AU hd z;have hs:=MF (l:=l) (p:=z) (d:=dg l z+2^p) hz;generalize hxx:dg l z=x at *;rw[e2]at e1;generalize nv (l.drop (z+1))=y at *;have hpw:2^(32*z+p+1)=bp z*(2*2^p):=by rw[Cq,Nat.pow_succ,Nat.pow_add,Nat.mul_assoc,Nat.mul_comm (2^p) 2]
 obtain⟨q,hq⟩:∃ q,4294967296=2*2^p*q:=⟨2^(31 - p),by rw[Nat.mul_assoc,<-Nat.pow_add,show p+(31 - p)=31 by omega]⟩
 have hP:=Nat.two_pow_pos p;have hB:=Ib z;rw[hpw,Nat.mul_assoc,e1]at h;have hx2:∃ r,x=2*2^p*r:=by
  generalize 2*2^p=P at *;have hlow:nv (l.take z)=0:=by
   have h1:bp z∣nv (l.take z):=(Nat.dvd_add_iff_left (Nat.dvd_mul_right _ _)).2 (by rw[h];exact Nat.dvd_mul_right _ _);exact Nat.eq_zero_of_dvd_of_lt h1 hb
  rw[hlow,Nat.zero_add]at h;have h2:=Nat.eq_of_mul_eq_mul_left hB h;have h3:P∣x:=⟨t - q*y,by rw[Nat.mul_sub,<-h2,hq,Nat.mul_assoc,Nat.add_sub_cancel]⟩
  exact h3
 obtain⟨r,hr⟩:=hx2;constructor
 ·generalize hPP:2^p=P at *
  have h4:r < q:=by
   rcases Nat.lt_or_ge r q with h | h
   ·exact h
   ·have:=Nat.mul_le_mul_left (2*P) h
    omega
  have h5:2*P*(r+1)<=2*P*q:=Nat.mul_le_mul_left _ h4;rw[Nat.mul_add,Nat.mul_one]at h5;omega
 ·have e3:2^(32*z+p)=bp z*2^p:=by rw[Cq,Nat.pow_add]
  rw[e3];rw[Nat.mul_add]at hs;omega
theorem U6(v:Value)(A:Option Addr)(n c N:Nat)(w:World)(hv:v = .slice A n c)(h:Bl w v N)(hs:sz N<=1099511627776):Bj 46 #[.agg #[.bool false,.slice A n c]] w (fun r _=>∃ b:Nat,r = .int .i64 b/\BL N b):=by
 obtain⟨ds,hd,hN,ht,hl⟩:=h.len;have:=bZ (.agg #[.bool false,.slice A n c]) N w ⟨false,ds,⟨v,by rw[hv],hd⟩,by unfold iv;rw[hN];rfl,Aa⟩;simpa using this
theorem Jl(v:Value)(N:Nat)(w:World)(h:Bl w v N)(hn:sz N<=2):Bj 154 #[v] w (fun r _=>r = .int .u64 (N:Nat)):=by
 obtain⟨ds,hd,rfl,ht,hl⟩:=h.len;exact eH v ds w hd Aa
theorem QF(z:Int)(N:Nat)(w:World)(hz:z=(N:Nat))(hN:N < 18446744073709551616):Bj 155 #[.int .u64 z] w (fun r w'=>Bl w' r N):=by
 subst hz;exact UH N w hN
theorem SV(v:Value)(N s:Nat)(w:World)(h:Bl w v N)(hs:s<=70368744177664)(hn:sz N<=2199023255552) :
  Bj 191 #[v,.int .i64 (s:Nat)] w (fun r w'=>Bl w' r (N*2^s)):=by
 obtain⟨ds,hd,rfl,ht,hl⟩:=h.len;exact VK v ds s w hd hs Aa
theorem WP(v:Value)(N l:Nat)(w:World)(h:Ci w v N l)(hl:l<=8796093022208):Bj 97 #[v] w (fun r w'=>∃ rs,Tg w.heap.size w' r rs/\nv rs=N/\Ja rs):=by
 obtain⟨ds,h1,rfl,h3⟩:=h;exact Ah.imp (Rs v ds w h1 Aa) fun _ _ h=>⟨_,h,G7 ds,FN ds⟩
theorem VS(v u:Value)(N M:Nat)(w:World)(hv:Bl w v N)(hu:Bl w u M)(hM:M≠0)(sN:sz N<=1099511627776)(sM:sz M<=1099511627776) :
  Bj 177 #[v,u] w (fun e w'=>∃ q r,e = .tuple #[q,r]/\Ci w' q (N / M) (sz N+1)/\Bl w' r (N % M)):=by
 have HV:=Ad hv;have HU:=Ad hu;obtain⟨ds,hd,hN,ht,hl⟩:=hv.len;obtain⟨es,he,hM',ht',hl'⟩:=hu.len;have hd':=hd;obtain⟨A,p1,rfl,hl1,hc1,hA⟩:=hd;obtain⟨E,p2,rfl,hl2,hc2,hE⟩:=he;have HT:=Ad (Au hd' (Au hN ht));rw[<-hl]at sN;rw[<-hl']at sM;have HL:=Ad (Au hl hl');clear hv hu hA hE ht ht' hl hl' hN hM' hd';have hM0:(M:Int)≠0:=by omega
 have hM1:0 < M:=by omega
 by_cases hsm:ds.length<=2/\es.length<=2
 ·obtain⟨s1,s2⟩:=hsm
  have b1:N < 18446744073709551616:=by
   have h1:=Cy N;have h2:bp (sz N)<=bp 2:=Fx (by rw[<-HL.out.1];exact s1);rw[IP]at h2;omega
  have b3:N / M < 18446744073709551616:=Nat.lt_of_le_of_lt (Nat.div_le_self _ _) b1;have b4:N % M < 18446744073709551616:=Nat.lt_of_le_of_lt (Nat.mod_le _ _) b1
  go_enter Tryz.func177,Tryz.ntmps177
  go_wp2_with fail
  refine AR (Jl _ N _ HV.out (by rw[<-HL.out.1];exact s1)) ?_;rintro r w1 rfl hx1
  go_wp2_with fail
  refine AR (Jl _ M _ (HU.out.ext hx1) (by rw[<-HL.out.2];exact s2)) ?_;rintro r w2 rfl hx2;replace hx1:=hx1.trans hx2;clear hx2
  go_wp2_with fail
  refine AR (QF _ (N / M) _ (by rw[show(N:Int) / M=((N / M:Nat):Int) by simp];generalize N / M=Z at *;rw[IntKind.wrap_u64];omega) b3) ?_;rintro r w3 hq hx2;replace hx1:=hx1.trans hx2;clear hx2
  go_wp2_with fail
  refine AR (Jl _ N _ (HV.out.ext hx1) (by rw[<-HL.out.1];exact s1)) ?_;rintro r w4 rfl hx2;replace hq:=hq.ext hx2;replace hx1:=hx1.trans hx2;clear hx2
  go_wp2_with fail
  refine AR (Jl _ M _ (HU.out.ext hx1) (by rw[<-HL.out.2];exact s2)) ?_;rintro r w5 rfl hx2;replace hq:=hq.ext hx2;replace hx1:=hx1.trans hx2;clear hx2
  go_wp2_with fail
  refine AR (QF _ (N % M) _ Ac b4) ?_;rintro r w6 hr hx2;replace hq:=hq.ext hx2;replace hx1:=hx1.trans hx2;clear hx2;go_wp2
  go_ret2
  exact Ah.mk ⟨_,_,rfl,hq.num (Nat.le_trans (Bf (Nat.div_le_self N M)) (Nat.le_succ _)),hr⟩ hx1
 ·have hcase:2 < ds.length\/(ds.length<=2/\2 < es.length):=by omega
  clear hsm;rcases hcase with hcase | ⟨hcase,hcase2⟩
  all_goals
   go_enter Tryz.func177,Tryz.ntmps177
   go_wp2_with fail
   refine AR (U6 _ _ _ _ N _ rfl HV.out (by rw[<-HL.out.1];exact sN)) ?_;rintro r w1 ⟨ba,rfl,hba⟩ hx1;have a1:ba<=32*ds.length:=by
    have h1:=Cy N;rw[Cq]at h1;have:=hba.le h1;rw[<-HL.out.1]at this;omega
   go_wp2_with fail
   refine AR (U6 _ _ _ _ M _ rfl (HU.out.ext hx1) (by rw[<-HL.out.2];exact sM)) ?_;rintro r w2 ⟨bb,rfl,hbb⟩ hx2;have a2:bb<=35184372088832:=by
    have h1:=Cy M;rw[Cq]at h1;have:=hbb.le h1;rw[<-HL.out.2]at this;omega
   replace hx1:=hx1.trans hx2;clear hx2;have HB:=Ad (Au hba hbb);clear hba hbb;by_cases hlt:ba < bb
   ·have hNM:N < M:=by
     have h1:=HB.out.1.1;have h2:=HB.out.2.2 Aa;have h3:2^ba<=2^(bb - 1):=Nat.pow_le_pow_right Ab Aa;omega
    have H1:=Ad (Au (Nat.div_eq_of_lt hNM) (Nat.mod_eq_of_lt hNM));clear hNM;go_wp2
    go_ret2
    refine Ah.mk ⟨_,_,rfl,?_,?_⟩ hx1
    ·rw[H1.out.1];exact⟨[],⟨none,0,rfl,Nat.le_refl _,Aa,AV.nil,fun h=>absurd h Ac⟩,rfl,Ac⟩
    ·rw[H1.out.2];exact HV.out.ext hx1
   ·obtain⟨n,hn⟩:∃ n,ba=bb+n:=⟨ba - bb,Aa⟩
    have hn1:(ba:Int) - bb=n:=by omega
    have hn2:n<=32*ds.length:=by omega
    have hmk:=fun W=>Du (n / 32+1) ((n:Int) / 32+1) Aa Aa W;have Hn:=Ad hn;clear hn hlt a1 a2;go_wp2
    go_loopw [6,9] (fun rv iv wr=>∃ (k R:Nat) (rs l:List Nat),k<=n+1/\(∃ q:Int,q+1=k/\iv = .int .i64 q)/\Kn w2.heap.size wr rv rs/\nv rs=R/\Ja rs/\BG wr w2.heap.size 113 l/\AV l/\l.length=n / 32+1/\nv l*M+R=N/\R < M*2^k/\(∃ t,nv l=2^k*t)/\Ext w2 wr) (fun _ iv _=>(intOf iv+1).toNat)
    case atStart =>
     refine⟨n+1,N,ds,_,Nat.le_refl _,⟨_,Aa,rfl⟩,(Kn.of_old (HT.out.1.ext hx1) (Nat.le_refl _)).ext ((Ext.refl w2).alloc _),HT.out.2.1,HT.out.2.2,BG.new _ _ _,AV.zeros _,List.length_replicate,by rw[IE];omega,?_,⟨0,by rw[IE];rfl⟩,(Ext.refl w2).alloc _⟩
     ·have h1:=HB.out.1.1
      have h2:bb=0\/2^(bb - 1)<=M:=by
       rcases Nat.eq_zero_or_pos bb with h | h
       ·exact .inl h
       ·exact .inr (HB.out.2.2 h)
      rcases h2 with h2 | h2
      ·have:=HB.out.2.1;rw[h2]at this;omega
      ·have hb0:bb≠0:=by rintro rfl;have:=HB.out.2.1;omega
       have h3:2^(bb - 1)*2^(n+1)<=M*2^(n+1):=Nat.mul_le_mul_right _ h2;rw[<-Nat.pow_add,show bb - 1+(n+1)=ba by have:=Hn.out;omega]at h3;omega
    case round =>
     obtain⟨k,R,rs,l,hk,⟨q,hq,rfl⟩,hrf,hrv,hrt,hblk,hdl,hll,hval,hlt,ht,hx⟩:=hrel;obtain⟨A1,c1,rfl,r1,r2,-⟩:=hrf.1;have Hr:=Ad (Au hrf (Au hrv hrt));clear hrf hrv hrt;have Hv:=Ad (Au hval (Au hlt ht));clear hval hlt ht;have hRN:R<=N:=by have:=Hv.out.1;omega
     by_cases hk0:0 < k
     ·obtain⟨i,rfl⟩:∃ j,k=j+1:=⟨k - 1,Aa⟩
      obtain rfl:q=(i:Int):=by omega
      clear hq
      go_wp2_with fail
      refine AR (SV _ M i _ (HU.out.ext (hx1.trans hx)) Aa (by rw[<-HL.out.2];omega)) ?_;rintro r w3 hs hx3;have hrn:Bl w3 (.slice A1 rs.length c1) R:=⟨rs,Hr.out.1.1.ext hx3,Hr.out.2.1,Hr.out.2.2⟩
      go_wp2_with fail
      refine AR (Ou _ _ R (M*2^i) _ hrn hs) ?_;rintro r w4 rfl hx4;by_cases hcmp:R < M*2^i
      ·have hb:decide (R < M*2^i)=true:=by simpa using hcmp
       have Hc:=Ad hcmp;clear hcmp;go_wp2
       go_roundw
       case rel=>exact⟨i,R,rs,l,Aa,⟨_,Aa,rfl⟩,(Hr.out.1.ext hx3).ext hx4,Hr.out.2.1,Hr.out.2.2,(hblk.ext hx3).ext hx4,hdl,hll,Hv.out.1,Hc.out,by
        obtain⟨t,ht⟩:=Hv.out.2.2;exact⟨2*t,by rw[ht,Nat.pow_succ,Nat.mul_assoc]⟩,(hx.trans hx3).trans hx4⟩
       case measure=>simp[intOf]<;>omega
      ·have hb:decide (R < M*2^i)=false:=by simpa using hcmp
       have Hc:=Ad hcmp;clear hcmp
       go_wp2_with fail
       refine AR (NI _ _ R (M*2^i) _ (hrn.ext hx4) (hs.ext hx4) (by have:=Hc.out;omega) (Nat.le_trans (Bf hRN) (by rw[<-HL.out.1];exact sN))) ?_;rintro r5 w5 hd5 hx5
       go_wp2_with fail
       refine AR (WP _ _ _ _ hd5 (Nat.le_trans (Bf hRN) (by rw[<-HL.out.1];omega))) ?_;rintro r6 w6 ⟨rs',ho6,hv6,ht6⟩ hx6;have hf6:Kn w2.heap.size w6 r6 rs':=Kn.of_own ho6 (by have:=((hx.trans hx3).trans (hx4.trans hx5)).size;have:=hblk.lt;have:=((hx3.trans hx4).trans hx5).size;omega);have hx7:Ext wr w6:=(((hx3.trans hx4).trans hx5).trans hx6)
       replace hblk:=hblk.ext hx7;replace hx:=hx.trans hx7;have H6:=Ad (Au hf6 (Au hv6 ht6));clear hf6 hv6 ht6 ho6 hd5 hs hrn hx3 hx4 hx5 hx6 hx7;obtain⟨z,hz⟩:∃ z,z=i / 32:=⟨_,rfl⟩
       obtain⟨p,hp⟩:∃ p,p=i % 32:=⟨_,rfl⟩
       have hp32:p < 32:=by omega
       have hzl:z < l.length:=by omega
       have e1:(i:Int) / 32=z:=by omega
       have e2:(i:Int) % 32=p:=by omega
       have ei:i=32*z+p:=by omega
       obtain⟨S,hS⟩:∃ S,2^p=S:=⟨_,rfl⟩
       have hSi:(2:Int)^p=(S:Nat):=by rw[<-hS];simp
       have hS1:S<=2147483648:=by rw[<-hS];exact Nat.pow_le_pow_right Ab (show p<=31 by omega)
       have hlow:dg l z+S < 4294967296/\nv (l.set z (dg l z+S))=nv l+2^i:=by
        obtain⟨t,ht⟩:=Hv.out.2.2;have:=Va hdl hzl hp32 (t:=t) (by rw[ht,ei]);rw[ei];rw[hS]at this;exact this
       have hmc:=hblk.celld (i:=z) hzl;have hfz:=hblk.frozen z;generalize hdd:dg l z=d at *;have hd1:=hlow.1;have Hlow:=Ad hlow;clear hlow hdd;have Hi:=Ad (Au hz (Au hp (Au ei hS)));clear hz hp ei hS;go_wp2
       go_roundw
       case rel =>
        refine⟨i,R - M*2^i,rs',l.set z (d+S),Aa,⟨_,Aa,rfl⟩,H6.out.1.set_ _ _,H6.out.2.1,H6.out.2.2,hblk.setI _ _ Aa,hdl.set Aa _,by simpa using hll,?_,?_,?_,hx.setCell _ _ (Nat.le_refl _)⟩
        ·rw[Hlow.out.2,Nat.add_mul,Nat.mul_comm (2^i) M]
         have:=Hv.out.1;have:=Hc.out;omega
        ·have h1:=Hv.out.2.1
         rw[Nat.pow_succ,<-Nat.mul_assoc]at h1;have:=Hc.out;omega
        ·obtain⟨t,ht⟩:=Hv.out.2.2
         exact⟨2*t+1,by rw[Hlow.out.2,ht,Nat.pow_succ,Nat.mul_add,Nat.mul_one,Nat.mul_assoc]⟩
       case measure=>simp[intOf]<;>omega
     ·obtain rfl:k=0:=by omega
      have q1:q < 0:=by omega
      have hlt:=Hv.out.2.1;rw[Nat.pow_zero,Nat.mul_one]at hlt;have hdv:N / M=nv l/\N % M=R:=by
       have h1:=Hv.out.1;rw[<-h1,Nat.add_comm,Nat.mul_comm];exact⟨by rw[Nat.add_mul_div_left _ _ hM1,Nat.div_eq_of_lt hlt,Nat.zero_add],by rw[Nat.add_mul_mod_self_left,Nat.mod_eq_of_lt hlt]⟩
      have Hd:=Ad hdv;clear hdv hlt;go_wp2
      go_ret2
      have hq:=hblk.digv hdl (c:=n / 32+1) Aa Aa;rw[hll]at hq;exact Ah.mk ⟨_,_,rfl,⟨l,hq,Hd.out.1.symm,by rw[<-HL.out.1];omega⟩,⟨rs,Hr.out.1.1,by rw[Hd.out.2];exact Hr.out.2.1,Hr.out.2.2⟩⟩ (hx1.trans hx)
def kL(x y:Int)(r:Value)(w:World):Prop:=∃ a b,r = .tuple #[a,b]/\AC w a (x / y)/\AC w b (x % y)
theorem UQ{x y:Int}(hy:y≠0)(h:¬ (x < 0/\x.natAbs % y.natAbs≠0)):x / y=(if (decide (x < 0) != decide (y < 0))=true then -((x.natAbs / y.natAbs:Nat):Int)else(x.natAbs / y.natAbs:Nat))/\x % y=(x.natAbs % y.natAbs:Nat):=by
 have hM:0 < y.natAbs:=by omega
 have ey:y=if decide (y < 0)=true then -(y.natAbs:Int)else y.natAbs:=by by_cases h:y < 0<;>simp[h]<;>omega
 by_cases hx:x < 0
 ·have e0:x.natAbs % y.natAbs=0:=Decidable.byContradiction fun e=>h ⟨hx,e⟩
  have ex:x = -(x.natAbs:Int):=by omega
  have:=LA (decide (y < 0)) hM e0;rw[<-ey,<-ex]at this;simpa[hx] using this
 ·have ex:x=(x.natAbs:Int):=by omega
  have:=NF (N:=x.natAbs) (decide (y < 0)) hM;rw[<-ey,<-ex]at this;simpa[hx] using this
theorem fT{x y:Int}(hy:y≠0)(hx:x < 0)(h:0 < x.natAbs % y.natAbs):x / y=(if (!decide (y < 0))=true then -((x.natAbs / y.natAbs+1:Nat):Int)else(x.natAbs / y.natAbs+1:Nat))/\x % y=(y.natAbs:Int) - (x.natAbs % y.natAbs:Nat):=by
 have hM:0 < y.natAbs:=by omega
 have ey:y=if decide (y < 0)=true then -(y.natAbs:Int)else y.natAbs:=by by_cases h:y < 0<;>simp[h]<;>omega
 have ex:x = -(x.natAbs:Int):=by omega
 have:=MS (decide (y < 0)) hM h;rw[<-ey,<-ex]at this;have h2:=Nat.mod_lt x.natAbs hM;exact⟨this.1,by rw[this.2];omega⟩
theorem Rn(v u:Value)(x y:Int)(w:World)(hv:Bh w v x)(hu:Bh w u y)(hy:y≠0)(sx:sz x.natAbs<=549755813888)(sy:sz y.natAbs<=549755813888):Bj 150 #[v,u] w ((kL x y)):=by
 have HV:=Ad hv;have HU:=Ad hu;have HY:=Ad hy;obtain⟨neg,A,n,c,N,rfl,-,-,-,-,-⟩:=hv.form;obtain⟨neg',A',n',c',M,rfl,-,-,-,-,-⟩:=hu.form;clear hv hu hy
 go_enter Tryz.func150,Tryz.ntmps150
 go_wp2_with fail
 refine kJ 6 [11,12,13,14,6,7] [2,3] [_,_] [(kv ?_),(fun γ=>γ 1),(kv ?_),(fun γ=>γ 3),(fun γ=>γ 4),(fun γ=>γ 5)] (fun γ w'=>[True,AC w' (γ 1) x,True,AC w' (γ 3) y,Bc w' (γ 4) (w.heap.size+4) #[.bool false,.slice none 0 0] 26,Bc w' (γ 5) (w.heap.size+4) #[.bool false,.slice none 0 0] 26]) ?s1 ?_
 case s1 =>
  iterate 6 refine⟨?_,?_⟩
  trivial
  iterate 1 focus
   refine Ba fun _ w' he R hR=>?_;have hc:=he.cells;go_simp;exact Bi hR
  ·refine Ba fun _ w' he R hR=>?_
   go_simp;exact Bg (FC _ x w' (HV.out.ext he.a4)) hR
  iterate 1 focus
   refine Ba fun _ w' he R hR=>?_;have hc:=he.cells;go_simp;exact Bi hR
  ·refine Ba fun _ w' he R hR=>?_
   go_simp;exact Bg (FC _ y w' (HU.out.ext he.a4)) hR
  ·refine Ba fun _ w' he R hR=>?_
   go_simp;exact hR _ _ ((Ext.refl _).alloc _) rfl (Bc.mk (Nat.le_trans Ac he.size) (by simp[Ag]))
  ·refine Ba fun _ w' he R hR=>?_
   go_simp;exact hR _ _ ((Ext.refl _).alloc _) rfl (Bc.mk (Nat.le_trans Ac he.size) (by simp[Ag]))
 intro γ w1 hx1 hF hA;have na4x5:γ 4≠γ 5:=hA 4 5 Ab Ab Ab ⟨_,_,rfl,rfl⟩ ⟨_,_,rfl,rfl⟩;clear hA;have p1:AC w1 (γ 1) x:=Av.get hF 1 Ab;have p3:AC w1 (γ 3) y:=Av.get hF 3 Ab;have p4:Bc w1 (γ 4) (w.heap.size+4) #[.bool false,.slice none 0 0] 26:=Av.get hF 4 Ab;have p5:Bc w1 (γ 5) (w.heap.size+4) #[.bool false,.slice none 0 0] 26:=Av.get hF 5 Ab;clear hF;simp only[Bd,Nat.reduceAdd];generalize γ 1=g1 at *
 generalize γ 3=g3 at *;generalize γ 4=g4 at *;generalize γ 5=g5 at *;clear γ;obtain⟨ga,rfl,hga,ea⟩:=p4;obtain⟨gb,rfl,hgb,eb⟩:=p5;have hab:ga≠gb:=fun e=>na4x5 (by rw[e]);clear na4x5;obtain⟨A1,c1,rfl,q1,q2,-⟩:=p1.form;obtain⟨A2,c2,rfl,q3,q4,-⟩:=p3.form;obtain⟨bx,hbx⟩:∃ b,b=decide (x < 0):=⟨_,rfl⟩
 obtain⟨by_,hby⟩:∃ b,b=decide (y < 0):=⟨_,rfl⟩
 rw[<-hbx]at p1 ⊢;rw[<-hby]at p3 ⊢;have Hb:=Ad (Au hbx hby);clear hbx hby;have cea:=ea.cells2;have fea:=ea.frozen;have ceb:=eb.cells2;have feb:=eb.frozen
 go_upto_region 2 with(fail)
 obtain⟨W1,eW,ea',U⟩:=ea.put2 (.bool bx) (.slice A1 (sz x.natAbs) c1);rw[<-eW];clear eW ea;replace p1:=p1.kd U.kd;replace p3:=p3.kd U.kd;replace eb:=eb.upd U Ak;replace hx1:=U.from_ hx1 Ak;have ea:=ea';clear U ea';obtain⟨W2,eW,eb',U⟩:=eb.put2 (.bool by_) (.slice A2 (sz y.natAbs) c2);rw[<-eW];clear eW eb;replace p1:=p1.kd U.kd;replace p3:=p3.kd U.kd;replace ea:=ea.upd U Ak;replace hx1:=U.from_ hx1 Ak
 have eb:=eb';clear U eb';clear cea ceb fea feb;have cea:=ea.cells2;have fea:=ea.frozen;have ceb:=eb.cells2;have feb:=eb.frozen;have hc1:=hx1.cells;have hf1:=hx1.frozens
 go_wp2_with fail
 refine AR (VS _ _ x.natAbs y.natAbs _ p1.nat p3.nat (by have:=HY.out;omega) Aa Aa) ?_;rintro r w3 ⟨q,r3,rfl,hq,hr⟩ hx2;obtain⟨A3,c3,rfl,d1,d2⟩:=hr.form;clear hc1 hf1 cea ceb fea feb;replace p1:=p1.ext hx2;replace p3:=p3.ext hx2;replace ea:=ea.ext hx2;replace eb:=eb.ext hx2;replace hx1:=hx1.trans hx2;clear hx2;have cea:=ea.cells2;have fea:=ea.frozen;have ceb:=eb.cells2;have feb:=eb.frozen;have hc1:=hx1.cells
 have hf1:=hx1.frozens;have Hq:=Ad hq;clear hq
 go_wp2_with fail
 refine AR (CY ((x.natAbs % y.natAbs:Nat):Int) false _ (x.natAbs % y.natAbs) _ _ rfl (hr.num (Nat.le_refl _)) (Nat.le_trans (Bf (Nat.mod_le _ _)) Aa)) ?_;rintro r w4 hz hx2;replace Hq:=Ad (Hq.out.ext hx2);clear hc1 hf1 cea ceb fea feb hr;replace p1:=p1.ext hx2;replace p3:=p3.ext hx2;replace ea:=ea.ext hx2;replace eb:=eb.ext hx2;replace hx1:=hx1.trans hx2;clear hx2;obtain⟨A4,c4,rfl,d3,d4,-⟩:=hz.form
 have hbz:decide (((x.natAbs % y.natAbs:Nat):Int) < 0)=false:=decide_eq_false Aa;rw[hbz]at hz;simp only[hbz,Int.natAbs_natCast]at hz d3 ⊢
 go_upto_region 4 with(fail)
 have ec:=Be.new w4 26 #[.bool false,.slice A4 (sz (x.natAbs % y.natAbs)) c4] (by simp[Ag]);obtain⟨w5,hw5⟩:∃ w5,w5=w4.alloc (.cells #[.bool false,.slice A4 (sz (x.natAbs % y.natAbs)) c4] 26):=⟨_,rfl⟩
 obtain⟨gc,hgc⟩:∃ g,g=w4.heap.size:=⟨_,rfl⟩
 have hx2:Ext w4 w5:=by rw[hw5];exact(Ext.refl w4).alloc _
 rw[<-hw5,<-hgc]at ec ⊢;have hgc4:w.heap.size+4<=gc:=by have:=hx1.size;simp at this;omega
 clear hw5 hgc;replace Hq:=Ad (Hq.out.ext hx2);replace p1:=p1.ext hx2;replace p3:=p3.ext hx2;replace hz:=hz.ext hx2;replace ea:=ea.ext hx2;replace eb:=eb.ext hx2;replace hx1:=hx1.trans hx2;clear hx2;have cea:=ea.cells2;have fea:=ea.frozen;have ceb:=eb.cells2;have feb:=eb.frozen;obtain⟨cec0,cec1⟩:=ec.cells2;have fec:=ec.frozen;have hc1:=hx1.cells;have hf1:=hx1.frozens;by_cases hup:x < 0/\x.natAbs % y.natAbs≠0
 ·have H:=Ad (fT HY.out hup.1 Aa)
  obtain rfl:bx=true:=by rw[Hb.out.1];simpa using hup.1
  have hb:decide (0 < sz (x.natAbs % y.natAbs))=true:=by have:=DU hup.2;simpa using this
  clear hup
  go_wp2_with fail
  refine CV 10 [33,34,35,36,37,38,39,40,41,42] [7,8,10] [_,_,_] [(kv ?_),(kv ?_),(kv ?_),(kv ?_),(fun γ=>γ 4),(fun γ=>γ 5),(fun γ=>γ 6),(kv ?_),(fun γ=>γ 8),(kv ?_)] (fun γ w'=>[True,True,True,True,Ci w' (γ 4) 1 1,Ci w' (γ 5) (x.natAbs / y.natAbs+1) (max (sz x.natAbs+1) 1+1),AC w' (γ 6) (x / y),True,AC w' (γ 8) (y.natAbs:Nat),True]) ?s2 ?_
  case s2 =>
   iterate 10 refine⟨?_,?_⟩
   trivial
   iterate 4 focus
    refine Ba fun _ w' he R hR=>?_;have hc:=he.cells;have cq0:=(ea.ext he).cells2;have cq1:=(eb.ext he).cells2;have cq2:=he.cell cec0;have cq3:=he.cell cec1;go_simp;(try go_ints);(try(rw[if_neg Aa]));(try(rw[if_pos Aa]));(try go_simp);(try go_ints)
    exact Bi hR
   ·refine Ba fun _ w' he R hR=>?_
    go_simp;exact hR _ _ ((Ext.refl _).alloc _) rfl (Ci.unit _ _)
   ·refine FO fun γ w' he hf R hR=>?_;have f4:Ci w' (γ 4) 1 1:=hf 4 Ab;clear hf
    go_simp;exact Bg (TI _ _ _ _ _ _ w' (Hq.out.ext he) f4 Aa Aa) hR
   ·refine FO fun γ w' he hf R hR=>?_;have f5:Ci w' (γ 5) (x.natAbs / y.natAbs+1) (max (sz x.natAbs+1) 1+1):=hf 5 Ab;clear hf
    go_simp;exact Bg (CY (x / y) (!by_) _ _ _ w' (by rw[H.out.1,Hb.out.2]) f5 Aa) hR
   iterate 1 focus
    refine Ba fun _ w' he R hR=>?_;have hc:=he.cells;have cq0:=(ea.ext he).cells2;have cq1:=(eb.ext he).cells2;have cq2:=he.cell cec0;have cq3:=he.cell cec1;go_simp;exact Bi hR
   ·refine Ba fun _ w' he R hR=>?_
    go_simp;exact Bg (Yi _ y w' ((p3.ext he).has Aa)) hR
   iterate 1 focus
    refine Ba fun _ w' he R hR=>?_;have hc:=he.cells;have cq0:=(ea.ext he).cells2;have cq1:=(eb.ext he).cells2;have cq2:=he.cell cec0;have cq3:=he.cell cec1;go_simp;exact Bi hR
  intro γ w6 hx6 hF;have p4:Ci w6 (γ 4) 1 1:=Av.get hF 4 Ab;have p5:Ci w6 (γ 5) (x.natAbs / y.natAbs+1) (max (sz x.natAbs+1) 1+1):=Av.get hF 5 Ab;have p6:AC w6 (γ 6) (x / y):=Av.get hF 6 Ab;have p8:AC w6 (γ 8) (y.natAbs:Nat):=Av.get hF 8 Ab;clear hF;simp only[Bd,Nat.reduceAdd];generalize γ 4=g4 at *;generalize γ 5=g5 at *;generalize γ 6=g6 at *;generalize γ 8=g8 at *;clear γ
  go_wp2_with fail
  refine AR (jI _ _ (y.natAbs:Nat) (x.natAbs % y.natAbs:Nat) _ (p8.has (by rw[Int.natAbs_natCast];omega)) ((hz.ext hx6).has (by rw[Int.natAbs_natCast];exact Nat.le_trans (Bf (Nat.mod_le _ _)) Aa)) (by rw[Int.natAbs_natCast];omega) (by rw[Int.natAbs_natCast];exact Nat.le_trans (Bf (Nat.mod_le _ _)) Aa)) ?_;rintro r w7 hr7 hx7;rw[<-H.out.2]at hr7;replace p6:=p6.ext hx7;replace hx1:=(hx1.trans hx6).trans hx7
  clear hc1 hf1 cea ceb cec0 cec1 fea feb fec hx6 hx7 p4 p5 p8;obtain⟨bq,Aq,nq,cq,rfl⟩:=p6.cells;obtain⟨br,Ar,nr,cr,rfl⟩:=hr7.cells;have hc1:=hx1.cells;have hf1:=hx1.frozens;have Hfin:=Ad (I6 p6 hr7 hx1.a4 (AJ.at_ hx1.a1 (g:=w.heap.size+1+1) Ac (by simp[Ag])) (AJ.at_ hx1 (g:=w.heap.size+1+1+1) Ac (by simp[Ag])) Aa Aa);clear p6 hr7;go_wp2;refine bodyPost_ret (v := .tuple #[.agg #[.bool bq,.slice Aq nq cq],.agg #[.bool br,.slice Ar nr cr]]) (by simp[results,Tryz.results150,go_sem,hc1]) rfl ?_
  exact Ah.mk ⟨_,_,rfl,Hfin.out.1,Hfin.out.2.1⟩ Hfin.out.2.2
 ·have H:=Ad (UQ HY.out hup)
  have hcase:bx=false\/(bx=true/\x.natAbs % y.natAbs=0):=by
   rw[Hb.out.1];by_cases h:x < 0
   ·right;exact⟨by simpa using h,Decidable.byContradiction fun e=>hup ⟨h,e⟩⟩
   ·left;simpa using h
  clear hup;have hqs:sz (x.natAbs % y.natAbs)<=549755813888:=Nat.le_trans (Bf (Nat.mod_le _ _)) sx;rcases hcase with h0 | ⟨h0,h1⟩
  ·have hb:bx=false:=h0
   subst h0
   go_wp2_with fail
   refine Bu 8 [7] (fun x=>9) [44,45,46,47,48,49,50,51] [[],[0],[],[2],[0,1,2,3],[],[0,1,2,3,4,5],[],[0,1,2,3,4,5,6],[0,1,2,3,4,5,6,7,8]] [6,7,8,10] [_,_,_,_] [(kv ?_),(kv ?_),(kv ?_),(kv ?_),(kv ?_),(kv ?_),(fun γ=>γ 6),(kv ?_)] (fun γ w'=>[True,True,True,True,True,True,AC w' (γ 6) (x / y),True]) Kg BU BU BU BU BU Nb BU Kw V4 ?s3 ?_ ?l3
   case s3 =>
    iterate 8 refine⟨?_,?_⟩
    trivial
    iterate 6 focus
     refine Ba fun _ w' he R hR=>?_;have hc:=he.cells;have cq0:=(ea.ext he).cells2;have cq1:=(eb.ext he).cells2;have cq2:=he.cell cec0;have cq3:=he.cell cec1;go_simp;(try go_ints);(try(rw[if_neg Aa]));(try(rw[if_pos Aa]));(try go_simp);(try go_ints)
     exact Bi hR
    ·refine Ba fun _ w' he R hR=>?_
     go_simp;exact Bg (CY (x / y) _ _ _ _ w' (by rw[H.out.1,<-Hb.out.1,<-Hb.out.2];cases by_<;>rfl) (Hq.out.ext he) Aa) hR
    iterate 1 focus
     refine Ba fun _ w' he R hR=>?_;have hc:=he.cells;have cq0:=(ea.ext he).cells2;have cq1:=(eb.ext he).cells2;have cq2:=he.cell cec0;have cq3:=he.cell cec1;go_simp;exact Bi hR
   case l3 =>
    intro Pn hPs hPn;obtain rfl:=Ii hPs hPn;clear hPs hPn
    ·intro γ w6 hx6 hF hA
     clear hA;have p6:AC w6 (γ 6) (x / y):=(Av.get hF 6 Ab).resolve_left Ab;clear hF;show AP _ _ _ _ 3 [7] 8 _ _;simp only[Bd,Nat.reduceAdd,Co,Vn];generalize γ 6=g6 at *;clear γ;rw[<-H.out.2]at hz;have hr7:=hz.ext hx6;replace hx1:=hx1.trans hx6;have ck0:=hx6.cell cec0;have ck1:=hx6.cell cec1;clear hc1 hf1 cea ceb cec0 cec1 fea feb fec hz;obtain⟨bq,Aq,nq,cq,rfl⟩:=p6.cells;have hc1:=hx1.cells;have hf1:=hx1.frozens
     have Hfin:=Ad (I6 p6 hr7 hx1.a4 (AJ.at_ hx1.a1 (g:=w.heap.size+1+1) Ac (by simp[Ag])) (AJ.at_ hx1 (g:=w.heap.size+1+1+1) Ac (by simp[Ag])) Aa Aa);clear p6 hr7
     repeat' first
      | (refine AP.nil ?_;simp only[GM];go_wp2;done)
      | (refine AP.nil ?_;(try simp only[GM]);go_wp2)
      | (refine AP.mk _ ⟨?_,trivial⟩ (fun h=>?_)<;>first | exact absurd h Ab | ((try clear h);simp only[CX,GM];go_wp2;first | show AP _ _ _ _ _ [7] _ _ _ | show AP _ _ _ _ _ [] _ _ _))
     all_goals
      refine bodyPost_ret (v := .tuple #[.agg #[.bool bq,.slice Aq nq cq],.agg #[.bool false,.slice A4 (sz (x.natAbs % y.natAbs)) c4]]) (by simp[results,Tryz.results150,go_sem,hc1]) rfl ?_;exact Ah.mk ⟨_,_,rfl,Hfin.out.1,Hfin.out.2.1⟩ Hfin.out.2.2
   intro γ w6 hx6 hF hA;clear hA;have p6:AC w6 (γ 6) (x / y):=Av.get hF 6 Ab;clear hF;simp only[Bd,Nat.reduceAdd];generalize γ 6=g6 at *;clear γ;rw[<-H.out.2]at hz;have hr7:=hz.ext hx6;replace hx1:=hx1.trans hx6;have ck0:=hx6.cell cec0;have ck1:=hx6.cell cec1;clear hc1 hf1 cea ceb cec0 cec1 fea feb fec hz;obtain⟨bq,Aq,nq,cq,rfl⟩:=p6.cells;have hc1:=hx1.cells;have hf1:=hx1.frozens;have Hfin:=Ad (I6 p6 hr7 hx1.a4 (AJ.at_ hx1.a1 (g:=w.heap.size+1+1) Ac (by simp[Ag])) (AJ.at_ hx1 (g:=w.heap.size+1+1+1) Ac (by simp[Ag])) Aa Aa)
   clear p6 hr7;go_wp2;refine bodyPost_ret (v := .tuple #[.agg #[.bool bq,.slice Aq nq cq],.agg #[.bool false,.slice A4 (sz (x.natAbs % y.natAbs)) c4]]) (by simp[results,Tryz.results150,go_sem,hc1]) rfl ?_;exact Ah.mk ⟨_,_,rfl,Hfin.out.1,Hfin.out.2.1⟩ Hfin.out.2.2
  ·subst h0
   have hb:decide (0 < sz (x.natAbs % y.natAbs))=false:=by rw[h1];rfl
   clear h1
   go_wp2_with fail
   refine Bu 8 [7] (fun x=>9) [44,45,46,47,48,49,50,51] [[],[0],[],[2],[0,1,2,3],[],[0,1,2,3,4,5],[],[0,1,2,3,4,5,6],[0,1,2,3,4,5,6,7,8]] [6,7,8,10] [_,_,_,_] [(kv ?_),(kv ?_),(kv ?_),(kv ?_),(kv ?_),(kv ?_),(fun γ=>γ 6),(kv ?_)] (fun γ w'=>[True,True,True,True,True,True,AC w' (γ 6) (x / y),True]) Kg BU BU BU BU BU Nb BU Kw V4 ?s4 ?_ ?l4
   case s4 =>
    iterate 8 refine⟨?_,?_⟩
    trivial
    iterate 6 focus
     refine Ba fun _ w' he R hR=>?_;have hc:=he.cells;have cq0:=(ea.ext he).cells2;have cq1:=(eb.ext he).cells2;have cq2:=he.cell cec0;have cq3:=he.cell cec1;go_simp;(try go_ints);(try(rw[if_neg Aa]));(try(rw[if_pos Aa]));(try go_simp);(try go_ints)
     exact Bi hR
    ·refine Ba fun _ w' he R hR=>?_
     go_simp;exact Bg (CY (x / y) _ _ _ _ w' (by rw[H.out.1,<-Hb.out.1,<-Hb.out.2];cases by_<;>rfl) (Hq.out.ext he) Aa) hR
    iterate 1 focus
     refine Ba fun _ w' he R hR=>?_;have hc:=he.cells;have cq0:=(ea.ext he).cells2;have cq1:=(eb.ext he).cells2;have cq2:=he.cell cec0;have cq3:=he.cell cec1;go_simp;exact Bi hR
   case l4 =>
    intro Pn hPs hPn;obtain rfl:=Ii hPs hPn;clear hPs hPn
    ·intro γ w6 hx6 hF hA
     clear hA;have p6:AC w6 (γ 6) (x / y):=(Av.get hF 6 Ab).resolve_left Ab;clear hF;show AP _ _ _ _ 3 [7] 8 _ _;simp only[Bd,Nat.reduceAdd,Co,Vn];generalize γ 6=g6 at *;clear γ;rw[<-H.out.2]at hz;have hr7:=hz.ext hx6;replace hx1:=hx1.trans hx6;have ck0:=hx6.cell cec0;have ck1:=hx6.cell cec1;clear hc1 hf1 cea ceb cec0 cec1 fea feb fec hz;obtain⟨bq,Aq,nq,cq,rfl⟩:=p6.cells;have hc1:=hx1.cells;have hf1:=hx1.frozens
     have Hfin:=Ad (I6 p6 hr7 hx1.a4 (AJ.at_ hx1.a1 (g:=w.heap.size+1+1) Ac (by simp[Ag])) (AJ.at_ hx1 (g:=w.heap.size+1+1+1) Ac (by simp[Ag])) Aa Aa);clear p6 hr7
     repeat' first
      | (refine AP.nil ?_;simp only[GM];go_wp2;done)
      | (refine AP.nil ?_;(try simp only[GM]);go_wp2)
      | (refine AP.mk _ ⟨?_,trivial⟩ (fun h=>?_)<;>first | exact absurd h Ab | ((try clear h);simp only[CX,GM];go_wp2;first | show AP _ _ _ _ _ [7] _ _ _ | show AP _ _ _ _ _ [] _ _ _))
     all_goals
      refine bodyPost_ret (v := .tuple #[.agg #[.bool bq,.slice Aq nq cq],.agg #[.bool false,.slice A4 (sz (x.natAbs % y.natAbs)) c4]]) (by simp[results,Tryz.results150,go_sem,hc1]) rfl ?_;exact Ah.mk ⟨_,_,rfl,Hfin.out.1,Hfin.out.2.1⟩ Hfin.out.2.2
   intro γ w6 hx6 hF hA;clear hA;have p6:AC w6 (γ 6) (x / y):=Av.get hF 6 Ab;clear hF;simp only[Bd,Nat.reduceAdd];generalize γ 6=g6 at *;clear γ;rw[<-H.out.2]at hz;have hr7:=hz.ext hx6;replace hx1:=hx1.trans hx6;have ck0:=hx6.cell cec0;have ck1:=hx6.cell cec1;clear hc1 hf1 cea ceb cec0 cec1 fea feb fec hz;obtain⟨bq,Aq,nq,cq,rfl⟩:=p6.cells;have hc1:=hx1.cells;have hf1:=hx1.frozens;have Hfin:=Ad (I6 p6 hr7 hx1.a4 (AJ.at_ hx1.a1 (g:=w.heap.size+1+1) Ac (by simp[Ag])) (AJ.at_ hx1 (g:=w.heap.size+1+1+1) Ac (by simp[Ag])) Aa Aa)
   clear p6 hr7;go_wp2;refine bodyPost_ret (v := .tuple #[.agg #[.bool bq,.slice Aq nq cq],.agg #[.bool false,.slice A4 (sz (x.natAbs % y.natAbs)) c4]]) (by simp[results,Tryz.results150,go_sem,hc1]) rfl ?_;exact Ah.mk ⟨_,_,rfl,Hfin.out.1,Hfin.out.2.1⟩ Hfin.out.2.2
end Go.Proofs.YtmhgnigpmompmaaGreat
namespace Go.Hp
open Go.RowKit
theorem AC.natform{w:World}{v:Value}{n:Nat}(h:AC w v (n:Int)):∃ A c,v = .agg #[.bool false,.slice A (sz n) c]/\sz n<=c/\c<=9223372036854775807:=by
 obtain⟨A,c,e,h1,h2,_⟩:=h.form;have h0:decide ((n:Int) < 0)=false:=decide_eq_false Aa;rw[h0,Int.natAbs_natCast]at e;rw[Int.natAbs_natCast]at h1;exact⟨A,c,e,h1,h2⟩
theorem AC.natn{w:World}{A:Option Addr}{m c n:Nat}{b:Bool}(h:AC w (.agg #[.bool b,.slice A m c]) (n:Int)):Bl w (.slice A m c) n:=by
 obtain⟨A',c',e,_,_,k⟩:=h.form;simp only[Value.agg.injEq,Array.mk.injEq,List.cons.injEq,Value.slice.injEq]at e;obtain⟨_,⟨rfl,rfl,rfl⟩,_⟩:=e;rw[Int.natAbs_natCast]at k ⊢;exact k
def IsU(_:World)(v:Value)(n:Nat):Prop:=v = .int .u64 n
theorem IsU.ext{w w':World}{v:Value}{n:Nat}(h:IsU w v n)(_:Ext w w'):IsU w' v n:=h
noncomputable def Sn(g:Nat)(w:World):Nat:=TN ((w.cell? ⟨g,1,none⟩).getD undef) w
theorem Ox{w:World}{g:Nat}{v:Value}{n:Nat}(h:w.cell? ⟨g,1,none⟩=some v)(k:Bl w v n):Sn g w=n:=by
 unfold Sn;rw[h];exact Md k
end Go.Hp
namespace Go.Proofs.YtmhgnigpmompmaaGreat
open Go.RowKit Go.Hp
theorem LQ(v u:Value)(x y:Int)(w:World)(hv:Bh w v x)(hu:Bh w u y)(hy:y≠0)(sx:sz x.natAbs<=549755813888)(sy:sz y.natAbs<=549755813888):Bj 108 #[v,u] w (fun r w'=>AC w' r (x / y)):=by
 have HV:=Ad hv;have HU:=Ad hu;obtain⟨neg,A,n,c,N,rfl,-,-,-,-,-⟩:=hv.form;obtain⟨neg',A',n',c',M,rfl,-,-,-,-,-⟩:=hu.form;clear hv hu
 go_enter Tryz.func108,Tryz.ntmps108
 go_wp2_with fail
 refine AR (Rn _ _ x y _ (HV.out.ext (((Ext.refl w).alloc _).alloc _ |>.alloc _)) (HU.out.ext (((Ext.refl w).alloc _).alloc _ |>.alloc _)) hy sx sy) ?_;rintro r w1 ⟨a,b,rfl,ha,hb⟩ hx1;obtain⟨b5,A5,n5,c5,rfl⟩:=ha.cells;obtain⟨b6,A6,n6,c6,rfl⟩:=hb.cells;clear hb
 go_upto_region 2 with(fail)
 obtain⟨w5,hw5⟩:∃ w5,w5=(w1.alloc (.cells #[.bool b5,.slice A5 n5 c5] 26)).alloc (.cells #[.bool b6,.slice A6 n6 c6] 26):=⟨_,rfl⟩
 have hx2:Ext w1 w5:=by rw[hw5];exact((Ext.refl w1).alloc _).alloc _
 have ed:Be w5 w1.heap.size 26 #[.bool b5,.slice A5 n5 c5]:=by rw[hw5];exact(Be.new w1 _ _ (by simp[Ag])).alloc _
 rw[<-hw5];have hr:=ha.ext hx2;replace hx1:=hx1.trans hx2;clear hw5 hx2 ha;have ced:=ed.cells2;have fed:=ed.frozen;have hc1:=hx1.cells;have hf1:=hx1.frozens;have Hfin:=Ad (Cr hr hx1.a3 (AJ.at_ hx1 (g:=w.heap.size+2) Ac (by simp[Ag])) Aa);clear hr;go_wp2;refine bodyPost_ret (v := .agg #[.bool b5,.slice A5 n5 c5]) (by simp[results,Tryz.results108,go_sem,hc1]) rfl ?_;exact Hfin.out
theorem jQ(v u:Value)(x y:Int)(w:World)(hv:Bh w v x)(hu:Bh w u y)(sx:sz x.natAbs<=549755813888)(sy:sz y.natAbs<=549755813888):Bj 106 #[v,u] w (fun r w'=>AC w' r (Int.gcd x y:Nat)):=by
 have HV:=Ad hv;have HU:=Ad hu;obtain⟨neg,A,n,c,N,rfl,-,-,-,-,-⟩:=hv.form;obtain⟨neg',A',n',c',M,rfl,-,-,-,-,-⟩:=hu.form;clear hv hu;obtain⟨G,hG⟩:∃ G,G=Int.gcd x y:=⟨_,rfl⟩
 rw[<-hG];have HG:=Ad hG;clear hG
 go_enter Tryz.func106,Tryz.ntmps106
 go_wp2_with fail
 refine kJ 6 [11,12,13,14,5,6] [2,3] [_,_] [(kv ?_),(fun γ=>γ 1),(kv ?_),(fun γ=>γ 3),(fun γ=>γ 4),(fun γ=>γ 5)] (fun γ w'=>[True,AC w' (γ 1) (x.natAbs:Nat),True,AC w' (γ 3) (y.natAbs:Nat),Bc w' (γ 4) (w.heap.size+3) #[.bool false,.slice none 0 0] 26,Bc w' (γ 5) (w.heap.size+3) #[.bool false,.slice none 0 0] 26]) ?s1 ?_
 case s1 =>
  iterate 6 refine⟨?_,?_⟩
  trivial
  iterate 1 focus
   refine Ba fun _ w' he R hR=>?_;have hc:=he.cells;go_simp;exact Bi hR
  ·refine Ba fun _ w' he R hR=>?_
   go_simp;exact Bg (Yi _ x w' (HV.out.ext he.a3)) hR
  iterate 1 focus
   refine Ba fun _ w' he R hR=>?_;have hc:=he.cells;go_simp;exact Bi hR
  ·refine Ba fun _ w' he R hR=>?_
   go_simp;exact Bg (Yi _ y w' (HU.out.ext he.a3)) hR
  ·refine Ba fun _ w' he R hR=>?_
   go_simp;exact hR _ _ ((Ext.refl _).alloc _) rfl (Bc.mk (Nat.le_trans Ac he.size) (by simp[Ag]))
  ·refine Ba fun _ w' he R hR=>?_
   go_simp;exact hR _ _ ((Ext.refl _).alloc _) rfl (Bc.mk (Nat.le_trans Ac he.size) (by simp[Ag]))
 intro γ w1 hx1 hF hA;have na4x5:γ 4≠γ 5:=hA 4 5 Ab Ab Ab ⟨_,_,rfl,rfl⟩ ⟨_,_,rfl,rfl⟩;clear hA;have p1:AC w1 (γ 1) (x.natAbs:Nat):=Av.get hF 1 Ab;have p3:AC w1 (γ 3) (y.natAbs:Nat):=Av.get hF 3 Ab;have p4:Bc w1 (γ 4) (w.heap.size+3) #[.bool false,.slice none 0 0] 26:=Av.get hF 4 Ab;have p5:Bc w1 (γ 5) (w.heap.size+3) #[.bool false,.slice none 0 0] 26:=Av.get hF 5 Ab;clear hF;simp only[Bd,Nat.reduceAdd]
 generalize γ 1=g1 at *;generalize γ 3=g3 at *;generalize γ 4=g4 at *;generalize γ 5=g5 at *;clear γ;obtain⟨ga,rfl,hga,ea⟩:=p4;obtain⟨gb,rfl,hgb,eb⟩:=p5;have hab:ga≠gb:=fun e=>na4x5 (by rw[e]);clear na4x5;obtain⟨A1,c1,rfl,q1,q2⟩:=p1.natform;obtain⟨A2,c2,rfl,q3,q4⟩:=p3.natform;obtain⟨cea0,cea1⟩:=ea.cells2;have fea:=ea.frozen;obtain⟨ceb0,ceb1⟩:=eb.cells2;have feb:=eb.frozen
 go_upto_region 2 with(fail)
 obtain⟨W1,eW,ea',U⟩:=ea.put2 (.bool false) (.slice A1 (sz x.natAbs) c1);rw[<-eW];clear eW ea;replace p1:=p1.kd U.kd;replace p3:=p3.kd U.kd;replace eb:=eb.upd U Ak;replace hx1:=U.from_ hx1 Ak;have ea:=ea';clear U ea';obtain⟨W2,eW,eb',U⟩:=eb.put2 (.bool false) (.slice A2 (sz y.natAbs) c2);rw[<-eW];clear eW eb;replace p1:=p1.kd U.kd;replace p3:=p3.kd U.kd;replace ea:=ea.upd U Ak;replace hx1:=U.from_ hx1 Ak
 have eb:=eb';clear U eb';clear cea0 cea1 ceb0 ceb1 fea feb;have Hg:Hid (Nat.gcd x.natAbs y.natAbs=G):=Ad HG.out.symm;clear HV HU HG;generalize x.natAbs=aa at *;generalize y.natAbs=bb at *;by_cases hsm:sz aa<=2/\sz bb<=2
 ·obtain⟨s1,s2⟩:=hsm
  have hA64:aa < 18446744073709551616:=by rw[<-IP];exact Nat.lt_of_lt_of_le (Cy aa) (Fx s1)
  have hB64:bb < 18446744073709551616:=by rw[<-IP];exact Nat.lt_of_lt_of_le (Cy bb) (Fx s2)
  obtain⟨cea0,cea1⟩:=ea.cells2;have fea:=ea.frozen;obtain⟨ceb0,ceb1⟩:=eb.cells2;have feb:=eb.frozen;have hc1:=hx1.cells;have hf1:=hx1.frozens
  go_wp2_with fail
  refine CV 5 [25,26,27,28,29] [5,6] [_,_] [(kv ?_),(kv ?_),(fun γ=>γ 2),(kv ?_),(kv ?_)] (fun γ w'=>[True,True,IsU w' (γ 2) aa,True,True]) ?s2 ?_
  case s2 =>
   iterate 5 refine⟨?_,?_⟩
   trivial
   iterate 2 focus
    refine Ba fun _ w' he R hR=>?_;have hc:=he.cells;have cq0:=he.cell cea0;have cq1:=he.cell cea1;have cq2:=he.cell ceb0;have cq3:=he.cell ceb1;go_simp;exact Bi hR
   ·refine Ba fun _ w' he R hR=>?_
    go_simp;exact Bg (F:=fun r w''=>IsU w'' (r) aa) (Ah.imp (Jl _ aa w' ((p1.ext he).natn) s1) fun _ _ h=>h) hR
   iterate 2 focus
    refine Ba fun _ w' he R hR=>?_;have hc:=he.cells;have cq0:=he.cell cea0;have cq1:=he.cell cea1;have cq2:=he.cell ceb0;have cq3:=he.cell ceb1;go_simp;exact Bi hR
  intro γ w3 hx3 hF;have p2:IsU w3 (γ 2) aa:=Av.get hF 2 Ab;clear hF;simp only[Bd,Nat.reduceAdd];generalize γ 2=g2 at *;clear γ;obtain rfl:g2 = .int .u64 aa:=p2
  go_wp2_with fail
  refine AR (Jl _ bb _ ((p3.ext hx3).natn) s2) ?_;rintro r w4 rfl hx4;replace hx1:=(hx1.trans hx3).trans hx4;clear hc1 hf1 cea0 cea1 ceb0 ceb1 fea feb hx3 hx4 ea eb p1 p3 q1 q2 q3 q4;go_wp2
  go_loopw [7,8] (fun av bv wx=>∃ A' B':Nat,av = .int .u64 A'/\bv = .int .u64 B'/\Nat.gcd A' B'=G/\A' < 18446744073709551616/\B' < 18446744073709551616/\Ext w4 wx) (fun _ bv _=>(intOf bv).toNat)
  case atStart=>exact⟨aa,bb,rfl,rfl,Hg.out,hA64,hB64,Ext.refl _⟩
  case round =>
   obtain⟨A',B',rfl,rfl,hg,k1,k2,hx'⟩:=hrel;have Hg':=Ad hg;clear hg;by_cases hB0:B'=0
   ·subst hB0
    go_wp2_with fail
    refine AR (UH A' _ k1) ?_;rintro r w5 hr hx5;have hg:=Hg'.out;rw[Nat.gcd_zero_right]at hg;subst hg;replace hx1:=(hx1.trans hx').trans hx5;clear hx' hx5;have hc1:=hx1.cells;have hf1:=hx1.frozens;have hs2:sz A'<=2:=Cf (by rw[IP];exact k1)
    go_wp2_with fail
    refine AR (CY (A':Int) false _ A' _ _ rfl (hr.num hs2) Aa) ?_;rintro r w6 hr hx6;replace hx1:=hx1.trans hx6;clear hc1 hf1 hx6;obtain⟨b5,A5,n5,c5,rfl⟩:=hr.cells;have hc1:=hx1.cells;have hf1:=hx1.frozens;have Hfin:=Ad (Cr hr hx1.a3 (AJ.at_ hx1 (g:=w.heap.size+2) Ac (by simp[Ag])) Aa);clear hr;go_wp2;refine bodyPost_ret (v := .agg #[.bool b5,.slice A5 n5 c5]) (by simp[results,Tryz.results106,go_sem,hc1]) rfl ?_
    exact Hfin.out
   ·have hp:(1:Int)<=B':=by omega
    have hb:((B':Int) != 0)=true:=by simp;omega
    go_wp2
    go_quiet (fail)
    go_wp2
    go_roundw
    case rel=>exact⟨B',A' % B',Ac,Ac,by rw[Ke,Hg'.out],k2,by have:=Nat.mod_lt A' (show 0 < B' by omega);omega,hx'.drewN _⟩
    case measure =>
     have:=Nat.mod_lt A' (show 0 < B' by omega);simp only[intOf,Array.getD,Int.toNat_natCast]<;>simp<;>omega
 ·have hcase:2 < sz aa\/(sz aa<=2/\2 < sz bb):=by omega
  clear hsm;obtain⟨cea0,cea1⟩:=ea.cells2;have fea:=ea.frozen;obtain⟨ceb0,ceb1⟩:=eb.cells2;have feb:=eb.frozen;rcases hcase with hcase | ⟨hcase,hcase2⟩
  all_goals
   go_wp2;clear cea0 cea1 ceb0 ceb1 fea feb hcase
   go_loopw [] (fun wr=>∃ (a b:Nat) (A1 A2:Option Addr) (c1 c2:Nat),Be wr ga 26 #[.bool false,.slice A1 (sz a) c1]/\Be wr gb 26 #[.bool false,.slice A2 (sz b) c2]/\AC wr (.agg #[.bool false,.slice A1 (sz a) c1]) (a:Nat)/\AC wr (.agg #[.bool false,.slice A2 (sz b) c2]) (b:Nat)/\sz a<=549755813888/\sz b<=549755813888/\Nat.gcd a b=G/\Ext (((w.alloc (.cells #[.bool neg,.slice A n c] 26)).alloc (.cells #[.bool neg',.slice A' n' c'] 26)).alloc (.cells #[.bool false,.slice none 0 0] 26)) wr) (fun wr=>Sn gb wr)
   case atStart=>exact⟨aa,bb,A1,A2,c1,c2,ea,eb,p1,p3,sx,sy,Hg.out,hx1⟩
   case round =>
    clear ea eb p1 p3 sx sy q1 q2 q3 q4 Hg hx1;obtain⟨a,b,B1,B2,d1,d2,ea,eb,p1,p3,sx,sy,hg,hx1⟩:=hrel;have Hg:=Ad hg;clear hg;obtain⟨cea0,cea1⟩:=ea.cells2;have fea:=ea.frozen;obtain⟨ceb0,ceb1⟩:=eb.cells2;have feb:=eb.frozen;have hc1:=hx1.cells;have hf1:=hx1.frozens;by_cases hb0:b=0
    ·have hb:decide (0 < sz b)=false:=by rw[hb0];rfl
     have hga:a=G:=by rw[<-Hg.out,hb0,Nat.gcd_zero_right]
     rw[hga]at p1 cea1;have Hfin:=Ad (Cr p1 hx1.a3 (AJ.at_ hx1 (g:=w.heap.size+2) Ac (by simp[Ag])) Aa);clear p1 p3 hga hb0;go_wp2;refine bodyPost_ret (v := .agg #[.bool false,.slice B1 (sz G) d1]) (by simp[results,Tryz.results106,go_sem,hc1]) rfl ?_;exact Hfin.out
    ·have hb:decide (0 < sz b)=true:=by have:=DU hb0;simpa using this
     have hbz:(b:Int)≠0:=by omega
     have hm0:=Ox ceb1 p3.natn;have hmod:=Nat.mod_lt a (show 0 < b by omega);have Hm:=Ad (Au hm0 hmod);clear hm0 hmod hb0
     go_wp2_with fail
     refine AR (Rn _ _ a b _ (p1.has (by rw[Int.natAbs_natCast];omega)) (p3.has (by rw[Int.natAbs_natCast];omega)) hbz (by rw[Int.natAbs_natCast];exact sx) (by rw[Int.natAbs_natCast];exact sy)) ?_;rintro r w3 ⟨q,r3,rfl,hq,hr⟩ hx2;rw[<-Int.natCast_emod]at hr;obtain⟨A3,c3,rfl,e1,e2⟩:=hr.natform;obtain⟨b6,A6,n6,c6,rfl⟩:=hq.cells;clear hc1 hf1 cea0 cea1 ceb0 ceb1 fea feb hq;replace p1:=p1.ext hx2;replace p3:=p3.ext hx2
     replace ea:=ea.ext hx2;replace eb:=eb.ext hx2;replace hx1:=hx1.trans hx2;clear hx2
     go_upto_region 9 with(fail)
     obtain⟨w5,hw5⟩:∃ w5,w5=(w3.alloc (.cells #[.bool b6,.slice A6 n6 c6] 26)).alloc (.cells #[.bool false,.slice A3 (sz (a % b)) c3] 26):=⟨_,rfl⟩
     have hx2:Ext w3 w5:=by rw[hw5];exact((Ext.refl w3).alloc _).alloc _
     have hs3:(w3.alloc (.cells #[.bool b6,.slice A6 n6 c6] 26)).heap.size=w3.heap.size+1:=by simp
     have ed:Be w5 (w3.heap.size+1) 26 #[.bool false,.slice A3 (sz (a % b)) c3]:=by rw[hw5,<-hs3];exact Be.new _ _ _ (by simp[Ag])
     rw[<-hw5];have hda:w3.heap.size+1≠ga:=by have:=ea.lt;omega
     have hdb:w3.heap.size+1≠gb:=by have:=eb.lt;omega
     generalize w3.heap.size+1=gd at *;generalize w3.heap.size=ge at *;clear hw5 hs3;replace p1:=p1.ext hx2;replace p3:=p3.ext hx2;replace hr:=hr.ext hx2;replace ea:=ea.ext hx2;replace eb:=eb.ext hx2;replace hx1:=hx1.trans hx2;clear hx2;obtain⟨cea0,cea1⟩:=ea.cells2;have fea:=ea.frozen;obtain⟨ceb0,ceb1⟩:=eb.cells2;have feb:=eb.frozen;have ced:=ed.cells2;have fed:=ed.frozen
     go_upto_region 10 with(fail)
     obtain⟨W1,eW,ea',U⟩:=ea.put2 (.bool false) (.slice B2 (sz b) d2);rw[<-eW];clear eW ea;replace p3:=p3.kd U.kd;replace hr:=hr.kd U.kd;replace eb:=eb.upd U Ak;replace ed:=ed.upd U Ak;replace hx1:=U.from_ hx1 Ak;have ea:=ea';clear U ea';clear cea0 cea1 ceb0 ceb1 fea feb ced fed;obtain⟨cea0,cea1⟩:=ea.cells2;have fea:=ea.frozen;obtain⟨ceb0,ceb1⟩:=eb.cells2;have feb:=eb.frozen;have ced:=ed.cells2;have fed:=ed.frozen
     go_wp2;obtain⟨W2,eW,eb',U⟩:=eb.put2 (.bool false) (.slice A3 (sz (a % b)) c3);rw[<-eW];clear eW eb;replace p3:=p3.kd U.kd;replace hr:=hr.kd U.kd;replace ea:=ea.upd U Ak;replace hx1:=U.from_ hx1 Ak;have eb:=eb';clear U eb';clear cea0 cea1 ceb0 ceb1 fea feb ced fed ed;obtain⟨ceb0,ceb1⟩:=eb.cells2;have feb:=eb.frozen
     go_roundw
     case rel=>exact⟨b,a % b,B2,A3,d2,c3,ea,eb,p3,hr,sy,Nat.le_trans (Bf (Nat.mod_le _ _)) sx,by rw[Ke,Hg.out],hx1⟩
     case measure=>rw[Hm.out.1,Ox ceb1 hr.natn];exact Hm.out.2
theorem Un(v u:Value)(x y:Int)(w:World)(hv:Bh w v x)(hu:Bh w u y):Bj 93 #[v,u] w (fun r w'=>AC w' r (Int.gcd x y:Nat)):=by
 obtain⟨neg,A,n,c,N,rfl,h1,h2,h3,hN,hx⟩:=hv.form;obtain⟨neg',A',n',c',M,rfl,k1,k2,k3,kN,hy⟩:=hu.form;have HN:=Ad hN;have HM:=Ad kN;clear hN hv hu kN;have hs:sz N<=n:=HN.out.sz;have hs':sz M<=n':=HM.out.sz;have hg:Int.gcd x y=Nat.gcd N M:=by unfold Int.gcd;rw[hx,hy];cases neg<;>cases neg'<;>simp
 rw[hg];clear hx hy hg
 go_enter Tryz.func93,Tryz.ntmps93
 go_wp2_with fail
 refine CV 5 [5,6,7,8,9] [2,3] [_,_] [(kv ?_),(kv ?_),(fun γ=>γ 2),(kv ?_),(kv ?_)] (fun γ w'=>[True,True,Bl w' (γ 2) N,True,True]) ?s1 ?_
 case s1 =>
  iterate 5 refine⟨?_,?_⟩
  trivial
  iterate 2 focus
   refine Ba fun _ w' he R hR=>?_;have hc:=he.cells;go_simp;exact Bi hR
  ·refine Ba fun _ w' he R hR=>?_
   go_simp;exact Bg (BD _ N n w' (HN.out.ext he.a3)) hR
  iterate 2 focus
   refine Ba fun _ w' he R hR=>?_;have hc:=he.cells;go_simp;exact Bi hR
 intro γ w1 hx1 hF;have p2:Bl w1 (γ 2) N:=Av.get hF 2 Ab;clear hF;simp only[Bd,Nat.reduceAdd];generalize γ 2=g2 at *;clear γ
 go_wp2_with fail
 refine AR (BD _ M n' w1 (HM.out.ext hx1.a3)) ?_;rintro r2 w2 hr2 hx2;replace p2:=p2.ext hx2;replace hx1:=hx1.trans hx2;clear hx2
 go_wp2_with fail
 refine AR (Su _ _ N M w2 p2 hr2 Aa Aa) ?_;rintro r3 w3 hr3 hx2;replace hx1:=hx1.trans hx2;clear hx2 p2 hr2
 go_wp2_with fail
 refine AR (Cs (Nat.gcd N M:Nat) false _ (Nat.gcd N M) _ w3 rfl (hr3.num (Nat.le_refl _))) ?_;rintro r w4 hr hx2;obtain⟨b,A2,n2,c2,rfl⟩:=hr.cells;replace hx1:=hx1.trans hx2;have hc1:=hx1.cells;have hf1:=hx1.frozens;have Hfin:=Ad (Cr hr hx1.a3 (AJ.at_ hx1 (g:=w.heap.size+2) Ac (by simp[Ag])) Aa);clear hr hr3;go_wp2;refine bodyPost_ret (v := .agg #[.bool b,.slice A2 n2 c2]) (by simp[results,Tryz.results93,go_sem,hc1]) rfl ?_
 exact Hfin.out
theorem I8(v u:Value)(x y:Int)(w:World)(hv:Bh w v x)(hu:Bh w u y)(h0:y≠0)(hd:y∣x):Bj 86 #[v,u] w (fun r w'=>∃ a,r = .tuple #[a,.int .i64 0]/\AC w' a (x / y)):=by
 have Hv:=Ad hv;have Hu:=Ad hu;obtain⟨neg,A,n,c,N,rfl,h1,h2,h3,hN,hx⟩:=hv.form;obtain⟨neg',A',n',c',M,rfl,k1,k2,k3,kN,hy⟩:=hu.form;clear hN hx hv hu kN hy;have H0:=Ad h0;have Hd:=Ad hd;clear h0 hd
 go_enter Tryz.func86,Tryz.ntmps86
 go_wp2_with fail
 refine AR (Kv _ _ x y _ (Hv.out.ext ((((Ext.refl w).alloc _).alloc _).alloc _)) (Hu.out.ext ((((Ext.refl w).alloc _).alloc _).alloc _))) ?_;rintro r w1 ⟨q,m,rfl,hq,hm⟩ hx1;rw[if_neg H0.out,Int.emod_eq_zero_of_dvd Hd.out]at hm;rw[if_neg H0.out];obtain⟨b,A1,n1,c1,rfl⟩:=hq.cells;obtain⟨A2,c2,rfl⟩:∃ A2 c2,m = .agg #[.bool false,.slice A2 0 c2]:=by obtain⟨A,c,e,_⟩:=hm.form;exact⟨A,c,e⟩
 have Hq:=Ad hq;clear hq hm;have hx2:=(hx1.alloc (Obj.cells #[Value.bool b,Value.slice A1 n1 c1] 26)).alloc (Obj.cells #[Value.bool false,Value.slice A2 0 c2] 26);have hc2:=hx2.cells;have hf2:=hx2.frozens;have Hfin:=Ad (Cr (Hq.out.ext (((Ext.refl w1).alloc _).alloc _)) hx2.a3 (AJ.at_ hx2 (g:=w.heap.size+1+1) Ac (by simp[Ag])) Aa);have hc1:=hx1.cells;have hf1:=hx1.frozens;go_wp2;refine bodyPost_ret (v := .tuple #[.agg #[.bool b,.slice A1 n1 c1],.int .i64 0]) (by simp[results,Tryz.results86,go_sem,hc2]) rfl ?_
 obtain⟨r,e,hr,hx⟩:=Hfin.out;cases e;exact Ah.mk ⟨_,rfl,hr⟩ hx
theorem BQ.mk_{w:World}{b b':Bool}{A A':Option Addr}{n c n' c':Nat}{q:Rat}{x y:Int}(h1:AC w (.agg #[.bool b,.slice A n c]) x)(h2:AC w (.agg #[.bool b',.slice A' n' c']) y)(e1:x=q.num)(e2:y=q.den):BQ w (.agg #[.bool b,.slice A n c,.bool b',.slice A' n' c']) q:=
 ⟨b,A,n,c,b',A',n',c',rfl,e1▸h1,e2▸h2⟩
theorem JM(v u:Value)(x y:Int)(w:World)(hv:Bh w v x)(hu:Bh w u y):Bj 149 #[v,u] w (fun r w'=>BQ w' r (Rat.divInt x y)):=by
 have Hv:=Ad hv;have Hu:=Ad hu;have hsx:=hv.sz;have hsy:=hu.sz;obtain⟨neg,A,n,c,N,rfl,h1,h2,h3,hN,hx⟩:=hv.form;obtain⟨neg',A',n',c',M,rfl,k1,k2,k3,kN,hy⟩:=hu.form;clear hN hx hv hu kN hy
 go_enter Tryz.func149,Tryz.ntmps149
 go_wp2_with fail
 refine CV 3 [6,7,8] [2,3] [_,_] [(kv ?_),(fun γ=>γ 1),(kv ?_)] (fun γ w'=>[True,AC w' (γ 1) x,True]) ?s1 ?_
 case s1 =>
  iterate 3 refine⟨?_,?_⟩
  trivial
  iterate 1 focus
   refine Ba fun _ w' he R hR=>?_;have hc:=he.cells;go_simp;exact Bi hR
  ·refine Ba fun _ w' he R hR=>?_
   go_simp;exact Bg (Iz _ x w' (Hv.out.ext he.a3)) hR
  iterate 1 focus
   refine Ba fun _ w' he R hR=>?_;have hc:=he.cells;go_simp;exact Bi hR
 intro γ w1 hx1 hF;have p1:AC w1 (γ 1) x:=Av.get hF 1 Ab;clear hF;simp only[Bd,Nat.reduceAdd];generalize γ 1=g1 at *;clear γ
 go_wp2_with fail
 refine AR (Iz _ y w1 (Hu.out.ext hx1.a3)) ?_;rintro r w2 hr hx2;replace p1:=p1.ext hx2;replace hx1:=hx1.trans hx2;obtain⟨b1,A1,n1,c1,rfl,hn1,hb1'⟩:=p1.parts;obtain⟨b2,A2,n2,c2,rfl,hn2,hb2'⟩:=hr.parts;have e0:Be w2 w.heap.size 26 #[.bool neg,.slice A n c]:=(Be.new w _ _ (by simp[Ag])).ext hx1.a1.a1;have e1:Be w2 (w.heap.size+1) 26 #[.bool neg',.slice A' n' c']:=by
  have:=(Be.new (w.alloc _) _ _ (by simp[Ag])).ext hx1.a1;simpa using this
 have e2:Be w2 (w.heap.size+1+1) 28 #[.bool false,.slice none 0 0,.bool false,.slice none 0 0]:=by
  have:=(Be.new ((w.alloc _).alloc _) _ _ (by simp[Ag])).ext hx1;simpa using this
 replace hx1:=hx1.a3;obtain⟨ce00,ce01⟩:=e0.cells2;have fe0:=e0.frozen;obtain⟨ce10,ce11⟩:=e1.cells2;have fe1:=e1.frozen;have ce2:=e2.cells4;have fe2:=e2.frozen;have Hn1:=Ad (Au hn1 hb1');have Hn2:=Ad (Au hn2 hb2');clear hn1 hb1' hn2 hb2'
 go_upto_block 0 with(fail)
 obtain⟨W1,eW,e0',U⟩:=e0.put2 (.bool b1) (.slice A1 n1 c1);rw[<-eW];clear eW e0;replace p1:=p1.kd U.kd;replace hr:=hr.kd U.kd;replace e1:=e1.upd U Ak;replace e2:=e2.upd U Ak;replace hx1:=U.from_ hx1 Ak;have e0:=e0';clear U e0';obtain⟨W2,eW,e1',U⟩:=e1.put2 (.bool b2) (.slice A2 n2 c2);rw[<-eW];clear eW e1;replace p1:=p1.kd U.kd;replace hr:=hr.kd U.kd;replace e0:=e0.upd U Ak;replace e2:=e2.upd U Ak;replace hx1:=U.from_ hx1 Ak
 have e1:=e1';clear U e1';clear ce00 ce01 fe0 ce10 ce11 fe1 ce2 fe2;obtain⟨ce00,ce01⟩:=e0.cells2;have fe0:=e0.frozen;obtain⟨ce10,ce11⟩:=e1.cells2;have fe1:=e1.frozen;have ce2:=e2.cells4;have fe2:=e2.frozen;clear hx2
 go_cut [] (fun wx=>∃ (p q:Int) (b1:Bool) (A1:Option Addr) (n1 c1:Nat) (b2:Bool) (A2:Option Addr) (n2 c2:Nat),AC wx (.agg #[.bool b1,.slice A1 n1 c1]) p/\AC wx (.agg #[.bool b2,.slice A2 n2 c2]) q/\0 < q/\Rat.divInt x y=Rat.divInt p q/\sz p.natAbs<=1099511627776/\sz q.natAbs<=1099511627776/\Be wx w.heap.size 26 #[.bool b1,.slice A1 n1 c1]/\Be wx (w.heap.size+1) 26 #[.bool b2,.slice A2 n2 c2]/\Be wx (w.heap.size+1+1) 28 #[.bool false,.slice none 0 0,.bool false,.slice none 0 0]/\Ext w wx)
 case first =>
  by_cases hz:y=0\/x=0
  ·have hq:Rat.divInt x y=0:=by rcases hz with h | h<;>simp[h]
   have hbb:(((n2:Nat):Int)==0)=true\/((((n2:Nat):Int)==0)=false/\(((n1:Nat):Int)==0)=true):=by
    rw[Hn1.out.1,Hn2.out.1];by_cases hy0:y=0
    ·exact .inl (bD hy0)
    ·exact .inr ⟨YB hy0,bD (hz.resolve_left hy0)⟩
   have Hq:=Ad hq;clear hq hz;rcases hbb with hb1 | ⟨hb1,hb2⟩
   all_goals
    go_wp2_with fail
    refine AR (Jn 1 _ Aa Aa) ?_;rintro r w3 hr1 hx3;obtain⟨b3,A3,n3,c3,rfl⟩:=hr1.cells;clear p1 hr ce00 ce01 fe0 ce10 ce11 fe1 ce2 fe2;replace e2:=e2.ext hx3;replace hx1:=hx1.trans hx3;clear hx3;have ce2:=e2.cells4;have fe2:=e2.frozen;go_wp2
    try clear ce00 ce01 fe0 ce10 ce11 fe1
    clear ce2 fe2;obtain⟨W9,eW,e2',U⟩:=e2.put4 (.bool false) (.slice none 0 0) (.bool b3) (.slice A3 n3 c3);rw[<-eW];clear eW e2;replace hr1:=hr1.kd U.kd;replace hx1:=U.from_ hx1 Ak;have e2:=e2';clear U e2';have ce2:=e2.cells4;have fe2:=e2.frozen;refine bodyPost_ret (v := .agg #[.bool false,.slice none 0 0,.bool b3,.slice A3 n3 c3]) (by simp[results,Tryz.results149,go_sem,ce2]) rfl ?_;exact Ah.mk (BQ.mk_ (AC.zero _) hr1 (by rw[Hq.out];rfl) (by rw[Hq.out];rfl)) hx1
  ·have hy0:y≠0:=fun h=>hz (.inl h)
   have hx0:x≠0:=fun h=>hz (.inr h);have hb1:(((n2:Nat):Int)==0)=false:=by rw[Hn2.out.1];exact YB hy0
   have hb2:(((n1:Nat):Int)==0)=false:=by rw[Hn1.out.1];exact YB hx0
   have Hp1:=Ad p1;have Hp2:=Ad hr;clear p1 hr;by_cases hyn:y < 0
   ·obtain rfl:b2=true:=by rw[Hn2.out.2];simpa using hyn
    have Hy:=Ad (Au hyn hy0);clear hyn hy0 hx0 hz;go_wp2;refine CV 3 [26,27,28] [2,3] [_,_] [(kv ?_),(fun γ=>γ 1),(kv ?_)] (fun γ w'=>[True,AC w' (γ 1) (-x),True]) ?s2 ?_
    case s2 =>
     iterate 3 refine⟨?_,?_⟩
     trivial
     iterate 1 focus
      refine Ba fun _ w' he R hR=>?_;have hc:=he.cells;have cq0:=he.cell ce00;have cq1:=he.cell ce01;have cq2:=he.cell ce10;have cq3:=he.cell ce11;go_simp;exact Bi hR
     ·refine Ba fun _ w' he R hR=>?_
      go_simp;exact Bg (TW _ x w' ((Hp1.out.ext he).has hsx)) hR
     iterate 1 focus
      refine Ba fun _ w' he R hR=>?_;have hc:=he.cells;have cq0:=he.cell ce00;have cq1:=he.cell ce01;have cq2:=he.cell ce10;have cq3:=he.cell ce11;go_simp;exact Bi hR
    intro γ w3 hx3 hF;have p1:AC w3 (γ 1) (-x):=Av.get hF 1 Ab;clear hF;simp only[Bd,Nat.reduceAdd];generalize γ 1=g1 at *;clear γ
    go_wp2_with fail
    refine AR (TW _ y w3 ((Hp2.out.ext hx3).has hsy)) ?_;rintro r w4 hr hx4;replace p1:=p1.ext hx4;replace hx3:=hx3.trans hx4;clear ce00 ce01 fe0 ce10 ce11 fe1 ce2 fe2 Hp1 Hp2;replace e0:=e0.ext hx3;replace e1:=e1.ext hx3;replace e2:=e2.ext hx3;replace hx1:=hx1.trans hx3;clear hx3;obtain⟨b3,A3,n3,c3,rfl⟩:=p1.cells;obtain⟨b4,A4,n4,c4,rfl⟩:=hr.cells;obtain⟨ce00,ce01⟩:=e0.cells2;have fe0:=e0.frozen;obtain⟨ce10,ce11⟩:=e1.cells2
    have fe1:=e1.frozen;go_wp2;obtain⟨W3,eW,e0',U⟩:=e0.put2 (.bool b3) (.slice A3 n3 c3);rw[<-eW];clear eW e0;replace p1:=p1.kd U.kd;replace hr:=hr.kd U.kd;replace e1:=e1.upd U Ak;replace e2:=e2.upd U Ak;replace hx1:=U.from_ hx1 Ak;have e0:=e0';clear U e0';obtain⟨W4,eW,e1',U⟩:=e1.put2 (.bool b4) (.slice A4 n4 c4);rw[<-eW];clear eW e1;replace p1:=p1.kd U.kd;replace hr:=hr.kd U.kd;replace e0:=e0.upd U Ak
    replace e2:=e2.upd U Ak;replace hx1:=U.from_ hx1 Ak;have e1:=e1';clear U e1'
    go_meet
    case rel=>exact⟨-x,-y,b3,A3,n3,c3,b4,A4,n4,c4,p1,hr,by have:=Hy.out;omega,by rw[Rat.neg_divInt_neg],by rwa[Int.natAbs_neg],by rwa[Int.natAbs_neg],e0,e1,e2,hx1⟩
   ·obtain rfl:b2=false:=by rw[Hn2.out.2];simpa using hyn
    have Hy:=Ad (Au hyn hy0);clear hyn hy0 hx0 hz;go_wp2
    go_meet
    case rel=>exact⟨x,y,b1,A1,n1,c1,false,A2,n2,c2,Hp1.out,Hp2.out,by have:=Hy.out;omega,rfl,hsx,hsy,e0,e1,e2,hx1⟩
 case rest =>
  clear ce00 ce01 fe0 ce10 ce11 fe1 ce2 fe2 e0 e1 e2 hx1 p1 hr Hn1 Hn2 Hv Hu;obtain⟨p,q,b1,A1,n1,c1,b2,A2,n2,c2,p1,hr,hq0,hpq,hsp,hsq,e0,e1,e2,hx1⟩:=hcut;have Hpq:=Ad hpq;have Hc:=Ad (Au hq0 (Au hsp hsq));clear hq0 hpq hsp hsq hsx hsy;obtain⟨ce00,ce01⟩:=e0.cells2;have fe0:=e0.frozen;obtain⟨ce10,ce11⟩:=e1.cells2;have fe1:=e1.frozen;have ce2:=e2.cells4;have fe2:=e2.frozen
  go_wp2_with fail
  refine AR (TU _ q _ (hr.has Hc.out.2.2)) ?_;rintro r w3 ⟨b,rfl,hb⟩ hx3;replace p1:=p1.ext hx3;replace hr:=hr.ext hx3;replace e0:=e0.ext hx3;replace e1:=e1.ext hx3;replace e2:=e2.ext hx3;replace hx1:=hx1.trans hx3;clear hx3;clear ce00 ce01 fe0 ce10 ce11 fe1 ce2 fe2;obtain⟨ce00,ce01⟩:=e0.cells2;have fe0:=e0.frozen;obtain⟨ce10,ce11⟩:=e1.cells2;have fe1:=e1.frozen;have ce2:=e2.cells4;have fe2:=e2.frozen
  cases b
  ·clear hb
   go_wp2_with fail
   refine AR (Un _ _ p q _ (p1.has Hc.out.2.1) (hr.has Hc.out.2.2)) ?_;rintro r w4 hg hx4;replace p1:=p1.ext hx4;replace hr:=hr.ext hx4;replace e0:=e0.ext hx4;replace e1:=e1.ext hx4;replace e2:=e2.ext hx4;replace hx1:=hx1.trans hx4;clear hx4;clear ce00 ce01 fe0 ce10 ce11 fe1 ce2 fe2;obtain⟨b5,A5,n5,c5,rfl⟩:=hg.cells;obtain⟨ce00,ce01⟩:=e0.cells2;have fe0:=e0.frozen;obtain⟨ce10,ce11⟩:=e1.cells2;have fe1:=e1.frozen
   have ce2:=e2.cells4;have fe2:=e2.frozen;have hgs:=V6 (p:=p) Hc.out.1 Hc.out.2.2;have hg0:((Int.gcd p q:Nat):Int)≠0:=by have:=Int.gcd_pos_of_ne_zero_right p (show q≠0 by have:=Hc.out.1;omega);omega
   have Hg:=Ad (Au hgs hg0);clear hgs hg0;have l0:=e0.lt;have l1:=e1.lt;have l2:=e2.lt
   go_wp2_with fail
   obtain⟨W5,eW5,e5,x5⟩:=Be.made w4 26 #[.bool b5,.slice A5 n5 c5] (by simp[Ag]);rw[<-eW5];clear eW5;replace p1:=p1.ext x5;replace hr:=hr.ext x5;replace hg:=hg.ext x5;replace e0:=e0.ext x5;replace e1:=e1.ext x5;replace e2:=e2.ext x5;replace hx1:=hx1.trans x5;clear x5;clear ce00 ce01 fe0 ce10 ce11 fe1 ce2 fe2;refine AR (TU _ _ _ (hg.has Hg.out.1)) ?_;rintro r w6 ⟨b,rfl,hb⟩ hx4;replace p1:=p1.ext hx4
   replace hr:=hr.ext hx4;replace hg:=hg.ext hx4;replace e0:=e0.ext hx4;replace e1:=e1.ext hx4;replace e2:=e2.ext hx4;replace e5:=e5.ext hx4;replace hx1:=hx1.trans hx4;clear hx4;obtain⟨ce00,ce01⟩:=e0.cells2;have fe0:=e0.frozen;obtain⟨ce10,ce11⟩:=e1.cells2;have fe1:=e1.frozen;have ce2:=e2.cells4;have fe2:=e2.frozen;have ce5:=e5.cells2;have fe5:=e5.frozen;cases b
   ·clear hb
    go_wp2_with fail
    refine AR (I8 _ _ p _ _ (p1.has Hc.out.2.1) (hg.has Hg.out.1) Hg.out.2 (Int.gcd_dvd_left ..)) ?_;rintro r w7 ⟨a7,rfl,h7⟩ hx4;obtain⟨b7,A7,n7,c7,rfl⟩:=h7.cells;replace hr:=hr.ext hx4;replace hg:=hg.ext hx4;replace e0:=e0.ext hx4;replace e1:=e1.ext hx4;replace e2:=e2.ext hx4;replace e5:=e5.ext hx4;replace hx1:=hx1.trans hx4;clear hx4;clear ce00 ce01 fe0 ce10 ce11 fe1 ce2 fe2 ce5 fe5 p1;obtain⟨ce00,ce01⟩:=e0.cells2
    have fe0:=e0.frozen;obtain⟨ce10,ce11⟩:=e1.cells2;have fe1:=e1.frozen;have ce2:=e2.cells4;have fe2:=e2.frozen;have ce5:=e5.cells2;have fe5:=e5.frozen
    go_upto_region 11 with(fail)
    obtain⟨W7,eW,e0',U⟩:=e0.put2 (.bool b7) (.slice A7 n7 c7);rw[<-eW];clear eW e0;replace hr:=hr.kd U.kd;replace hg:=hg.kd U.kd;replace h7:=h7.kd U.kd;replace e1:=e1.upd U Ak;replace e2:=e2.upd U Ak;replace e5:=e5.upd U Ak;replace hx1:=U.from_ hx1 Ak;have e0:=e0';clear U e0';clear ce00 ce01 fe0 ce10 ce11 fe1 ce2 fe2 ce5 fe5;obtain⟨ce00,ce01⟩:=e0.cells2;have fe0:=e0.frozen;obtain⟨ce10,ce11⟩:=e1.cells2
    have fe1:=e1.frozen;have ce2:=e2.cells4;have fe2:=e2.frozen;have ce5:=e5.cells2;have fe5:=e5.frozen
    go_wp2_with fail
    refine AR (I8 _ _ q _ _ (hr.has Hc.out.2.2) (hg.has Hg.out.1) Hg.out.2 (Int.gcd_dvd_right ..)) ?_;rintro r w8 ⟨a8,rfl,h8⟩ hx4;obtain⟨b8,A8,n8,c8,rfl⟩:=h8.cells;replace h7:=h7.ext hx4;replace e0:=e0.ext hx4;replace e1:=e1.ext hx4;replace e2:=e2.ext hx4;replace hx1:=hx1.trans hx4;clear hx4;clear ce00 ce01 fe0 ce10 ce11 fe1 ce2 fe2 ce5 fe5 hr hg e5;obtain⟨ce00,ce01⟩:=e0.cells2;have fe0:=e0.frozen
    obtain⟨ce10,ce11⟩:=e1.cells2;have fe1:=e1.frozen;have ce2:=e2.cells4;have fe2:=e2.frozen
    go_upto_region 12 with(fail)
    obtain⟨W8,eW,e1',U⟩:=e1.put2 (.bool b8) (.slice A8 n8 c8);rw[<-eW];clear eW e1;replace h7:=h7.kd U.kd;replace h8:=h8.kd U.kd;replace e0:=e0.upd U Ak;replace e2:=e2.upd U Ak;replace hx1:=U.from_ hx1 Ak;have e1:=e1';clear U e1';clear ce00 ce01 fe0 ce10 ce11 fe1 ce2 fe2;obtain⟨ce00,ce01⟩:=e0.cells2;have fe0:=e0.frozen;obtain⟨ce10,ce11⟩:=e1.cells2;have fe1:=e1.frozen;have ce2:=e2.cells4;have fe2:=e2.frozen
    go_wp2
    try clear ce00 ce01 fe0 ce10 ce11 fe1
    clear ce2 fe2;obtain⟨W9,eW,e2',U⟩:=e2.put4 (.bool b7) (.slice A7 n7 c7) (.bool b8) (.slice A8 n8 c8);rw[<-eW];clear eW e2;replace h7:=h7.kd U.kd;replace h8:=h8.kd U.kd;replace hx1:=U.from_ hx1 Ak;have e2:=e2';clear U e2';have ce2:=e2.cells4;have fe2:=e2.frozen;refine bodyPost_ret (v := .agg #[.bool b7,.slice A7 n7 c7,.bool b8,.slice A8 n8 c8]) (by simp[results,Tryz.results149,go_sem,ce2]) rfl ?_
    exact Ah.mk (BQ.mk_ h7 h8 (by rw[Hpq.out];exact(CQ Hc.out.1).1.symm) (by rw[Hpq.out];exact(CQ Hc.out.1).2.symm)) hx1
   ·have H1:=Ad (hb rfl);clear hb
    go_wp2;clear ce5 fe5
    try clear ce00 ce01 fe0 ce10 ce11 fe1
    clear ce2 fe2;obtain⟨W9,eW,e2',U⟩:=e2.put4 (.bool b1) (.slice A1 n1 c1) (.bool b2) (.slice A2 n2 c2);rw[<-eW];clear eW e2;replace p1:=p1.kd U.kd;replace hr:=hr.kd U.kd;replace hx1:=U.from_ hx1 Ak;have e2:=e2';clear U e2';have ce2:=e2.cells4;have fe2:=e2.frozen;refine bodyPost_ret (v := .agg #[.bool b1,.slice A1 n1 c1,.bool b2,.slice A2 n2 c2]) (by simp[results,Tryz.results149,go_sem,ce2]) rfl ?_
    exact Ah.mk (BQ.mk_ p1 hr (by rw[Hpq.out,(CQ Hc.out.1).1,H1.out];simp) (by rw[Hpq.out,(CQ Hc.out.1).2,H1.out];simp)) hx1
  ·have hq1:=hb rfl;clear hb
   have H1:=Ad hq1;clear hq1;go_wp2
   try clear ce00 ce01 fe0 ce10 ce11 fe1
   clear ce2 fe2;obtain⟨W9,eW,e2',U⟩:=e2.put4 (.bool b1) (.slice A1 n1 c1) (.bool b2) (.slice A2 n2 c2);rw[<-eW];clear eW e2;replace p1:=p1.kd U.kd;replace hr:=hr.kd U.kd;replace hx1:=U.from_ hx1 Ak;have e2:=e2';clear U e2';have ce2:=e2.cells4;have fe2:=e2.frozen;refine bodyPost_ret (v := .agg #[.bool b1,.slice A1 n1 c1,.bool b2,.slice A2 n2 c2]) (by simp[results,Tryz.results149,go_sem,ce2]) rfl ?_
   exact Ah.mk (BQ.mk_ p1 hr (by rw[Hpq.out,H1.out];exact(GU p).1.symm) (by rw[Hpq.out,H1.out];exact(GU p).2.symm)) hx1
end Go.Proofs.YtmhgnigpmompmaaGreat
namespace Go.Hp
theorem BQ.cells{w:World}{v:Value}{q:Rat}(h:BQ w v q):∃ b A n c b' A' n' c',v = .agg #[.bool b,.slice A n c,.bool b',.slice A' n' c']:=by
 obtain⟨b,A,n,c,b',A',n',c',e,_⟩:=h;exact⟨_,_,_,_,_,_,_,_,e⟩
theorem Dm{w w1:World}{g n c n' c':Nat}{A A':Option Addr}{b b':Bool}{q:Rat}(h:BQ w1 (.agg #[.bool b,.slice A n c,.bool b',.slice A' n' c']) q)(hx:Ext w w1)(hn:AJ w1 g)(hg:w.heap.size<=g) :
  Ah w (fun r w'=>BQ w' r q) (.returned (.agg #[.bool b,.slice A n c,.bool b',.slice A' n' c'])) ((((w1.setCell ⟨g,0,none⟩ (.bool b)).setCell ⟨g,1,none⟩ (.slice A n c)).setCell ⟨g,2,none⟩ (.bool b')).setCell ⟨g,3,none⟩ (.slice A' n' c')):=
 Ah.mk (h.kd (((((KD.refl w1).set_ (i:=0) hn (.bool b)).set_ (i:=1) (hn.set_ rfl) (.slice A n c)).set_ (i:=2) ((hn.set_ rfl).set_ rfl) (.bool b')).set_ (i:=3) (((hn.set_ rfl).set_ rfl).set_ rfl) (.slice A' n' c'))) ((((hx.setCell _ _ hg).setCell _ _ hg).setCell _ _ hg).setCell _ _ hg)
theorem MC(x y:Int):(Rat.divInt x y).num.sign=x.sign*y.sign:=by
 rcases Int.lt_trichotomy y 0 with h | h | h
 ·rw[show Rat.divInt x y=Rat.divInt (-x) (-y)from(Rat.neg_divInt_neg x y).symm,(CQ Aa).1,Int.sign_eq_neg_one_of_neg h]
  have hg:=Int.gcd_pos_of_ne_zero_right (-x) (show -y≠0 by omega);have hd:(Int.gcd (-x) (-y):Int) ∣ -x:=Int.gcd_dvd_left ..;obtain⟨k,hk⟩:=hd;have e : -x / ((-x).gcd (-y):Nat)=k:=Int.ediv_eq_of_eq_mul_right Aa hk;have hs:=congrArg Int.sign hk;rw[Int.sign_mul,Int.sign_eq_one_of_pos (a:=(((-x).gcd (-y):Nat):Int)) Aa,Int.sign_neg]at hs;rw[e];omega
 ·subst h;simp
 ·rw[(CQ h).1,Int.sign_eq_one_of_pos h]
  have hg:=Int.gcd_pos_of_ne_zero_right x (show y≠0 by omega);obtain⟨k,hk⟩:(Int.gcd x y:Int)∣x:=Int.gcd_dvd_left ..;have e:x / (x.gcd y:Nat)=k:=Int.ediv_eq_of_eq_mul_right Aa hk;have hs:=congrArg Int.sign hk;rw[Int.sign_mul,Int.sign_eq_one_of_pos (a:=((x.gcd y:Nat):Int)) Aa]at hs;rw[e];omega
theorem YC(x:Int):Rat.divInt x 1=((x:Int):Rat):=Rat.ext (GU x).1 (by have:=(GU x).2;show _=1;omega)
def gT(_:World)(v:Value)(n:Int):Prop:=v = .int .i64 n
theorem gT.ext{w w':World}{v:Value}{n:Int}(h:gT w v n)(_:Ext w w'):gT w' v n:=h
def Eb(q:Rat):Int:=q.num.sign
theorem Km{q:Rat}:Eb q=0↔q=0:=by unfold Eb;rw[Int.sign_eq_zero_iff_zero];exact Rat.num_eq_zero
theorem Sv(a b c d:Int):Rat.divInt (a*d) (b*c)=Rat.divInt a b / Rat.divInt c d:=by
 rw[Rat.div_def,Rat.inv_divInt,Rat.divInt_mul_divInt]
theorem BN.form{w:World}{v:Value}{q:Rat}(h:BN w v q):∃ b A n c b' A' n' c' x y,v = .agg #[.bool b,.slice A n c,.bool b',.slice A' n' c']/\Bh w (.agg #[.bool b,.slice A n c]) x/\Bh w (.agg #[.bool b',.slice A' n' c']) y/\sz x.natAbs<=274877906944/\sz y.natAbs<=274877906944/\q=Rat.divInt x y:=h
end Go.Hp
namespace Go.Proofs.YtmhgnigpmompmaaGreat
open Go.RowKit Go.Hp
theorem GL(v:Value)(q:Rat)(w:World)(hv:BN w v q):Bj 133 #[v] w (fun r w'=>BQ w' r q):=by
 obtain⟨b,A,n,c,b',A',n',c',x,y,rfl,hx,hy,sx,sy,hq⟩:=hv.form;have HX:=Ad hx;have HY:=Ad hy;clear hx hy hv sx sy;have Hq:=Ad hq;clear hq
 go_enter Tryz.func133,Tryz.ntmps133
 go_wp2_with fail
 refine AR (JM _ _ x y _ (HX.out.ext (((Ext.refl w).alloc _).alloc _)) (HY.out.ext (((Ext.refl w).alloc _).alloc _))) ?_;rintro r w1 hr hx1;rw[<-Hq.out]at hr;obtain⟨b5,A5,n5,c5,b6,A6,n6,c6,rfl⟩:=hr.cells;have hc1:=hx1.cells;have hf1:=hx1.frozens;have Hfin:=Ad (Dm hr hx1.a2 (AJ.at_ hx1 (g:=w.heap.size+1) Ac (by simp[Ag])) Aa);clear hr;go_wp2;refine bodyPost_ret (v := .agg #[.bool b5,.slice A5 n5 c5,.bool b6,.slice A6 n6 c6]) (by simp[results,Tryz.results133,go_sem,hc1]) rfl ?_
 exact Hfin.out
theorem bT(v u:Value)(x y:Int)(w:World)(hv:Bh w v x)(hu:Bh w u y)(h0:y≠0):Bj 159 #[v,u] w (fun r w'=>∃ a,r = .tuple #[a,.int .i64 0]/\BQ w' a (Rat.divInt x y)):=by
 have HX:=Ad hv;have HY:=Ad hu;have H0:=Ad h0;clear h0;obtain⟨neg,A,n,c,N,rfl,h1,h2,h3,hN,hx⟩:=hv.form;obtain⟨neg',A',n',c',M,rfl,k1,k2,k3,kN,hy⟩:=hu.form;clear hN hx hv hu kN hy
 go_enter Tryz.func159,Tryz.ntmps159
 go_wp2_with fail
 refine AR (IQ _ y _ (HY.out.ext ((((Ext.refl w).alloc _).alloc _).alloc _))) ?_;rintro r w1 rfl hx1;have hb:(y.sign==0)=false:=by simpa[Int.sign_eq_zero_iff_zero] using H0.out
 have hc1:=hx1.cells;have hf1:=hx1.frozens
 go_wp2_with fail
 refine AR (JM _ _ x y _ (HX.out.ext hx1.a3) (HY.out.ext hx1.a3)) ?_;rintro r w2 hr hx2;replace hx1:=hx1.trans hx2;clear hc1 hf1 hx2;obtain⟨b5,A5,n5,c5,b6,A6,n6,c6,rfl⟩:=hr.cells;have hc1:=hx1.cells;have hf1:=hx1.frozens;have Hfin:=Ad (Dm hr hx1.a3 (AJ.at_ hx1 (g:=w.heap.size+2) Ac (by simp[Ag])) Aa);clear hr;go_wp2;refine bodyPost_ret (v := .tuple #[.agg #[.bool b5,.slice A5 n5 c5,.bool b6,.slice A6 n6 c6],.int .i64 0]) (by simp[results,Tryz.results159,go_sem,hc1]) rfl ?_
 obtain⟨r,e,hr,hx⟩:=Hfin.out;cases e;exact Ah.mk ⟨_,rfl,hr⟩ hx
theorem WW(n:Int)(w:World)(h1 : -9223372036854775808<=n)(h2:n < 9223372036854775808):Bj 120 #[.int .i64 n] w (fun r w'=>BQ w' r (n:Rat)):=by
 go_enter Tryz.func120,Tryz.ntmps120
 go_wp2_with fail
 refine AR (Jn n _ h1 h2) ?_;rintro r w1 hn hx1
 go_wp2_with fail
 refine AR (Jn 1 _ Aa Aa) ?_;rintro r w2 h1' hx2;replace hn:=hn.ext hx2;replace hx1:=hx1.trans hx2;clear hx2;obtain⟨b5,A5,n5,c5,rfl⟩:=hn.cells;obtain⟨b6,A6,n6,c6,rfl⟩:=h1'.cells;have hr:=BQ.mk_ hn h1' (q:=(n:Rat)) rfl rfl;clear hn h1';have hc1:=hx1.cells;have hf1:=hx1.frozens;have Hfin:=Ad (Dm hr hx1.a1 (AJ.at_ hx1 (g:=w.heap.size+0) Ac (by simp[Ag])) Aa);clear hr;go_wp2;refine bodyPost_ret (v := .agg #[.bool b5,.slice A5 n5 c5,.bool b6,.slice A6 n6 c6]) (by simp[results,Tryz.results120,go_sem,hc1]) rfl ?_
 exact Hfin.out
theorem GY(v:Value)(x:Int)(w:World)(hv:Bh w v x):Bj 102 #[v] w (fun r w'=>BQ w' r (x:Rat)):=by
 have HX:=Ad hv;obtain⟨neg,A,n,c,N,rfl,h1,h2,h3,hN,hx⟩:=hv.form;clear hN hx hv
 go_enter Tryz.func102,Tryz.ntmps102
 go_wp2_with fail
 refine AR (Iz _ x _ (HX.out.ext (((Ext.refl w).alloc _).alloc _))) ?_;rintro r w1 hn hx1
 go_wp2_with fail
 refine AR (Jn 1 _ Aa Aa) ?_;rintro r w2 h1' hx2;replace hn:=hn.ext hx2;replace hx1:=hx1.trans hx2;clear hx2;obtain⟨b5,A5,n5,c5,rfl⟩:=hn.cells;obtain⟨b6,A6,n6,c6,rfl⟩:=h1'.cells;have hr:=BQ.mk_ hn h1' (q:=(x:Rat)) rfl rfl;clear hn h1';have hc1:=hx1.cells;have hf1:=hx1.frozens;have Hfin:=Ad (Dm hr hx1.a2 (AJ.at_ hx1 (g:=w.heap.size+1) Ac (by simp[Ag])) Aa);clear hr;go_wp2;refine bodyPost_ret (v := .agg #[.bool b5,.slice A5 n5 c5,.bool b6,.slice A6 n6 c6]) (by simp[results,Tryz.results102,go_sem,hc1]) rfl ?_
 exact Hfin.out
theorem QW(x:Int) : -1<=x.sign/\x.sign<=1:=by
 rcases Int.lt_trichotomy x 0 with h | h | h
 ·rw[Int.sign_eq_neg_one_of_neg h];omega
 ·subst h;simp
 ·rw[Int.sign_eq_one_of_pos h];omega
theorem Ih(x y:Int) : -1<=x.sign*y.sign/\x.sign*y.sign<=1:=by rw[<-Int.sign_mul];exact QW _
theorem NE(v:Value)(q:Rat)(w:World)(hv:BN w v q):Bj 89 #[v] w (fun r _=>r = .int .i64 (Eb q)):=by
 obtain⟨b,A,n,c,b',A',n',c',x,y,rfl,hx,hy,sx,sy,hq⟩:=hv.form;have HX:=Ad hx;have HY:=Ad hy;clear hx hy hv sx sy;have Hq:=Ad (show Eb q=x.sign*y.sign by rw[hq];exact MC x y);clear hq;have hb:=Ih x y
 go_enter Tryz.func89,Tryz.ntmps89
 go_wp2_with fail
 refine CV 5 [3,4,5,6,7] [1] [_] [(kv ?_),(kv ?_),(fun γ=>γ 2),(kv ?_),(kv ?_)] (fun γ w'=>[True,True,gT w' (γ 2) x.sign,True,True]) ?s1 ?_
 case s1 =>
  iterate 5 refine⟨?_,?_⟩
  trivial
  iterate 2 focus
   refine Ba fun _ w' he R hR=>?_;have hc:=he.cells;go_simp;exact Bi hR
  ·refine Ba fun _ w' he R hR=>?_
   go_simp;exact Bg (IQ _ x w' (HX.out.ext he.a1)) hR
  iterate 2 focus
   refine Ba fun _ w' he R hR=>?_;have hc:=he.cells;go_simp;exact Bi hR
 intro γ w1 hx1 hF;have p2:gT w1 (γ 2) x.sign:=Av.get hF 2 Ab;clear hF;simp only[Bd,Nat.reduceAdd];generalize γ 2=g2 at *;clear γ;obtain rfl:g2 = .int .i64 x.sign:=p2
 go_wp2_with fail
 refine AR (IQ _ y _ (HY.out.ext hx1.a1)) ?_;rintro r w2 rfl hx2;replace hx1:=hx1.trans hx2;go_wp2
 go_ret
 exact Ah.mk (by rw[Hq.out];rfl) hx1.a1
theorem aQ(v:Value)(q:Rat)(w:World)(hv:BN w v q):Bj 103 #[v] w (fun r w'=>BQ w' r (-q)):=by
 obtain⟨b,A,n,c,b',A',n',c',x,y,rfl,hx,hy,sx,sy,hq⟩:=hv.form;have HX:=Ad hx;have HY:=Ad hy;clear hx hy hv;have Hq:=Ad hq;clear hq
 go_enter Tryz.func103,Tryz.ntmps103
 go_wp2_with fail
 refine CV 5 [3,4,5,6,7] [1] [_] [(kv ?_),(kv ?_),(fun γ=>γ 2),(kv ?_),(kv ?_)] (fun γ w'=>[True,True,AC w' (γ 2) (-x),True,True]) ?s2 ?_
 case s2 =>
  iterate 5 refine⟨?_,?_⟩
  trivial
  iterate 2 focus
   refine Ba fun _ w' he R hR=>?_;have hc:=he.cells;go_simp;exact Bi hR
  ·refine Ba fun _ w' he R hR=>?_
   go_simp;exact Bg (TW _ x w' (HX.out.ext he.a2)) hR
  iterate 2 focus
   refine Ba fun _ w' he R hR=>?_;have hc:=he.cells;go_simp;exact Bi hR
 intro γ w1 hx1 hF;have p2:AC w1 (γ 2) (-x):=Av.get hF 2 Ab;clear hF;simp only[Bd,Nat.reduceAdd];generalize γ 2=g2 at *;clear γ
 go_wp2_with fail
 refine AR (JM _ _ (-x) y _ (p2.has (by rw[Int.natAbs_neg];omega)) (HY.out.ext hx1.a2)) ?_;rintro r w2 hr hx2;replace hx1:=hx1.trans hx2;clear hx2 p2;rw[<-Rat.neg_divInt,<-Hq.out]at hr;obtain⟨b5,A5,n5,c5,b6,A6,n6,c6,rfl⟩:=hr.cells;have hc1:=hx1.cells;have hf1:=hx1.frozens;have Hfin:=Ad (Dm hr hx1.a2 (AJ.at_ hx1 (g:=w.heap.size+1) Ac (by simp[Ag])) Aa);clear hr;go_wp2;refine bodyPost_ret (v := .agg #[.bool b5,.slice A5 n5 c5,.bool b6,.slice A6 n6 c6]) (by simp[results,Tryz.results103,go_sem,hc1]) rfl ?_
 exact Hfin.out
theorem JQ{x y:Int}(hx:sz x.natAbs<=274877906944)(hy:sz y.natAbs<=274877906944):sz (x*y).natAbs<=549755813888:=by
 rw[Int.natAbs_mul];have:=Ca x.natAbs y.natAbs;omega
theorem Wi(v u:Value)(p q:Rat)(w:World)(hv:BN w v p)(hu:BN w u q):Bj 140 #[v,u] w (fun r w'=>BQ w' r (p*q)):=by
 obtain⟨b,A,n,c,b',A',n',c',x,y,rfl,hx,hy,sx,sy,hp⟩:=hv.form;obtain⟨d,E,m,e,d',E',m',e',s,t,rfl,hs,ht,ss,st,hq⟩:=hu.form;have HX:=Ad (Au hx hy);have HY:=Ad (Au hs ht);clear hx hy hv hs ht hu;have Hq:=Ad (show Rat.divInt (x*s) (y*t)=p*q by rw[hp,hq,Rat.divInt_mul_divInt]);clear hp hq;have m1:=JQ sx ss;have m2:=JQ sy st
 go_enter Tryz.func140,Tryz.ntmps140
 go_wp2_with fail
 refine CV 9 [5,6,7,8,9,10,11,12,13] [2,3] [_,_] [(kv ?_),(kv ?_),(kv ?_),(kv ?_),(fun γ=>γ 4),(kv ?_),(kv ?_),(kv ?_),(kv ?_)] (fun γ w'=>[True,True,True,True,AC w' (γ 4) (x*s),True,True,True,True]) ?s3 ?_
 case s3 =>
  iterate 9 refine⟨?_,?_⟩
  trivial
  iterate 4 focus
   refine Ba fun _ w' he R hR=>?_;have hc:=he.cells;go_simp;exact Bi hR
  ·refine Ba fun _ w' he R hR=>?_
   go_simp;exact Bg (Dr _ _ x s w' (HX.out.1.ext he.a3) (HY.out.1.ext he.a3)) hR
  iterate 4 focus
   refine Ba fun _ w' he R hR=>?_;have hc:=he.cells;go_simp;exact Bi hR
 intro γ w1 hx1 hF;have p4:AC w1 (γ 4) (x*s):=Av.get hF 4 Ab;clear hF;simp only[Bd,Nat.reduceAdd];generalize γ 4=g4 at *;clear γ
 go_wp2_with fail
 refine AR (Dr _ _ y t _ (HX.out.2.ext hx1.a3) (HY.out.2.ext hx1.a3)) ?_;rintro g9 w9 p9 hx9;replace p4:=p4.ext hx9;replace hx1:=hx1.trans hx9;clear hx9
 go_wp2_with fail
 refine AR (JM _ _ (x*s) (y*t) _ (p4.has Aa) (p9.has Aa)) ?_;rintro r w2 hr hx2;replace hx1:=hx1.trans hx2;clear hx2 p4 p9;rw[Hq.out]at hr;obtain⟨b5,A5,n5,c5,b6,A6,n6,c6,rfl⟩:=hr.cells;have hc1:=hx1.cells;have hf1:=hx1.frozens;have Hfin:=Ad (Dm hr hx1.a3 (AJ.at_ hx1 (g:=w.heap.size+2) Ac (by simp[Ag])) Aa);clear hr;go_wp2;refine bodyPost_ret (v := .agg #[.bool b5,.slice A5 n5 c5,.bool b6,.slice A6 n6 c6]) (by simp[results,Tryz.results140,go_sem,hc1]) rfl ?_
 exact Hfin.out
theorem Wp(v u:Value)(p q:Rat)(w:World)(hv:BN w v p)(hu:BN w u q)(h0:q≠0):Bj 122 #[v,u] w (fun r w'=>∃ a,r = .tuple #[a,.int .i64 0]/\BQ w' a (p / q)):=by
 have HU:=Ad hu;obtain⟨b,A,n,c,b',A',n',c',x,y,rfl,hx,hy,sx,sy,hp⟩:=hv.form;obtain⟨d,E,m,e,d',E',m',e',s,t,rfl,hs,ht,ss,st,hq⟩:=hu.form;have HX:=Ad (Au hx hy);have HY:=Ad (Au hs ht);clear hx hy hv hs ht hu;have Hq:=Ad (show Rat.divInt (x*t) (y*s)=p / q by rw[hp,hq];exact Sv x y s t);clear hp hq;have m1:=JQ sx st;have m2:=JQ sy ss;have hb:(Eb q==0)=false:=by simpa[Km] using h0
 clear h0
 go_enter Tryz.func122,Tryz.ntmps122
 go_wp2_with fail
 refine AR (NE _ q _ (HU.out.ext ((((Ext.refl w).alloc _).alloc _).alloc _))) ?_;rintro r w0 rfl hx0;have hc0:=hx0.cells;have hf0:=hx0.frozens
 go_wp2_with fail
 have ca0:=hx0.a1.a1.box (g:=w.heap.size) (i:=0) rfl rfl;have ca1:=hx0.a1.a1.box (g:=w.heap.size) (i:=1) rfl rfl;have ca2:=hx0.a1.a1.box (g:=w.heap.size) (i:=2) rfl rfl;have ca3:=hx0.a1.a1.box (g:=w.heap.size) (i:=3) rfl rfl;have cb0:=hx0.a1.box (g:=w.heap.size+1) (i:=0) Ac rfl;have cb1:=hx0.a1.box (g:=w.heap.size+1) (i:=1) Ac rfl;have cb2:=hx0.a1.box (g:=w.heap.size+1) (i:=2) Ac rfl;have cb3:=hx0.a1.box (g:=w.heap.size+1) (i:=3) Ac rfl
 refine CV 9 [10,11,12,13,14,15,16,17,18] [2,3] [_,_] [(kv ?_),(kv ?_),(kv ?_),(kv ?_),(fun γ=>γ 4),(kv ?_),(kv ?_),(kv ?_),(kv ?_)] (fun γ w'=>[True,True,True,True,AC w' (γ 4) (x*t),True,True,True,True]) ?s4 ?_
 case s4 =>
  iterate 9 refine⟨?_,?_⟩
  trivial
  iterate 4 focus
   refine Ba fun _ w' he R hR=>?_;have hc:=he.cells;have cq0:=he.cell ca0;have cq1:=he.cell ca1;have cq2:=he.cell ca2;have cq3:=he.cell ca3;have cq4:=he.cell cb0;have cq5:=he.cell cb1;have cq6:=he.cell cb2;have cq7:=he.cell cb3;go_simp;exact Bi hR
  ·refine Ba fun _ w' he R hR=>?_
   go_simp;exact Bg (Dr _ _ x t w' (HX.out.1.ext (hx0.trans he).a3) (HY.out.2.ext (hx0.trans he).a3)) hR
  iterate 4 focus
   refine Ba fun _ w' he R hR=>?_;have hc:=he.cells;have cq0:=he.cell ca0;have cq1:=he.cell ca1;have cq2:=he.cell ca2;have cq3:=he.cell ca3;have cq4:=he.cell cb0;have cq5:=he.cell cb1;have cq6:=he.cell cb2;have cq7:=he.cell cb3;go_simp;exact Bi hR
 intro γ w1 hx1 hF;have p4:AC w1 (γ 4) (x*t):=Av.get hF 4 Ab;clear hF;simp only[Bd,Nat.reduceAdd];generalize γ 4=g4 at *;clear γ;replace hx1:=hx0.trans hx1;clear hx0 hc0 hf0 ca0 ca1 ca2 ca3 cb0 cb1 cb2 cb3;have hc0:=hx1.cells;have hf0:=hx1.frozens
 go_wp2_with fail
 refine AR (Dr _ _ y s _ (HX.out.2.ext hx1.a3) (HY.out.1.ext hx1.a3)) ?_;rintro g9 w9 p9 hx9;replace p4:=p4.ext hx9;replace hx1:=hx1.trans hx9;clear hx9 hc0 hf0
 go_wp2_with fail
 refine AR (JM _ _ (x*t) (y*s) _ (p4.has Aa) (p9.has Aa)) ?_;rintro r w2 hr hx2;replace hx1:=hx1.trans hx2;clear hx2 p4 p9;rw[Hq.out]at hr;obtain⟨b5,A5,n5,c5,b6,A6,n6,c6,rfl⟩:=hr.cells;have hc1:=hx1.cells;have hf1:=hx1.frozens;have Hfin:=Ad (Dm hr hx1.a3 (AJ.at_ hx1 (g:=w.heap.size+2) Ac (by simp[Ag])) Aa);clear hr;go_wp2;refine bodyPost_ret (v := .tuple #[.agg #[.bool b5,.slice A5 n5 c5,.bool b6,.slice A6 n6 c6],.int .i64 0]) (by simp[results,Tryz.results122,go_sem,hc1]) rfl ?_
 obtain⟨r,e,hr,hx⟩:=Hfin.out;cases e;exact Ah.mk ⟨_,rfl,hr⟩ hx
theorem TS(v u:Value)(p q:Rat)(w:World)(hv:BN w v p)(hu:BN w u q):Bj 123 #[v,u] w (fun r w'=>BQ w' r (p+q)):=by
 have HV:=Ad hv;have HU:=Ad hu;obtain⟨b,A,n,c,b',A',n',c',x,y,rfl,hx,hy,sx,sy,hp⟩:=hv.form;obtain⟨d,E,m,e,d',E',m',e',s,t,rfl,hs,ht,ss,st,hq⟩:=hu.form;have HX:=Ad (Au hx hy);have HY:=Ad (Au hs ht);clear hx hy hv hs ht hu;have Hpq:=Ad (Au hp hq);clear hp hq
 go_enter Tryz.func123,Tryz.ntmps123
 go_wp2_with fail
 refine AR (IQ _ y _ (HX.out.2.ext ((((Ext.refl w).alloc _).alloc _).alloc _))) ?_;rintro r w1 rfl hx1;have hc1:=hx1.cells;have hf1:=hx1.frozens;by_cases hy0:y=0
 ·have hb:(y.sign==0)=true:=by rw[hy0];rfl
  have Hz:=Ad (show p+q=q by rw[Hpq.out.1,hy0,Rat.divInt_zero];exact Rat.zero_add _);clear hy0
  go_wp2_with fail
  refine AR (GL _ q _ (HU.out.ext hx1.a3)) ?_;rintro r w2 hr hx2;replace hx1:=hx1.trans hx2;clear hx2 hc1 hf1;rw[<-Hz.out]at hr;obtain⟨b5,A5,n5,c5,b6,A6,n6,c6,rfl⟩:=hr.cells;have hc1:=hx1.cells;have hf1:=hx1.frozens;have Hfin:=Ad (Dm hr hx1.a3 (AJ.at_ hx1 (g:=w.heap.size+2) Ac (by simp[Ag])) Aa);clear hr;go_wp2;refine bodyPost_ret (v := .agg #[.bool b5,.slice A5 n5 c5,.bool b6,.slice A6 n6 c6]) (by simp[results,Tryz.results123,go_sem,hc1]) rfl ?_
  exact Hfin.out
 have hb:(y.sign==0)=false:=by simpa[Int.sign_eq_zero_iff_zero] using hy0
 have Hy0:=Ad hy0;clear hy0
 go_wp2_with fail
 refine AR (IQ _ t _ (HY.out.2.ext hx1.a3)) ?_;rintro r w3 rfl hx3;clear hc1 hf1;replace hx1:=hx1.trans hx3;clear hx3;have hc1:=hx1.cells;have hf1:=hx1.frozens;by_cases ht0:t=0
 ·have hb:(t.sign==0)=true:=by rw[ht0];rfl
  have Hz:=Ad (show p+q=p by rw[Hpq.out.2,ht0,Rat.divInt_zero];exact Rat.add_zero _);clear ht0
  go_wp2_with fail
  refine AR (GL _ p _ (HV.out.ext hx1.a3)) ?_;rintro r w2 hr hx2;replace hx1:=hx1.trans hx2;clear hx2 hc1 hf1;rw[<-Hz.out]at hr;obtain⟨b5,A5,n5,c5,b6,A6,n6,c6,rfl⟩:=hr.cells;have hc1:=hx1.cells;have hf1:=hx1.frozens;have Hfin:=Ad (Dm hr hx1.a3 (AJ.at_ hx1 (g:=w.heap.size+2) Ac (by simp[Ag])) Aa);clear hr;go_wp2;refine bodyPost_ret (v := .agg #[.bool b5,.slice A5 n5 c5,.bool b6,.slice A6 n6 c6]) (by simp[results,Tryz.results123,go_sem,hc1]) rfl ?_
  exact Hfin.out
 have hb2:(t.sign==0)=false:=by simpa[Int.sign_eq_zero_iff_zero] using ht0
 have Ht0:=Ad ht0;clear ht0
 go_wp2_with fail
 refine AR (TU _ y _ (HX.out.2.ext hx1.a3)) ?_;rintro r w4 ⟨o1,rfl,ho1⟩ hx3;clear hc1 hf1;replace hx1:=hx1.trans hx3;clear hx3;have hc1:=hx1.cells;have hf1:=hx1.frozens;have m1:=JQ sx st;have m2:=JQ ss sy;have m3:=JQ sy st;have m4:sz (x*t+s*y).natAbs<=549755813889:=by
  have h1:=Bf (Int.natAbs_add_le (x*t) (s*y));have h2:=Gi (x*t).natAbs (s*y).natAbs;omega
 have Hz:=Ad (show p+q=Rat.divInt (x*t+s*y) (y*t) by rw[Hpq.out.1,Hpq.out.2,Rat.divInt_add_divInt _ _ Hy0.out Ht0.out]);have H1:=Ad ho1;clear ho1;cases o1
 ·go_wp2_with fail
  have l4:w.heap.size+3<=w4.heap.size:=by have:=hx1.size;simpa using this
  have ca0:=hx1.a1.a1.box (g:=w.heap.size) (i:=0) rfl rfl;have ca1:=hx1.a1.a1.box (g:=w.heap.size) (i:=1) rfl rfl;have ca2:=hx1.a1.a1.box (g:=w.heap.size) (i:=2) rfl rfl;have ca3:=hx1.a1.a1.box (g:=w.heap.size) (i:=3) rfl rfl;have cb0:=hx1.a1.box (g:=w.heap.size+1) (i:=0) Ac rfl;have cb1:=hx1.a1.box (g:=w.heap.size+1) (i:=1) Ac rfl;have cb2:=hx1.a1.box (g:=w.heap.size+1) (i:=2) Ac rfl;have cb3:=hx1.a1.box (g:=w.heap.size+1) (i:=3) Ac rfl
  refine CV 12 [36,37,38,39,40,41,42,43,44,45,46,5] [2,3] [_,_] [(kv ?_),(kv ?_),(kv ?_),(kv ?_),(fun γ=>γ 4),(kv ?_),(kv ?_),(kv ?_),(kv ?_),(fun γ=>γ 9),(fun γ=>γ 10),(fun γ=>γ 11)] (fun γ w'=>[True,True,True,True,AC w' (γ 4) (x*t),True,True,True,True,AC w' (γ 9) (s*y),AC w' (γ 10) (x*t+s*y),Bc w' (γ 11) w4.heap.size #[.bool false,.slice none 0 0] 26]) ?s5 ?_
  case s5 =>
   iterate 12 refine⟨?_,?_⟩
   trivial
   iterate 4 focus
    refine Ba fun _ w' he R hR=>?_;have hc:=he.cells;have cq0:=he.cell ca0;have cq1:=he.cell ca1;have cq2:=he.cell ca2;have cq3:=he.cell ca3;have cq4:=he.cell cb0;have cq5:=he.cell cb1;have cq6:=he.cell cb2;have cq7:=he.cell cb3;go_simp;exact Bi hR
   ·refine Ba fun _ w' he R hR=>?_
    go_simp;exact Bg (Dr _ _ x t w' (HX.out.1.ext (hx1.trans he).a3) (HY.out.2.ext (hx1.trans he).a3)) hR
   iterate 4 focus
    refine Ba fun _ w' he R hR=>?_;have hc:=he.cells;have cq0:=he.cell ca0;have cq1:=he.cell ca1;have cq2:=he.cell ca2;have cq3:=he.cell ca3;have cq4:=he.cell cb0;have cq5:=he.cell cb1;have cq6:=he.cell cb2;have cq7:=he.cell cb3;go_simp;exact Bi hR
   ·refine Ba fun _ w' he R hR=>?_
    go_simp;exact Bg (Dr _ _ s y w' (HY.out.1.ext (hx1.trans he).a3) (HX.out.2.ext (hx1.trans he).a3)) hR
   ·refine FO fun γ w' he hf R hR=>?_;have f4:AC w' (γ 4) (x*t):=hf 4 Ab;have f9:AC w' (γ 9) (s*y):=hf 9 Ab;clear hf
    go_simp;exact Bg (N8 _ _ _ _ w' (f4.has Aa) (f9.has Aa)) hR
   ·refine Ba fun _ w' he R hR=>?_
    go_simp;exact hR _ _ ((Ext.refl _).alloc _) rfl (Bc.mk (Nat.le_trans Ac he.size) (by simp[Ag]))
  intro γ w6 hx6 hF;have p4:AC w6 (γ 4) (x*t):=Av.get hF 4 Ab;have p9:AC w6 (γ 9) (s*y):=Av.get hF 9 Ab;have p10:AC w6 (γ 10) (x*t+s*y):=Av.get hF 10 Ab;have p11:Bc w6 (γ 11) w4.heap.size #[.bool false,.slice none 0 0] 26:=Av.get hF 11 Ab;clear hF;simp only[Bd,Nat.reduceAdd];generalize γ 4=g4 at *;generalize γ 9=g9 at *;generalize γ 10=g10 at *;generalize γ 11=g11 at *;clear γ;obtain⟨gb,rfl,hgb,eb⟩:=p11
  obtain⟨b7,A7,n7,c7,rfl⟩:=p10.cells;clear hc1 hf1 ca0 ca1 ca2 ca3 cb0 cb1 cb2 cb3 p4 p9;replace hx1:=hx1.trans hx6;have ceb:=eb.cells2;have feb:=eb.frozen
  go_upto_region 8 with(fail)
  obtain⟨W8,eW,eb',U⟩:=eb.put2 (.bool b7) (.slice A7 n7 c7);rw[<-eW];clear eW eb;replace p10:=p10.kd U.kd;replace hx1:=U.from_ hx1 Ak;have eb:=eb';clear U eb';clear ceb feb;have ceb:=eb.cells2;have feb:=eb.frozen;have hc1:=hx1.cells;have ca0:=hx1.a1.a1.box (g:=w.heap.size) (i:=0) rfl rfl;have ca1:=hx1.a1.a1.box (g:=w.heap.size) (i:=1) rfl rfl;have ca2:=hx1.a1.a1.box (g:=w.heap.size) (i:=2) rfl rfl;have ca3:=hx1.a1.a1.box (g:=w.heap.size) (i:=3) rfl rfl
  have cb0:=hx1.a1.box (g:=w.heap.size+1) (i:=0) Ac rfl;have cb1:=hx1.a1.box (g:=w.heap.size+1) (i:=1) Ac rfl;have cb2:=hx1.a1.box (g:=w.heap.size+1) (i:=2) Ac rfl;have cb3:=hx1.a1.box (g:=w.heap.size+1) (i:=3) Ac rfl;refine CV 6 [47,48,49,50,51,52] [5,2,3] [_,_,_] [(kv ?_),(kv ?_),(kv ?_),(kv ?_),(kv ?_),(fun γ=>γ 5)] (fun γ w'=>[True,True,True,True,True,AC w' (γ 5) (y*t)]) ?s6 ?_
  case s6 =>
   iterate 6 refine⟨?_,?_⟩
   trivial
   iterate 5 focus
    refine Ba fun _ w' he R hR=>?_;have hc:=he.cells;have cq0:=(eb.ext he).cells2;have cq1:=he.cell ca0;have cq2:=he.cell ca1;have cq3:=he.cell ca2;have cq4:=he.cell ca3;have cq5:=he.cell cb0;have cq6:=he.cell cb1;have cq7:=he.cell cb2;have cq8:=he.cell cb3;go_simp;exact Bi hR
   ·refine Ba fun _ w' he R hR=>?_
    go_simp;exact Bg (Dr _ _ y t w' (HX.out.2.ext (hx1.trans he).a3) (HY.out.2.ext (hx1.trans he).a3)) hR
  intro γ w8 hx9 hF;have p5:AC w8 (γ 5) (y*t):=Av.get hF 5 Ab;clear hF;simp only[Bd,Nat.reduceAdd];generalize γ 5=g5 at *;clear γ
  go_wp2_with fail
  refine AR (JM _ _ (x*t+s*y) (y*t) _ ((p10.ext hx9).has Aa) (p5.has Aa)) ?_;rintro r w10 hr hx10;rw[<-Hz.out]at hr;clear hc1 p5 ca0 ca1 ca2 ca3 cb0 cb1 cb2 cb3 ceb feb;replace hx1:=(hx1.trans hx9).trans hx10;clear hx9 hx10;obtain⟨b5,A5,n5,c5,b6,A6,n6,c6,rfl⟩:=hr.cells;have hc1:=hx1.cells;have hf1:=hx1.frozens;have Hfin:=Ad (Dm hr hx1.a3 (AJ.at_ hx1 (g:=w.heap.size+2) Ac (by simp[Ag])) Aa);clear hr
  go_wp2;refine bodyPost_ret (v := .agg #[.bool b5,.slice A5 n5 c5,.bool b6,.slice A6 n6 c6]) (by simp[results,Tryz.results123,go_sem,hc1]) rfl ?_;exact Hfin.out
 ·go_wp2_with fail
  refine AR (TU _ t _ (HY.out.2.ext hx1.a3)) ?_;rintro r w5 ⟨o2,rfl,ho2⟩ hx3;clear hc1 hf1;replace hx1:=hx1.trans hx3;clear hx3;have hc1:=hx1.cells;have hf1:=hx1.frozens;have H2:=Ad ho2;clear ho2;cases o2
  ·go_wp2_with fail
   have l4:w.heap.size+3<=w5.heap.size:=by have:=hx1.size;simpa using this
   have ca0:=hx1.a1.a1.box (g:=w.heap.size) (i:=0) rfl rfl;have ca1:=hx1.a1.a1.box (g:=w.heap.size) (i:=1) rfl rfl;have ca2:=hx1.a1.a1.box (g:=w.heap.size) (i:=2) rfl rfl;have ca3:=hx1.a1.a1.box (g:=w.heap.size) (i:=3) rfl rfl;have cb0:=hx1.a1.box (g:=w.heap.size+1) (i:=0) Ac rfl;have cb1:=hx1.a1.box (g:=w.heap.size+1) (i:=1) Ac rfl;have cb2:=hx1.a1.box (g:=w.heap.size+1) (i:=2) Ac rfl;have cb3:=hx1.a1.box (g:=w.heap.size+1) (i:=3) Ac rfl
   refine CV 12 [36,37,38,39,40,41,42,43,44,45,46,5] [2,3] [_,_] [(kv ?_),(kv ?_),(kv ?_),(kv ?_),(fun γ=>γ 4),(kv ?_),(kv ?_),(kv ?_),(kv ?_),(fun γ=>γ 9),(fun γ=>γ 10),(fun γ=>γ 11)] (fun γ w'=>[True,True,True,True,AC w' (γ 4) (x*t),True,True,True,True,AC w' (γ 9) (s*y),AC w' (γ 10) (x*t+s*y),Bc w' (γ 11) w5.heap.size #[.bool false,.slice none 0 0] 26]) ?s7 ?_
   case s7 =>
    iterate 12 refine⟨?_,?_⟩
    trivial
    iterate 4 focus
     refine Ba fun _ w' he R hR=>?_;have hc:=he.cells;have cq0:=he.cell ca0;have cq1:=he.cell ca1;have cq2:=he.cell ca2;have cq3:=he.cell ca3;have cq4:=he.cell cb0;have cq5:=he.cell cb1;have cq6:=he.cell cb2;have cq7:=he.cell cb3;go_simp;exact Bi hR
    ·refine Ba fun _ w' he R hR=>?_
     go_simp;exact Bg (Dr _ _ x t w' (HX.out.1.ext (hx1.trans he).a3) (HY.out.2.ext (hx1.trans he).a3)) hR
    iterate 4 focus
     refine Ba fun _ w' he R hR=>?_;have hc:=he.cells;have cq0:=he.cell ca0;have cq1:=he.cell ca1;have cq2:=he.cell ca2;have cq3:=he.cell ca3;have cq4:=he.cell cb0;have cq5:=he.cell cb1;have cq6:=he.cell cb2;have cq7:=he.cell cb3;go_simp;exact Bi hR
    ·refine Ba fun _ w' he R hR=>?_
     go_simp;exact Bg (Dr _ _ s y w' (HY.out.1.ext (hx1.trans he).a3) (HX.out.2.ext (hx1.trans he).a3)) hR
    ·refine FO fun γ w' he hf R hR=>?_;have f4:AC w' (γ 4) (x*t):=hf 4 Ab;have f9:AC w' (γ 9) (s*y):=hf 9 Ab;clear hf
     go_simp;exact Bg (N8 _ _ _ _ w' (f4.has Aa) (f9.has Aa)) hR
    ·refine Ba fun _ w' he R hR=>?_
     go_simp;exact hR _ _ ((Ext.refl _).alloc _) rfl (Bc.mk (Nat.le_trans Ac he.size) (by simp[Ag]))
   intro γ w6 hx6 hF;have p4:AC w6 (γ 4) (x*t):=Av.get hF 4 Ab;have p9:AC w6 (γ 9) (s*y):=Av.get hF 9 Ab;have p10:AC w6 (γ 10) (x*t+s*y):=Av.get hF 10 Ab;have p11:Bc w6 (γ 11) w5.heap.size #[.bool false,.slice none 0 0] 26:=Av.get hF 11 Ab;clear hF;simp only[Bd,Nat.reduceAdd];generalize γ 4=g4 at *;generalize γ 9=g9 at *;generalize γ 10=g10 at *;generalize γ 11=g11 at *;clear γ;obtain⟨gb,rfl,hgb,eb⟩:=p11
   obtain⟨b7,A7,n7,c7,rfl⟩:=p10.cells;clear hc1 hf1 ca0 ca1 ca2 ca3 cb0 cb1 cb2 cb3 p4 p9;replace hx1:=hx1.trans hx6;have ceb:=eb.cells2;have feb:=eb.frozen
   go_upto_region 8 with(fail)
   obtain⟨W8,eW,eb',U⟩:=eb.put2 (.bool b7) (.slice A7 n7 c7);rw[<-eW];clear eW eb;replace p10:=p10.kd U.kd;replace hx1:=U.from_ hx1 Ak;have eb:=eb';clear U eb';clear ceb feb;have ceb:=eb.cells2;have feb:=eb.frozen;have hc1:=hx1.cells;have ca0:=hx1.a1.a1.box (g:=w.heap.size) (i:=0) rfl rfl;have ca1:=hx1.a1.a1.box (g:=w.heap.size) (i:=1) rfl rfl;have ca2:=hx1.a1.a1.box (g:=w.heap.size) (i:=2) rfl rfl
   have ca3:=hx1.a1.a1.box (g:=w.heap.size) (i:=3) rfl rfl;have cb0:=hx1.a1.box (g:=w.heap.size+1) (i:=0) Ac rfl;have cb1:=hx1.a1.box (g:=w.heap.size+1) (i:=1) Ac rfl;have cb2:=hx1.a1.box (g:=w.heap.size+1) (i:=2) Ac rfl;have cb3:=hx1.a1.box (g:=w.heap.size+1) (i:=3) Ac rfl;refine CV 6 [47,48,49,50,51,52] [5,2,3] [_,_,_] [(kv ?_),(kv ?_),(kv ?_),(kv ?_),(kv ?_),(fun γ=>γ 5)] (fun γ w'=>[True,True,True,True,True,AC w' (γ 5) (y*t)]) ?s8 ?_
   case s8 =>
    iterate 6 refine⟨?_,?_⟩
    trivial
    iterate 5 focus
     refine Ba fun _ w' he R hR=>?_;have hc:=he.cells;have cq0:=(eb.ext he).cells2;have cq1:=he.cell ca0;have cq2:=he.cell ca1;have cq3:=he.cell ca2;have cq4:=he.cell ca3;have cq5:=he.cell cb0;have cq6:=he.cell cb1;have cq7:=he.cell cb2;have cq8:=he.cell cb3;go_simp;exact Bi hR
    ·refine Ba fun _ w' he R hR=>?_
     go_simp;exact Bg (Dr _ _ y t w' (HX.out.2.ext (hx1.trans he).a3) (HY.out.2.ext (hx1.trans he).a3)) hR
   intro γ w8 hx9 hF;have p5:AC w8 (γ 5) (y*t):=Av.get hF 5 Ab;clear hF;simp only[Bd,Nat.reduceAdd];generalize γ 5=g5 at *;clear γ
   go_wp2_with fail
   refine AR (JM _ _ (x*t+s*y) (y*t) _ ((p10.ext hx9).has Aa) (p5.has Aa)) ?_;rintro r w10 hr hx10;rw[<-Hz.out]at hr;clear hc1 p5 ca0 ca1 ca2 ca3 cb0 cb1 cb2 cb3 ceb feb;replace hx1:=(hx1.trans hx9).trans hx10;clear hx9 hx10;obtain⟨b5,A5,n5,c5,b6,A6,n6,c6,rfl⟩:=hr.cells;have hc1:=hx1.cells;have hf1:=hx1.frozens;have Hfin:=Ad (Dm hr hx1.a3 (AJ.at_ hx1 (g:=w.heap.size+2) Ac (by simp[Ag])) Aa);clear hr
   go_wp2;refine bodyPost_ret (v := .agg #[.bool b5,.slice A5 n5 c5,.bool b6,.slice A6 n6 c6]) (by simp[results,Tryz.results123,go_sem,hc1]) rfl ?_;exact Hfin.out
  ·go_wp2_with fail
   refine AR (N8 _ _ x s _ (HX.out.1.ext hx1.a3) (HY.out.1.ext hx1.a3)) ?_;rintro r w6 hn hx3;clear hc1 hf1;replace hx1:=hx1.trans hx3;clear hx3;have hc1:=hx1.cells;have hf1:=hx1.frozens
   go_wp2_with fail
   refine AR (Jn 1 _ Aa Aa) ?_;rintro r w7 h1' hx3;clear hc1 hf1;replace hx1:=hx1.trans hx3;replace hn:=hn.ext hx3;clear hx3;obtain⟨b5,A5,n5,c5,rfl⟩:=hn.cells;obtain⟨b6,A6,n6,c6,rfl⟩:=h1'.cells;have e9:Rat.divInt (x*t+s*y) (y*t)=((x+s:Int):Rat):=by rw[H1.out Ac,H2.out Ac,Int.mul_one,Int.mul_one,Int.mul_one];exact YC _
   have hr:=BQ.mk_ hn h1' (q:=p+q) (by rw[Hz.out,e9];rfl) (by rw[Hz.out,e9];rfl);clear hn h1';have E9:=Ad e9;clear e9;have hc1:=hx1.cells;have hf1:=hx1.frozens;have Hfin:=Ad (Dm hr hx1.a3 (AJ.at_ hx1 (g:=w.heap.size+2) Ac (by simp[Ag])) Aa);clear hr;go_wp2;refine bodyPost_ret (v := .agg #[.bool b5,.slice A5 n5 c5,.bool b6,.slice A6 n6 c6]) (by simp[results,Tryz.results123,go_sem,hc1]) rfl ?_;exact Hfin.out
theorem jH(n:Int)(w:World)(h1 : -9223372036854775808<=n)(h2:n < 9223372036854775808):Bj 75 #[.int .i64 n] w (fun r w'=>BQ w' r (n:Rat)):=by
 go_enter Tryz.func75,Tryz.ntmps75
 go_wp2_with fail
 refine AR (Yh n _ h1 h2) ?_;rintro r w1 hn hx1
 go_wp2_with fail
 refine AR (Yh 1 _ Aa Aa) ?_;rintro r w2 h1' hx2;replace hn:=hn.ext hx2;replace hx1:=hx1.trans hx2;clear hx2;obtain⟨b5,A5,n5,c5,rfl⟩:=hn.cells;obtain⟨b6,A6,n6,c6,rfl⟩:=h1'.cells;have hr:=BQ.mk_ hn h1' (q:=(n:Rat)) rfl rfl;clear hn h1';have hc1:=hx1.cells;have hf1:=hx1.frozens;have Hfin:=Ad (Dm hr hx1.a1 (AJ.at_ hx1 (g:=w.heap.size+0) Ac (by simp[Ag])) Aa);clear hr;go_wp2;refine bodyPost_ret (v := .agg #[.bool b5,.slice A5 n5 c5,.bool b6,.slice A6 n6 c6]) (by simp[results,Tryz.results75,go_sem,hc1]) rfl ?_
 exact Hfin.out
theorem OM(v u:Value)(x y:Int)(w:World)(hv:Bh w v x)(hu:Bh w u y)(sx:sz x.natAbs<=549755813888)(sy:sz y.natAbs<=549755813888):Bj 59 #[v,u] w (fun r w'=>BQ w' r (Rat.divInt x y)):=by
 have HX:=Ad hv;have HY:=Ad hu;obtain⟨neg,A,n,c,N,rfl,-,-,-,-,-⟩:=hv.form;obtain⟨neg',A',n',c',M,rfl,-,-,-,-,-⟩:=hu.form;clear hv hu;have HS:=Ad (Au sx sy);clear sx sy
 go_enter Tryz.func59,Tryz.ntmps59
 go_wp2_with fail
 refine AR (MO _ y _ (HY.out.ext ((((Ext.refl w).alloc _).alloc _).alloc _))) ?_;rintro r w1 rfl hx1;by_cases hy0:y=0
 ·have hb:(y.sign==0)=true:=by rw[hy0];rfl
  have Hz:=Ad (show Rat.divInt x y=((0:Int):Rat) by rw[hy0,Rat.divInt_zero];rfl);clear hy0
  go_wp2_with fail
  refine AR (jH 0 _ Aa Aa) ?_;rintro r w2 hr hx2;replace hx1:=hx1.trans hx2;clear hx2;rw[<-Hz.out]at hr;obtain⟨b5,A5,n5,c5,b6,A6,n6,c6,rfl⟩:=hr.cells;have hc1:=hx1.cells;have hf1:=hx1.frozens;have Hfin:=Ad (Dm hr hx1.a3 (AJ.at_ hx1 (g:=w.heap.size+2) Ac (by simp[Ag])) Aa);clear hr;go_wp2;refine bodyPost_ret (v := .agg #[.bool b5,.slice A5 n5 c5,.bool b6,.slice A6 n6 c6]) (by simp[results,Tryz.results59,go_sem,hc1]) rfl ?_
  exact Hfin.out
 have hb:(y.sign==0)=false:=by simpa[Int.sign_eq_zero_iff_zero] using hy0
 have Hy:=Ad (Au hy0 (Au (iC (x:=x) hy0) (dS (x:=x) hy0 HS.out.2)));have HG:=Ad (Vh (x:=x) hy0);clear hy0;have ca0:=hx1.a1.a1.box (g:=w.heap.size) (i:=0) rfl rfl;have ca1:=hx1.a1.a1.box (g:=w.heap.size) (i:=1) rfl rfl;have cb0:=hx1.a1.box (g:=w.heap.size+1) (i:=0) Ac rfl;have cb1:=hx1.a1.box (g:=w.heap.size+1) (i:=1) Ac rfl
 go_wp2_with fail
 refine AR (jQ _ _ x y _ (HX.out.ext hx1.a3) (HY.out.ext hx1.a3) HS.out.1 HS.out.2) ?_;rintro r w2 hr hx2;replace hx1:=hx1.trans hx2;clear hx2 ca0 ca1 cb0 cb1;obtain⟨b5,A5,n5,c5,rfl⟩:=hr.cells;have ca0:=hx1.a1.a1.box (g:=w.heap.size) (i:=0) rfl rfl;have ca1:=hx1.a1.a1.box (g:=w.heap.size) (i:=1) rfl rfl;have cb0:=hx1.a1.box (g:=w.heap.size+1) (i:=0) Ac rfl;have cb1:=hx1.a1.box (g:=w.heap.size+1) (i:=1) Ac rfl
 go_upto_region 4 with(fail)
 have hgg:w.heap.size+1+1+1<=w2.heap.size:=by have:=hx1.size;simpa using this
 obtain⟨W5,eW5,e5,x5⟩:=Be.made w2 26 #[.bool b5,.slice A5 n5 c5] (by simp[Ag]);rw[<-eW5];clear eW5;replace hr:=hr.ext x5;replace hx1:=hx1.trans x5;clear x5;generalize w2.heap.size=gg at *;clear ca0 ca1 cb0 cb1;have ca0:=hx1.a1.a1.box (g:=w.heap.size) (i:=0) rfl rfl;have ca1:=hx1.a1.a1.box (g:=w.heap.size) (i:=1) rfl rfl;have cb0:=hx1.a1.box (g:=w.heap.size+1) (i:=0) Ac rfl;have cb1:=hx1.a1.box (g:=w.heap.size+1) (i:=1) Ac rfl
 have ce5:=e5.cells2;have fe5:=e5.frozen
 go_wp2_with fail
 refine AR (MO _ y _ (HY.out.ext hx1.a3)) ?_;rintro r w7 rfl hx2;replace hr:=hr.ext hx2;replace e5:=e5.ext hx2;replace hx1:=hx1.trans hx2;clear hx2;clear ca0 ca1 cb0 cb1 ce5 fe5;by_cases hyn:y < 0
 ·have hb:decide (y.sign < 0)=true:=by rw[Int.sign_eq_neg_one_of_neg hyn];rfl
  have hr':AC w7 (.agg #[.bool b5,.slice A5 n5 c5]) ((Int.gcd x y:Nat):Int):=hr;have Hg:=Ad (show -((Int.gcd x y:Nat):Int)=LP x y by unfold LP;rw[if_pos hyn]);have Hr:=Ad (hr.has (show sz (((Int.gcd x y:Nat):Int)).natAbs<=1099511627776 by
   have:=Hy.out.2.2;rw[<-Hg.out,Int.natAbs_neg]at this;omega));clear hr hr'
  have ca0:=hx1.a1.a1.box (g:=w.heap.size) (i:=0) rfl rfl;have ca1:=hx1.a1.a1.box (g:=w.heap.size) (i:=1) rfl rfl;have cb0:=hx1.a1.box (g:=w.heap.size+1) (i:=0) Ac rfl;have cb1:=hx1.a1.box (g:=w.heap.size+1) (i:=1) Ac rfl;have ce5:=e5.cells2;have fe5:=e5.frozen
  go_wp2_with fail
  refine AR (Qr _ _ _ Hr.out) ?_;rintro r w8 hr2 hx2;rw[Hg.out]at hr2;replace e5:=e5.ext hx2;replace hx1:=hx1.trans hx2;clear hx2;obtain⟨b3,A3,n3,c3,rfl⟩:=hr2.cells;clear ca0 ca1 cb0 cb1 ce5 fe5 Hr hyn hb;have ca0:=hx1.a1.a1.box (g:=w.heap.size) (i:=0) rfl rfl;have ca1:=hx1.a1.a1.box (g:=w.heap.size) (i:=1) rfl rfl;have cb0:=hx1.a1.box (g:=w.heap.size+1) (i:=0) Ac rfl;have cb1:=hx1.a1.box (g:=w.heap.size+1) (i:=1) Ac rfl
  have ce5:=e5.cells2;have fe5:=e5.frozen
  go_upto_region 6 with(fail)
  obtain⟨W9,eW,e5',U⟩:=e5.put2 (.bool b3) (.slice A3 n3 c3);rw[<-eW];clear eW e5;replace hr2:=hr2.kd U.kd;replace hx1:=U.from_ hx1 Ak;have e5:=e5';clear U e5';have hr:=hr2;clear hr2 ca0 ca1 cb0 cb1 ce5 fe5;have ca0:=hx1.a1.a1.box (g:=w.heap.size) (i:=0) rfl rfl;have ca1:=hx1.a1.a1.box (g:=w.heap.size) (i:=1) rfl rfl;have cb0:=hx1.a1.box (g:=w.heap.size+1) (i:=0) Ac rfl;have cb1:=hx1.a1.box (g:=w.heap.size+1) (i:=1) Ac rfl
  have ce5:=e5.cells2;have fe5:=e5.frozen
  go_wp2_with fail
  refine CV 2 [18,19] [5] [_] [(kv ?_),(fun γ=>γ 1)] (fun γ w'=>[True,AC w' (γ 1) 1]) ?s1 ?_
  case s1 =>
   iterate 2 refine⟨?_,?_⟩
   trivial
   iterate 1 focus
    refine Ba fun _ w' he R hR=>?_;have hc:=he.cells;have cq0:=(e5.ext he).cells2;go_simp;exact Bi hR
   ·refine Ba fun _ w' he R hR=>?_
    go_simp;exact Bg (Yh 1 w' Aa Aa) hR
  intro γ w7 hx7 hF;have p1:AC w7 (γ 1) 1:=Av.get hF 1 Ab;clear hF;simp only[Bd,Nat.reduceAdd];generalize γ 1=g1 at *;clear γ
  go_wp2_with fail
  refine AR (PN _ _ _ 1 _ (hr.ext hx7) p1) ?_;rintro r w8 rfl hx8;replace hx8:=hx7.trans hx8;replace hr:=hr.ext hx8;replace e5:=e5.ext hx8;replace hx1:=hx1.trans hx8;clear hx8;clear ca0 ca1 cb0 cb1 ce5 fe5 p1 hx7;have ca0:=hx1.a1.a1.box (g:=w.heap.size) (i:=0) rfl rfl;have ca1:=hx1.a1.a1.box (g:=w.heap.size) (i:=1) rfl rfl;have cb0:=hx1.a1.box (g:=w.heap.size+1) (i:=0) Ac rfl;have cb1:=hx1.a1.box (g:=w.heap.size+1) (i:=1) Ac rfl
  have ce5:=e5.cells2;have fe5:=e5.frozen;by_cases h1:LP x y=1
  ·have hb:decide (LP x y=1)=true:=decide_eq_true h1
   have H1:=Ad h1;clear h1
   go_wp2_with fail
   refine CV 3 [21,22,23] [2,3] [_,_] [(kv ?_),(fun γ=>γ 1),(kv ?_)] (fun γ w'=>[True,AC w' (γ 1) x,True]) ?s2 ?_
   case s2 =>
    iterate 3 refine⟨?_,?_⟩
    trivial
    iterate 1 focus
     refine Ba fun _ w' he R hR=>?_;have hc:=he.cells;have cq0:=he.cell ca0;have cq1:=he.cell ca1;have cq2:=he.cell cb0;have cq3:=he.cell cb1;go_simp;exact Bi hR
    ·refine Ba fun _ w' he R hR=>?_
     go_simp;exact Bg (FC _ x w' (HX.out.ext (hx1.trans he).a3)) hR
    iterate 1 focus
     refine Ba fun _ w' he R hR=>?_;have hc:=he.cells;have cq0:=he.cell ca0;have cq1:=he.cell ca1;have cq2:=he.cell cb0;have cq3:=he.cell cb1;go_simp;exact Bi hR
   intro γ w9 hx9 hF;have p1:AC w9 (γ 1) x:=Av.get hF 1 Ab;clear hF;simp only[Bd,Nat.reduceAdd];generalize γ 1=g1 at *;clear γ;clear ca0 ca1 cb0 cb1 ce5 fe5;replace hx1:=hx1.trans hx9;have ca0:=hx1.a1.a1.box (g:=w.heap.size) (i:=0) rfl rfl;have ca1:=hx1.a1.a1.box (g:=w.heap.size) (i:=1) rfl rfl;have cb0:=hx1.a1.box (g:=w.heap.size+1) (i:=0) Ac rfl;have cb1:=hx1.a1.box (g:=w.heap.size+1) (i:=1) Ac rfl
   go_wp2_with fail
   refine AR (FC _ y _ (HY.out.ext hx1.a3)) ?_;rintro r w10 h1' hx10;replace p1:=p1.ext hx10;replace hx1:=hx1.trans hx10;clear ca0 ca1 cb0 cb1 hx10 hx9;obtain⟨b5,A5,n5,c5,rfl⟩:=p1.cells;obtain⟨b6,A6,n6,c6,rfl⟩:=h1'.cells;have hr:=BQ.mk_ p1 h1' (q:=Rat.divInt x y) (by rw[HG.out.1,H1.out,Int.ediv_one]) (by rw[HG.out.2,H1.out,Int.ediv_one]);clear p1 h1';have hc1:=hx1.cells;have hf1:=hx1.frozens;have Hfin:=Ad (Dm hr hx1.a3 (AJ.at_ hx1 (g:=w.heap.size+2) Ac (by simp[Ag])) Aa)
   clear hr;go_wp2;refine bodyPost_ret (v := .agg #[.bool b5,.slice A5 n5 c5,.bool b6,.slice A6 n6 c6]) (by simp[results,Tryz.results59,go_sem,hc1]) rfl ?_;exact Hfin.out
  ·have hb:decide (LP x y=1)=false:=decide_eq_false h1
   have Hr:=Ad (hr.has (show sz (LP x y).natAbs<=1099511627776 by have:=Hy.out.2.2;omega));clear h1 hr
   go_wp2_with fail
   refine CV 5 [26,27,28,29,30] [2,5,3] [_,_,_] [(kv ?_),(kv ?_),(fun γ=>γ 2),(kv ?_),(kv ?_)] (fun γ w'=>[True,True,AC w' (γ 2) (x / LP x y),True,True]) ?s3 ?_
   case s3 =>
    iterate 5 refine⟨?_,?_⟩
    trivial
    iterate 2 focus
     refine Ba fun _ w' he R hR=>?_;have hc:=he.cells;have cq0:=he.cell ca0;have cq1:=he.cell ca1;have cq2:=he.cell cb0;have cq3:=he.cell cb1;have cq4:=(e5.ext he).cells2;go_simp;exact Bi hR
    ·refine Ba fun _ w' he R hR=>?_
     go_simp;exact Bg (LQ _ _ x _ w' (HX.out.ext (hx1.trans he).a3) (Hr.out.ext he) Hy.out.2.1 HS.out.1 Hy.out.2.2) hR
    iterate 2 focus
     refine Ba fun _ w' he R hR=>?_;have hc:=he.cells;have cq0:=he.cell ca0;have cq1:=he.cell ca1;have cq2:=he.cell cb0;have cq3:=he.cell cb1;have cq4:=(e5.ext he).cells2;go_simp;exact Bi hR
   intro γ w9 hx9 hF;have p2:AC w9 (γ 2) (x / LP x y):=Av.get hF 2 Ab;clear hF;simp only[Bd,Nat.reduceAdd];generalize γ 2=g2 at *;clear γ;clear ca0 ca1 cb0 cb1 ce5 fe5;replace hx1:=hx1.trans hx9;have ca0:=hx1.a1.a1.box (g:=w.heap.size) (i:=0) rfl rfl;have ca1:=hx1.a1.a1.box (g:=w.heap.size) (i:=1) rfl rfl;have cb0:=hx1.a1.box (g:=w.heap.size+1) (i:=0) Ac rfl;have cb1:=hx1.a1.box (g:=w.heap.size+1) (i:=1) Ac rfl
   go_wp2_with fail
   refine AR (LQ _ _ y _ _ (HY.out.ext hx1.a3) (Hr.out.ext hx9) Hy.out.2.1 HS.out.2 Hy.out.2.2) ?_;rintro r w10 h1' hx10;replace p2:=p2.ext hx10;replace hx1:=hx1.trans hx10;clear ca0 ca1 cb0 cb1 hx10 hx9 Hr;obtain⟨b5,A5,n5,c5,rfl⟩:=p2.cells;obtain⟨b6,A6,n6,c6,rfl⟩:=h1'.cells;have hr:=BQ.mk_ p2 h1' (q:=Rat.divInt x y) HG.out.1.symm HG.out.2.symm;clear p2 h1';have hc1:=hx1.cells;have hf1:=hx1.frozens
   have Hfin:=Ad (Dm hr hx1.a3 (AJ.at_ hx1 (g:=w.heap.size+2) Ac (by simp[Ag])) Aa);clear hr;go_wp2;refine bodyPost_ret (v := .agg #[.bool b5,.slice A5 n5 c5,.bool b6,.slice A6 n6 c6]) (by simp[results,Tryz.results59,go_sem,hc1]) rfl ?_;exact Hfin.out
 ·have hb:decide (y.sign < 0)=false:=by
   have:=Hy.out.1;rw[Int.sign_eq_one_of_pos Aa];rfl
  obtain⟨b3,hb3⟩:∃ b3,b3=b5:=⟨_,rfl⟩
  subst hb3;obtain⟨A3,hA3⟩:∃ A3,A3=A5:=⟨_,rfl⟩
  subst hA3;obtain⟨n3,hn3⟩:∃ n3,n3=n5:=⟨_,rfl⟩
  subst hn3;obtain⟨c3,hc3⟩:∃ c3,c3=c5:=⟨_,rfl⟩
  subst hc3;replace hr:AC w7 (.agg #[.bool b3,.slice A3 n3 c3]) (LP x y):=by unfold LP;rw[if_neg hyn];exact hr
  have ca0:=hx1.a1.a1.box (g:=w.heap.size) (i:=0) rfl rfl;have ca1:=hx1.a1.a1.box (g:=w.heap.size) (i:=1) rfl rfl;have cb0:=hx1.a1.box (g:=w.heap.size+1) (i:=0) Ac rfl;have cb1:=hx1.a1.box (g:=w.heap.size+1) (i:=1) Ac rfl;have ce5:=e5.cells2;have fe5:=e5.frozen
  go_wp2_with fail
  refine CV 2 [18,19] [5] [_] [(kv ?_),(fun γ=>γ 1)] (fun γ w'=>[True,AC w' (γ 1) 1]) ?s4 ?_
  case s4 =>
   iterate 2 refine⟨?_,?_⟩
   trivial
   iterate 1 focus
    refine Ba fun _ w' he R hR=>?_;have hc:=he.cells;have cq0:=(e5.ext he).cells2;go_simp;exact Bi hR
   ·refine Ba fun _ w' he R hR=>?_
    go_simp;exact Bg (Yh 1 w' Aa Aa) hR
  intro γ w7 hx7 hF;have p1:AC w7 (γ 1) 1:=Av.get hF 1 Ab;clear hF;simp only[Bd,Nat.reduceAdd];generalize γ 1=g1 at *;clear γ
  go_wp2_with fail
  refine AR (PN _ _ _ 1 _ (hr.ext hx7) p1) ?_;rintro r w8 rfl hx8;replace hx8:=hx7.trans hx8;replace hr:=hr.ext hx8;replace e5:=e5.ext hx8;replace hx1:=hx1.trans hx8;clear hx8;clear ca0 ca1 cb0 cb1 ce5 fe5 p1 hx7;have ca0:=hx1.a1.a1.box (g:=w.heap.size) (i:=0) rfl rfl;have ca1:=hx1.a1.a1.box (g:=w.heap.size) (i:=1) rfl rfl;have cb0:=hx1.a1.box (g:=w.heap.size+1) (i:=0) Ac rfl;have cb1:=hx1.a1.box (g:=w.heap.size+1) (i:=1) Ac rfl
  have ce5:=e5.cells2;have fe5:=e5.frozen;by_cases h1:LP x y=1
  ·have hb:decide (LP x y=1)=true:=decide_eq_true h1
   have H1:=Ad h1;clear h1
   go_wp2_with fail
   refine CV 3 [21,22,23] [2,3] [_,_] [(kv ?_),(fun γ=>γ 1),(kv ?_)] (fun γ w'=>[True,AC w' (γ 1) x,True]) ?s5 ?_
   case s5 =>
    iterate 3 refine⟨?_,?_⟩
    trivial
    iterate 1 focus
     refine Ba fun _ w' he R hR=>?_;have hc:=he.cells;have cq0:=he.cell ca0;have cq1:=he.cell ca1;have cq2:=he.cell cb0;have cq3:=he.cell cb1;go_simp;exact Bi hR
    ·refine Ba fun _ w' he R hR=>?_
     go_simp;exact Bg (FC _ x w' (HX.out.ext (hx1.trans he).a3)) hR
    iterate 1 focus
     refine Ba fun _ w' he R hR=>?_;have hc:=he.cells;have cq0:=he.cell ca0;have cq1:=he.cell ca1;have cq2:=he.cell cb0;have cq3:=he.cell cb1;go_simp;exact Bi hR
   intro γ w9 hx9 hF;have p1:AC w9 (γ 1) x:=Av.get hF 1 Ab;clear hF;simp only[Bd,Nat.reduceAdd];generalize γ 1=g1 at *;clear γ;clear ca0 ca1 cb0 cb1 ce5 fe5;replace hx1:=hx1.trans hx9;have ca0:=hx1.a1.a1.box (g:=w.heap.size) (i:=0) rfl rfl;have ca1:=hx1.a1.a1.box (g:=w.heap.size) (i:=1) rfl rfl;have cb0:=hx1.a1.box (g:=w.heap.size+1) (i:=0) Ac rfl;have cb1:=hx1.a1.box (g:=w.heap.size+1) (i:=1) Ac rfl
   go_wp2_with fail
   refine AR (FC _ y _ (HY.out.ext hx1.a3)) ?_;rintro r w10 h1' hx10;replace p1:=p1.ext hx10;replace hx1:=hx1.trans hx10;clear ca0 ca1 cb0 cb1 hx10 hx9;obtain⟨b5,A5,n5,c5,rfl⟩:=p1.cells;obtain⟨b6,A6,n6,c6,rfl⟩:=h1'.cells;have hr:=BQ.mk_ p1 h1' (q:=Rat.divInt x y) (by rw[HG.out.1,H1.out,Int.ediv_one]) (by rw[HG.out.2,H1.out,Int.ediv_one]);clear p1 h1';have hc1:=hx1.cells;have hf1:=hx1.frozens;have Hfin:=Ad (Dm hr hx1.a3 (AJ.at_ hx1 (g:=w.heap.size+2) Ac (by simp[Ag])) Aa)
   clear hr;go_wp2;refine bodyPost_ret (v := .agg #[.bool b5,.slice A5 n5 c5,.bool b6,.slice A6 n6 c6]) (by simp[results,Tryz.results59,go_sem,hc1]) rfl ?_;exact Hfin.out
  ·have hb:decide (LP x y=1)=false:=decide_eq_false h1
   have Hr:=Ad (hr.has (show sz (LP x y).natAbs<=1099511627776 by have:=Hy.out.2.2;omega));clear h1 hr
   go_wp2_with fail
   refine CV 5 [26,27,28,29,30] [2,5,3] [_,_,_] [(kv ?_),(kv ?_),(fun γ=>γ 2),(kv ?_),(kv ?_)] (fun γ w'=>[True,True,AC w' (γ 2) (x / LP x y),True,True]) ?s6 ?_
   case s6 =>
    iterate 5 refine⟨?_,?_⟩
    trivial
    iterate 2 focus
     refine Ba fun _ w' he R hR=>?_;have hc:=he.cells;have cq0:=he.cell ca0;have cq1:=he.cell ca1;have cq2:=he.cell cb0;have cq3:=he.cell cb1;have cq4:=(e5.ext he).cells2;go_simp;exact Bi hR
    ·refine Ba fun _ w' he R hR=>?_
     go_simp;exact Bg (LQ _ _ x _ w' (HX.out.ext (hx1.trans he).a3) (Hr.out.ext he) Hy.out.2.1 HS.out.1 Hy.out.2.2) hR
    iterate 2 focus
     refine Ba fun _ w' he R hR=>?_;have hc:=he.cells;have cq0:=he.cell ca0;have cq1:=he.cell ca1;have cq2:=he.cell cb0;have cq3:=he.cell cb1;have cq4:=(e5.ext he).cells2;go_simp;exact Bi hR
   intro γ w9 hx9 hF;have p2:AC w9 (γ 2) (x / LP x y):=Av.get hF 2 Ab;clear hF;simp only[Bd,Nat.reduceAdd];generalize γ 2=g2 at *;clear γ;clear ca0 ca1 cb0 cb1 ce5 fe5;replace hx1:=hx1.trans hx9;have ca0:=hx1.a1.a1.box (g:=w.heap.size) (i:=0) rfl rfl;have ca1:=hx1.a1.a1.box (g:=w.heap.size) (i:=1) rfl rfl;have cb0:=hx1.a1.box (g:=w.heap.size+1) (i:=0) Ac rfl;have cb1:=hx1.a1.box (g:=w.heap.size+1) (i:=1) Ac rfl
   go_wp2_with fail
   refine AR (LQ _ _ y _ _ (HY.out.ext hx1.a3) (Hr.out.ext hx9) Hy.out.2.1 HS.out.2 Hy.out.2.2) ?_;rintro r w10 h1' hx10;replace p2:=p2.ext hx10;replace hx1:=hx1.trans hx10;clear ca0 ca1 cb0 cb1 hx10 hx9 Hr;obtain⟨b5,A5,n5,c5,rfl⟩:=p2.cells;obtain⟨b6,A6,n6,c6,rfl⟩:=h1'.cells;have hr:=BQ.mk_ p2 h1' (q:=Rat.divInt x y) HG.out.1.symm HG.out.2.symm;clear p2 h1';have hc1:=hx1.cells;have hf1:=hx1.frozens
   have Hfin:=Ad (Dm hr hx1.a3 (AJ.at_ hx1 (g:=w.heap.size+2) Ac (by simp[Ag])) Aa);clear hr;go_wp2;refine bodyPost_ret (v := .agg #[.bool b5,.slice A5 n5 c5,.bool b6,.slice A6 n6 c6]) (by simp[results,Tryz.results59,go_sem,hc1]) rfl ?_;exact Hfin.out
theorem Lg(v:Value)(q:Rat)(w:World)(hv:BN w v q):Bj 22 #[v] w (fun r w'=>BQ w' r q):=by
 obtain⟨b,A,n,c,b',A',n',c',x,y,rfl,hx,hy,sx,sy,hq⟩:=hv.form;have HX:=Ad hx;have HY:=Ad hy;clear hx hy hv;have Hq:=Ad hq;clear hq
 go_enter Tryz.func22,Tryz.ntmps22
 go_wp2_with fail
 refine AR (OM _ _ x y _ (HX.out.ext (((Ext.refl w).alloc _).alloc _)) (HY.out.ext (((Ext.refl w).alloc _).alloc _)) Aa Aa) ?_;rintro r w1 hr hx1;rw[<-Hq.out]at hr;obtain⟨b5,A5,n5,c5,b6,A6,n6,c6,rfl⟩:=hr.cells;have hc1:=hx1.cells;have hf1:=hx1.frozens;have Hfin:=Ad (Dm hr hx1.a2 (AJ.at_ hx1 (g:=w.heap.size+1) Ac (by simp[Ag])) Aa);clear hr;go_wp2;refine bodyPost_ret (v := .agg #[.bool b5,.slice A5 n5 c5,.bool b6,.slice A6 n6 c6]) (by simp[results,Tryz.results22,go_sem,hc1]) rfl ?_
 exact Hfin.out
theorem YJ(v:Value)(q:Rat)(w:World)(hv:BN w v q):Bj 56 #[v] w (fun r _=>r = .int .i64 (Eb q)):=by
 obtain⟨b,A,n,c,b',A',n',c',x,y,rfl,hx,hy,sx,sy,hq⟩:=hv.form;have HX:=Ad hx;have HY:=Ad hy;clear hx hy hv sx sy;have Hq:=Ad (show Eb q=x.sign*y.sign by rw[hq];exact MC x y);clear hq;have hb:=Ih x y
 go_enter Tryz.func56,Tryz.ntmps56
 go_wp2_with fail
 refine CV 5 [3,4,5,6,7] [1] [_] [(kv ?_),(kv ?_),(fun γ=>γ 2),(kv ?_),(kv ?_)] (fun γ w'=>[True,True,gT w' (γ 2) x.sign,True,True]) ?s1 ?_
 case s1 =>
  iterate 5 refine⟨?_,?_⟩
  trivial
  iterate 2 focus
   refine Ba fun _ w' he R hR=>?_;have hc:=he.cells;go_simp;exact Bi hR
  ·refine Ba fun _ w' he R hR=>?_
   go_simp;exact Bg (MO _ x w' (HX.out.ext he.a1)) hR
  iterate 2 focus
   refine Ba fun _ w' he R hR=>?_;have hc:=he.cells;go_simp;exact Bi hR
 intro γ w1 hx1 hF;have p2:gT w1 (γ 2) x.sign:=Av.get hF 2 Ab;clear hF;simp only[Bd,Nat.reduceAdd];generalize γ 2=g2 at *;clear γ;obtain rfl:g2 = .int .i64 x.sign:=p2
 go_wp2_with fail
 refine AR (MO _ y _ (HY.out.ext hx1.a1)) ?_;rintro r w2 rfl hx2;replace hx1:=hx1.trans hx2;go_wp2
 go_ret
 exact Ah.mk (by rw[Hq.out];rfl) hx1.a1
theorem eD(v:Value)(q:Rat)(w:World)(hv:BN w v q):Bj 55 #[v] w (fun r w'=>BQ w' r (-q)):=by
 obtain⟨b,A,n,c,b',A',n',c',x,y,rfl,hx,hy,sx,sy,hq⟩:=hv.form;have HX:=Ad hx;have HY:=Ad hy;clear hx hy hv;have Hq:=Ad hq;clear hq
 go_enter Tryz.func55,Tryz.ntmps55
 go_wp2_with fail
 refine CV 5 [3,4,5,6,7] [1] [_] [(kv ?_),(kv ?_),(fun γ=>γ 2),(kv ?_),(kv ?_)] (fun γ w'=>[True,True,AC w' (γ 2) (-x),True,True]) ?s2 ?_
 case s2 =>
  iterate 5 refine⟨?_,?_⟩
  trivial
  iterate 2 focus
   refine Ba fun _ w' he R hR=>?_;have hc:=he.cells;go_simp;exact Bi hR
  ·refine Ba fun _ w' he R hR=>?_
   go_simp;exact Bg (Qr _ x w' (HX.out.ext he.a2)) hR
  iterate 2 focus
   refine Ba fun _ w' he R hR=>?_;have hc:=he.cells;go_simp;exact Bi hR
 intro γ w1 hx1 hF;have p2:AC w1 (γ 2) (-x):=Av.get hF 2 Ab;clear hF;simp only[Bd,Nat.reduceAdd];generalize γ 2=g2 at *;clear γ
 go_wp2_with fail
 refine AR (OM _ _ (-x) y _ (p2.has (by rw[Int.natAbs_neg];omega)) (HY.out.ext hx1.a2) (by rw[Int.natAbs_neg];omega) Aa) ?_;rintro r w2 hr hx2;replace hx1:=hx1.trans hx2;clear hx2 p2;rw[<-Rat.neg_divInt,<-Hq.out]at hr;obtain⟨b5,A5,n5,c5,b6,A6,n6,c6,rfl⟩:=hr.cells;have hc1:=hx1.cells;have hf1:=hx1.frozens;have Hfin:=Ad (Dm hr hx1.a2 (AJ.at_ hx1 (g:=w.heap.size+1) Ac (by simp[Ag])) Aa);clear hr;go_wp2
 refine bodyPost_ret (v := .agg #[.bool b5,.slice A5 n5 c5,.bool b6,.slice A6 n6 c6]) (by simp[results,Tryz.results55,go_sem,hc1]) rfl ?_;exact Hfin.out
theorem TY(v u:Value)(p q:Rat)(w:World)(hv:BQ w v p)(hu:BQ w u q):Bj 79 #[v,u] w (fun r _=>r = .bool (decide (p=q))):=by
 obtain⟨b,A,n,c,b',A',n',c',rfl,h1,h2⟩:=hv;obtain⟨d,E,m,e,d',E',m',e',rfl,k1,k2⟩:=hu;have H:=Ad (Au h1 (Au h2 (Au k1 k2)));clear h1 h2 k1 k2
 go_enter Tryz.func79,Tryz.ntmps79
 go_wp2_with fail
 refine AR (PN _ _ p.num q.num _ (H.out.1.ext (((Ext.refl w).alloc _).alloc _)) (H.out.2.2.1.ext (((Ext.refl w).alloc _).alloc _))) ?_;rintro r w1 rfl hx1;have hc1:=hx1.cells;have hf1:=hx1.frozens;by_cases hn:p.num=q.num
 ·have hb:decide (p.num=q.num)=true:=decide_eq_true hn
  have Hn:=Ad hn;clear hn
  go_wp2_with fail
  refine AR (PN _ _ (p.den:Int) (q.den:Int) _ (H.out.2.1.ext hx1.a2) (H.out.2.2.2.ext hx1.a2)) ?_;rintro r w2 rfl hx2;replace hx1:=hx1.trans hx2;clear hx2 hc1 hf1;go_wp2
  go_ret
  refine Ah.mk (show Value.bool (decide ((p.den:Int)=(q.den:Int)))=Value.bool (decide (p=q))from ?_) hx1.a2;exact congrArg _ (decide_eq_decide.2 ⟨fun h=>Rat.ext Hn.out Aa,fun h=>by rw[h]⟩)
 ·have hb:decide (p.num=q.num)=false:=decide_eq_false hn
  have Hn:=Ad hn;clear hn;go_wp2
  go_ret
  refine Ah.mk (show Value.bool false=Value.bool (decide (p=q))from ?_) hx1.a2;exact congrArg _ (decide_eq_false fun h=>Hn.out (by rw[h])).symm
theorem bP(v u:Value)(p q:Rat)(w:World)(hv:BN w v p)(hu:BN w u q)(hs:qsz p+qsz q < 549755813888):Bj 77 #[v,u] w (fun r w'=>BQ w' r (p+q)):=by
 have HV:=Ad hv;have HU:=Ad hu;have s1:=hv.qsz;have s2:=hu.qsz;obtain⟨b,A,n,c,b',A',n',c',x,y,rfl,-⟩:=hv.form;obtain⟨d,E,m,e,d',E',m',e',s,t,rfl,-⟩:=hu.form;clear hv hu;have HS:=Ad (Au (M7 p) (Au (K9 p) (Au (M7 q) (K9 q))));have Hz:=Ad (O1 p q)
 go_enter Tryz.func77,Tryz.ntmps77
 go_wp2_with fail
 refine kJ 6 [7,8,9,10,5,6] [2,3] [_,_] [(kv ?_),(fun γ=>γ 1),(kv ?_),(fun γ=>γ 3),(fun γ=>γ 4),(fun γ=>γ 5)] (fun γ w'=>[True,BQ w' (γ 1) p,True,BQ w' (γ 3) q,Bc w' (γ 4) (w.heap.size+3) #[.bool false,.slice none 0 0,.bool false,.slice none 0 0] 28,Bc w' (γ 5) (w.heap.size+3) #[.bool false,.slice none 0 0,.bool false,.slice none 0 0] 28]) ?s4 ?_
 case s4 =>
  iterate 6 refine⟨?_,?_⟩
  trivial
  iterate 1 focus
   refine Ba fun _ w' he R hR=>?_;have hc:=he.cells;go_simp;exact Bi hR
  ·refine Ba fun _ w' he R hR=>?_
   go_simp;exact Bg (Lg _ p w' (HV.out.ext he.a3)) hR
  iterate 1 focus
   refine Ba fun _ w' he R hR=>?_;have hc:=he.cells;go_simp;exact Bi hR
  ·refine Ba fun _ w' he R hR=>?_
   go_simp;exact Bg (Lg _ q w' (HU.out.ext he.a3)) hR
  ·refine Ba fun _ w' he R hR=>?_
   go_simp;exact hR _ _ ((Ext.refl _).alloc _) rfl (Bc.mk (Nat.le_trans Ac he.size) (by simp[Ag]))
  ·refine Ba fun _ w' he R hR=>?_
   go_simp;exact hR _ _ ((Ext.refl _).alloc _) rfl (Bc.mk (Nat.le_trans Ac he.size) (by simp[Ag]))
 intro γ w1 hx1 hF hA;have na4x5:γ 4≠γ 5:=hA 4 5 Ab Ab Ab ⟨_,_,rfl,rfl⟩ ⟨_,_,rfl,rfl⟩;clear hA;have p1:BQ w1 (γ 1) p:=Av.get hF 1 Ab;have p3:BQ w1 (γ 3) q:=Av.get hF 3 Ab;have p4:Bc w1 (γ 4) (w.heap.size+3) #[.bool false,.slice none 0 0,.bool false,.slice none 0 0] 28:=Av.get hF 4 Ab;have p5:Bc w1 (γ 5) (w.heap.size+3) #[.bool false,.slice none 0 0,.bool false,.slice none 0 0] 28:=Av.get hF 5 Ab;clear hF
 simp only[Bd,Nat.reduceAdd];generalize γ 1=g1 at *;generalize γ 3=g3 at *;generalize γ 4=g4 at *;generalize γ 5=g5 at *;clear γ;obtain⟨ga,rfl,hga,ea⟩:=p4;obtain⟨gb,rfl,hgb,eb⟩:=p5;have hab:ga≠gb:=fun e=>na4x5 (by rw[e]);clear na4x5;obtain⟨b1,A1,n1,c1,b2,A2,n2,c2,rfl⟩:=p1.cells;obtain⟨b3,A3,n3,c3,b4,A4,n4,c4,rfl⟩:=p3.cells;have cea:=ea.cells4;have fea:=ea.frozen;have ceb:=eb.cells4;have feb:=eb.frozen
 go_upto_region 2 with(fail)
 obtain⟨W1,eW,ea',U⟩:=ea.put4 (.bool b1) (.slice A1 n1 c1) (.bool b2) (.slice A2 n2 c2);rw[<-eW];clear eW ea;replace p1:=p1.kd U.kd;replace p3:=p3.kd U.kd;replace eb:=eb.upd U Ak;replace hx1:=U.from_ hx1 Ak;have ea:=ea';clear U ea';obtain⟨W2,eW,eb',U⟩:=eb.put4 (.bool b3) (.slice A3 n3 c3) (.bool b4) (.slice A4 n4 c4);rw[<-eW];clear eW eb;replace p1:=p1.kd U.kd;replace p3:=p3.kd U.kd;replace ea:=ea.upd U Ak
 replace hx1:=U.from_ hx1 Ak;have eb:=eb';clear U eb';clear cea ceb fea feb;have Hp:=Ad p1.parts4;have Hq:=Ad p3.parts4;clear p1 p3;have cea:=ea.cells4;have fea:=ea.frozen;have ceb:=eb.cells4;have feb:=eb.frozen;have m1:=Ji HS.out.1 HS.out.2.2.2;have m2:=Ji HS.out.2.2.1 HS.out.2.1;have m3:=Ji HS.out.2.1 HS.out.2.2.2;have m4:=ZM m1 (show sz (q.num*p.den).natAbs<=qsz p+qsz q by omega);have HB:=Ad (show sz p.num.natAbs<=274877906944/\sz ((p.den:Int)).natAbs<=274877906944/\sz q.num.natAbs<=274877906944/\sz ((q.den:Int)).natAbs<=274877906944 by
  have:=HS.out;omega)
 go_wp2_with fail
 refine CV 15 [11,12,13,14,15,16,17,18,19,20,21,22,23,24,25] [5,6] [_,_] [(kv ?_),(kv ?_),(kv ?_),(kv ?_),(fun γ=>γ 4),(kv ?_),(kv ?_),(kv ?_),(kv ?_),(fun γ=>γ 9),(fun γ=>γ 10),(kv ?_),(kv ?_),(kv ?_),(kv ?_)] (fun γ w'=>[True,True,True,True,AC w' (γ 4) (p.num*q.den),True,True,True,True,AC w' (γ 9) (q.num*p.den),AC w' (γ 10) (p.num*q.den+q.num*p.den),True,True,True,True]) ?s5 ?_
 case s5 =>
  iterate 15 refine⟨?_,?_⟩
  trivial
  iterate 4 focus
   refine Ba fun _ w' he R hR=>?_;have hc:=he.cells;have cq0:=(ea.ext he).cells4;have cq1:=(eb.ext he).cells4;go_simp;exact Bi hR
  ·refine Ba fun _ w' he R hR=>?_
   go_simp;exact Bg (U9 _ _ _ _ w' ((Hp.out.1.ext he).has (by have:=HB.out;omega)) ((Hq.out.2.ext he).has (by have:=HB.out;omega)) (by have:=HB.out;omega) (by have:=HB.out;omega)) hR
  iterate 4 focus
   refine Ba fun _ w' he R hR=>?_;have hc:=he.cells;have cq0:=(ea.ext he).cells4;have cq1:=(eb.ext he).cells4;go_simp;exact Bi hR
  ·refine Ba fun _ w' he R hR=>?_
   go_simp;exact Bg (U9 _ _ _ _ w' ((Hq.out.1.ext he).has (by have:=HB.out;omega)) ((Hp.out.2.ext he).has (by have:=HB.out;omega)) (by have:=HB.out;omega) (by have:=HB.out;omega)) hR
  ·refine FO fun γ w' he hf R hR=>?_;have f4:AC w' (γ 4) (p.num*q.den):=hf 4 Ab;have f9:AC w' (γ 9) (q.num*p.den):=hf 9 Ab;clear hf
   go_simp;exact Bg (WS _ _ _ _ w' (f4.has Aa) (f9.has Aa) Aa Aa) hR
  iterate 4 focus
   refine Ba fun _ w' he R hR=>?_;have hc:=he.cells;have cq0:=(ea.ext he).cells4;have cq1:=(eb.ext he).cells4;go_simp;exact Bi hR
 intro γ w6 hx6 hF;have p4:AC w6 (γ 4) (p.num*q.den):=Av.get hF 4 Ab;have p9:AC w6 (γ 9) (q.num*p.den):=Av.get hF 9 Ab;have p10:AC w6 (γ 10) (p.num*q.den+q.num*p.den):=Av.get hF 10 Ab;clear hF;simp only[Bd,Nat.reduceAdd];generalize γ 4=g4 at *;generalize γ 9=g9 at *;generalize γ 10=g10 at *;clear γ;clear cea ceb fea feb ea eb;replace hx1:=hx1.trans hx6
 go_wp2_with fail
 refine AR (U9 _ _ _ _ _ ((Hp.out.2.ext hx6).has (by have:=HB.out;omega)) ((Hq.out.2.ext hx6).has (by have:=HB.out;omega)) (by have:=HB.out;omega) (by have:=HB.out;omega)) ?_;rintro r w7 p15 hx7;replace p10:=p10.ext hx7;replace hx1:=hx1.trans hx7;clear hx7 hx6 p4 p9
 go_wp2_with fail
 refine AR (OM _ _ _ _ _ (p10.has Aa) (p15.has Aa) Aa Aa) ?_;rintro r w10 hr hx10;rw[Hz.out]at hr;replace hx1:=hx1.trans hx10;clear hx10 p10 p15;obtain⟨b5,A5,n5,c5,b6,A6,n6,c6,rfl⟩:=hr.cells;have hc1:=hx1.cells;have hf1:=hx1.frozens;have Hfin:=Ad (Dm hr hx1.a3 (AJ.at_ hx1 (g:=w.heap.size+2) Ac (by simp[Ag])) Aa);clear hr;go_wp2;refine bodyPost_ret (v := .agg #[.bool b5,.slice A5 n5 c5,.bool b6,.slice A6 n6 c6]) (by simp[results,Tryz.results77,go_sem,hc1]) rfl ?_
 exact Hfin.out
theorem bI(v u:Value)(p q:Rat)(w:World)(hv:BN w v p)(hu:BN w u q)(hs:qsz p+qsz q < 549755813888):Bj 57 #[v,u] w (fun r w'=>BQ w' r (p - q)):=by
 have HV:=Ad hv;have HU:=Ad hu;have hs2:=hu.qsz;obtain⟨b,A,n,c,b',A',n',c',x,y,rfl,-⟩:=hv.form;obtain⟨d,E,m,e,d',E',m',e',s,t,rfl,-⟩:=hu.form;clear hv hu;rw[Rat.sub_eq_add_neg]
 go_enter Tryz.func57,Tryz.ntmps57
 go_wp2_with fail
 refine CV 3 [5,6,7] [2,3] [_,_] [(kv ?_),(kv ?_),(fun γ=>γ 2)] (fun γ w'=>[True,True,BQ w' (γ 2) (-q)]) ?s8 ?_
 case s8 =>
  iterate 3 refine⟨?_,?_⟩
  trivial
  iterate 2 focus
   refine Ba fun _ w' he R hR=>?_;have hc:=he.cells;go_simp;exact Bi hR
  ·refine Ba fun _ w' he R hR=>?_
   go_simp;exact Bg (eD _ q w' (HU.out.ext he.a3)) hR
 intro γ w1 hx1 hF;have p2:BQ w1 (γ 2) (-q):=Av.get hF 2 Ab;clear hF;simp only[Bd,Nat.reduceAdd];generalize γ 2=g2 at *;clear γ
 go_wp2_with fail
 refine AR (bP _ _ p (-q) _ (HV.out.ext hx1.a3) (p2.has (by rw[Gd];exact hs2)) (by rw[Gd];exact hs)) ?_;rintro r w2 hr hx2;replace hx1:=hx1.trans hx2;clear hx2 p2;obtain⟨b5,A5,n5,c5,b6,A6,n6,c6,rfl⟩:=hr.cells;have hc1:=hx1.cells;have hf1:=hx1.frozens;have Hfin:=Ad (Dm hr hx1.a3 (AJ.at_ hx1 (g:=w.heap.size+2) Ac (by simp[Ag])) Aa);clear hr;go_wp2;refine bodyPost_ret (v := .agg #[.bool b5,.slice A5 n5 c5,.bool b6,.slice A6 n6 c6]) (by simp[results,Tryz.results57,go_sem,hc1]) rfl ?_
 exact Hfin.out
theorem JH(v u:Value)(p q:Rat)(w:World)(hv:BN w v p)(hu:BN w u q)(hs:qsz p+qsz q < 274877906944):Bj 20 #[v,u] w (fun r _=>r = .int .i64 (Eb (p - q))):=by
 have HV:=Ad hv;have HU:=Ad hu;obtain⟨b,A,n,c,b',A',n',c',x,y,rfl,-⟩:=hv.form;obtain⟨d,E,m,e,d',E',m',e',s,t,rfl,-⟩:=hu.form;clear hv hu
 go_enter Tryz.func20,Tryz.ntmps20
 go_wp2_with fail
 refine AR (bI _ _ p q _ (HV.out.ext (((Ext.refl w).alloc _).alloc _)) (HU.out.ext (((Ext.refl w).alloc _).alloc _)) Aa) ?_;rintro r w1 hr hx1
 go_wp2_with fail
 refine AR (YJ _ (p - q) _ (hr.has (by have:=OL p q;omega))) ?_;rintro r w2 rfl hx2;go_wp2
 go_ret
 exact Ah.mk rfl (hx1.trans hx2).a2
theorem aI(v u:Value)(p q:Rat)(w:World)(hv:BN w v p)(hu:BN w u q):Bj 99 #[v,u] w (fun r w'=>BQ w' r (p - q)):=by
 have HV:=Ad hv;have HU:=Ad hu;have hs:=hu.qsz;obtain⟨b,A,n,c,b',A',n',c',x,y,rfl,-⟩:=hv.form;obtain⟨d,E,m,e,d',E',m',e',s,t,rfl,-⟩:=hu.form;clear hv hu;rw[Rat.sub_eq_add_neg]
 go_enter Tryz.func99,Tryz.ntmps99
 go_wp2_with fail
 refine CV 3 [5,6,7] [2,3] [_,_] [(kv ?_),(kv ?_),(fun γ=>γ 2)] (fun γ w'=>[True,True,BQ w' (γ 2) (-q)]) ?s1 ?_
 case s1 =>
  iterate 3 refine⟨?_,?_⟩
  trivial
  iterate 2 focus
   refine Ba fun _ w' he R hR=>?_;have hc:=he.cells;go_simp;exact Bi hR
  ·refine Ba fun _ w' he R hR=>?_
   go_simp;exact Bg (aQ _ q w' (HU.out.ext he.a3)) hR
 intro γ w1 hx1 hF;have p2:BQ w1 (γ 2) (-q):=Av.get hF 2 Ab;clear hF;simp only[Bd,Nat.reduceAdd];generalize γ 2=g2 at *;clear γ
 go_wp2_with fail
 refine AR (TS _ _ p (-q) _ (HV.out.ext hx1.a3) (p2.has (by rw[Gd];exact hs))) ?_;rintro r w2 hr hx2;replace hx1:=hx1.trans hx2;clear hx2 p2;obtain⟨b5,A5,n5,c5,b6,A6,n6,c6,rfl⟩:=hr.cells;have hc1:=hx1.cells;have hf1:=hx1.frozens;have Hfin:=Ad (Dm hr hx1.a3 (AJ.at_ hx1 (g:=w.heap.size+2) Ac (by simp[Ag])) Aa);clear hr;go_wp2;refine bodyPost_ret (v := .agg #[.bool b5,.slice A5 n5 c5,.bool b6,.slice A6 n6 c6]) (by simp[results,Tryz.results99,go_sem,hc1]) rfl ?_
 exact Hfin.out
theorem WV(v u:Value)(p q:Rat)(w:World)(hv:BN w v p)(hu:BN w u q)(hs:qsz p+qsz q < 274877906944):Bj 49 #[v,u] w (fun r _=>r = .int .i64 (Eb (p - q))):=by
 have HV:=Ad hv;have HU:=Ad hu;obtain⟨b,A,n,c,b',A',n',c',x,y,rfl,-⟩:=hv.form;obtain⟨d,E,m,e,d',E',m',e',s,t,rfl,-⟩:=hu.form;clear hv hu
 go_enter Tryz.func49,Tryz.ntmps49
 go_wp2_with fail
 refine AR (aI _ _ p q _ (HV.out.ext (((Ext.refl w).alloc _).alloc _)) (HU.out.ext (((Ext.refl w).alloc _).alloc _))) ?_;rintro r w1 hr hx1
 go_wp2_with fail
 refine AR (NE _ (p - q) _ (hr.has (by have:=OL p q;omega))) ?_;rintro r w2 rfl hx2;go_wp2
 go_ret
 exact Ah.mk rfl (hx1.trans hx2).a2
theorem bV{q:Rat}(h:q=0):(Eb q==0)=true:=by subst h;rfl
theorem dM{q:Rat}(h:q≠0):(Eb q==0)=false:=by simpa[Km] using h
theorem dR(v:Value)(q:Rat)(w:World)(hv:BN w v q):Bj 179 #[v] w (fun r _=>r = .bool (Eb q==0)):=by
 have HV:=Ad hv;obtain⟨b,A,n,c,b',A',n',c',x,y,rfl,-⟩:=hv.form;clear hv
 go_enter Tryz.func179,Tryz.ntmps179
 go_wp2_with fail
 refine AR (NE _ q _ (HV.out.ext ((Ext.refl w).alloc _))) ?_;rintro r w1 rfl hx1;go_wp2
 go_ret
 exact Ah.mk rfl hx1.a1
/-- qpoly.trimmed: without the zeros at the end,in place. -/
theorem Ht(base:Nat)(A:Option Addr)(c:Nat)(l:List Rat)(w:World)(hl:l.length<=c)(hc:c<=9223372036854775807)(hA:MM base w A l) :
  Calls Tryz.prog 158 #[.slice A l.length c] w fun e w'=>e = .returned (.slice A (BR l).length c)/\w=w':=by
 go_enter Tryz.func158,Tryz.ntmps158
 go_wp2
 go_loop [0] (fun v=>∃ m:Nat,m<=l.length/\v = .slice A m c/\∀ j,m<=j->(h:j < l.length)->l[j]=0) (fun v=>match v with | .slice _ m _=>m | _=>0)
 case atStart=>exact⟨l.length,Nat.le_refl _,rfl,fun j h1 h2=>Aa⟩
 case round =>
  obtain⟨m,hm,rfl,hz⟩:=hrel;by_cases h0:0 < m
  ·obtain⟨m,rfl⟩:∃ k,m=k+1:=⟨m - 1,Aa⟩
   obtain⟨g,o,b,A1,n,c1,b',A1',n',c',rfl,hb,q0,q1,q2,q3,hq⟩:=hA.at_ (j:=m) Aa;have hn:=hq.num_len;by_cases hd0:l[m]'(Aa)=0
   ·have hb:(((n:Nat):Int)==0)=true:=by rw[hn,hd0];rfl
    clear hA hn;go_wp2
    go_round
    case rel=>exact⟨m,Aa,rfl,fun j h1 h2=>by
     rcases Nat.eq_or_lt_of_le h1 with e | e
     ·subst e;exact hd0
     ·exact hz j Aa h2⟩
    case measure=>simp
   ·have hb:(((n:Nat):Int)==0)=false:=by
     have:=DU (n:=l[m].num.natAbs) (by have:l[m].num≠0:=fun e=>hd0 (Rat.num_eq_zero.1 e);omega);rw[<-hn]at this;simp;omega
    clear hA hn;go_wp2
    go_ret
    have ht:=JI hm hz (fun h _=>by simpa using hd0);have hlen:(BR l).length=m+1:=by rw[ht,List.length_take];omega
    exact⟨by rw[hlen];rfl,rfl⟩
  ·obtain rfl:m=0:=by omega
   go_wp2
   go_ret
   have ht:=JI hm hz (fun h hh=>Aa);have hlen:(BR l).length=0:=by rw[ht];rfl
   exact⟨by rw[hlen];rfl,rfl⟩
theorem RV.trim{base:Nat}{w:World}{A:Option Addr}{l:List Rat}(h:MM base w A l){c:Nat}(hl:l.length<=c)(hc:c<=9223372036854775807:=by omega):RV base w (.slice A (BR l).length c) (BR l):=by
 refine⟨A,c,rfl,by have:=Om l;omega,hc,?_⟩;rw[Fq l];exact Dx.take h _
theorem QM:(Tryz.prog.info? 28).map (fun i=>(i.zero,i.size,i.bytes))=some (some (.agg #[.bool false,.slice none 0 0,.bool false,.slice none 0 0]),4,64):=by kernel_rfl
theorem KP(n:Nat)(x:Int)(hx:x=n)(hn:n<=1099511627776)(w:World):∃ W,(Instr.makeSlice 135 (.int .i64 x) (.int .i64 x)).run Tryz.prog w = .ok (.slice (some ⟨w.heap.size,0,none⟩) n n) W/\CS W w.heap.size 28 (List.replicate n none)/\Ext w W:=by
 subst hx;obtain⟨i0,hi,hz0,hz1,hz2⟩:=info_parts QM;have h:=run_make (P:=Tryz.prog) w 135 28 i0 (.agg #[.bool false,.slice none 0 0,.bool false,.slice none 0 0]) Tryz.underlying135 hi hz0 .i64 .i64 (n:Int) (n:Int) Aa Aa (by rw[hz2];omega) Aa;rw[h,hz1,Int.toNat_natCast];exact⟨_,rfl,CS.new w _ n,(Ext.refl w).alloc _⟩
theorem QV{l:List (Option Rat)}{m:List Rat}{k n:Nat}{q:Rat}(h:l=(m.take k).map some ++ List.replicate (n - k) none)(hk:k < n)(hm:m.length=n)(hq:m[k]'(by omega)=q):l.set k (some q)=(m.take (k+1)).map some ++ List.replicate (n - (k+1)) none:=by
 subst h;have h1:((m.take k).map some:List (Option Rat)).length=k:=by simp;omega
 rw[List.set_append,if_neg (by rw[h1];omega),h1,Nat.sub_self,show n - k=(n - (k+1))+1 from Aa,List.replicate_succ,List.set_cons_zero,List.take_succ_eq_append_getElem Aa,hq];simp
theorem Mw(v:Value)(l:List Rat)(w:World)(hv:RI 0 w v l)(hn:l.length<=1099511627776):Bj 156 #[v] w (fun r w'=>r = .slice (some ⟨w.heap.size,0,none⟩) (BR l).length l.length/\CS w' w.heap.size 28 (l.map some)):=by
 obtain⟨A,c,rfl,hl,hc,hA⟩:=hv;obtain⟨W0,hmk,ea,hx⟩:=KP l.length (l.length:Int) rfl hn w;have HA:Hid (VR 0 w A l):=Ad hA;clear hA
 go_enter Tryz.func156,Tryz.ntmps156
 go_wp2
 go_loopw [11] (fun iv wr=>∃ (k:Nat) (la:List (Option Rat)),k<=l.length/\iv = .int .i64 k/\CS wr w.heap.size 28 la/\la.length=l.length/\la=(l.take k).map some ++ List.replicate (l.length - k) none/\Ext w wr) (fun iv _=>l.length - (intOf iv).toNat)
 case atStart=>exact⟨0,_,Nat.zero_le _,rfl,ea,Ac,Ac,hx⟩
 case round =>
  obtain⟨k,la,hk,rfl,ea,hlen,hla,hx⟩:=hrel;have Hla:=Ad hla;clear hla;have Hlen:=Ad hlen;clear hlen;by_cases hkl:k < l.length
  ·obtain⟨g,o,b,A1,n,c1,b',A1',n',c1',rfl,_,q0,q1,q2,q3,hq⟩:=HA.out.at_ (j:=k) hkl
   replace q0:=hx.cell q0;replace q1:=hx.cell q1;replace q2:=hx.cell q2;replace q3:=hx.cell q3;have Hq:=Ad hq;clear hq
   go_wp2_with fail
   refine AR (GL _ _ _ (Hq.out.ext (hx.alloc _))) ?_;rintro r w2 hr hx2;replace ea:=ea.ext hx2.a1;replace hx:=hx.trans hx2.a1;clear hx2 q0 q1 q2 q3;obtain⟨b5,A5,n5,c5,b6,A6,n6,c6,rfl⟩:=hr.cells;have hkla:k < la.length:=by have:=Hlen.out;omega
   obtain⟨_,_,_,_,_,_,_,_,ca0,ca1,ca2,ca3,-⟩:=ea.at_ (j:=k) (by first | omega | (simp;omega));have fa0:=ea.frozen (k*4);have fa1:=ea.frozen (k*4+1);have fa2:=ea.frozen (k*4+2);have fa3:=ea.frozen (k*4+3);go_wp2;obtain⟨W3,eW,ea',U⟩:=ea.put (k:=k) (by first | omega | (simp;omega)) hr;rw[<-eW];clear eW ea;replace hx:=U.from_ hx Ak;have ea:=ea';clear U ea'
   go_roundw
   case rel=>exact⟨k+1,_,Aa,by go_num,ea,by simpa using Hlen.out,QV Hla.out hkl rfl rfl,hx⟩
   case measure=>simp[intOf];omega
  ·obtain rfl:k=l.length:=by omega
   replace ea:CS wr w.heap.size 28 (l.map some):=by
    have:=Hla.out;rw[Nat.sub_self,List.replicate_zero,List.append_nil,List.take_of_length_le (Nat.le_refl _)]at this;rw[<-this];exact ea
   have hrow:=ea.row (m:=l) rfl (Nat.le_refl _)
   go_wp2_with fail
   refine Calls.mono (Ht w.heap.size _ _ l _ (Nat.le_refl _) Aa hrow) ?_;rintro e w2 ⟨rfl,rfl⟩;go_wp2
   go_ret
   exact Ah.mk ⟨rfl,ea⟩ hx
theorem UZ(v:Value)(l:List Rat)(w:World)(hv:RI 0 w v l)(hn:l.length<=1099511627776):Bj 156 #[v] w (fun r w'=>RV w.heap.size w' r (BR l)):=
 Ah.imp (Mw v l w hv hn) fun _ _ ⟨e,h⟩=>by subst e;exact RV.trim (h.row rfl (Nat.le_refl _)) (Nat.le_refl _) Aa
end Go.Proofs.YtmhgnigpmompmaaGreat
namespace Go.Hp
def F9(k j:Nat)(c:Rat)(R G:Nat->Rat)(n:Nat):Rat:=R n - (if k<=n/\n - k < j then c*G (n - k)else 0)
theorem Og(k:Nat)(c:Rat)(R G:Nat->Rat):F9 k 0 c R G=R:=by
 funext n;unfold F9;rw[if_neg Aa];grind
theorem Li{k m:Nat}{c:Rat}{R G:Nat->Rat}(h:Bq m G):F9 k m c R G=psb R (cv (mono k c) G):=by
 funext n
 rw[Gf];show R n - _=R n - c*sh k G n;unfold sh;by_cases h1:n < k
 ·rw[if_neg Aa,if_pos h1];grind
 ·rw[if_neg h1]
  by_cases h2:n - k < m
  ·rw[if_pos ⟨Aa,h2⟩]
  ·rw[if_neg Aa,h _ Aa];grind
theorem Od(k j:Nat)(c:Rat)(R G:Nat->Rat)(n:Nat):F9 k (j+1) c R G n=if n=k+j then F9 k j c R G n - c*G j else F9 k j c R G n:=by
 unfold F9;by_cases h:n=k+j
 ·subst h;rw[if_pos rfl,if_pos Aa,if_neg Aa,show k+j - k=j from by omega];grind
 ·rw[if_neg h]
  by_cases h2:k<=n/\n - k < j
  ·rw[if_pos h2,if_pos Aa]
  ·rw[if_neg h2,if_neg Aa]
theorem Wq{k j:Nat}{c:Rat}{R G:Nat->Rat}{m s:Nat}(hG:Bq m G)(h1:∀ n,qsz (R n)<=s)(h2:∀ n,qsz (psb R (cv (mono k c) G) n)<=s)(n:Nat):qsz (F9 k j c R G n)<=s:=by
 by_cases h:k<=n/\n - k < j
 ·have e:F9 k j c R G n=psb R (cv (mono k c) G) n:=by
   rw[<-Li hG];unfold F9;rw[if_pos h];by_cases h3:k<=n/\n - k < m
   ·rw[if_pos h3]
   ·rw[if_neg h3,hG _ Aa];grind
  rw[e];exact h2 n
 ·have e:F9 k j c R G n=R n:=by unfold F9;rw[if_neg h];grind
  rw[e];exact h1 n
theorem QZ(l:List Rat):l.map some=El l.length (co l):=by
 apply List.ext_getElem
 ·simp[El]
 ·intro i h1 h2
  have:i < l.length:=by simpa using h1
  simp[El,Fb this]
def JL(w:World)(v:Value)(c:Rat):Prop:=∃ a,v = .tuple #[a,.int .i64 0]/\BQ w a c
theorem JL.ext{w w':World}{v:Value}{c:Rat}(h:JL w v c)(e:Ext w w'):JL w' v c:=by
 obtain⟨a,h1,h2⟩:=h;exact⟨a,h1,h2.ext e⟩
theorem YU{la:List (Option Rat)}{n:Nat}{Q:Nat->Rat}(hl:la.length=n)(h:∀ j (hj:j < la.length),la[j]=some (Q j)):la=El n Q:=by
 apply List.ext_getElem
 ·simp[El,hl]
 ·intro i h1 h2
  rw[h i h1];simp[El]
def K8(F G:Nat->Rat)(n s t i:Nat)(la:List (Option Rat))(Q R:Nat->Rat):Prop:=
 la.length=n/\(∀ j (h:j < la.length),i<=j->la[j]=some (Q j))/\(∀ j,j < i->Q j=0)/\Bq n Q/\Bq (i+pl G - 1) R/\F=pad (cv Q G) R/\CD (s+(n - i)*(t+1)) R
theorem K8.start{F G:Nat->Rat}{n s t:Nat}(hF:Bq (n+pl G - 1) F)(hs:CD s F):K8 F G n s t n (List.replicate n none) pz F:=
 ⟨Ac,fun j h h'=>by simp at h;omega,fun _ _=>rfl,Bq.pz _,hF,by rw[Cv];funext m;simp only[pad,pz];grind,hs.mono Aa⟩
theorem K8.step{F G:Nat->Rat}{n s t k:Nat}{la:List (Option Rat)}{Q R:Nat->Rat}(hG:Ae G)(h0:G≠pz)(hcG:CD t G)(h:K8 F G n s t (k+1) la Q R)(hk:k < n){c:Rat}(hc:c=R (k+pl G - 1) / ld G) :
  K8 F G n s t k (la.set k (some c)) (pad Q (mono k c)) (psb R (cv (mono k c) G)):=by
 obtain⟨h1,h2,h3,h4,h5,h6,h7⟩:=h;have hp:=AQ hG h0;refine⟨by simpa using h1,fun j hj hkj=>?_,fun j hj=>?_,h4.pad ((ER k c).mono Aa),?_,?_,?_⟩
 ·rw[List.getElem_set]
  split
  ·rename_i e;subst e
   show some c=some (Q k+mono k c k);rw[h3 k Aa,K4];congr 1;grind
  ·rename_i e
   rw[h2 j (by simpa using hj) Aa];show some (Q j)=some (Q j+mono k c j);rw[F3 (fun e'=>e e'.symm)];congr 1;grind
 ·show Q j+mono k c j=0
  rw[h3 j Aa,F3 Aa];grind
 ·subst hc
  exact EW hG h0 (h5.mono Aa)
 ·rw[D5]
  funext m
  have:=congrFun h6 m;simp only[pad,psb]at this ⊢;grind
 ·subst hc
  refine(CD.step (n:=k) hG h0 h7 hcG).mono ?_;have:n - k=(n - (k+1))+1:=by omega
  rw[this,Nat.succ_mul];omega
theorem K8.end_{F G:Nat->Rat}{n s t:Nat}{la:List (Option Rat)}{Q R:Nat->Rat}(hF:Ae F)(hG:Ae G)(h0:G≠pz)(h:K8 F G n s t 0 la Q R):la=El n Q/\Q=pq F G/\R=pr F G/\Bq n Q:=by
 obtain⟨h1,h2,h3,h4,h5,h6,h7⟩:=h;have:=IL hF hG h0 ⟨n,h4⟩ h6 (by rwa[Nat.zero_add]at h5);exact⟨YU h1 fun j hj=>h2 j hj (Nat.zero_le _),this.1,this.2,h4⟩
theorem NS{k:Nat}{c:Rat}(h:c=0)(R G:Nat->Rat):psb R (cv (mono k c) G)=R:=by
 funext n;rw[Gf];simp only[psb,psc];rw[h];grind
end Go.Hp
