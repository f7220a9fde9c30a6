/- Lemmas. -/
import Derived.Test.YtmhgnigpmompmaaGreatMl1
import Derived.Deep.RegionWith
import Derived.WalkSmall
import Derived.Lib.RabinKarpLaws
import Derived.Deep.Cut
import Derived.Deep.DeepCutAuto
set_option linter.unusedVariables false
set_option linter.unusedSimpArgs false
set_option maxHeartbeats 16000000
namespace Go.Hp
noncomputable def ld(F:Nat->Rat):Rat:=F (pl F - 1)
def mono(k:Nat)(a:Rat)(n:Nat):Rat:=if n=k then a else 0
def sh(k:Nat)(F:Nat->Rat)(n:Nat):Rat:=if n < k then 0 else F (n - k)
theorem ES(k:Nat)(a:Rat):Be (k+1) (mono k a):=fun i hi=>by unfold mono;rw[if_neg Aa]
theorem Kl(k:Nat)(a:Rat):mono k a k=a:=if_pos rfl
theorem EP{k i:Nat}{a:Rat}(h:i≠k):mono k a i=0:=if_neg h
theorem YJ(F:Nat->Rat):sh 0 F=F:=by funext n;unfold sh;rw[if_neg Aa];rfl
theorem YL(k:Nat)(F:Nat->Rat):sh (k+1) F=cs 0 (sh k F):=by
 funext n
 cases n with
 | zero=>unfold sh;rw[if_pos Aa];rfl
 | succ n =>
  show sh (k+1) F (n+1)=sh k F n;unfold sh;by_cases h:n < k
  ·rw[if_pos h,if_pos Aa]
  ·rw[if_neg h,if_neg Aa,show n+1 - (k+1)=n - k from by omega]
theorem UV(k:Nat)(a:Rat):mono (k+1) a=cs 0 (mono k a):=by
 funext n
 cases n with
 | zero=>unfold mono;rw[if_neg Aa];rfl
 | succ n =>
  show mono (k+1) a (n+1)=mono k a n;unfold mono;by_cases h:n=k
  ·rw[if_pos h,if_pos Aa]
  ·rw[if_neg h,if_neg Aa]
theorem UE(a:Rat):mono 0 a=cs a pz:=by funext n;cases n<;>rfl
theorem FY(k:Nat)(a:Rat)(F:Nat->Rat):cv (mono k a) F=psc a (sh k F):=by
 induction k with
 | zero=>rw[UE,L8,Cn,YJ];funext n;cases n<;>simp only[pad,psc,cs,pz]<;>grind
 | succ k ih=>rw[UV,QU,ih,YL];funext n;cases n<;>simp only[psc,cs]<;>grind
theorem Ae.mono(k:Nat)(a:Rat):Ae (mono k a):=⟨_,ES k a⟩
theorem CV{F:Nat->Rat}(h:Ae F)(h0:F≠pz):ld F≠0:=EA h (Nat.pos_of_ne_zero fun e=>h0 ((BI h).1 e))
theorem AL{F:Nat->Rat}(h:Ae F)(h0:F≠pz):0 < pl F:=Nat.pos_of_ne_zero fun e=>h0 ((BI h).1 e)
theorem EJ{n:Nat}{R G:Nat->Rat}(hG:Ae G)(h0:G≠pz)(hR:Be (n+pl G) R):Be (n+pl G - 1) (psb R (cv (mono n (R (n+pl G - 1) / ld G)) G)):=by
 have hp:=AL hG h0;have hl:=CV hG h0;intro i hi;rw[FY];show R i - _*sh n G i=0;unfold sh;rw[if_neg Aa];rcases Nat.eq_or_lt_of_le hi with e | e
 ·rw[<-e,show n+pl G - 1 - n=pl G - 1 from by omega]
  show _ - _ / ld G*ld G=0;grind
 ·rw[hR i Aa,AA hG (i - n) Aa];grind
theorem GQ{F G:Nat->Rat}(hF:Ae F)(hG:Ae G)(h0:G≠pz):∃ Q R,Ae Q/\F=pad (cv Q G) R/\Be (pl G - 1) R:=by
 have hp:=AL hG h0
 suffices H:∀ n (F:Nat->Rat),Be (n+pl G - 1) F->∃ Q R,Ae Q/\F=pad (cv Q G) R/\Be (pl G - 1) R from by
  obtain⟨n,hn⟩:=hF;exact H n F (hn.mono Aa)
 intro n;induction n with
 | zero=>intro F h;exact⟨pz,F,Ae.pz,by rw[Cn];funext n;simp only[pad,pz];grind,by rwa[Nat.zero_add]at h⟩
 | succ n ih =>
  intro F h;obtain⟨Q,R,h1,h2,h3⟩:=ih _ (EJ (n:=n) hG h0 (show Be (n+pl G) F from h.mono Aa));refine⟨pad (mono n (F (n+pl G - 1) / ld G)) Q,R,(Ae.mono _ _).pad h1,?_,h3⟩;rw[CG]
  funext m
  have:=congrFun h2 m;simp only[pad,psb]at this ⊢;grind
open Classical in
/-- Quotient and remainder. -/
noncomputable def pq(F G:Nat->Rat):Nat->Rat:=if h:Ae F/\Ae G/\G≠pz then(GQ h.1 h.2.1 h.2.2).choose else pz
noncomputable def pr(F G:Nat->Rat):Nat->Rat:=psb F (cv (pq F G) G)
theorem Dm(F G:Nat->Rat):Ae (pq F G):=by
 unfold pq
 split
 ·rename_i h;exact(GQ h.1 h.2.1 h.2.2).choose_spec.choose_spec.1
 ·exact Ae.pz
theorem EX{F G:Nat->Rat}(hF:Ae F)(hG:Ae G):Ae (pr F G):=hF.psb ((Dm F G).cv hG)
theorem JX(F G:Nat->Rat):F=pad (cv (pq F G) G) (pr F G):=by funext n;simp only[pad,pr,psb];grind
theorem Et{F G:Nat->Rat}(hF:Ae F)(hG:Ae G)(h0:G≠pz):Be (pl G - 1) (pr F G):=by
 have h:Ae F/\Ae G/\G≠pz:=⟨hF,hG,h0⟩
 obtain⟨R,h1,h2,h3⟩:=(GQ hF hG h0).choose_spec;have e:pq F G=(GQ hF hG h0).choose:=by unfold pq;rw[dif_pos h]
 have e2:pr F G=R:=by
  unfold pr;rw[e]
  funext n
  have:=congrFun h2 n;simp only[psb,pad]at this ⊢;grind
 rw[e2];exact h3
theorem Ir{F G Q R:Nat->Rat}(hF:Ae F)(hG:Ae G)(h0:G≠pz)(hQ:Ae Q)(h:F=pad (cv Q G) R)(hR:Be (pl G - 1) R):Q=pq F G/\R=pr F G:=
 Mc hG hQ (Dm F G) h0 h (JX F G) hR (Et hF hG h0)
theorem JG{F G:Nat->Rat}(hF:Ae F)(hG:Ae G)(h0:G≠pz):pq (cv F G) G=F/\pr (cv F G) G=pz:=by
 have:=Ir (hF.cv hG) hG h0 hF (R:=pz) (by funext n;simp only[pad,pz];grind) (Be.pz _);exact⟨this.1.symm,this.2.symm⟩
/-! ### divisors -/
def Dv(D F:Nat->Rat):Prop:=∃ Q,Ae Q/\F=cv Q D
theorem Dv.refl(F:Nat->Rat):Dv F F:=⟨pone,⟨1,(Be.pz 0).cs 1⟩,(Br F).symm⟩
theorem Dv.zero(D:Nat->Rat):Dv D pz:=⟨pz,Ae.pz,(Cn D).symm⟩
theorem Dv.trans{D E F:Nat->Rat}(h:Dv D E)(k:Dv E F):Dv D F:=by
 obtain⟨Q,hQ,rfl⟩:=h;obtain⟨S,hS,rfl⟩:=k;exact⟨cv S Q,hS.cv hQ,(Ag _ _ _).symm⟩
theorem Dv.pad{D F G:Nat->Rat}(h:Dv D F)(k:Dv D G):Dv D (pad F G):=by
 obtain⟨Q,hQ,rfl⟩:=h;obtain⟨S,hS,rfl⟩:=k;exact⟨Hp.pad Q S,hQ.pad hS,(CG _ _ _).symm⟩
theorem Dv.psb{D F G:Nat->Rat}(h:Dv D F)(k:Dv D G):Dv D (psb F G):=by
 obtain⟨Q,hQ,rfl⟩:=h;obtain⟨S,hS,rfl⟩:=k;exact⟨Hp.psb Q S,hQ.psb hS,(Fu _ _ _).symm⟩
theorem Dv.psc{D F:Nat->Rat}(a:Rat)(h:Dv D F):Dv D (psc a F):=by
 obtain⟨Q,hQ,rfl⟩:=h;exact⟨Hp.psc a Q,hQ.psc a,(Cv _ _ _).symm⟩
theorem Dv.mul{D F:Nat->Rat}(h:Dv D F){G:Nat->Rat}(hG:Ae G):Dv D (cv G F):=by
 obtain⟨Q,hQ,rfl⟩:=h;exact⟨cv G Q,hG.cv hQ,(Ag _ _ _).symm⟩
theorem Cb(a b:Rat)(F:Nat->Rat):psc a (psc b F)=psc (a*b) F:=by funext n;simp only[psc];grind
theorem Ct(F:Nat->Rat):psc 1 F=F:=by funext n;simp only[psc];grind
theorem ZN{a:Rat}(h:a≠0)(F:Nat->Rat):psc (1 / a) (psc a F)=F:=by rw[Cb,show 1 / a*a=1 from Ad,Ct]
theorem Dv.unit{D F:Nat->Rat}{a:Rat}(h:Dv (Hp.psc a D) F):Dv D F:=by
 obtain⟨Q,hQ,rfl⟩:=h;exact⟨Hp.psc a Q,hQ.psc a,by rw[Cv,MS]⟩
theorem Dv.le{D F:Nat->Rat}(hD:Ae D)(hF:Ae F)(h0:F≠pz)(h:Dv D F):pl D<=pl F:=by
 obtain⟨Q,hQ,rfl⟩:=h;have hD0:D≠pz:=fun e=>h0 (by rw[e,JY]);have hQ0:Q≠pz:=fun e=>h0 (by rw[e,Cn]);rw[Du hQ hD hQ0 hD0];have:=AL hQ hQ0;omega
theorem Ec{a:Rat}(ha:a≠0){F:Nat->Rat}(h:Ae F):pl (psc a F)=pl F:=by
 refine Iq ((AA h).psc a) fun h0 e=>?_;rcases Rat.mul_eq_zero.1 (show a*F (pl F - 1)=0 from e)with e | e
 ·exact ha e
 ·exact EA h h0 e
theorem FM(a:Rat):psc a pz=pz:=by funext n;simp only[psc,pz];grind
noncomputable def mn(F:Nat->Rat):Nat->Rat:=psc (1 / ld F) F
theorem KU:mn pz=pz:=FM _
theorem KH{F:Nat->Rat}(h:Ae F):Ae (mn F):=h.psc _
theorem Jn{a:Rat}(h:a≠0):1 / a≠0:=by intro e;have:1 / a*a=1:=Ad;rw[e]at this;grind
theorem R4{F:Nat->Rat}(h:Ae F):pl (mn F)=pl F:=by
 by_cases h0:F=pz
 ·rw[h0,KU]
 ·exact Ec (Jn (CV h h0)) h
theorem TN{F:Nat->Rat}(h:Ae F)(h0:F≠pz):ld (mn F)=1:=by
 have:=CV h h0;unfold ld;rw[R4 h];show 1 / ld F*ld F=1;grind
theorem jB{F:Nat->Rat}(h:Ae F)(h0:F≠pz):mn F≠pz:=fun e=>by
 have:=R4 h;rw[e,BR]at this;have:=AL h h0;omega
theorem FV{F:Nat->Rat}(h:Ae F):Dv (mn F) F:=by
 by_cases h0:F=pz
 ·rw[h0];exact Dv.zero _
 ·exact⟨psc (ld F) pone,Ae.psc _ ⟨1,(Be.pz 0).cs 1⟩,by
   have:=CV h h0;rw[Cv,Br];unfold mn;rw[Cb,show ld F*(1 / ld F)=1 from Ad,Ct]⟩
theorem FQ(F:Nat->Rat):Dv F (mn F):=(Dv.refl F).psc _
def KQ(F G D:Nat->Rat):Prop:=Ae D/\(D≠pz->ld D=1)/\Dv D F/\Dv D G/\∀ E,Ae E->Dv E F->Dv E G->Dv E D
theorem La{F:Nat->Rat}(h:Dv pz F):F=pz:=by obtain⟨Q,_,rfl⟩:=h;exact JY Q
theorem TT{D E:Nat->Rat}(hD:Ae D)(hE:Ae E)(h1:D≠pz->ld D=1)(h2:E≠pz->ld E=1)(h:Dv D E)(k:Dv E D):D=E:=by
 by_cases h0:D=pz
 ·subst h0;exact(La h).symm
 ·have hE0:E≠pz:=fun e=>h0 (by rw[e]at k;exact La k)
  have l1:=h.le hD hE hE0;have l2:=k.le hE hD h0;obtain⟨Q,hQ,e⟩:=h;have hQ0:Q≠pz:=fun e'=>hE0 (by rw[e,e',Cn]);have hl:=Du hQ hD hQ0 h0;rw[<-e]at hl;have hp:=AL hQ hQ0;have hp2:=AL hD h0;have hq1:pl Q=1:=by omega
  have hq:Q=cs (Q 0) pz:=by
   have:=AA hQ;rw[hq1]at this
   funext n
   cases n with
   | zero=>rfl
   | succ n=>exact this (n+1) Aa
  have e2:E=psc (Q 0) D:=by
   rw[e,hq,L8,Cn]
   funext n
   cases n<;>simp only[pad,psc,cs,pz]<;>grind
  have e3:ld E=Q 0*ld D:=by
   unfold ld;rw[show pl E=pl D from Aa,e2];rfl
  rw[h1 h0,h2 hE0]at e3;rw[e2,show Q 0=1 from Ad,Ct]
theorem KQ.uniq{F G D E:Nat->Rat}(h:KQ F G D)(k:KQ F G E):D=E:=
 TT h.1 k.1 h.2.1 k.2.1 (k.2.2.2.2 D h.1 h.2.2.1 h.2.2.2.1) (h.2.2.2.2 E k.1 k.2.2.1 k.2.2.2.1)
theorem KQ.of{F G F' G' D:Nat->Rat}(h:∀ E,Ae E->(Dv E F/\Dv E G↔Dv E F'/\Dv E G'))(k:KQ F G D):KQ F' G' D:=by
 obtain⟨a,b,c,d,e⟩:=k;have:=(h D a).1 ⟨c,d⟩;exact⟨a,b,this.1,this.2,fun E hE h1 h2=>by have:=(h E hE).2 ⟨h1,h2⟩;exact e E hE this.1 this.2⟩
theorem KQ.zero{F:Nat->Rat}(h:Ae F):KQ F pz (mn F):=
 ⟨KH h,fun h0=>TN h fun e=>h0 (by rw[e,KU]),FV h,Dv.zero _,fun E _ h1 _=>h1.trans (FQ F)⟩
theorem LD{F G E:Nat->Rat}:Dv E G/\Dv E (pr F G)↔Dv E F/\Dv E G:=by
 have e:=JX F G;constructor
 ·rintro⟨h1,h2⟩
  refine⟨?_,h1⟩;rw[e];exact(h1.mul (Dm F G)).pad h2
 ·rintro⟨h1,h2⟩
  exact⟨h2,h1.psb (h2.mul (Dm F G))⟩
theorem NT{F E:Nat->Rat}(h:Ae F):Dv E (mn F)↔Dv E F:=⟨fun(k:Dv E (mn F))=>k.trans (FV h),fun(k:Dv E F)=>k.trans (FQ F)⟩
/-! ### the cofactors -/
def jT(F G D U V:Nat->Rat):Prop:=KQ F G D/\Ae U/\Ae V/\pad (cv U F) (cv V G)=D/\Be (pl G - pl D) U
theorem jT.uniq{F G D U V D' U' V':Nat->Rat}(hG:Ae G)(h0:G≠pz)(h:jT F G D U V)(k:jT F G D' U' V'):D=D'/\U=U'/\V=V':=by
 obtain⟨h1,h2,h3,h4,h5⟩:=h;obtain⟨k1,k2,k3,k4,k5⟩:=k;obtain rfl:=h1.uniq k1;have hD0:D≠pz:=fun e=>h0 (La (by have:=h1.2.2.2.1;rwa[e]at this));obtain⟨A,hA,eA⟩:=h1.2.2.1;obtain⟨B,hB,eB⟩:=h1.2.2.2.1;have hB0:B≠pz:=fun e=>h0 (by rw[eB,e,Cn])
 -- U A+V B=1
 have c1:∀ {X Y:Nat->Rat},Ae X->Ae Y->cv X D=cv Y D->X=Y:=by
  intro X Y hX hY e;have:cv (psb X Y) D=pz:=by rw[Fu,e];funext n;simp only[psb,pz];grind
  rcases H6 (hX.psb hY) h1.1 this with e | e
  ·funext n;have:=congrFun e n;simp only[psb,pz]at this;grind
  ·exact absurd e hD0
 have hp1:Ae pone:=⟨1,(Be.pz 0).cs 1⟩
 have one:pad (cv U A) (cv V B)=pone:=by
  apply c1 ((h2.cv hA).pad (h3.cv hB)) hp1
  rw[CG,Ag,Ag,<-eA,<-eB,h4,Br]
 -- (U - U') F=(V' - V) G
 have e1:cv (psb U U') A=cv (psb V' V) B:=by
  apply c1 ((h2.psb k2).cv hA) ((k3.psb h3).cv hB)
  rw[Ag,Ag,<-eA,<-eB,Fu,Fu];have:=h4.trans k4.symm
  funext n
  have:=congrFun this n;simp only[pad,psb]at this ⊢;grind
 -- B divides U - U'
 have e2:Dv B (psb U U'):=by
  have:psb U U'=pad (cv (cv U (psb V' V)) B) (cv (cv V (psb U U')) B):=by
   calc psb U U'=cv (psb U U') pone:=(Ew _).symm
    _=pad (cv U (cv (psb U U') A)) (cv V (cv (psb U U') B)):=by
     rw[<-one,Ez,<-Ag,<-Ag,Av (psb U U') U,Av (psb U U') V,Ag,Ag]
    _=_:=by rw[e1,Ag,Ag]
  rw[this];exact((Dv.refl B).mul (h2.cv (k3.psb h3))).pad ((Dv.refl B).mul (h3.cv (h2.psb k2)))
 have hpB:pl G=pl B+pl D - 1:=by rw[eB];exact Du hB h1.1 hB0 hD0
 have hz:psb U U'=pz:=by
  by_cases hz:psb U U'=pz
  ·exact hz
  ·have l1:=e2.le hB (h2.psb k2) hz
   have l2:=BD (h5.psb k5);have l3:=AL (h2.psb k2) hz;have l4:=AL h1.1 hD0;omega
 have hU:U=U':=by funext n;have:=congrFun hz n;simp only[psb,pz]at this;grind
 refine⟨rfl,hU,?_⟩;subst hU;have:cv (psb V V') G=pz:=by
  rw[Fu];have:=h4.trans k4.symm
  funext n
  have:=congrFun this n;simp only[pad,psb,pz]at this ⊢;grind
 rcases H6 (h3.psb k3) hG this with e | e
 ·funext n;have:=congrFun e n;simp only[psb,pz]at this;grind
 ·exact absurd e h0
/-! ### roots -/
theorem DJ{n:Nat}(F:Nat->Rat)(x:Rat):CL (n+1) F x=F 0+x*CL n (tl F) x:=rfl
def YR(n:Nat)(F:Nat->Rat)(x:Rat)(i:Nat):Rat:=CL n (fun j=>F (i+1+j)) x
theorem Zf{n:Nat}{F:Nat->Rat}(h:Be (n+1) F)(x:Rat):Be n (YR n F x):=fun i hi=>by
 have:(fun j=>F (i+1+j))=pz:=by funext j;exact h _ Aa
 unfold YR;rw[this,SC]
theorem eU{n:Nat}{F:Nat->Rat}(h:Be (n+1) F)(x:Rat):F=pad (cv (cs (-x) pone) (YR n F x)) (cs (ev F x) pz):=by
 rw[L8,Br];have step:∀ i,CL (n+1) (fun j=>F (i+j)) x=F i+x*YR n F x i:=fun i=>by
  rw[DJ];unfold YR;have:tl (fun j=>F (i+j))=fun j=>F (i+1+j):=by funext j;show F (i+(j+1))=_;rw[show i+(j+1)=i+1+j from by omega]
  rw[this];rfl
 funext i
 cases i with
 | zero =>
  have h0:=step 0;rw[show(fun j=>F (0+j))=F from by funext j;rw[Nat.zero_add],<-Ee h]at h0;simp only[pad,psc,cs];rw[h0];grind
 | succ i =>
  have h1:=step (i+1);have h2:CL (n+1) (fun j=>F (i+1+j)) x=YR n F x i:=by
   unfold YR;exact Lx (fun j hj=>h _ Aa) Aa x
  rw[h2]at h1;simp only[pad,psc,cs,pz];rw[h1];grind
theorem GA:∀ {l:List Rat} {F:Nat->Rat},Be l.length F->l.Nodup->(∀ x∈l,ev F x=0)->F=pz
 | [],_,h,_,_=>h.zero
 | x::l,F,h,hn,hr=>by
  have e:=eU (n:=l.length) h x;have hs:=Zf (n:=l.length) h x;rw[hr x List.mem_cons_self]at e;have e2:F=cv (cs (-x) pone) (YR l.length F x):=by
   have:cs (0:Rat) pz=pz:=by funext n;cases n<;>rfl
   rw[this]at e
   funext n
   have:=congrFun e n;simp only[pad,pz]at this;rw[this];grind
  have hp:Ae (cs (-x) pone):=Ae.cs _ ⟨1,(Be.pz 0).cs 1⟩;have hz:YR l.length F x=pz:=by
   apply GA hs (List.nodup_cons.1 hn).2
   intro y hy;have h1:=hr y (List.mem_cons_of_mem _ hy);have h2:ev pone y=1:=by unfold pone;rw[MI _ Ae.pz,Rb];grind
   have h3:ev (cs (-x) pone) y = -x+y:=by rw[MI (F:=pone) _ ⟨1,(Be.pz 0).cs 1⟩,h2];grind
   rw[e2,Cy hp ⟨_,hs⟩,h3]at h1;rcases Rat.mul_eq_zero.1 h1 with h | h
   ·have:x=y:=by grind
    subst this;exact absurd hy (List.nodup_cons.1 hn).1
   ·exact h
  rw[e2,hz,JY]
/-! ### series -/
def rv(d:Nat)(F:Nat->Rat)(n:Nat):Rat:=if n<=d then F (d - n)else 0
def CB(D X:Nat)(F:Nat->Rat):Prop:=0 < D/\∀ i,∃ m:Int,F i=(m:Rat) / (D:Rat)/\m.natAbs<=X
def CD(s:Nat)(F:Nat->Rat):Prop:=∃ D X:Nat,CB D X F/\sz D<=s/\sz X<=s
theorem II(n:Int)(d:Nat):(n:Rat) / (d:Rat)=Rat.divInt n d:=by
 rw[Rat.divInt_eq_div];rfl
theorem Jd{d:Nat}(h:0 < d):(d:Rat)≠0:=by
 intro e;have:(d:Rat)=((0:Nat):Rat):=e;have:=Rat.natCast_inj.1 this;omega
theorem CD.pos{s:Nat}{F:Nat->Rat}(h:CD s F):1<=s:=by
 obtain⟨D,X,⟨h0,_⟩,hD,_⟩:=h;have:=Es (n:=D) Aa;omega
theorem CD.elem{s:Nat}{F:Nat->Rat}(h:CD s F)(i:Nat):qsz (F i)<=s:=by
 have hp:=h.pos;obtain⟨D,X,⟨h0,hN⟩,hD,hX⟩:=h;obtain⟨m,e,hm⟩:=hN i;rw[e,II];have:=Bq hm;exact Dp Aa (by simpa using hD) hp
theorem CD.mono{s t:Nat}{F:Nat->Rat}(h:CD s F)(k:s<=t):CD t F:=by
 obtain⟨D,X,h0,hD,hX⟩:=h;exact⟨D,X,h0,Aa,Aa⟩
theorem CD.pz:CD 1 pz:=⟨1,0,⟨Aa,fun _=>⟨0,by show(0:Rat)=_;grind,Ab⟩⟩,Ab,Ab⟩
theorem Iy(a:Rat):a=(a.num:Rat) / (a.den:Rat):=by rw[II];exact(Rat.num_divInt_den a).symm
theorem CB.psc{D X:Nat}{F:Nat->Rat}(a:Rat)(h:CB D X F):CB (D*a.den) (a.num.natAbs*X) (psc a F):=by
 obtain⟨h0,hN⟩:=h;refine⟨Nat.mul_pos h0 a.den_pos,fun i=>?_⟩;obtain⟨m,e,hm⟩:=hN i;refine⟨a.num*m,?_,?_⟩
 ·show a*F i=_
  have h1:=Jd h0;have h2:=Jd a.den_pos;have h3:=Iy a;rw[e,Rat.intCast_mul,Rat.natCast_mul];generalize (a.num:Rat)=x at *;generalize (a.den:Rat)=y at *;rw[h3];grind
 ·rw[Int.natAbs_mul];exact Nat.mul_le_mul_left _ hm
theorem CD.psc{s:Nat}{F:Nat->Rat}(a:Rat)(h:CD s F):CD (s+qsz a) (psc a F):=by
 obtain⟨D,X,h0,hD,hX⟩:=h;refine⟨_,_,h0.psc a,?_,?_⟩
 ·have:=BV D a.den;unfold qsz;omega
 ·have:=BV a.num.natAbs X;unfold qsz;omega
theorem CB.pad{D X E Y:Nat}{F G:Nat->Rat}(h:CB D X F)(k:CB E Y G):CB (D*E) (X*E+Y*D) (pad F G):=by
 obtain⟨h0,hN⟩:=h;obtain⟨k0,hM⟩:=k;refine⟨Nat.mul_pos h0 k0,fun i=>?_⟩;obtain⟨m,e,hm⟩:=hN i;obtain⟨n,f,hn⟩:=hM i;refine⟨m*(E:Int)+n*(D:Int),?_,?_⟩
 ·show F i+G i=_
  have h1:=Jd h0;have h2:=Jd k0;rw[e,f,Rat.intCast_add,Rat.intCast_mul,Rat.intCast_mul,Rat.natCast_mul,Rat.intCast_natCast,Rat.intCast_natCast];grind
 ·refine Nat.le_trans (Int.natAbs_add_le _ _) ?_
  rw[Int.natAbs_mul,Int.natAbs_mul,Int.natAbs_natCast,Int.natAbs_natCast];exact Nat.add_le_add (Nat.mul_le_mul_right _ hm) (Nat.mul_le_mul_right _ hn)
theorem CD.pad{s t:Nat}{F G:Nat->Rat}(h:CD s F)(k:CD t G):CD (s+t+1) (pad F G):=by
 obtain⟨D,X,h0,hD,hX⟩:=h;obtain⟨E,Y,k0,hE,hY⟩:=k;refine⟨_,_,h0.pad k0,?_,?_⟩
 ·have:=BV D E;omega
 ·have a2:=GX (X*E) (Y*D)
  have a3:=BV X E;have a4:=BV Y D;omega
theorem CD.neg{s:Nat}{F:Nat->Rat}(h:CD s F):CD s (Hp.psc (-1) F):=by
 obtain⟨D,X,h0,hD,hX⟩:=h;have:=h0.psc (-1);rw[show(-1:Rat).den=1 from rfl,show(-1:Rat).num.natAbs=1 from rfl,Nat.mul_one,Nat.one_mul]at this;exact⟨D,X,this,hD,hX⟩
theorem CD.psb{s t:Nat}{F G:Nat->Rat}(h:CD s F)(k:CD t G):CD (s+t+1) (psb F G):=by
 rw[Oe];exact h.pad k.neg
theorem CB.cs{D X:Nat}{F:Nat->Rat}(a:Rat)(h:CB D X F):CB (D*a.den) (X*a.den+a.num.natAbs*D) (cs a F):=by
 obtain⟨h0,hN⟩:=h;refine⟨Nat.mul_pos h0 a.den_pos,fun i=>?_⟩;have h1:=Jd h0;have h2:=Jd a.den_pos;cases i with
 | zero =>
  refine⟨a.num*(D:Int),?_,?_⟩
  ·show a=_
   have h3:=Iy a;rw[Rat.intCast_mul,Rat.natCast_mul,Rat.intCast_natCast];generalize (a.num:Rat)=x at *;generalize (a.den:Rat)=y at *;rw[h3];grind
  ·rw[Int.natAbs_mul,Int.natAbs_natCast];exact Nat.le_add_left _ _
 | succ i =>
  obtain⟨m,e,hm⟩:=hN i;refine⟨m*(a.den:Int),?_,?_⟩
  ·show F i=_
   rw[e,Rat.intCast_mul,Rat.natCast_mul,Rat.intCast_natCast];generalize (a.den:Rat)=y at *;grind
  ·rw[Int.natAbs_mul,Int.natAbs_natCast]
   exact Nat.le_trans (Nat.mul_le_mul_right _ hm) (Nat.le_add_right _ _)
theorem CD.cs{s:Nat}{F:Nat->Rat}(a:Rat)(h:CD s F):CD (s+qsz a+1) (cs a F):=by
 obtain⟨D,X,h0,hD,hX⟩:=h;refine⟨_,_,h0.cs a,?_,?_⟩
 ·have:=BV D a.den;unfold qsz;omega
 ·have a2:=GX (X*a.den) (a.num.natAbs*D)
  have a3:=BV X a.den;have a4:=BV a.num.natAbs D;unfold qsz;omega
theorem CD.of{n k:Nat}{F:Nat->Rat}(h:Be n F)(hk:∀ i,i < n->qsz (F i)<=k):CD (1+n*(k+1)) F:=by
 induction n generalizing F with
 | zero=>rw[h.zero];exact CD.pz.mono Aa
 | succ n ih =>
  have:=(ih h.tl fun i hi=>hk (i+1) Aa).cs (F 0);rw[Ra]at this;have h0:=hk 0 Aa;refine this.mono ?_;rw[Nat.succ_mul];omega
theorem CB.cv{n D X E Y:Nat}{F G:Nat->Rat}(hs:Be n F)(h:CB D X F)(k:CB E Y G):CB (D*E) (n*(X*Y)) (cv F G):=by
 have h0:=h.1;have k0:=k.1;have h1:=Jd h0;have h2:=Jd k0;refine⟨Nat.mul_pos h0 k0,fun i=>?_⟩;induction n generalizing F i with
 | zero=>rw[hs.zero,Cn];exact⟨0,by show(0:Rat)=_;grind,Ac⟩
 | succ n ih =>
  have ht:CB D X (tl F):=⟨h0,fun i=>h.2 (i+1)⟩
  obtain⟨a,ea,ha⟩:=h.2 0;obtain⟨b,eb,hb⟩:=k.2 i;have hab:(a*b).natAbs<=X*Y:=by rw[Int.natAbs_mul];exact Nat.mul_le_mul ha hb
  cases i with
  | zero =>
   refine⟨a*b,?_,?_⟩
   ·rw[CF,ea,eb,Rat.intCast_mul,Rat.natCast_mul];grind
   ·rw[Nat.succ_mul];omega
  | succ i =>
   obtain⟨m,em,hm⟩:=ih hs.tl ht i;refine⟨a*b+m,?_,?_⟩
   ·rw[BJ,ea,eb,em,Rat.intCast_add,Rat.intCast_mul,Rat.natCast_mul];grind
   ·have:=Int.natAbs_add_le (a*b) m
    rw[Nat.succ_mul];omega
theorem CD.cv{n s t:Nat}{F G:Nat->Rat}(hs:Be n F)(hn:n < 4294967296)(h:CD s F)(k:CD t G):CD (s+t+1) (cv F G):=by
 obtain⟨D,X,h0,hD,hX⟩:=h;obtain⟨E,Y,k0,hE,hY⟩:=k;refine⟨_,_,h0.cv hs k0,?_,?_⟩
 ·have:=BV D E;omega
 ·have a2:=BV n (X*Y)
  have a3:=BV X Y;have:=Yk hn;omega
theorem CB.step{n D X E Y:Nat}{R G:Nat->Rat}(hG:Ae G)(h0:G≠Hp.pz)(h:CB D X R)(k:CB E Y G){M:Int}(hM:ld G=(M:Rat) / (E:Rat)) :
  CB (D*M.natAbs) (2*(X*max Y M.natAbs)) (Hp.psb R (Hp.cv (Hp.mono n (R (n+pl G - 1) / ld G)) G)):=by
 have hl:=CV hG h0;have h1:=Jd h.1;have h2:=Jd k.1;have hM0:M≠0:=by rintro rfl;apply hl;rw[hM];grind
 have hMq:(M:Rat)≠0:=by simpa using hM0
 refine⟨Nat.mul_pos h.1 Aa,fun i=>?_⟩;obtain⟨a,ea,ha⟩:=h.2 i;obtain⟨b,eb,hb⟩:=h.2 (n+pl G - 1);obtain⟨g,eg,hg⟩:∃ g:Int,sh n G i=(g:Rat) / (E:Rat)/\g.natAbs<=Y:=by
  unfold sh
  split
  ·exact⟨0,Ad,Ac⟩
  ·exact k.2 _
 have key:Hp.psb R (Hp.cv (Hp.mono n (R (n+pl G - 1) / ld G)) G) i=((a*M - b*g:Int):Rat) / ((D:Rat)*(M:Rat)):=by
  rw[FY];show R i - _*sh n G i=_;rw[ea,eb,eg,hM,Rat.intCast_sub,Rat.intCast_mul,Rat.intCast_mul];generalize (M:Rat)=m at *;generalize (E:Rat)=e at *;generalize (D:Rat)=d at *;grind
 have hbd:(a*M - b*g).natAbs<=2*(X*max Y M.natAbs):=by
  have h1:=Int.natAbs_sub_le (a*M) (b*g);rw[Int.natAbs_mul,Int.natAbs_mul]at h1;have h2:a.natAbs*M.natAbs<=X*max Y M.natAbs:=Nat.mul_le_mul ha (Nat.le_max_right _ _);have h3:b.natAbs*g.natAbs<=X*max Y M.natAbs:=Nat.mul_le_mul hb (Nat.le_trans hg (Nat.le_max_left _ _));omega
 rcases Int.le_total 0 M with hp | hp
 ·refine⟨a*M - b*g,?_,hbd⟩
  rw[key,Rat.natCast_mul];congr 2;rw[<-Rat.intCast_natCast];congr 1;omega
 ·refine⟨-(a*M - b*g),?_,by rw[Int.natAbs_neg];exact hbd⟩
  rw[key,Rat.natCast_mul];have:((M.natAbs:Nat):Rat) = -(M:Rat):=by rw[<-Rat.intCast_natCast,<-Rat.intCast_neg];congr 1;omega
  rw[this];generalize (M:Rat)=m at *;rw[Rat.intCast_neg];grind
theorem CB.lead{E Y:Nat}{G:Nat->Rat}(k:CB E Y G):∃ M:Int,ld G=(M:Rat) / (E:Rat)/\M.natAbs<=Y:=k.2 _
theorem CD.step{n s t:Nat}{R G:Nat->Rat}(hG:Ae G)(h0:G≠Hp.pz)(h:CD s R)(k:CD t G):CD (s+t+1) (Hp.psb R (Hp.cv (Hp.mono n (R (n+pl G - 1) / ld G)) G)):=by
 obtain⟨D,X,h1,hD,hX⟩:=h;obtain⟨E,Y,k1,hE,hY⟩:=k;obtain⟨M,e,hM⟩:=k1.lead;refine⟨_,_,h1.step hG h0 k1 e,?_,?_⟩
 ·have:=BV D M.natAbs;have:=Bq hM;omega
 ·rw[Nat.max_eq_left hM]
  have:=BV 2 (X*Y);have:=BV X Y;have:sz 2=1:=by decide
  omega
theorem PE{n:Nat}{F G:Nat->Rat}(hF:Be (n+pl G) F)(hG:Ae G)(h0:G≠pz) :
  pr F G=pr (psb F (cv (mono n (F (n+pl G - 1) / ld G)) G)) G/\pq F G=pad (mono n (F (n+pl G - 1) / ld G)) (pq (psb F (cv (mono n (F (n+pl G - 1) / ld G)) G)) G):=by
 obtain⟨F',hF'⟩:∃ F',F'=psb F (cv (mono n (F (n+pl G - 1) / ld G)) G):=⟨_,rfl⟩
 rw[<-hF'];have hfin:Ae F':=by rw[hF'];exact Ae.psb ⟨_,hF⟩ ((Ae.mono _ _).cv hG)
 have:=Ir ⟨_,hF⟩ hG h0 (Q:=pad (mono n (F (n+pl G - 1) / ld G)) (pq F' G)) (R:=pr F' G) ((Ae.mono _ _).pad (Dm _ _)) ?_ (Et hfin hG h0)
 ·exact⟨this.2.symm,this.1.symm⟩
 ·have e:=JX F' G
  rw[CG]
  funext m
  have e:=congrFun e m;have e2:=congrFun hF' m;simp only[pad,psb]at e e2 ⊢;grind
theorem Lp{F G:Nat->Rat}(hF:Be (pl G - 1) F)(hG:Ae G)(h0:G≠pz):pr F G=F/\pq F G=pz:=by
 have:=Ir ⟨_,hF⟩ hG h0 (Q:=pz) (R:=F) Ae.pz (by rw[Cn];funext m;simp only[pad,pz];grind) hF;exact⟨this.2.symm,this.1.symm⟩
theorem CD.pr{n s t:Nat}{F G:Nat->Rat}(hF:Be (n+pl G - 1) F)(hG:Ae G)(h0:G≠Hp.pz)(h:CD s F)(k:CD t G):CD (s+n*(t+1)) (pr F G):=by
 have hp:=AL hG h0;induction n generalizing s F with
 | zero=>rw[Nat.zero_add]at hF;rw[(Lp hF hG h0).1];exact h.mono Aa
 | succ n ih =>
  have hF':Be (n+pl G) F:=hF.mono Aa;rw[(PE hF' hG h0).1];refine(ih (EJ hG h0 hF') (h.step hG h0 k)).mono ?_;rw[Nat.succ_mul];omega
theorem KN{n:Nat}{F G:Nat->Rat}(hF:Be (n+pl G - 1) F)(hG:Ae G)(h0:G≠pz):Be n (pq F G):=by
 have hp:=AL hG h0;induction n generalizing F with
 | zero=>rw[Nat.zero_add]at hF;rw[(Lp hF hG h0).2];exact Be.pz 0
 | succ n ih =>
  have hF':Be (n+pl G) F:=hF.mono Aa;rw[(PE hF' hG h0).2];exact(ES n _).pad ((ih (EJ hG h0 hF')).mono Aa)
theorem Pk{n s t:Nat}{F G:Nat->Rat}(hF:Be (n+pl G - 1) F)(hG:Ae G)(h0:G≠pz)(h:CD s F)(k:CD t G)(i:Nat):qsz (pq F G i)<=s+n*(t+1)+t:=by
 have hp:=AL hG h0;induction n generalizing s F with
 | zero=>rw[Nat.zero_add]at hF;rw[(Lp hF hG h0).2];have:=h.pos;show qsz 0<=_;have:qsz 0=1:=Ab;omega
 | succ n ih =>
  have hF':Be (n+pl G) F:=hF.mono Aa;have h1:=ih (EJ hG h0 hF') (h.step hG h0 k);have h2:=KN (EJ hG h0 hF') hG h0;rw[(PE hF' hG h0).2];show qsz (mono n _ i+_)<=_;by_cases hi:i=n
  ·rw[hi,Kl,h2 n Aa]
   have:=J5 (F (n+pl G - 1)) (ld G);have:=h.elem (n+pl G - 1);have:qsz (ld G)<=t:=k.elem _;have e:F (n+pl G - 1) / ld G+0=F (n+pl G - 1) / ld G:=by grind
   rw[e,Nat.succ_mul];omega
  ·rw[EP hi]
   have e:∀ a:Rat,0+a=a:=fun a=>by grind
   rw[e,Nat.succ_mul];omega
theorem CD.pq{n s t:Nat}{F G:Nat->Rat}(hF:Be (n+pl G - 1) F)(hG:Ae G)(h0:G≠Hp.pz)(h:CD s F)(k:CD t G):CD (1+n*(s+n*(t+1)+t+1)) (pq F G):=
 CD.of (KN hF hG h0) fun i _=>Pk hF hG h0 h k i
open Go.RowKit
theorem V6{l m:List Rat}{i:Nat}(h:i < l.length):co (l ++ m) i=co l i:=by
 rw[F6 Dq,F6 h,List.getElem_append_left h]
theorem Uv{l:List Rat}{i:Nat}(h:l.length<=i):co l i=0:=KM l i h
theorem Gr(l:List Rat):co (BN l)=co l:=by
 refine Fv (p:=fun l=>co (BN l)=co l) rfl (fun l d ih=>?_) l;by_cases h:d=0
 ·subst h
  rw[DU,ih]
  funext i
  rcases Nat.lt_or_ge i l.length with hi | hi
  ·rw[V6 hi]
  ·rw[Uv hi]
   rcases Nat.eq_or_lt_of_le hi with e | e
   ·subst e;rw[F6 Ac];simp
   ·rw[Uv Dq]
 ·rw[GY _ _ h]
def I5(l:List Rat):Prop:=∀ h:0 < l.length,l[l.length - 1]≠0
theorem Fh(l:List Rat):I5 (BN l):=by
 refine Fv (p:=fun l=>I5 (BN l)) (fun h=>absurd h (by simp[BN])) (fun l d ih=>?_) l;by_cases h:d=0
 ·subst h;rw[DU];exact ih
 ·rw[GY _ _ h];intro _;simpa using h
theorem I5.pl{l:List Rat}(h:I5 l):pl (co l)=l.length:=by
 refine Iq (KM l) fun h0=>?_;rw[F6 Aa];exact h h0
theorem bK{l m:List Rat}(hl:l.length=m.length)(h:co l=co m):l=m:=by
 apply List.ext_getElem hl
 intro i h1 h2;have:=congrFun h i;rwa[F6 h1,F6 h2]at this
theorem I5.uniq{l m:List Rat}(h:I5 l)(k:I5 m)(e:co l=co m):l=m:=bK (by rw[<-h.pl,<-k.pl,e]) e
theorem Oi{n:Nat}{F:Nat->Rat}(h:Be n F):co ((List.range n).map F)=F:=by
 funext i
 rcases Nat.lt_or_ge i n with hi | hi
 ·rw[F6 (by simpa using hi)];simp
 ·rw[Uv (by simpa using hi),h i hi]
def FN(base:Nat)(w:World)(v:Value)(F:Nat->Rat):Prop:=∃ l,PW base w v l/\I5 l/\co l=F
theorem FN.ext{base:Nat}{w w':World}{v:Value}{F:Nat->Rat}(h:FN base w v F)(e:Ext w w'):FN base w' v F:=by
 obtain⟨l,h1,h2,h3⟩:=h;exact⟨l,h1.ext e,h2,h3⟩
theorem FN.base_le{base b:Nat}{w:World}{v:Value}{F:Nat->Rat}(h:FN base w v F)(hb:b<=base):FN b w v F:=by
 obtain⟨l,h1,h2,h3⟩:=h;exact⟨l,h1.base_le hb,h2,h3⟩
theorem FN.fin{base:Nat}{w:World}{v:Value}{F:Nat->Rat}(h:FN base w v F):Ae F:=by
 obtain⟨l,_,_,rfl⟩:=h;exact Ae.co l
theorem PW.has{base:Nat}{w:World}{v:Value}{l:List Rat}(h:PW base w v l)(hs:∀ q∈l,qsz q<=274877906944):Qb 0 w v l:=by
 obtain⟨A,c,h1,h2,h3,h4⟩:=h;refine⟨A,c,h1,h2,h3,fun h0=>?_⟩;obtain⟨g,o,q1,q2,q3⟩:=h4 h0;refine⟨g,o,q1,Nat.zero_le _,fun j hj=>?_⟩;obtain⟨cs,r1,r2,r3⟩:=q3 j hj;exact⟨cs,r1,r2,r3.has (hs _ (List.getElem_mem hj))⟩
theorem FN.form{base:Nat}{w:World}{v:Value}{F:Nat->Rat}(h:FN base w v F):∃ A c l,v = .slice A (pl F) c/\pl F<=c/\c<=9223372036854775807/\Mr base w A l/\l.length=pl F/\I5 l/\co l=F:=by
 obtain⟨l,⟨A,c,h1,h2,h3,h4⟩,h5,rfl⟩:=h;have:=h5.pl;exact⟨A,c,l,by rw[this];exact h1,Aa,h3,h4,this.symm,h5,rfl⟩
theorem FN.qs{base:Nat}{w:World}{v:Value}{F:Nat->Rat}(h:FN base w v F):∃ l,PW base w v l/\l.length=pl F/\I5 l/\co l=F:=by
 obtain⟨l,h1,h5,rfl⟩:=h;exact⟨l,h1,h5.pl.symm,h5,rfl⟩
theorem bZ{l:List Rat}{q:Rat}(h:q∈l):∃ i,q=co l i:=by
 obtain⟨i,hi,e⟩:=List.getElem_of_mem h;exact⟨i,by rw[F6 hi,e]⟩
theorem FN.hs{base:Nat}{w:World}{v:Value}{F:Nat->Rat}(h:FN base w v F)(hs:∀ i,qsz (F i)<=274877906944):∃ l,Qb 0 w v l/\l.length=pl F/\I5 l/\co l=F:=by
 obtain⟨l,h1,h2,h3,rfl⟩:=h.qs;exact⟨l,h1.has (fun q hq=>by obtain⟨i,rfl⟩:=bZ hq;exact hs i),h2,h3,rfl⟩
theorem FN.of_trim{base:Nat}{w:World}{v:Value}{l:List Rat}{F:Nat->Rat}(h:PW base w v (BN l))(e:co l=F):FN base w v F:=
 ⟨_,h,Fh l,by rw[Gr,e]⟩
theorem FN.nil(base:Nat)(w:World)(c:Nat:=0):FN base w (.slice none 0 0) pz:=⟨[],CU.nil 4 BX base w,fun h=>absurd h Ac,OI⟩
theorem Qb.qsz{base:Nat}{w:World}{v:Value}{l:List Rat}(h:Qb base w v l):∀ q∈l,Hp.qsz q<=274877906944:=by
 obtain⟨A,c,h1,h2,h3,h4⟩:=h;intro q hq;obtain⟨i,hi,rfl⟩:=List.getElem_of_mem hq;obtain⟨g,o,q1,q2,q3⟩:=h4 Aa;obtain⟨cs,r1,r2,r3⟩:=q3 i hi;exact r3.qsz
theorem Ri{cs:Array Value}{a b:Value}(e:Value.agg cs = .agg #[a,b]):cs=#[a,b]:=by injection e
def MX(base:Nat)(w:World)(v:Value)(l:List Int):Prop:=CU 2 AO base w v l
def Li(base:Nat)(w:World)(A:Option Addr)(l:List Int):Prop:=Dr 2 AO base w A l
def Gd(base:Nat)(w:World)(v:Value)(l:List Int):Prop:=CU 2 Bj base w v l
def KL(base:Nat)(w:World)(A:Option Addr)(l:List Int):Prop:=Dr 2 Bj base w A l
theorem MX.ext{base:Nat}{w w':World}{v:Value}{l:List Int}(h:MX base w v l)(e:Ext w w'):MX base w' v l:=CU.ext h e fun _ _ q=>q.kd e.kd
theorem Gd.ext{base:Nat}{w w':World}{v:Value}{l:List Int}(h:Gd base w v l)(e:Ext w w'):Gd base w' v l:=CU.ext h e fun _ _ q=>q.kd e.kd
theorem Li.ext{base:Nat}{w w':World}{A:Option Addr}{l:List Int}(h:Li base w A l)(e:Ext w w'):Li base w' A l:=Dr.ext h e fun _ _ q=>q.kd e.kd
theorem KL.ext{base:Nat}{w w':World}{A:Option Addr}{l:List Int}(h:KL base w A l)(e:Ext w w'):KL base w' A l:=Dr.ext h e fun _ _ q=>q.kd e.kd
theorem AO.ext_{w w':World}{v:Value}{x:Int}(h:AO w v x)(e:Ext w w'):AO w' v x:=h.kd e.kd
theorem Bj.cells{w:World}{v:Value}{x:Int}(h:Bj w v x):∃ b A n c,v = .agg #[.bool b,.slice A n c]:=by
 obtain⟨b,A,n,c,N,e,_⟩:=h.form;exact⟨b,A,n,c,e⟩
theorem KL.at_{base:Nat}{w:World}{A:Option Addr}{l:List Int}(h:KL base w A l){j:Nat}(hj:j < l.length) :
  ∃ g o b A1 n c,A=some ⟨g,o,none⟩/\base<=g/\w.cell? ⟨g,o+j*2,none⟩=some (.bool b)/\w.cell? ⟨g,o+j*2+1,none⟩=some (.slice A1 n c)/\Bj w (.agg #[.bool b,.slice A1 n c]) l[j]:=by
 obtain⟨g,o,ha,hb,hc⟩:=h Aa;obtain⟨cs,q1,q2,q3⟩:=hc j hj;obtain⟨b,A1,n,c,e⟩:=q3.cells;obtain rfl:=Ri e;exact⟨g,o,b,A1,n,c,ha,hb,q2 0 Aa,q2 1 Aa,q3⟩
theorem Li.at_{base:Nat}{w:World}{A:Option Addr}{l:List Int}(h:Li base w A l){j:Nat}(hj:j < l.length) :
  ∃ g o b A1 n c,A=some ⟨g,o,none⟩/\base<=g/\w.cell? ⟨g,o+j*2,none⟩=some (.bool b)/\w.cell? ⟨g,o+j*2+1,none⟩=some (.slice A1 n c)/\AO w (.agg #[.bool b,.slice A1 n c]) l[j]:=by
 obtain⟨g,o,ha,hb,hc⟩:=h Aa;obtain⟨cs,q1,q2,q3⟩:=hc j hj;obtain⟨b,A1,n,c,e⟩:=q3.cells;obtain rfl:=Ri e;exact⟨g,o,b,A1,n,c,ha,hb,q2 0 Aa,q2 1 Aa,q3⟩
theorem Gd.at_{base n c:Nat}{w:World}{A:Option Addr}{l:List Int}(h:Gd base w (.slice A n c) l){j:Nat}(hj:j < l.length) :
  ∃ g o b A1 n1 c1,A=some ⟨g,o,none⟩/\base<=g/\w.cell? ⟨g,o+j*2,none⟩=some (.bool b)/\w.cell? ⟨g,o+j*2+1,none⟩=some (.slice A1 n1 c1)/\Bj w (.agg #[.bool b,.slice A1 n1 c1]) l[j]:=by
 obtain⟨A',c',e,_,_,hA⟩:=h;have:A'=A:=by injection e with h1;exact h1.symm
 subst this;exact KL.at_ hA hj
theorem MX.at_{base n c:Nat}{w:World}{A:Option Addr}{l:List Int}(h:MX base w (.slice A n c) l){j:Nat}(hj:j < l.length) :
  ∃ g o b A1 n1 c1,A=some ⟨g,o,none⟩/\base<=g/\w.cell? ⟨g,o+j*2,none⟩=some (.bool b)/\w.cell? ⟨g,o+j*2+1,none⟩=some (.slice A1 n1 c1)/\AO w (.agg #[.bool b,.slice A1 n1 c1]) l[j]:=by
 obtain⟨A',c',e,_,_,hA⟩:=h;have:A'=A:=by injection e with h1;exact h1.symm
 subst this;exact Li.at_ hA hj
theorem AO.two{w:World}{b:Bool}{A:Option Addr}{n c:Nat}{x:Int}(h:AO w (.agg #[.bool b,.slice A n c]) x):n=sz x.natAbs/\b=decide (x < 0):=by
 obtain⟨A',c',e,_⟩:=h.form;have e:=Ri e;simp only[Array.mk.injEq,List.cons.injEq,Value.bool.injEq,Value.slice.injEq,and_true]at e;exact⟨e.2.2.1,e.1⟩
theorem MX.has{base:Nat}{w:World}{v:Value}{l:List Int}(h:MX base w v l)(hs:∀ x∈l,sz x.natAbs<=1099511627776):Gd 0 w v l:=by
 obtain⟨A,c,h1,h2,h3,h4⟩:=h;refine⟨A,c,h1,h2,h3,fun h0=>?_⟩;obtain⟨g,o,q1,q2,q3⟩:=h4 h0;refine⟨g,o,q1,Nat.zero_le _,fun j hj=>?_⟩;obtain⟨cs,r1,r2,r3⟩:=q3 j hj;exact⟨cs,r1,r2,r3.has (hs _ (List.getElem_mem hj))⟩
theorem Gd.sz{base:Nat}{w:World}{v:Value}{l:List Int}(h:Gd base w v l):∀ x∈l,Hp.sz x.natAbs<=1099511627776:=by
 obtain⟨A,c,h1,h2,h3,h4⟩:=h;intro q hq;obtain⟨i,hi,rfl⟩:=List.getElem_of_mem hq;obtain⟨g,o,q1,q2,q3⟩:=h4 Aa;obtain⟨cs,r1,r2,r3⟩:=q3 i hi;exact r3.sz
theorem Gd.len{base:Nat}{w:World}{v:Value}{l:List Int}(h:Gd base w v l):∃ A c,v = .slice A l.length c:=CU.len h
/-! ### arrays of the call's own -/
def Ci(w:World)(g:Nat)(t:TypeId)(l:List Int):Prop:=
 ∃ cs,Ba w g t cs/\l.length*2<=cs.size/\∀ j (h:j < l.length),∃ b A n c,cs[j*2]? = some (.bool b)/\cs[j*2+1]? = some (.slice A n c)/\AO w (.agg #[.bool b,.slice A n c]) l[j]
section
variable{w w':World}{g:Nat}{t:TypeId}{l:List Int}
theorem Ci.lt(h:Ci w g t l):g < w.heap.size:=by obtain⟨cs,h1,_⟩:=h;exact h1.lt
theorem Ci.frozen(h:Ci w g t l)(i:Nat):w.frozen? ⟨g,i,none⟩=false:=by obtain⟨cs,h1,_⟩:=h;exact h1.frozen i
theorem Ci.ext(h:Ci w g t l)(e:Ext w w'):Ci w' g t l:=by
 obtain⟨cs,h1,h2,h3⟩:=h;refine⟨cs,h1.ext e,h2,fun j hj=>?_⟩;obtain⟨b,A,n,c,q0,q1,q⟩:=h3 j hj;exact⟨b,A,n,c,q0,q1,q.kd e.kd⟩
theorem Ci.upd{G:List Nat}(h:Ci w g t l)(U:Cc G w w')(hg:g∉G):Ci w' g t l:=by
 obtain⟨cs,h1,h2,h3⟩:=h;refine⟨cs,h1.upd U hg,h2,fun j hj=>?_⟩;obtain⟨b,A,n,c,q0,q1,q⟩:=h3 j hj;exact⟨b,A,n,c,q0,q1,q.kd U.kd⟩
theorem Ci.at_(h:Ci w g t l){j:Nat}(hj:j < l.length) :
  ∃ b A n c,w.cell? ⟨g,j*2,none⟩=some (.bool b)/\w.cell? ⟨g,j*2+1,none⟩=some (.slice A n c)/\AO w (.agg #[.bool b,.slice A n c]) l[j]:=by
 obtain⟨cs,h1,h2,h3⟩:=h;obtain⟨b,A,n,c,q0,q1,q⟩:=h3 j hj;exact⟨b,A,n,c,h1.cell q0,h1.cell q1,q⟩
theorem Ci.put(h:Ci w g t l){k:Nat}(hk:k < l.length){b:Bool}{A:Option Addr}{n c:Nat}{q:Int}(hq:AO w (.agg #[.bool b,.slice A n c]) q) :
  ∃ W,W=(w.setCell ⟨g,k*2,none⟩ (.bool b)).setCell ⟨g,k*2+1,none⟩ (.slice A n c)/\Ci W g t (l.set k q)/\Cc [g] w W:=by
 obtain⟨cs,h1,h2,h3⟩:=h;have B1:=h1.set_ (k*2) (u := .bool b) rfl;have B2:=B1.set_ (k*2+1) (u := .slice A n c) rfl;have U:Cc [g] w _:=(Cc.set_ h1.nodig (k*2) (.bool b)).trans (Cc.set_ B1.nodig (k*2+1) (.slice A n c));refine⟨_,rfl,⟨_,B2,by simpa using h2,fun j hj=>?_⟩,U⟩;have hj':j < l.length:=by simpa using hj
 by_cases e:j=k
 ·subst e
  refine⟨b,A,n,c,?_,?_,?_⟩
  ·rw[Array.getElem?_setIfInBounds_ne Aa,Array.getElem?_setIfInBounds,if_pos rfl,if_pos Aa]
  ·rw[Array.getElem?_setIfInBounds,if_pos rfl,if_pos Dq]
  ·rw[List.getElem_set_self]
   exact hq.kd U.kd
 ·obtain⟨b,A,n,c,q0,q1,q⟩:=h3 j hj'
  refine⟨b,A,n,c,?_,?_,?_⟩
  ·rw[Array.getElem?_setIfInBounds_ne Aa,Array.getElem?_setIfInBounds_ne Aa];exact q0
  ·rw[Array.getElem?_setIfInBounds_ne Aa,Array.getElem?_setIfInBounds_ne Aa];exact q1
  ·rw[List.getElem_set_ne Aa];exact q.kd U.kd
theorem JZ(w:World):AO w (.agg #[.bool false,.slice none 0 0]) 0:=
 ⟨false,[],⟨_,rfl,none,0,rfl,Nat.le_refl _,Aa,fun d hd=>by simp at hd,fun h=>by simp at h⟩,rfl,fun h=>by simp at h,fun h=>by cases h⟩
theorem Ci.new(w:World)(t:TypeId)(n:Nat):Ci (w.alloc (.cells (madeCells #[.bool false,.slice none 0 0] (n*2)) t)) w.heap.size t (List.replicate n 0):=by
 have key:∀ j i v,j < n->i < 2->#[Value.bool false,.slice none 0 0][i]? = some v->(madeCells #[Value.bool false,.slice none 0 0] (n*2))[j*2+i]? = some v:=by
  intro j i v hj hi hv;rw[Array.getElem?_eq_getElem (by rw[size_madeCells];omega)];simp only[madeCells,Array.getElem_map,Array.getElem_range];rw[show(j*2+i) % #[Value.bool false,.slice none 0 0].size=i from by show(j*2+i) % 2=i;omega]
  match i,hi with
  | 0,_=>exact hv
  | 1,_=>exact hv
 refine⟨_,Ba.new w t _ ?_,by rw[size_madeCells,List.length_replicate];exact Nat.le_refl _,fun j hj=>?_⟩
 ·rw[Array.all_eq_true]
  intro i hi;have hi':i < n*2:=by rw[size_madeCells]at hi;exact hi
  have hs:=Array.getElem?_eq_getElem hi;generalize (madeCells #[Value.bool false,Value.slice none 0 0] (n*2))[i]=u at *;have h4:i % 2=0\/i % 2=1:=by omega
  rcases h4 with h | h
  ·have:=key (i / 2) 0 _ Aa Aa rfl
   rw[show i / 2*2+0=i from Aa,hs]at this;cases this;rfl
  ·have:=key (i / 2) 1 _ Aa Aa rfl
   rw[show i / 2*2+1=i from Aa,hs]at this;cases this;rfl
 ·have hj':j < n:=by simpa using hj
  refine⟨false,none,0,0,key j 0 _ hj' Aa rfl,key j 1 _ hj' Aa rfl,?_⟩;rw[List.getElem_replicate];exact JZ _
theorem Ci.row(h:Ci w g t l){base:Nat}(hb:base<=g):Li base w (some ⟨g,0,none⟩) l:=fun _=>by
 obtain⟨cs,h1,h2,h3⟩:=h;refine⟨g,0,rfl,hb,fun j hj=>?_⟩;obtain⟨b,A,n,c,q0,q1,q⟩:=h3 j hj;refine⟨_,rfl,?_,q⟩;intro i hi
 match i,hi with
 | 0,_=>simpa using h1.cell q0
 | 1,_=>simpa using h1.cell q1
theorem Ci.pre(h:Ci w g t l)(n:Nat):Ci w g t (l.take n):=by
 obtain⟨cs,h1,h2,h3⟩:=h;have hl:(l.take n).length<=l.length:=List.length_take_le' _ _;refine⟨cs,h1,Aa,fun j hj=>?_⟩;have:=h3 j Aa;rw[List.getElem_take];exact this
end
/-! ### rows that are appended to -/
def KO(w:World)(v:Value)(base:Nat)(q:Int)(t:TypeId):Prop:=MU 2 AO w v base q t
theorem KO.ext{w w':World}{v:Value}{base:Nat}{q:Int}{t:TypeId}(h:KO w v base q t)(e:Ext w w'):KO w' v base q t:=MU.ext h e fun _ _ h=>h.kd e.kd
theorem KO.mk{w:World}{b:Bool}{A:Option Addr}{n c:Nat}{q:Int}(h:AO w (.agg #[.bool b,.slice A n c]) q){base:Nat}(hb:base<=w.heap.size)(t:TypeId) :
  KO (w.alloc (.cells #[.bool b,.slice A n c] t)) (.slice (some ⟨w.heap.size,0,none⟩) 1 1) base q t:=
 ⟨_,_,rfl,hb,Ba.new w t _ (by simp[Ah]),rfl,h.kd ((Ext.refl w).alloc _).kd⟩
theorem AO.one{w:World}{cs:Array Value}{q:Int}(h:AO w (.agg cs) q):(∀ u∈cs.toList,u.oneCell'=true)/\nodig cs=true/\cs.size=2:=by
 obtain⟨b,A,n,c,e⟩:=h.cells;obtain rfl:=Ri e;refine⟨fun u hu=>?_,by simp[nodig,Ah],rfl⟩;simp at hu;rcases hu with rfl | rfl<;>rfl
theorem AO.el{w:World}{v:Value}{q:Int}(h:AO w v q){p:Prop}(k:∀ b A n c,v = .agg #[.bool b,.slice A n c]->AO w (.agg #[.bool b,.slice A n c]) q->p):p:=by
 obtain⟨b,A,n,c,e⟩:=h.cells;exact k b A n c e (e▸h)
def Ed(base:Nat)(e:TypeId)(w:World)(v:Value)(l:List Int):Prop:=BB 2 AO base e w v l
theorem Ed.ext{base:Nat}{e:TypeId}{w w':World}{v:Value}{l:List Int}(h:Ed base e w v l)(x:Ext w w'):Ed base e w' v l:=BB.ext h x fun _ _ q=>q.kd x.kd
theorem Ed.upd{base:Nat}{e:TypeId}{w w':World}{v:Value}{l:List Int}{G:List Nat}(h:Ed base e w v l)(U:Cc G w w')(hg:∀ g∈G,g < base):Ed base e w' v l:=
 BB.upd h U (fun g hb hG=>by have:=hg g hG;have:=(BB.blk_ge h g hb).1;omega) fun _ _ q=>q.kd U.kd
theorem Ed.row{base:Nat}{e:TypeId}{w:World}{v:Value}{l:List Int}(h:Ed base e w v l):MX base w v l:=BB.row h
theorem Ed.from_{base:Nat}{e:TypeId}{a w w':World}{v:Value}{l:List Int}(h:Ed base e w v l)(U:Cc (blk v) w w')(x:Ext a w)(hb:a.heap.size<=base):Ext a w':=
 U.from_ x fun g hg=>Nat.le_trans hb (BB.blk_ge h g hg).1
theorem Ed.box{base:Nat}{e t:TypeId}{w w':World}{v:Value}{l:List Int}{g:Nat}{cs:Array Value}(h:Ed base e w v l)(U:Cc (blk v) w w')(b:Ba w g t cs)(hb:g < base):Ba w' g t cs:=
 b.upd U fun hg=>by have:=(BB.blk_ge h g hg).1;omega
theorem KO.own{w:World}{v:Value}{base:Nat}{q:Int}{t:TypeId}(h:KO w v base q t):Ed base t w v [q]:=by
 obtain⟨g,cs,rfl,h1,h2,h3,h4⟩:=h;refine⟨[cs],rfl,fun c hc=>by simp at hc;subst hc;exact h3,⟨by simp[h3],.inr ⟨g,1,cs,rfl,h1,h2,Nat.le_refl _,Ab,by simp[h3],?_⟩⟩,fun j hj hj'=>?_⟩
 ·simp[List.take_of_length_le,h3]
 ·have:j=0:=by simpa using hj
  subst this;exact h4
/-! ### polynomials -/
def zq(l:List Int):List Rat:=l.map fun(n:Int)=>(n:Rat)
theorem DZ(l:List Int):(zq l).length=l.length:=by simp[zq]
theorem LZ{l:List Int}{i:Nat}(h:i < l.length):(zq l)[i]'(by rw[DZ];exact h)=(l[i]:Rat):=by simp[zq]
theorem Zx(l:List Int)(n:Nat):zq (l.take n)=(zq l).take n:=by simp[zq]
theorem Ff{a b:Int}(h:(a:Rat)=(b:Rat)):a=b:=by simpa using congrArg Rat.num h
def cz(l:List Int):Nat->Rat:=co (zq l)
theorem Cq{l:List Int}{i:Nat}(h:i < l.length):cz l i=(l[i]:Rat):=by unfold cz;rw[F6 (by rw[DZ];exact h),LZ h]
theorem Ik{l:List Int}{i:Nat}(h:l.length<=i):cz l i=0:=Uv (by rw[DZ];exact h)
theorem Cx(l:List Int):Be l.length (cz l):=fun _ h=>Ik h
theorem Ae.cz(l:List Int):Ae (cz l):=⟨_,Cx l⟩
theorem Bn(n:Int):qsz (n:Rat)=max (sz n.natAbs) 1:=by unfold qsz;simp;rfl
theorem Ot{l:List Int}{s:Nat}(h:∀ x∈l,sz x.natAbs<=s)(hs:1<=s)(i:Nat):qsz (cz l i)<=s:=by
 rcases Nat.lt_or_ge i l.length with hi | hi
 ·rw[Cq hi,Bn];have:=h _ (List.getElem_mem hi);omega
 ·rw[Ik hi];exact hs
def ZI(F:Nat->Rat):Prop:=∀ i,∃ n:Int,F i=(n:Rat)
theorem ZI.cz(l:List Int):ZI (cz l):=fun i=>by
 rcases Nat.lt_or_ge i l.length with hi | hi
 ·exact⟨_,Cq hi⟩
 ·exact⟨0,by rw[Ik hi];rfl⟩
theorem ZI.num{F:Nat->Rat}(h:ZI F)(i:Nat):F i=((F i).num:Rat):=by obtain⟨n,e⟩:=h i;rw[e];rfl
def DL(n:Nat)(F:Nat->Rat):List Int:=(List.range n).map fun i=>(F i).num
theorem AR(n:Nat)(F:Nat->Rat):(DL n F).length=n:=by simp[DL]
theorem Il{n:Nat}{F:Nat->Rat}(h:ZI F)(hs:Be n F):cz (DL n F)=F:=by
 funext i
 rcases Nat.lt_or_ge i n with hi | hi
 ·rw[Cq (by rw[AR];exact hi)];simp only[DL,List.getElem_map,List.getElem_range];exact(h.num i).symm
 ·rw[Ik (by rw[AR];exact hi),hs i hi]
def Rn(l:List Int):List Int:=l.take (BN (zq l)).length
theorem LM(l:List Int):zq (Rn l)=BN (zq l):=by unfold Rn;rw[Zx];exact(Fg _).symm
theorem NR(l:List Int):(Rn l).length=(BN (zq l)).length:=by rw[<-DZ,LM]
theorem WT(l:List Int):(BN (zq l)).length<=l.length:=by have:=NL (zq l);rw[DZ]at this;exact this
def AB(base:Nat)(w:World)(v:Value)(F:Nat->Rat):Prop:=∃ l,MX base w v l/\I5 (zq l)/\cz l=F
theorem AB.ext{base:Nat}{w w':World}{v:Value}{F:Nat->Rat}(h:AB base w v F)(e:Ext w w'):AB base w' v F:=by
 obtain⟨l,h1,h2,h3⟩:=h;exact⟨l,h1.ext e,h2,h3⟩
theorem AB.base_le{base b:Nat}{w:World}{v:Value}{F:Nat->Rat}(h:AB base w v F)(hb:b<=base):AB b w v F:=by
 obtain⟨l,h1,h2,h3⟩:=h;exact⟨l,CU.base_le h1 hb,h2,h3⟩
theorem AB.fin{base:Nat}{w:World}{v:Value}{F:Nat->Rat}(h:AB base w v F):Ae F:=by
 obtain⟨l,_,_,rfl⟩:=h;exact Ae.cz l
theorem AB.form{base:Nat}{w:World}{v:Value}{F:Nat->Rat}(h:AB base w v F):∃ A c l,v = .slice A (pl F) c/\pl F<=c/\c<=9223372036854775807/\Li base w A l/\l.length=pl F/\I5 (zq l)/\cz l=F:=by
 obtain⟨l,⟨A,c,h1,h2,h3,h4⟩,h5,rfl⟩:=h;have:=h5.pl;rw[DZ]at this;exact⟨A,c,l,by unfold cz;rw[this];exact h1,by unfold cz;omega,h3,h4,this.symm,h5,rfl⟩
theorem AB.shape{base:Nat}{w:World}{v:Value}{F:Nat->Rat}(h:AB base w v F):∃ A c,v = .slice A (pl F) c/\pl F<=c/\c<=9223372036854775807:=by
 obtain⟨A,c,l,h1,h2,h3,_⟩:=h.form;exact⟨A,c,h1,h2,h3⟩
theorem AB.zs{base:Nat}{w:World}{v:Value}{F:Nat->Rat}(h:AB base w v F):∃ l,MX base w v l/\l.length=pl F/\I5 (zq l)/\cz l=F:=by
 obtain⟨l,h1,h5,rfl⟩:=h;exact⟨l,h1,by have:=h5.pl;rw[DZ]at this;exact this.symm,h5,rfl⟩
theorem AB.hz{base:Nat}{w:World}{v:Value}{F:Nat->Rat}(h:AB base w v F)(hs:∀ i,qsz (F i)<=1099511627776):∃ l,Gd 0 w v l/\l.length=pl F/\I5 (zq l)/\cz l=F:=by
 obtain⟨l,h1,h2,h3,rfl⟩:=h.zs;exact⟨l,h1.has (fun q hq=>by
  obtain⟨i,hi,rfl⟩:=List.getElem_of_mem hq;have:=hs i;rw[Cq hi,Bn]at this;omega),h2,h3,rfl⟩
theorem AB.of_trim{base:Nat}{w:World}{v:Value}{l:List Int}{F:Nat->Rat}(h:MX base w v (Rn l))(e:cz l=F):AB base w v F:=
 ⟨_,h,by rw[LM];exact Fh _,by unfold cz;rw[LM,Gr];exact e⟩
theorem AB.nil(base:Nat)(w:World):AB base w (.slice none 0 0) pz:=⟨[],CU.nil 2 AO base w,fun h=>absurd h (by simp[zq]),OI⟩
theorem AB.empty(base:Nat)(w:World)(A:Option Addr)(c:Nat)(hc:c<=9223372036854775807):AB base w (.slice A 0 c) pz:=
 ⟨[],⟨A,c,rfl,Nat.zero_le _,hc,fun h=>absurd h Ac⟩,fun h=>absurd h (by simp[zq]),OI⟩
def Bp(w:World)(g:Nat)(t:TypeId)(x:Int):Prop:=∃ b A n c,Ba w g t #[.bool b,.slice A n c]/\AO w (.agg #[.bool b,.slice A n c]) x
theorem Bp.ext{w w':World}{g:Nat}{t:TypeId}{x:Int}(h:Bp w g t x)(e:Ext w w'):Bp w' g t x:=by
 obtain⟨b,A,n,c,h1,h2⟩:=h;exact⟨b,A,n,c,h1.ext e,h2.kd e.kd⟩
theorem Bp.lt{w:World}{g:Nat}{t:TypeId}{x:Int}(h:Bp w g t x):g < w.heap.size:=by obtain⟨b,A,n,c,h1,h2⟩:=h;exact h1.lt
theorem Bp.upd{w w':World}{g:Nat}{t:TypeId}{x:Int}{G:List Nat}(h:Bp w g t x)(U:Cc G w w')(hg:g∉G):Bp w' g t x:=by
 obtain⟨b,A,n,c,h1,h2⟩:=h;exact⟨b,A,n,c,h1.upd U hg,h2.kd U.kd⟩
theorem Bp.mk{w:World}{g:Nat}{t:TypeId}{x:Int}{b:Bool}{A:Option Addr}{n c:Nat}(h:Ba w g t #[.bool b,.slice A n c])(k:AO w (.agg #[.bool b,.slice A n c]) x):Bp w g t x:=⟨b,A,n,c,h,k⟩
theorem Bp.zero{w:World}{g:Nat}{t:TypeId}(h:Ba w g t #[.bool false,.slice none 0 0]):Bp w g t 0:=⟨_,_,_,_,h,JZ w⟩
def ct:Nat->(Nat->Rat)->Nat
 | 0,_=>0
 | n+1,F=>Int.gcd (ct n F) (F n).num
theorem GJ(n:Nat)(F:Nat->Rat):ct (n+1) F=Int.gcd (ct n F) (F n).num:=rfl
theorem XT(F:Nat->Rat):∀ n i,i < n->(ct n F:Int)∣(F i).num
 | n+1,i,h=>by
  rw[GJ];rcases Nat.lt_or_ge i n with l | l
  ·exact Int.dvd_trans (Int.gcd_dvd_left _ _) (XT F n i l)
  ·obtain rfl:i=n:=by omega
   exact Int.gcd_dvd_right _ _
theorem YB{F:Nat->Rat}{d:Int}:∀ {n:Nat},(∀ i,i < n->d∣(F i).num)->d∣(ct n F:Int)
 | 0,_=>⟨0,by show((0:Nat):Int)=_;simp⟩
 | n+1,h=>by rw[GJ];exact Int.dvd_coe_gcd (YB fun i hi=>h i Aa) (h n Aa)
theorem bU{F:Nat->Rat}{n m:Nat}(h:Be n F)(k:n<=m):ct m F=ct n F:=by
 induction m with
 | zero =>
  obtain rfl:n=0:=by omega
  rfl
 | succ m ih =>
  rcases Nat.eq_or_lt_of_le k with e | e
  ·rw[e]
  ·rw[GJ,h m Aa,ih Aa];simp
noncomputable def cn(F:Nat->Rat):Nat:=ct (pl F) F
theorem iP{F:Nat->Rat}{n:Nat}(h:Be n F):cn F=ct n F:=(bU (AA ⟨n,h⟩) (BD h)).symm
theorem FH{F:Nat->Rat}(h:Ae F)(i:Nat):(cn F:Int)∣(F i).num:=by
 rcases Nat.lt_or_ge i (pl F)with l | l
 ·exact XT F _ i l
 ·rw[AA h i l];exact⟨0,Ac⟩
theorem Xq{F:Nat->Rat}{d:Int}(h:∀ i,d∣(F i).num):d∣(cn F:Int):=YB fun i _=>h i
theorem NA:cn pz=0:=by unfold cn;rw[BR];rfl
theorem Im{F:Nat->Rat}(hz:ZI F)(h:Ae F)(h0:F≠pz):cn F≠0:=fun e=>h0 (by
 funext i
 have:=FH h i;rw[e]at this;have h1:(F i).num=0:=by simpa using this
 rw[hz.num i,h1];rfl)
theorem Jg{F:Nat->Rat}{s:Nat}(h:∀ i,qsz (F i)<=s)(n:Nat):sz (ct n F)<=s:=by
 induction n with
 | zero=>show sz 0<=s;rw[Uw];exact Nat.zero_le _
 | succ n ih =>
  rw[GJ];by_cases h0:ct n F=0
  ·rw[h0]
   have:=h n;unfold qsz at this;have e:Int.gcd ((0:Nat):Int) (F n).num=(F n).num.natAbs:=by simp
   rw[e];omega
  ·refine Nat.le_trans (Bq ?_) ih
   exact Nat.le_of_dvd Aa (by have:=Int.gcd_dvd_left (ct n F:Int) (F n).num;exact Int.natCast_dvd_natCast.1 this)
noncomputable def pcn(F:Nat->Rat):Int:=if ld F < 0 then -(cn F:Int)else cn F
theorem IV{F:Nat->Rat}(h:Ae F)(i:Nat):pcn F∣(F i).num:=by
 unfold pcn;split
 ·exact Int.neg_dvd.2 (FH h i)
 ·exact FH h i
theorem F8(F:Nat->Rat):(pcn F).natAbs=cn F:=by unfold pcn;split<;>simp
theorem Dl{F:Nat->Rat}(hz:ZI F)(h:Ae F)(h0:F≠pz):pcn F≠0:=fun e=>Im hz h h0 (by rw[<-F8,e];rfl)
noncomputable def pp(F:Nat->Rat):Nat->Rat:=psc (1 / (pcn F:Rat)) F
theorem Iu:pp pz=pz:=FM _
theorem Mk{F:Nat->Rat}(hz:ZI F)(h:Ae F)(h0:F≠pz)(i:Nat):pp F i=(((F i).num / pcn F:Int):Rat):=by
 obtain⟨k,hk⟩:=IV h i;have hp:=Dl hz h h0;have hp':(pcn F:Rat)≠0:=fun e=>hp (by exact_mod_cast e);rw[hk,Int.mul_ediv_cancel_left _ hp];show 1 / (pcn F:Rat)*F i=_;rw[hz.num i,hk,Rat.intCast_mul];grind
theorem Ha{F:Nat->Rat}(hz:ZI F)(h:Ae F):ZI (pp F):=by
 by_cases h0:F=pz
 ·rw[h0,Iu];intro i;exact⟨0,rfl⟩
 ·intro i;exact⟨_,Mk hz h h0 i⟩
theorem Dx{F:Nat->Rat}(h:Ae F):Ae (pp F):=h.psc _
theorem DI{F:Nat->Rat}(hz:ZI F)(h:Ae F):pl (pp F)=pl F:=by
 by_cases h0:F=pz
 ·rw[h0,Iu]
 ·have hp':(pcn F:Rat)≠0:=fun e=>Dl hz h h0 (by exact_mod_cast e)
  exact Ec (Jn hp') h
theorem TV{F:Nat->Rat}(hz:ZI F)(h:Ae F)(h0:F≠pz):pp F≠pz:=fun e=>h0 ((BI h).1 (by rw[<-DI hz h,e,BR]))
theorem MR{F:Nat->Rat}(hz:ZI F)(h:Ae F)(h0:F≠pz):F=psc (pcn F:Rat) (pp F):=by
 have hp':(pcn F:Rat)≠0:=fun e=>Dl hz h h0 (by exact_mod_cast e);unfold pp;rw[Cb,show(pcn F:Rat)*(1 / (pcn F:Rat))=1 from Ad,Ct]
theorem Py{x y:Int}(hy:y∣x):sz (x / y).natAbs<=sz x.natAbs:=by
 obtain⟨k,rfl⟩:=hy;by_cases h:y=0
 ·subst h;simp
 ·rw[Int.mul_ediv_cancel_left _ h,Int.natAbs_mul]
  exact Bq (Nat.le_mul_of_pos_left _ Aa)
theorem Ga{F:Nat->Rat}(hz:ZI F)(h:Ae F){s:Nat}(hs:∀ i,qsz (F i)<=s)(i:Nat):qsz (pp F i)<=s:=by
 by_cases h0:F=pz
 ·rw[h0,Iu];have:=hs 0;rw[h0]at this;exact this
 ·rw[Mk hz h h0,Bn]
  have h1:=Py (IV h i);have h2:=hs i;have h3:=FW (F i);unfold qsz at h2 h3;have:sz 1=1:=by decide
  have:1<=s:=by have:=hs i;have:=FW (F i);omega
  omega
theorem Ca{n i:Nat}(F:Nat->Rat)(h:i < (DL n F).length):(DL n F)[i]=(F i).num:=by simp[DL]
def sg(i:Nat):Rat:=if i % 2=0 then 1 else -1
theorem Gz:sg 0=1:=rfl
theorem Ke(i:Nat):sg (i+1) = - sg i:=by
 unfold sg;rcases Nat.mod_two_eq_zero_or_one i with h | h
 ·rw[if_neg Aa,if_pos h]
 ·rw[if_pos Aa,if_neg Aa];rfl
theorem Tp(i j:Nat):sg (i+j)=sg i*sg j:=by
 induction j with
 | zero=>rw[Nat.add_zero,Gz];grind
 | succ j ih=>rw[<-Nat.add_assoc,Ke,Ke,ih];grind
theorem TH(i:Nat):sg i*sg i=1:=by
 induction i with
 | zero=>rw[Gz];grind
 | succ i ih=>rw[Ke];grind
def sk(i k:Nat):Nat:=if k < i then k else k+1
theorem jA(i k:Nat):sk i k≠i:=by unfold sk;split<;>omega
theorem iN{i k n:Nat}(h:k < n):sk i k < n+1:=by unfold sk;split<;>omega
def D6(i:Nat)(A:Nat->Nat->Rat):Nat->Nat->Rat:=fun r c=>A (sk i r) (c+1)
def Kc:Nat->(Nat->Nat->Rat)->Rat
 | 0,_=>1
 | n+1,A=>sm (n+1) fun i=>sg i*A i 0*Kc n (D6 i A)
theorem EM(n:Nat)(A:Nat->Nat->Rat):Kc (n+1) A=sm (n+1) fun i=>sg i*A i 0*Kc n (D6 i A):=by rw[Kc]
theorem CK:∀ {n:Nat} {A B:Nat->Nat->Rat},(∀ i j,i < n->j < n->A i j=B i j)->Kc n A=Kc n B
 | 0,_,_,_=>rfl
 | n+1,A,B,h=>by
  rw[EM,EM];refine Cz fun i hi=>?_;rw[h i 0 hi Aa,CK (n:=n) (A:=D6 i A) (B:=D6 i B) fun r c hr hc=>h _ _ (iN hr) Aa]
def Ev(A:Nat->Nat->Rat)(i:Nat)(v:Nat->Rat):Nat->Nat->Rat:=fun r c=>if r=i then v c else A r c
theorem Km(A:Nat->Nat->Rat)(i:Nat):Ev A i (A i)=A:=by
 funext r c;unfold Ev;split
 ·rename_i h;rw[h]
 ·rfl
theorem G8(A:Nat->Nat->Rat)(i:Nat)(v:Nat->Rat):D6 i (Ev A i v)=D6 i A:=by
 funext r c;unfold D6 Ev;rw[if_neg (jA i r)]
theorem Fp(A:Nat->Nat->Rat){i k:Nat}(h:i≠k)(v:Nat->Rat):D6 k (Ev A i v)=Ev (D6 k A) (if i < k then i else i - 1) (fun c=>v (c+1)):=by
 funext r c
 unfold D6 Ev;have:sk k r=i↔r=(if i < k then i else i - 1):=by unfold sk;split<;>split<;>omega
 by_cases e:sk k r=i
 ·rw[if_pos e,if_pos (this.1 e)]
 ·rw[if_neg e,if_neg (fun q=>e (this.2 q))]
theorem P6:∀ {n:Nat} (A:Nat->Nat->Rat) {i:Nat},i < n->∀(a b:Rat) (u v:Nat->Rat),Kc n (Ev A i fun c=>a*u c+b*v c)=a*Kc n (Ev A i u)+b*Kc n (Ev A i v)
 | 0,_,_,h,_,_,_,_=>absurd h Aa
 | n+1,A,i,h,a,b,u,v=>by
  rw[EM,EM,EM,<-Sn,<-Sn,<-dY];refine Cz fun k hk=>?_;by_cases e:i=k
  ·subst e
   rw[G8,G8,G8];simp only[Ev,if_pos];grind
  ·rw[Fp A e,Fp A e,Fp A e]
   have:=P6 (n:=n) (D6 k A) (i:=if i < k then i else i - 1) (by split<;>omega) a b (fun c=>u (c+1)) (fun c=>v (c+1));rw[this];simp only[Ev,if_neg (Ne.symm e)];grind
def sw(i:Nat)(A:Nat->Nat->Rat):Nat->Nat->Rat:=fun r=>A (if r=i then i+1 else if r=i+1 then i else r)
theorem TS{f g:Nat->Rat}{i:Nat}(h1:f i = - g (i+1))(h2:f (i+1) = - g i):∀ {n:Nat},i+1 < n->(∀ k,k < n->k≠i->k≠i+1->f k = - g k)->sm n f = - sm n g
 | 0,h,_=>absurd h Aa
 | n+1,h,k=>by
  by_cases e:i+1=n
  ·subst e
   have:sm i f=sm i (fun k=>(-1)*g k):=Cz fun j hj=>by rw[k j Aa Aa Aa];grind
   rw[Bz,Bz,Bz,Bz,this,Sn,h1,h2];grind
  ·rw[Bz,Bz,TS h1 h2 (n:=n) Aa fun j hj=>k j Aa,k n Aa Aa Aa];grind
theorem Sr:∀ {n:Nat} (A:Nat->Nat->Rat) {i:Nat},i+1 < n->Kc n (sw i A) = - Kc n A
 | 0,_,_,h=>absurd h Aa
 | n+1,A,i,h=>by
  rw[EM,EM];refine TS (i:=i) ?_ ?_ h fun k hk h1 h2=>?_
  ·have:D6 i (sw i A)=D6 (i+1) A:=by
    funext r c;unfold D6 sw sk
    refine congrArg (fun x=>A x (c+1)) ?_
    repeat' split
    all_goals omega
   rw[this,Ke];have:sw i A i 0=A (i+1) 0:=by unfold sw;rw[if_pos rfl]
   rw[this];grind
  ·have:D6 (i+1) (sw i A)=D6 i A:=by
    funext r c;unfold D6 sw sk
    refine congrArg (fun x=>A x (c+1)) ?_
    repeat' split
    all_goals omega
   rw[this,Ke];have:sw i A (i+1) 0=A i 0:=by unfold sw;rw[if_neg Aa,if_pos rfl]
   rw[this];grind
  ·have e:D6 k (sw i A)=sw (if i < k then i else i - 1) (D6 k A):=by
    funext r c;unfold D6 sw sk
    refine congrArg (fun x=>A x (c+1)) ?_
    repeat' split
    all_goals omega
   rw[e,Sr (n:=n) (D6 k A) (i:=if i < k then i else i - 1) (by split<;>omega)];have:sw i A k 0=A k 0:=by unfold sw;rw[if_neg h1,if_neg h2]
   rw[this];grind
theorem Ng:∀(d:Nat) {n:Nat} (A:Nat->Nat->Rat) {i:Nat},i+d+1 < n->A i=A (i+d+1)->Kc n A=0
 | 0,n,A,i,h,e=>by
  have:sw i A=A:=by
   funext r;unfold sw
   by_cases a:r=i
   ·subst a;rw[if_pos rfl];exact e.symm
   ·rw[if_neg a]
    by_cases b:r=i+1
    ·subst b;rw[if_pos rfl];exact e
    ·rw[if_neg b]
  have h2:=Sr A (i:=i) (by omega:i+1 < n);rw[this]at h2;grind
 | d+1,n,A,i,h,e=>by
  have h2:=Sr A (i:=i+d+1) (by omega:i+d+1+1 < n);have h3:=Ng d (n:=n) (sw (i+d+1) A) (i:=i) Aa (by
   unfold sw;rw[if_neg Aa,if_neg Aa,if_pos rfl];exact e)
  grind
theorem Vs{n i j:Nat}{A:Nat->Nat->Rat}(hi:i < n)(hj:j < n)(h:i≠j)(e:A i=A j):Kc n A=0:=by
 rcases Nat.lt_or_gt_of_ne h with h | h
 ·exact Ng (j - i - 1) A (i:=i) Aa (by rw[show i+(j - i - 1)+1=j from by omega];exact e)
 ·exact Ng (i - j - 1) A (i:=j) Aa (by rw[show j+(i - j - 1)+1=i from by omega];exact e.symm)
theorem Zd{n i j:Nat}(A:Nat->Nat->Rat)(hi:i < n)(hj:j < n)(h:i≠j)(t:Rat):Kc n (Ev A i fun c=>A i c+t*A j c)=Kc n A:=by
 have h1:=P6 A hi 1 t (A i) (A j);rw[Km,Vs (A:=Ev A i (A j)) hi hj h (by funext c;simp only[Ev,if_pos];rw[if_neg (Ne.symm h)])]at h1;rw[show(fun c=>A i c+t*A j c)=fun c=>1*A i c+t*A j c from by funext c;grind,h1];grind
theorem jH(A:Nat->Nat->Rat)(i:Nat)(u v:Nat->Rat):Ev (Ev A i u) i v=Ev A i v:=by funext r c;unfold Ev;split<;>rfl
theorem Rh{n i:Nat}(A:Nat->Nat->Rat)(hi:i < n)(t:Nat->Rat)(p:Nat->Nat):∀ k,(∀ j,j < k->p j < n/\p j≠i)->Kc n (Ev A i fun c=>A i c+sm k fun j=>t j*A (p j) c)=Kc n A
 | 0,_=>by
  rw[show(fun c=>A i c+sm 0 fun j=>t j*A (p j) c)=A i from by funext c;rw[Fa];grind,Km]
 | k+1,h=>by
  have h1:=Rh A hi t p k fun j hj=>h j Aa;obtain⟨h2,h3⟩:=h k Aa;have h4:=Zd (Ev A i fun c=>A i c+sm k fun j=>t j*A (p j) c) hi h2 (Ne.symm h3) (t k);rw[h1,jH]at h4;rw[<-h4];congr 2;funext c
  simp only[Ev,if_pos,if_neg h3,Bz];grind
theorem Qi{n:Nat}(A:Nat->Nat->Rat)(P:Nat->Bool)(k:Nat->Nat)(t:Nat->Nat->Rat)(p:Nat->Nat->Nat)(h:∀ i j,i < n->P i=true->j < k i->p i j < n/\P (p i j)=false) :
  Kc n (fun r c=>if P r then A r c+sm (k r) (fun j=>t r j*A (p r j) c)else A r c)=Kc n A:=by
 have key:∀ s,s<=n->Kc n (fun r c=>if P r&&decide (r < s)then A r c+sm (k r) (fun j=>t r j*A (p r j) c)else A r c)=Kc n A:=by
  intro s;induction s with
  | zero=>intro _;refine CK fun i j _ _=>?_;rw[if_neg Ac]
  | succ s ih =>
   intro hs;have h1:=ih Aa;cases hP:P s with
   | false =>
    rw[<-h1];refine CK fun i j _ _=>?_;by_cases e:i=s
    ·subst e;rw[if_neg (by simp[hP]),if_neg (by simp[hP])]
    ·have:decide (i < s+1)=decide (i < s):=by simp;omega
     rw[this]
   | true =>
    obtain⟨B,hB⟩:∃ B:Nat->Nat->Rat,B=fun r c=>if P r&&decide (r < s)then A r c+sm (k r) (fun j=>t r j*A (p r j) c)else A r c:=⟨_,rfl⟩
    rw[<-hB]at h1;have hs0:B s=A s:=by funext c;rw[hB];show(if _ then _ else _)=_;rw[if_neg Ac]
    have hp:∀ j,j < k s->B (p s j)=A (p s j):=fun j hj=>by
     obtain⟨_,h3⟩:=h s j Aa hP hj
     funext c;rw[hB];show(if _ then _ else _)=_;rw[if_neg (by simp[h3])]
    have h2:=Rh B (i:=s) (by omega:s < n) (t s) (p s) (k s) fun j hj=>by
     obtain⟨h2,h3⟩:=h s j Aa hP hj;exact⟨h2,fun e=>by rw[e,hP]at h3;cases h3⟩
    rw[<-h1,<-h2];refine CK fun i c _ _=>?_;unfold Ev;by_cases e:i=s
    ·subst e
     rw[if_pos (by simp[hP]),if_pos rfl,hs0];congr 1;exact Cz fun j hj=>by rw[hp j hj]
    ·have:decide (i < s+1)=decide (i < s):=by simp;omega
     rw[this,if_neg e,hB]
 rw[<-key n (Nat.le_refl n)];refine CK fun i j hi _=>?_;rw[show decide (i < n)=true from by simpa using hi,Bool.and_true]
theorem O1{n:Nat}(A:Nat->Nat->Rat)(a:Rat):∀ s,s<=n->Kc n (fun r c=>if r < s then a*A r c else A r c)=a^s*Kc n A
 | 0,_=>by
  rw[show(fun r c=>if r < 0 then a*A r c else A r c)=A from by funext r c;rw[if_neg Aa]];rw[Rat.pow_zero];grind
 | s+1,h=>by
  obtain⟨B,hB⟩:∃ B:Nat->Nat->Rat,B=fun r c=>if r < s then a*A r c else A r c:=⟨_,rfl⟩
  have h1:=O1 (n:=n) A a s Aa;rw[<-hB]at h1;have h2:=P6 B (i:=s) (by omega:s < n) a 0 (B s) (B s);rw[Km,h1]at h2;rw[Rat.pow_succ];rw[show Kc n (fun r c=>if r < s+1 then a*A r c else A r c)=Kc n (Ev B s fun c=>a*B s c+0*B s c)from ?_,h2]
  ·grind
  ·refine CK fun i c _ _=>?_
   unfold Ev;by_cases e:i=s
   ·subst e;rw[if_pos Aa,if_pos rfl,hB];simp only;rw[if_neg Aa];grind
   ·rw[if_neg e,hB];simp only
    by_cases e2:i < s
    ·rw[if_pos e2,if_pos Aa]
    ·rw[if_neg e2,if_neg Aa]
theorem X7{n k:Nat}{f:Nat->Rat}(hk:k < n)(h:∀ i,i < n->i≠k->f i=0):sm n f=f k:=by
 induction n with
 | zero=>omega
 | succ n ih =>
  rw[Bz];by_cases e:k=n
  ·subst e
   have:sm k f=sm k (fun _=>0):=Cz fun j hj=>h j Aa Aa;rw[this,MP];grind
  ·rw[ih Aa fun i hi=>h i Aa,h n Aa (fun q=>e q.symm)];grind
theorem OL{n k:Nat}{A:Nat->Nat->Rat}(hk:k < n+1)(h:∀ i,i < n+1->i≠k->A i 0=0):Kc (n+1) A=sg k*A k 0*Kc n (D6 k A):=by
 rw[EM,X7 (f:=fun i=>sg i*A i 0*Kc n (D6 i A)) hk fun i hi e=>by rw[h i hi e];grind]
def O9(m:Nat)(F:Nat->Rat)(n:Nat)(G:Nat->Rat):Nat->Nat->Rat:=fun r c=>if r < n then(if c<=m+r then F (m+r - c)else 0)else(if c<=r then G (r - c)else 0)
def Gx(m:Nat)(F:Nat->Rat)(n:Nat)(G:Nat->Rat):Rat:=Kc (m+n) (O9 m F n G)
theorem iL(r:Nat):sk 0 r=r+1:=by unfold sk;rw[if_neg Aa]
theorem Sw{m n:Nat}{F G:Nat->Rat}(hF:Be (m+1) F)(hG:Be (n+1) G):Gx (m+1) F n G=sg n*G n*Gx m F n G:=by
 unfold Gx;rw[show m+1+n=m+n+1 from Aa,OL (k:=n) Aa]
 ·congr 1
  ·congr 1
   show(if n < n then _ else _)=_;rw[if_neg Aa,if_pos Aa];rfl
  ·refine CK fun r c hr hc=>?_
   unfold D6 O9 sk;by_cases h:r < n
   ·rw[if_pos h,if_pos h,if_pos h]
    by_cases h2:c<=m+r
    ·rw[if_pos h2,if_pos Aa];congr 1;omega
    ·rw[if_neg h2,if_neg Aa]
   ·rw[if_neg h,if_neg Aa,if_neg h]
    by_cases h2:c<=r
    ·rw[if_pos h2,if_pos Aa];congr 1;omega
    ·rw[if_neg h2,if_neg Aa]
 ·intro i hi hne
  unfold O9;by_cases h:i < n
  ·rw[if_pos h,if_pos Aa];exact hF _ Aa
  ·rw[if_neg h,if_pos Aa];exact hG _ Aa
theorem RZ{m n:Nat}{F G:Nat->Rat}(hF:Be (m+1) F)(hG:m=0\/Be (n+1) G):Gx m F (n+1) G=F m*Gx m F n G:=by
 unfold Gx;rw[show m+(n+1)=m+n+1 from Aa,OL (k:=0) Aa]
 ·rw[Gz,show O9 m F (n+1) G 0 0=F m from by unfold O9;rw[if_pos Aa,if_pos Aa];rfl]
  rw[show(1:Rat)*F m=F m from by grind];congr 1;refine CK fun r c hr hc=>?_;unfold D6;rw[iL];unfold O9;by_cases h:r < n
  ·rw[if_pos Aa,if_pos h]
   by_cases h2:c<=m+r
   ·rw[if_pos h2,if_pos Aa];congr 1;omega
   ·rw[if_neg h2,if_neg Aa]
  ·rw[if_neg Aa,if_neg h]
   by_cases h2:c<=r
   ·rw[if_pos h2,if_pos Aa];congr 1;omega
   ·rw[if_neg h2,if_neg Aa]
 ·intro i hi hne
  unfold O9;by_cases h:i < n+1
  ·rw[if_pos h,if_pos Aa];exact hF _ Aa
  ·rw[if_neg h,if_pos Aa]
   rcases hG with rfl | hG
   ·omega
   ·exact hG _ Aa
theorem Pt{f:Nat->Rat}{a:Nat}(h:∀ i,a<=i->f i=0):∀ {b},a<=b->sm b f=sm a f:=by
 intro b hb;obtain⟨k,rfl⟩:∃ k,b=a+k:=⟨b - a,Aa⟩
 clear hb;induction k with
 | zero=>rfl
 | succ k ih=>rw[<-Nat.add_assoc,Bz,ih,h _ Aa];grind
theorem Wd{Q G:Nat->Rat}{k:Nat}(h:Be k Q)(d:Nat):cv Q G d=sm k fun j=>Q j*if j<=d then G (d - j)else 0:=by
 obtain⟨f,hf⟩:∃ f:Nat->Rat,f=fun j=>Q j*if j<=d then G (d - j)else 0:=⟨_,rfl⟩
 rw[<-hf];have h1:cv Q G d=sm (d+1) f:=by
  rw[Yi];refine Cz fun i hi=>?_;rw[hf];simp only;rw[if_pos Aa]
 have h2:sm (max k (d+1)) f=sm k f:=Pt (fun i hi=>by rw[hf];simp only;rw[h i hi];grind) Aa;have h3:sm (max k (d+1)) f=sm (d+1) f:=Pt (fun i hi=>by rw[hf];simp only;rw[if_neg Aa];grind) Aa;rw[h1,<-h3,h2]
theorem PK{m n:Nat}{F G Q:Nat->Rat}(h:n<=m)(hQ:Be (m - n+1) Q):Gx m (pad F (cv Q G)) n G=Gx m F n G:=by
 unfold Gx;rw[<-Qi (O9 m F n G) (fun r=>decide (r < n)) (fun _=>m - n+1) (fun _ j=>Q j) (fun r j=>m+r - j) fun i j hi hp hj=>by
  simp only[decide_eq_true_eq]at hp;exact⟨Aa,Dq⟩]
 refine CK fun r c hr hc=>?_;by_cases h1:r < n
 ·rw[if_pos (by simpa using h1)]
  unfold O9;rw[if_pos h1,if_pos h1];by_cases h2:c<=m+r
  ·rw[if_pos h2,if_pos h2]
   show F _+cv Q G _=_;rw[Wd hQ];congr 1;refine Cz fun j hj=>?_;rw[if_neg (show ¬ m+r - j < n by omega)];by_cases h3:j<=m+r - c
   ·rw[if_pos h3,if_pos Aa];congr 2;omega
   ·rw[if_neg h3,if_neg Aa]
  ·rw[if_neg h2,if_neg h2]
   have:sm (m - n+1) (fun j=>Q j*if m+r - j < n then(if c<=m+(m+r - j)then F (m+(m+r - j) - c)else 0)else if c<=m+r - j then G (m+r - j - c)else 0)=sm (m - n+1) (fun _=>0):=Cz fun j hj=>by
    rw[if_neg Aa,if_neg Aa];grind
   rw[this,MP];grind
 ·rw[if_neg (by simpa using h1)]
  unfold O9;rw[if_neg h1,if_neg h1]
theorem Ql{m n:Nat}{F G Q:Nat->Rat}(h:m<=n)(hQ:Be (n - m+1) Q):Gx m F n (pad G (cv Q F))=Gx m F n G:=by
 unfold Gx;rw[<-Qi (O9 m F n G) (fun r=>decide (n<=r)) (fun _=>n - m+1) (fun _ j=>Q j) (fun r j=>r - j - m) fun i j hi hp hj=>by
  simp only[decide_eq_true_eq]at hp;exact⟨Aa,Dq⟩]
 refine CK fun r c hr hc=>?_;by_cases h1:r < n
 ·rw[if_neg Dq]
  unfold O9;rw[if_pos h1,if_pos h1]
 ·rw[if_pos Dq]
  unfold O9;rw[if_neg h1,if_neg h1];by_cases h2:c<=r
  ·rw[if_pos h2,if_pos h2]
   show G _+cv Q F _=_;rw[Wd hQ];congr 1;refine Cz fun j hj=>?_;rw[if_pos (show r - j - m < n by omega)];by_cases h3:j<=r - c
   ·rw[if_pos h3,if_pos Aa];congr 2;omega
   ·rw[if_neg h3,if_neg Aa]
  ·rw[if_neg h2,if_neg h2]
   have:sm (n - m+1) (fun j=>Q j*if r - j - m < n then(if c<=m+(r - j - m)then F (m+(r - j - m) - c)else 0)else if c<=r - j - m then G (r - j - m - c)else 0)=sm (n - m+1) (fun _=>0):=Cz fun j hj=>by
    rw[if_pos Aa,if_neg Aa];grind
   rw[this,MP];grind
theorem RL{F:Nat->Rat}(hF:Be 1 F)(G:Nat->Rat):∀ n,Gx 0 F n G=F 0^n
 | 0=>by rw[Rat.pow_zero];rfl
 | n+1=>by rw[RZ hF (.inl rfl),RL hF G n,Rat.pow_succ];grind
theorem OQ(F:Nat->Rat){G:Nat->Rat}(hG:Be 1 G):∀ m,Gx m F 0 G=G 0^m
 | 0=>by rw[Rat.pow_zero];rfl
 | m+1=>by
  have:Gx (m+1) F 0 G=sg 0*G 0*Gx m F 0 G:=by
   unfold Gx;rw[show m+1+0=m+0+1 from Aa,OL (k:=0) Aa]
   ·rw[show O9 (m+1) F 0 G 0 0=G 0 from by unfold O9;rw[if_neg Aa,if_pos Aa]]
    congr 1;refine CK fun r c hr hc=>?_;unfold D6;rw[iL];unfold O9;rw[if_neg (show ¬ r+1 < 0 by omega),if_neg (show ¬ r < 0 by omega)];by_cases h2:c<=r
    ·rw[if_pos h2,if_pos (show c+1<=r+1 by omega)];congr 1;omega
    ·rw[if_neg h2,if_neg (show ¬ c+1<=r+1 by omega)]
   ·intro i hi hne
    unfold O9;rw[if_neg Aa,if_pos Aa];exact hG _ Aa
  rw[this,OQ F hG m,Rat.pow_succ,Gz];grind
theorem KZ(m n:Nat):sg ((m+1)*n)=sg (m*n)*sg n:=by rw[Nat.succ_mul,Tp]
theorem U4{m n:Nat}{F G:Nat->Rat}(h:n<=m)(hF:Be (m+1) F)(hG:Be (n+1) G)(h0:G n≠0):∃ Q,Be (m - n+1) Q/\Be m (pad F (cv Q G)):=by
 refine⟨mono (m - n) (-(F m / G n)),ES _ _,fun i hi=>?_⟩;rw[FY];show F i+_*sh (m - n) G i=0;rcases Nat.eq_or_lt_of_le hi with e | e
 ·subst e;unfold sh;rw[if_neg Aa,show m - (m - n)=n from by omega];grind
 ·unfold sh;rw[hF i Aa,if_neg Aa,hG (i - (m - n)) Aa];grind
theorem Ma:∀(s:Nat) {m n:Nat} {F G:Nat->Rat},m+n<=s->Be (m+1) F->Be (n+1) G->Gx n G m F=sg (m*n)*Gx m F n G
 | s,0,n,F,G,_,hF,_=>by rw[OQ G hF,RL hF G,Nat.zero_mul,Gz];grind
 | s,m+1,0,F,G,_,_,hG=>by rw[RL hG F,OQ F hG,Nat.mul_zero,Gz];grind
 | 0,m+1,n+1,_,_,h,_,_=>absurd h Aa
 | s+1,m+1,n+1,F,G,hs,hF,hG=>by
  have hf:∀ {F:Nat->Rat},Be (m+1) F->Gx (n+1) G (m+1) F=sg ((m+1)*(n+1))*Gx (m+1) F (n+1) G:=fun {F} h=>by
   rw[RZ hG (.inr h),Sw h hG,Ma s (m:=m) (n:=n+1) Aa h hG,KZ];have:=TH (n+1);grind
  have hg:∀ {G:Nat->Rat},Be (n+1) G->Gx (n+1) G (m+1) F=sg ((m+1)*(n+1))*Gx (m+1) F (n+1) G:=fun {G} h=>by
   rw[Sw h hF,RZ hF (.inr h),Ma s (m:=m+1) (n:=n) Aa hF h,Nat.mul_comm (m+1) (n+1),KZ n (m+1),Nat.mul_comm n (m+1)];have:=TH (m+1);grind
  by_cases h1:F (m+1)=0
  ·exact hf fun i hi=>by
    rcases Nat.eq_or_lt_of_le hi with e | e
    ·rw[<-e];exact h1
    ·exact hF i Aa
  ·by_cases h2:G (n+1)=0
   ·exact hg fun i hi=>by
     rcases Nat.eq_or_lt_of_le hi with e | e
     ·rw[<-e];exact h2
     ·exact hG i Aa
   ·rcases Nat.le_total (n+1) (m+1)with h3 | h3
    ·obtain⟨Q,hQ,hR⟩:=U4 h3 hF hG h2
     rw[<-PK h3 hQ,<-Ql h3 hQ];exact hf hR
    ·obtain⟨Q,hQ,hR⟩:=U4 h3 hG hF h1
     rw[<-PK h3 hQ,<-Ql h3 hQ];exact hg hR
theorem Lt{m n:Nat}{F G:Nat->Rat}(hF:Be (m+1) F)(hG:Be (n+1) G):Gx n G m F=sg (m*n)*Gx m F n G:=Ma (m+n) (Nat.le_refl _) hF hG
theorem QB{r n:Nat}{R G:Nat->Rat}(hR:Be (r+1) R)(hG:Be (n+1) G):∀ k,Gx (r+k) R n G=sg (n*k)*G n^k*Gx r R n G
 | 0=>by rw[Nat.mul_zero,Gz,Rat.pow_zero];show Gx r R n G=_;grind
 | k+1=>by
  rw[<-Nat.add_assoc,Sw (hR.mono Aa) hG,QB hR hG k,Nat.mul_succ,Tp,Rat.pow_succ];grind
theorem WK{m n r:Nat}{F G Q R:Nat->Rat}(h:n<=m)(hr:r<=m)(hG:Be (n+1) G)(hQ:Be (m - n+1) Q)(hR:Be (r+1) R)(e:F=pad (cv Q G) R):Gx m F n G=sg (m*n)*G n^(m - r)*Gx n G r R:=by
 rw[show F=pad R (cv Q G)from by rw[e];funext i;simp only[pad];grind,PK h hQ];have h1:=QB hR hG (m - r);rw[show r+(m - r)=m from by omega]at h1;rw[h1,Lt hR hG,show m*n=n*(m - r)+r*n from by rw[Nat.mul_sub,Nat.mul_comm n m,Nat.mul_comm n r];have:=Nat.mul_le_mul_right n hr;omega,Tp];have:=TH (r*n);grind
theorem Uh{m n:Nat}(a:Rat)(F G:Nat->Rat):Gx m (psc a F) n G=a^n*Gx m F n G:=by
 unfold Gx;rw[<-O1 (O9 m F n G) a n Aa];refine CK fun r c _ _=>?_;unfold O9;by_cases h:r < n
 ·rw[if_pos h,if_pos h,if_pos h]
  split
  ·rfl
  ·grind
 ·rw[if_neg h,if_neg h,if_neg h]
theorem XK{m n:Nat}(a:Rat){F G:Nat->Rat}(hF:Be (m+1) F)(hG:Be (n+1) G):Gx m F n (psc a G)=a^m*Gx m F n G:=by
 have h1:=Lt (hG.psc a) hF;have h2:=Lt hG hF;rw[h1,h2,Uh];grind
noncomputable def res(F G:Nat->Rat):Rat:=if pl F=0\/pl G=0 then 0 else Gx (pl F - 1) F (pl G - 1) G
theorem JR:qsz 0=1:=by decide
def Ei(N:Nat)(F:Nat->Rat):List (Option Rat):=(List.range N).map fun i=>some (F i)
theorem Qj(N:Nat)(F:Nat->Rat):(Ei N F).length=N:=by simp[Ei]
theorem WF{N:Nat}{F G:Nat->Rat}{p:Nat}{x:Rat}(h:∀ n,G n=if n=p then x else F n):(Ei N F).set p (some x)=Ei N G:=by
 apply List.ext_getElem
 ·simp[Ei]
 ·intro i h1 h2
  have hi:i < N:=by simpa[Ei] using h2
  rw[List.getElem_set];simp only[Ei,List.getElem_map,List.getElem_range];rw[h i];by_cases e:p=i
  ·rw[if_pos e,if_pos e.symm]
  ·rw[if_neg e,if_neg (fun e'=>e e'.symm)]
theorem Y9{N:Nat}{F:Nat->Rat}{i:Nat}(h:i < (Ei N F).length):(Ei N F)[i]=some (F i):=by simp[Ei]
theorem JP(N:Nat)(F:Nat->Rat):Ei N F=((List.range N).map F).map some:=by simp[Ei]
theorem Fj(N:Nat)(F:Nat->Rat):((List.range N).map F).length=N:=by simp
def mx(j:Nat)(F' F:Nat->Rat)(i:Nat):Rat:=if i < j then F' i else F i
theorem Tt(F' F:Nat->Rat):mx 0 F' F=F:=by funext i;unfold mx;rw[if_neg Aa]
theorem Xr(j:Nat)(F' F:Nat->Rat):mx j F' F j=F j:=by unfold mx;rw[if_neg Aa]
theorem Ry{N j:Nat}(F' F:Nat->Rat):(DL N (mx j F' F)).set j (F' j).num=DL N (mx (j+1) F' F):=by
 apply List.ext_getElem
 ·simp[DL]
 ·intro i h1 h2
  rw[List.getElem_set,Ca,Ca];unfold mx;by_cases e:j=i
  ·subst e;rw[if_pos rfl,if_pos Aa]
  ·rw[if_neg e]
   by_cases e2:i < j
   ·rw[if_pos e2,if_pos Aa]
   ·rw[if_neg e2,if_neg Aa]
theorem X4{N j:Nat}(h:N<=j)(F' F:Nat->Rat):DL N (mx j F' F)=DL N F':=by
 apply List.ext_getElem
 ·simp[DL]
 ·intro i h1 h2
  rw[Ca,Ca];unfold mx;rw[AR]at h1;rw[if_pos Aa]
theorem ZR{j:Nat}{F' F:Nat->Rat}(h:∀ i,j<=i->F' i=F i):mx j F' F=F':=by
 funext i;unfold mx;split
 ·rfl
 ·exact(h i Aa).symm
theorem Zn{j:Nat}{F' F:Nat->Rat}(h:∀ i,i < j->F' i=F i):mx j F' F=F:=by
 funext i;unfold mx;split
 ·exact h i Aa
 ·rfl
theorem ZI.psc{F:Nat->Rat}(h:ZI F)(a:Int):ZI (psc (a:Rat) F):=fun i=>by
 obtain⟨n,e⟩:=h i;exact⟨a*n,by show(a:Rat)*F i=_;rw[e,Rat.intCast_mul]⟩
theorem ZI.pad{F G:Nat->Rat}(h:ZI F)(k:ZI G):ZI (pad F G):=fun i=>by
 obtain⟨n,e⟩:=h i;obtain⟨m,e'⟩:=k i;exact⟨n+m,by show F i+G i=_;rw[e,e',Rat.intCast_add]⟩
theorem ZI.psb{F G:Nat->Rat}(h:ZI F)(k:ZI G):ZI (psb F G):=fun i=>by
 obtain⟨n,e⟩:=h i;obtain⟨m,e'⟩:=k i;exact⟨n - m,by show F i - G i=_;rw[e,e',Rat.intCast_sub]⟩
theorem ZI.pz:ZI pz:=fun _=>⟨0,rfl⟩
theorem ZI.sh{F:Nat->Rat}(h:ZI F)(k:Nat):ZI (sh k F):=fun i=>by
 unfold Hp.sh;split
 ·exact⟨0,rfl⟩
 ·exact h _
theorem ZI.mono(k:Nat)(a:Int):ZI (mono k (a:Rat)):=fun i=>by
 unfold Hp.mono;split
 ·exact⟨a,rfl⟩
 ·exact⟨0,rfl⟩
theorem ZI.at_{F:Nat->Rat}(h:ZI F)(i:Nat):F i=((F i).num:Rat):=h.num i
theorem num_sub(a b:Int):((a:Rat) - (b:Rat)).num=a - b:=by rw[<-Rat.intCast_sub];rfl
theorem num_mul(a b:Int):((a:Rat)*(b:Rat)).num=a*b:=by rw[<-Rat.intCast_mul];rfl
theorem ZI.num_sub{F G:Nat->Rat}(h:ZI F)(k:ZI G)(i j:Nat):(F i - G j).num=(F i).num - (G j).num:=by rw[h.num i,k.num j,Hp.num_sub];rfl
theorem ZI.num_mul{F G:Nat->Rat}(h:ZI F)(k:ZI G)(i j:Nat):(F i*G j).num=(F i).num*(G j).num:=by rw[h.num i,k.num j,Hp.num_mul];rfl
theorem XX{F G:Nat->Rat}(h:ZI F)(k:ZI G)(i j:Nat):qsz (F i+G j)<=max (qsz (F i)) (qsz (G j))+1:=by
 rw[h.num i,k.num j,<-Rat.intCast_add,Bn,Bn,Bn];have h1:=GX (F i).num.natAbs (G j).num.natAbs;have h2:=Bq (Int.natAbs_add_le (F i).num (G j).num);omega
theorem Mv{F G:Nat->Rat}(h:ZI F)(k:ZI G)(i j:Nat):qsz (F i - G j)<=max (qsz (F i)) (qsz (G j))+1:=by
 rw[h.num i,k.num j,<-Rat.intCast_sub,Bn,Bn,Bn];have h1:=GX (F i).num.natAbs (G j).num.natAbs;have h2:=Bq (show((F i).num - (G j).num).natAbs<=(F i).num.natAbs+(G j).num.natAbs by omega);omega
/-! ### pseudo-division -/
noncomputable def D7(F G:Nat->Rat):Nat->Nat->Rat
 | 0=>F
 | k+1=>psb (psc (ld G) (D7 F G k)) (psc (D7 F G k (pl F - 1 - k)) (sh (pl F - pl G - k) G))
noncomputable def Gc(F G:Nat->Rat):Nat->Nat->Rat
 | 0=>pz
 | k+1=>pad (psc (ld G) (Gc F G k)) (mono (pl F - pl G - k) (D7 F G k (pl F - 1 - k)))
theorem F4{F G:Nat->Rat}(hF:ZI F)(hG:ZI G):∀ k,ZI (D7 F G k)
 | 0=>hF
 | k+1=>by
  have ih:=F4 hF hG k;have h1:=hG.num (pl G - 1);have h2:=ih.num (pl F - 1 - k);unfold D7;rw[show ld G=((G (pl G - 1)).num:Rat)from h1,h2];exact(ih.psc _).psb ((hG.sh _).psc _)
theorem SX{F G:Nat->Rat}(hF:ZI F)(hG:ZI G):∀ k,ZI (Gc F G k)
 | 0=>ZI.pz
 | k+1=>by
  have ih:=SX hF hG k;have h1:=hG.num (pl G - 1);have h2:=(F4 hF hG k).num (pl F - 1 - k);unfold Gc;rw[show ld G=((G (pl G - 1)).num:Rat)from h1,h2];exact(ih.psc _).pad (ZI.mono _ _)
theorem Kh{F G:Nat->Rat}(hF:Ae F)(hG:Ae G)(h0:G≠pz):∀ k,k<=pl F+1 - pl G->Be (pl F - k) (D7 F G k)
 | 0,_=>AA hF
 | k+1,hk=>fun i hi=>by
  have ih:=Kh hF hG h0 k Aa;have hp:=AL hG h0;unfold D7;show ld G*D7 F G k i - D7 F G k (pl F - 1 - k)*sh (pl F - pl G - k) G i=0;by_cases e:i=pl F - 1 - k
  ·subst e
   have:sh (pl F - pl G - k) G (pl F - 1 - k)=ld G:=by
    unfold sh;rw[if_neg Aa];show G _=G _;congr 1;omega
   rw[this];grind
  ·have h1:D7 F G k i=0:=ih i Aa
   have h2:sh (pl F - pl G - k) G i=0:=by
    unfold sh;split
    ·rfl
    ·exact AA hG _ Aa
   rw[h1,h2];grind
theorem IZ{F G:Nat->Rat}(h:pl G<=pl F):∀ k,k<=pl F+1 - pl G->Be (pl F+1 - pl G) (Gc F G k)/\∀ i,i+k < pl F+1 - pl G->Gc F G k i=0
 | 0,_=>⟨Be.pz _,fun _ _=>rfl⟩
 | k+1,hk=>by
  obtain⟨h1,h2⟩:=IZ h k Aa;unfold Gc;refine⟨(h1.psc _).pad ((ES _ _).mono Aa),fun i hi=>?_⟩;show ld G*Gc F G k i+mono (pl F - pl G - k) _ i=0;rw[h2 i Aa,EP Aa];grind
theorem OJ{F G:Nat->Rat}:∀ k,psc (ld G^k) F=pad (cv (Gc F G k) G) (D7 F G k)
 | 0=>by rw[Rat.pow_zero,Ct];unfold Gc D7;rw[Cn];funext i;simp only[pad,pz];grind
 | k+1=>by
  have ih:=OJ (F:=F) (G:=G) k;rw[show Gc F G (k+1)=pad (psc (ld G) (Gc F G k)) (mono (pl F - pl G - k) (D7 F G k (pl F - 1 - k)))from rfl,show D7 F G (k+1)=psb (psc (ld G) (D7 F G k)) (psc (D7 F G k (pl F - 1 - k)) (sh (pl F - pl G - k) G))from rfl];generalize D7 F G k (pl F - 1 - k)=a;generalize D7 F G k=P at ih ⊢;generalize Gc F G k=Q at ih ⊢;rw[CG,FY,Cv];generalize sh (pl F - pl G - k) G=H
  funext i
  have:=congrFun ih i;simp only[psc,pad,psb,Rat.pow_succ]at this ⊢;generalize cv Q G i=u at this ⊢;generalize P i=v at this ⊢;generalize H i=y at this ⊢;grind
theorem Kj{F G:Nat->Rat}(hF:Ae F)(hG:Ae G)(h0:G≠pz):Gc F G (pl F+1 - pl G)=psc (ld G^(pl F+1 - pl G)) (pq F G)/\D7 F G (pl F+1 - pl G)=psc (ld G^(pl F+1 - pl G)) (pr F G):=by
 have hp:=AL hG h0;have e1:=OJ (F:=F) (G:=G) (pl F+1 - pl G);have hs:Be (pl G - 1) (D7 F G (pl F+1 - pl G)):=by
  by_cases h:pl G<=pl F
  ·exact(Kh hF hG h0 _ (Nat.le_refl _)).mono Aa
  ·rw[show pl F+1 - pl G=0 from by omega];exact(AA hF).mono Aa
 have hq:Ae (Gc F G (pl F+1 - pl G)):=by
  by_cases h:pl G<=pl F
  ·exact⟨_,(IZ h _ (Nat.le_refl _)).1⟩
  ·rw[show pl F+1 - pl G=0 from by omega];exact Ae.pz
 have d1:=Ir (hF.psc (ld G^(pl F+1 - pl G))) hG h0 hq e1 hs;have d2:=Ir (hF.psc (ld G^(pl F+1 - pl G))) hG h0 ((Dm F G).psc (ld G^(pl F+1 - pl G))) (R:=psc (ld G^(pl F+1 - pl G)) (pr F G)) (by
  rw[Cv]
  funext i
  have:=congrFun (JX F G) i;simp only[psc,pad]at this ⊢;rw[this];grind) ((Et hF hG h0).psc _)
 exact⟨d1.1.trans d2.1.symm,d1.2.trans d2.2.symm⟩
theorem GR{F G:Nat->Rat}{s t:Nat}(hF:ZI F)(hG:ZI G)(hs:∀ i,qsz (F i)<=s)(ht:∀ i,qsz (G i)<=t):∀ k i,qsz (D7 F G k i)<=s+k*(t+1)
 | 0,i=>by have:=hs i;show qsz (F i)<=_;omega
 | k+1,i=>by
  have ih:=GR hF hG hs ht k;have hz:=F4 hF hG k;have h1:=hG.num (pl G - 1);have h2:=hz.num (pl F - 1 - k);have hA:ZI (psc (ld G) (D7 F G k)):=by rw[show ld G=((G (pl G - 1)).num:Rat)from h1];exact hz.psc _
  have hB:ZI (psc (D7 F G k (pl F - 1 - k)) (sh (pl F - pl G - k) G)):=by rw[h2];exact(hG.sh _).psc _
  have h3:=Mv hA hB i i;have h4:qsz (psc (ld G) (D7 F G k) i)<=t+(s+k*(t+1)):=by
   have a:=CW (ld G) (D7 F G k i);have b:=ht (pl G - 1);have c:=ih i;show qsz (ld G*D7 F G k i)<=_;have:qsz (ld G)<=t:=b;omega
  have h5:qsz (psc (D7 F G k (pl F - 1 - k)) (sh (pl F - pl G - k) G) i)<=(s+k*(t+1))+t:=by
   have a:=CW (D7 F G k (pl F - 1 - k)) (sh (pl F - pl G - k) G i);have c:=ih (pl F - 1 - k);have b:qsz (sh (pl F - pl G - k) G i)<=t:=by
    unfold sh;split
    ·have:=ht 0;have h1:=FW (G 0);rw[JR];omega
    ·exact ht _
   show qsz (D7 F G k (pl F - 1 - k)*sh (pl F - pl G - k) G i)<=_;omega
  unfold D7;rw[Nat.succ_mul];show qsz (psc (ld G) (D7 F G k) i - psc (D7 F G k (pl F - 1 - k)) (sh (pl F - pl G - k) G) i)<=_;omega
theorem Us{F G:Nat->Rat}{s t:Nat}(hF:ZI F)(hG:ZI G)(hs:∀ i,qsz (F i)<=s)(ht:∀ i,qsz (G i)<=t)(h:pl G<=pl F):∀ k,k<=pl F+1 - pl G->∀ i,qsz (Gc F G k i)<=s+k*(t+1)
 | 0,_,i=>by have:=hs i;have h1:=FW (F i);show qsz 0<=_;rw[JR];omega
 | k+1,hk,i=>by
  have ih:=Us hF hG hs ht h k Aa;have h2:=(IZ h k Aa).2;have h3:=GR hF hG hs ht k (pl F - 1 - k);unfold Gc;rw[Nat.succ_mul];show qsz (ld G*Gc F G k i+mono (pl F - pl G - k) _ i)<=_;by_cases e:i=pl F - pl G - k
  ·subst e
   rw[h2 _ Aa,Kl,show ∀ x:Rat,ld G*0+x=x from fun x=>by grind];omega
  ·rw[EP e,show ∀ x:Rat,x+0=x from fun x=>by grind]
   have a:=CW (ld G) (Gc F G k i);have b:=ht (pl G - 1);have c:=ih i;have:qsz (ld G)<=t:=b;omega
theorem Mo{F G:Nat->Rat}(hF:Ae F)(hG:Ae G)(h:F≠pz)(k:G≠pz):res F G=Gx (pl F - 1) F (pl G - 1) G:=by
 have:=AL hF h;have:=AL hG k;unfold res;rw[if_neg Aa]
theorem IC{F:Nat->Rat}(h:Ae F):Be (pl F - 1+1) F:=(AA h).mono Aa
theorem Fs(q:Rat):sz q.num.natAbs<=qsz q:=by unfold qsz;omega
theorem Kk(a:Int):∀ n:Nat,((a:Rat))^n=((a^n:Int):Rat)
 | 0=>by rw[Rat.pow_zero,Int.pow_zero];rfl
 | n+1=>by rw[Rat.pow_succ,Kk a n,Int.pow_succ,Rat.intCast_mul]
theorem Tk{a:Rat}(h:a≠0):∀ n:Nat,a^n≠0
 | 0=>by rw[Rat.pow_zero];decide
 | n+1=>by
  rw[Rat.pow_succ];intro e;rcases Rat.mul_eq_zero.1 e with e | e
  ·exact Tk h n e
  ·exact h e
theorem R5(a:Rat)(m:Nat):∀ n:Nat,(a^m)^n=a^(m*n)
 | 0=>by rw[Rat.pow_zero,Nat.mul_zero,Rat.pow_zero]
 | n+1=>by
  rw[Rat.pow_succ,R5 a m n,Nat.mul_succ];generalize m*n=k;induction m with
  | zero=>rw[Rat.pow_zero];grind
  | succ m ih=>rw[Rat.pow_succ,<-Nat.add_assoc,Rat.pow_succ,<-ih];grind
theorem IE(x:Int)(s:Nat)(h:sz x.natAbs<=s):∀ n:Nat,sz (x^n).natAbs<=1+n*s
 | 0=>by rw[Int.pow_zero];have:sz (1:Int).natAbs<=1:=Ab;omega
 | n+1=>by
  rw[Int.pow_succ,Int.natAbs_mul,Nat.succ_mul];have h1:=BV (x^n).natAbs x.natAbs;have h2:=IE x s h n;omega
theorem LK(x:Int)(s:Nat)(h:sz x.natAbs<=s){n:Nat}(hn:0 < n):sz (x^n).natAbs<=n*s:=by
 obtain⟨n,rfl⟩:∃ k,n=k+1:=⟨n - 1,Aa⟩
 clear hn;induction n with
 | zero=>rw[Int.pow_succ,Int.pow_zero,Int.one_mul];omega
 | succ n ih =>
  rw[Int.pow_succ,Int.natAbs_mul,Nat.succ_mul];have h1:=BV (x^(n+1)).natAbs x.natAbs;omega
theorem Vj{F G:Nat->Rat}(hF:Ae F)(hG:Ae G)(hf:F≠pz)(hg:G≠pz)(h:pl G<=pl F)(hzF:ZI F)(hzG:ZI G){R:Nat->Rat}(hR:R=D7 F G (pl F+1 - pl G))(h0:R≠pz) :
  res F G*ld G^((pl F+1 - pl G)*(pl G - 1))=sg ((pl F - 1)*(pl G - 1))*((pcn R:Int):Rat)^(pl G - 1)*ld G^(pl F - 1 - (pl R - 1))*res G (pp R):=by
 have hp:=AL hG hg;have hRz:ZI R:=hR▸F4 hzF hzG _;have hRs:Be (pl G - 1) R:=by
  rw[hR];exact(Kh hF hG hg _ (Nat.le_refl _)).mono Aa
 have hRf:Ae R:=⟨_,hRs⟩
 have hrl:=BD hRs;have hrp:=AL hRf h0;have hP:=TV hRz hRf h0;have hPf:=Dx hRf;have hPl:=DI hRz hRf;rw[Mo hF hG hf hg,Mo hG hPf hg hP,hPl,<-R5,Rat.mul_comm,<-Uh];have e:=OJ (F:=F) (G:=G) (pl F+1 - pl G);rw[<-hR]at e;rw[WK (r:=pl R - 1) Aa Aa (IC hG) ((IZ h _ (Nat.le_refl _)).1.mono Aa) (IC hRf) e];have e2:Gx (pl G - 1) G (pl R - 1) R=((pcn R:Int):Rat)^(pl G - 1)*Gx (pl G - 1) G (pl R - 1) (pp R):=by
  have:=XK ((pcn R:Int):Rat) (m:=pl G - 1) (n:=pl R - 1) (IC hG) (G:=pp R) (by have:=IC hPf;rw[hPl]at this;exact this);rw[<-MR hRz hRf h0]at this;exact this
 rw[e2];show _*G (pl G - 1)^_*_=_*_*G (pl G - 1)^_*_;grind
theorem Wm{F G:Nat->Rat}(hF:Ae F)(hG:Ae G)(hf:F≠pz)(hg:G≠pz):res F G=sg ((pl F - 1)*(pl G - 1))*res G F:=by
 rw[Mo hF hG hf hg,Mo hG hF hg hf,Lt (IC hF) (IC hG)];have:=TH ((pl F - 1)*(pl G - 1));grind
theorem UJ{F G:Nat->Rat}(hF:Ae F)(hG:Ae G)(hf:F≠pz)(h:pl G=1):res F G=G 0^(pl F - 1):=by
 have hg:G≠pz:=fun e=>by rw[e,BR]at h;omega
 rw[Mo hF hG hf hg,h];exact OQ F (h▸AA hG) _
structure Ja(F0 G0:Nat->Rat)(D S:Nat)(F G:Nat->Rat)(x y:Int):Prop where
 fF:Ae F
 fG:Ae G
 nF:F≠pz
 nG:G≠pz
 zF:ZI F
 zG:ZI G
 eq:res F0 G0*(y:Rat)=(x:Rat)*res F G
 ny:y≠0
 len:pl F+pl G<=D
 qF:∀ i,qsz (F i)+1<=(S+1)*2^(D - (pl F+pl G))
 qG:∀ i,qsz (G i)+1<=(S+1)*2^(D - (pl F+pl G))
 sx:sz x.natAbs<=1+(D - (pl F+pl G))*(D*((S+1)*2^D))
 sy:sz y.natAbs<=1+(D - (pl F+pl G))*(D*((S+1)*2^D))
theorem Ja.start{F G:Nat->Rat}{S:Nat}(hF:Ae F)(hG:Ae G)(hf:F≠pz)(hg:G≠pz)(zF:ZI F)(zG:ZI G)(qF:∀ i,qsz (F i)<=S)(qG:∀ i,qsz (G i)<=S):Ja F G (pl F+pl G) S F G 1 1:=
  ⟨hF,hG,hf,hg,zF,zG,Ad,Ab,Nat.le_refl _,fun i=>by have:=qF i;rw[Nat.sub_self,Nat.pow_zero];omega,fun i=>by have:=qG i;rw[Nat.sub_self,Nat.pow_zero];omega,
    by have:sz (1:Int).natAbs<=1:=by decide
       omega,by have:sz (1:Int).natAbs<=1:=Ab;omega⟩
def ZA(k:Nat)(x:Int):Int:=if k % 2=1 then -x else x
theorem aD(k:Nat)(x:Int):((ZA k x:Int):Rat)=sg k*(x:Rat):=by
 unfold ZA sg;rcases Nat.mod_two_eq_zero_or_one k with h | h
 ·rw[if_neg Aa,if_pos h];grind
 ·rw[if_pos h,if_neg Aa,Rat.intCast_neg];grind
theorem Ls(k:Nat)(x:Int):(ZA k x).natAbs=x.natAbs:=by unfold ZA;split<;>simp
theorem Ja.swap{F0 G0 F G:Nat->Rat}{D S:Nat}{x y:Int}(h:Ja F0 G0 D S F G x y):Ja F0 G0 D S G F (ZA ((pl F - 1)*(pl G - 1)) x) y:=
 ⟨h.fG,h.fF,h.nG,h.nF,h.zG,h.zF,by rw[h.eq,Wm h.fF h.fG h.nF h.nG,aD];grind,h.ny,by have:=h.len;omega,by rw[Nat.add_comm (pl G)];exact h.qG,by rw[Nat.add_comm (pl G)];exact h.qF,
  by rw[Ls,Nat.add_comm (pl G)];exact h.sx,by rw[Nat.add_comm (pl G)];exact h.sy⟩
theorem Me(d:Nat):d+1<=2^d:=by
 induction d with
 | zero=>decide
 | succ d ih=>rw[Nat.pow_succ];omega
theorem Ja.room{F0 G0 F G:Nat->Rat}{D S:Nat}{x y:Int}(h:Ja F0 G0 D S F G x y)(hl:pl G<=pl F){R:Nat->Rat}(hR:R=D7 F G (pl F+1 - pl G)) :
  (∀ i,qsz (F i)<=(S+1)*2^D)/\(∀ i,qsz (G i)<=(S+1)*2^D)/\(∀ i,qsz (R i)+1<=(S+1)*2^(D - (pl F+pl G)+(pl F+1 - pl G))):=by
 have up:∀ a:Nat,a<=D->(S+1)*2^a<=(S+1)*2^D:=fun a ha=>Nat.mul_le_mul_left _ (Nat.pow_le_pow_right Ab ha);have h1:=up (D - (pl F+pl G)) Aa;refine⟨fun i=>by have:=h.qF i;omega,fun i=>by have:=h.qG i;omega,fun i=>?_⟩;obtain⟨M,hM⟩:∃ M,M=(S+1)*2^(D - (pl F+pl G)):=⟨_,rfl⟩
 have hp:0 < M:=by rw[hM];exact Nat.mul_pos Aa (Nat.pow_pos Ab)
 have h2:=GR (s:=M - 1) (t:=M - 1) h.zF h.zG (fun i=>by have:=h.qF i;omega) (fun i=>by have:=h.qG i;omega) (pl F+1 - pl G) i;rw[<-hR]at h2;rw[Nat.pow_add,<-Nat.mul_assoc,<-hM];have h3:=Me (pl F+1 - pl G);have h4:M*(pl F+1 - pl G+1)<=M*2^(pl F+1 - pl G):=Nat.mul_le_mul_left _ h3;rw[Nat.mul_succ,Nat.mul_comm M]at h4;rw[show M - 1+1=M from by omega]at h2;omega
theorem Ja.step{F0 G0 F G:Nat->Rat}{D S:Nat}{x y:Int}(h:Ja F0 G0 D S F G x y)(h1:1 < pl G)(hl:pl G<=pl F){R:Nat->Rat}(hR:R=D7 F G (pl F+1 - pl G))(h0:R≠pz) :
  Ja F0 G0 D S G (pp R) (ZA ((pl F - 1)*(pl G - 1)) x*pcn R^(pl G - 1)*(ld G).num^(pl F - 1 - (pl R - 1))) (y*(ld G).num^((pl F+1 - pl G)*(pl G - 1))):=by
 have hRz:ZI R:=hR▸F4 h.zF h.zG _;have hRs:Be (pl G - 1) R:=by rw[hR];exact(Kh h.fF h.fG h.nG _ (Nat.le_refl _)).mono Aa
 have hRf:Ae R:=⟨_,hRs⟩
 have hrl:=BD hRs;have hrp:=AL hRf h0;have hPl:=DI hRz hRf;have hld:ld G=((ld G).num:Rat):=h.zG.num _;have hldn:(ld G).num≠0:=fun e=>CV h.fG h.nG (by rw[hld,e];rfl);obtain⟨b1,b2,b3⟩:=h.room hl hR;have hlen:=h.len;obtain⟨M,hM⟩:∃ M,M=(S+1)*2^D:=⟨_,rfl⟩
 have hup:∀ a:Nat,a<=D->(S+1)*2^a<=M:=fun a ha=>by rw[hM];exact Nat.mul_le_mul_left _ (Nat.pow_le_pow_right Ab ha)
 have hRq:∀ i,qsz (R i)<=M:=fun i=>by
  have a:=b3 i;have b:=hup (D - (pl F+pl G)+(pl F+1 - pl G)) Aa;omega
 have hmono:∀ a b:Nat,a<=b->(S+1)*2^a<=(S+1)*2^b:=fun a b hab=>Nat.mul_le_mul_left _ (Nat.pow_le_pow_right Ab hab);have hsld:sz (ld G).num.natAbs<=M:=by
  have a:=Fs (G (pl G - 1));have b:=b2 (pl G - 1);show sz (G (pl G - 1)).num.natAbs<=M;omega
 have hspc:sz (pcn R).natAbs<=M:=by rw[F8];exact Jg hRq _
 obtain⟨d,hd⟩:∃ d,d=pl F - pl R:=⟨_,rfl⟩
 have hD:D - (pl G+pl R)=D - (pl F+pl G)+d:=by omega
 refine⟨h.fG,Dx hRf,h.nG,TV hRz hRf h0,h.zG,Ha hRz hRf,?_,?_,by rw[hPl];omega,fun i=>?_,fun i=>?_,?_,?_⟩
 ·have e:=Vj h.fF h.fG h.nF h.nG hl h.zF h.zG hR h0
  have e2:=h.eq;rw[Rat.intCast_mul,Rat.intCast_mul,Rat.intCast_mul,<-Kk,<-Kk,<-Kk,<-hld,aD];grind
 ·exact Int.mul_ne_zero h.ny (Int.pow_ne_zero hldn)
 ·rw[hPl,hD];exact Nat.le_trans (h.qG i) (hmono _ _ Aa)
 ·have a:=Ga hRz hRf (s:=(S+1)*2^(D - (pl F+pl G)+(pl F+1 - pl G)) - 1) (fun i=>by have:=b3 i;omega) i
  have b:=hmono (D - (pl F+pl G)+(pl F+1 - pl G)) (D - (pl F+pl G)+d) Aa;have c:=FW (pp R i);have p:0 < (S+1)*2^(D - (pl F+pl G)+(pl F+1 - pl G)):=Nat.mul_pos Aa (Nat.pow_pos Ab);rw[hPl,hD];omega
 ·rw[hPl,hD,Nat.add_mul,<-hM,Int.natAbs_mul,Int.natAbs_mul,Ls]
  have a1:=h.sx;rw[<-hM]at a1;have a2:=BV (x.natAbs*(pcn R^(pl G - 1)).natAbs) ((ld G).num^(pl F - 1 - (pl R - 1))).natAbs;have a3:=BV x.natAbs (pcn R^(pl G - 1)).natAbs;have a4:=LK _ _ hspc (n:=pl G - 1) Aa;have a5:=LK _ _ hsld (n:=pl F - 1 - (pl R - 1)) Aa;rw[show pl F - 1 - (pl R - 1)=d from by omega]at a2 a5 ⊢;have a6:(pl G - 1)*M+d*M<=d*(D*M):=by
   have c1:(pl G - 1+d)*M<=(d*D)*M:=Nat.mul_le_mul_right _ (by
    have c2:d*(pl G)<=d*D:=Nat.mul_le_mul_left _ Aa;have c3:1*(pl G - 1)<=d*(pl G - 1):=Nat.mul_le_mul_right _ Aa;have c4:d*(pl G)=d*(pl G - 1)+d:=by rw[<-Nat.mul_succ];congr 1;omega
    omega)
   rw[Nat.add_mul,Nat.mul_assoc]at c1;exact c1
  omega
 ·rw[hPl,hD,Nat.add_mul,<-hM,Int.natAbs_mul]
  have a1:=h.sy;rw[<-hM]at a1;have a2:=BV y.natAbs ((ld G).num^((pl F+1 - pl G)*(pl G - 1))).natAbs;have a4:=LK _ _ hsld (n:=(pl F+1 - pl G)*(pl G - 1)) (Nat.mul_pos Aa Aa);have a6:(pl F+1 - pl G)*(pl G - 1)*M<=d*(D*M):=by
   rw[Nat.mul_assoc];exact Nat.mul_le_mul Aa (Nat.mul_le_mul_right _ Aa)
  omega
theorem Ja.end_{F0 G0 F G:Nat->Rat}{D S:Nat}{x y:Int}(h:Ja F0 G0 D S F G x y)(h1:pl G=1)(hz:∃ z:Int,res F0 G0=(z:Rat)) :
  y∣x*(G 0).num^(pl F - 1)/\x*(G 0).num^(pl F - 1) / y=(res F0 G0).num:=by
 obtain⟨z,hz⟩:=hz;have e:=h.eq;rw[UJ h.fF h.fG h.nF h1,h.zG.num 0,Kk,<-Rat.intCast_mul,hz,<-Rat.intCast_mul]at e;have e2:=Ff e;rw[<-e2,hz];exact⟨⟨z,Int.mul_comm _ _⟩,by rw[Int.mul_ediv_cancel _ h.ny];rfl⟩
theorem Ext.a4{w w':World}{o p q r:Obj}(h:Ext ((((w.alloc o).alloc p).alloc q).alloc r) w'):Ext w w':=h.a1.a1.a1.a1
theorem PN{w w1:World}{g h n c n' c':Nat}{A A':Option Addr}{b b':Bool}{x y:Int}(hx:AO w1 (.agg #[.bool b,.slice A n c]) x)(hy:AO w1 (.agg #[.bool b',.slice A' n' c']) y)(he:Ext w w1)(hn:AV w1 g)(hn':AV w1 h)(hg:w.heap.size<=g)(hh:w.heap.size<=h) :
  AO ((((w1.setCell ⟨g,0,none⟩ (.bool b)).setCell ⟨g,1,none⟩ (.slice A n c)).setCell ⟨h,0,none⟩ (.bool b')).setCell ⟨h,1,none⟩ (.slice A' n' c')) (.agg #[.bool b,.slice A n c]) x /\
  AO ((((w1.setCell ⟨g,0,none⟩ (.bool b)).setCell ⟨g,1,none⟩ (.slice A n c)).setCell ⟨h,0,none⟩ (.bool b')).setCell ⟨h,1,none⟩ (.slice A' n' c')) (.agg #[.bool b',.slice A' n' c']) y /\
  Ext w ((((w1.setCell ⟨g,0,none⟩ (.bool b)).setCell ⟨g,1,none⟩ (.slice A n c)).setCell ⟨h,0,none⟩ (.bool b')).setCell ⟨h,1,none⟩ (.slice A' n' c')):=by
 have k:=((((KD.refl w1).set_ (i:=0) hn (.bool b)).set_ (i:=1) (hn.set_ rfl) (.slice A n c)).set_ (i:=0) ((hn'.set_ rfl).set_ rfl) (.bool b')).set_ (i:=1) (((hn'.set_ rfl).set_ rfl).set_ rfl) (.slice A' n' c');exact⟨hx.kd k,hy.kd k,(((he.setCell _ _ hg).setCell _ _ hg).setCell _ _ hh).setCell _ _ hh⟩
theorem AO.zero(w:World):AO w (.agg #[.bool false,.slice none 0 0]) 0:=
 ⟨false,[],⟨_,rfl,none,0,rfl,Ac,Aa,Bc.nil,fun h=>by simp at h⟩,rfl,fun h=>absurd rfl h,fun h=>by cases h⟩
theorem euclid{x q r:Int}{M:Nat}(s:Bool)(h0:0<=r)(h1:r < M)(h:x=M*q+r) :
  x / (if s then -(M:Int)else M)=(if s then -q else q)/\x % (if s then -(M:Int)else M)=r:=by
 have hp:(0:Int) < M:=by omega
 have k:=(Int.ediv_emod_unique hp (a:=x) (r:=r) (q:=q)).2 ⟨by rw[h,Int.add_comm],h0,h1⟩;cases s
 ·exact k
 ·simp only[if_true,Int.ediv_neg,Int.emod_neg]
  exact⟨by rw[k.1],k.2⟩
theorem RP{N M:Nat}(s:Bool)(h:0 < M):(N:Int) / (if s then -(M:Int)else M)=(if s then -((N / M:Nat):Int)else(N / M:Nat))/\(N:Int) % (if s then -(M:Int)else M)=(N % M:Nat):=
 euclid s Aa (by have:=Nat.mod_lt N h;omega) (by have:=Nat.div_add_mod N M;rw[<-Int.natCast_mul];omega)
theorem Q6{N M:Nat}(s:Bool)(h:0 < M)(h0:N % M=0):(-(N:Int)) / (if s then -(M:Int)else M)=(if (!s)then -((N / M:Nat):Int)else(N / M:Nat))/\(-(N:Int)) % (if s then -(M:Int)else M)=(N % M:Nat):=by
 have:=euclid (x:=-(N:Int)) (q:=-((N / M:Nat):Int)) (r:=(N % M:Nat)) (M:=M) s Aa (by have:=Nat.mod_lt N h;omega) (by have:=Nat.div_add_mod N M;rw[Int.mul_neg,<-Int.natCast_mul];omega);cases s<;>simpa using this
theorem SB{N M:Nat}(s:Bool)(h:0 < M)(h0:0 < N % M):(-(N:Int)) / (if s then -(M:Int)else M)=(if (!s)then -((N / M+1:Nat):Int)else(N / M+1:Nat))/\(-(N:Int)) % (if s then -(M:Int)else M)=(M - N % M:Nat):=by
 have hl:=Nat.mod_lt N h;have:=euclid (x:=-(N:Int)) (q:=-((N / M+1:Nat):Int)) (r:=(M - N % M:Nat)) (M:=M) s Aa Aa (by have:=Nat.div_add_mod N M;rw[Int.mul_neg,<-Int.natCast_mul,Nat.mul_add];omega);cases s<;>simpa using this
theorem DK.unit(w:World)(t:TypeId):DK (w.alloc (.cells #[.int .u32 1] t)) (.slice (some ⟨w.heap.size,0,none⟩) 1 1) 1 1:=by
 have h:BA (w.alloc (.cells #[.int .u32 1] t)) w.heap.size t [1]:=heap_alloc_new w _;exact⟨[1],h.digv Ac Ac Aa,by simp[Cm,C9],Ac⟩
theorem BH.uniq{w:World}{v:Value}{ds es:List Nat}(h:BH w v ds)(k:BH w v es):ds=es:=by
 obtain⟨A,c,rfl,h1,_,h2⟩:=h;obtain⟨A',c',he,k1,_,k2⟩:=k;have hl:ds.length=es.length:=by have:=congrArg (fun v=>match v with | Value.slice _ n _=>n | _=>0) he;simpa using this
 obtain rfl:A=A':=by have:=congrArg (fun v=>match v with | Value.slice p _ _=>p | _=>none) he;simpa using this
 apply List.ext_getElem hl
 intro i hi hi';obtain⟨a,rfl,ha⟩:=h2.2 Aa;obtain⟨b,hb,hb'⟩:=k2.2 Aa;cases hb;have h1:=ha i hi;have h2:=hb' i hi';rw[h1]at h2;simp only[Option.some.injEq,Value.int.injEq,true_and]at h2;omega
theorem Bt.uniq{w:World}{v:Value}{n m:Nat}(h:Bt w v n)(k:Bt w v m):n=m:=by
 obtain⟨ds,h1,rfl,_⟩:=h;obtain⟨es,k1,rfl,_⟩:=k;rw[h1.uniq k1]
open Classical in
/-- The number that a value reads as. -/
noncomputable def Wu(v:Value)(w:World):Nat:=if h:∃ n,Bt w v n then h.choose else 0
theorem Qo{w:World}{v:Value}{n:Nat}(h:Bt w v n):Wu v w=n:=by
 unfold Wu;rw[dif_pos ⟨n,h⟩];exact Bt.uniq (Exists.choose_spec (p:=fun n=>Bt w v n) ⟨n,h⟩) h
theorem AO.parts{w:World}{v:Value}{x:Int}(h:AO w v x):∃ b A n c,v = .agg #[.bool b,.slice A n c]/\n=sz x.natAbs/\b=decide (x < 0):=by
 obtain⟨A,c,e,_⟩:=h.form;exact⟨_,_,_,_,e,rfl,rfl⟩
theorem aQ{x:Int}(h:x=0):(((sz x.natAbs:Nat):Int)==0)=true:=by subst h;rfl
theorem WB{x:Int}(h:x≠0):(((sz x.natAbs:Nat):Int)==0)=false:=by
 have:=Es (n:=x.natAbs) Aa;simp;omega
theorem GD(p:Int):(Rat.divInt p 1).num=p/\((Rat.divInt p 1).den:Int)=1:=by
 rw[Rat.num_divInt,Rat.den_divInt];simp
theorem DF{p q:Int}(hq:0 < q):(Rat.divInt p q).num=p / (Int.gcd p q:Nat)/\((Rat.divInt p q).den:Int)=q / (Int.gcd p q:Nat):=by
 have hq0:q≠0:=by omega
 rw[Rat.num_divInt,Rat.den_divInt,if_neg hq0,Int.sign_eq_one_of_pos hq,Int.one_mul,Int.gcd_comm q p];refine⟨rfl,?_⟩;have:((q.natAbs:Nat):Int)=q:=by omega
 rw[Int.natCast_ediv,this]
theorem VB{p q:Int}(hq:0 < q){k:Nat}(h:sz q.natAbs<=k):sz ((Int.gcd p q:Nat):Int).natAbs<=k:=by
 refine Nat.le_trans (Bq ?_) h;rw[Int.natAbs_natCast];exact Nat.le_of_dvd Aa (Nat.gcd_dvd_right _ _)
theorem Ce.sizes{w:World}{v:Value}{q:Rat}(h:Ce w v q):sz q.num.natAbs<=274877906944/\sz ((q.den:Int)).natAbs<=274877906944:=by
 have:=h.qsz;unfold Hp.qsz at this;rw[Int.natAbs_natCast];omega
theorem BX.parts4{w:World}{b b':Bool}{A A':Option Addr}{n c n' c':Nat}{q:Rat}(h:BX w (.agg #[.bool b,.slice A n c,.bool b',.slice A' n' c']) q):AO w (.agg #[.bool b,.slice A n c]) q.num/\AO w (.agg #[.bool b',.slice A' n' c']) (q.den:Int):=by
 obtain⟨_,_,_,_,_,_,_,_,e,h1,h2⟩:=h;have e:=V8 e;simp only[Array.mk.injEq,List.cons.injEq,Value.bool.injEq,Value.slice.injEq,and_true]at e;obtain⟨rfl,⟨rfl,rfl,rfl⟩,rfl,rfl,rfl,rfl⟩:=e;exact⟨h1,h2⟩
theorem TY(q:Rat):sz q.num.natAbs<=qsz q:=by unfold qsz;omega
theorem Ou(q:Rat):sz ((q.den:Int)).natAbs<=qsz q:=by rw[Int.natAbs_natCast];unfold qsz;omega
theorem Oz{x y:Int}{a b:Nat}(hx:sz x.natAbs<=a)(hy:sz y.natAbs<=b):sz (x*y).natAbs<=a+b:=by
 rw[Int.natAbs_mul];have:=BV x.natAbs y.natAbs;omega
theorem Ce.zero(w:World):Ce w (.agg #[.bool false,.slice none 0 0,.bool false,.slice none 0 0]) 0:=
 ⟨_,_,_,_,_,_,_,_,0,0,rfl,(AO.zero w).has Ab,(AO.zero w).has Ab,Ab,Ab,Ac⟩
theorem CS.full_at{w:World}{g:Nat}{t:TypeId}{N:Nat}{F:Nat->Rat}(h:CS w g t (Ei N F)){j:Nat}(hj:j < N) :
  ∃ b A n c b' A' n' c',w.cell? ⟨g,j*4,none⟩=some (.bool b)/\w.cell? ⟨g,j*4+1,none⟩=some (.slice A n c)/\w.cell? ⟨g,j*4+2,none⟩=some (.bool b')/\w.cell? ⟨g,j*4+3,none⟩=some (.slice A' n' c')/\BX w (.agg #[.bool b,.slice A n c,.bool b',.slice A' n' c']) (F j):=by
 obtain⟨b,A,n,c,b',A',n',c',q0,q1,q2,q3,q⟩:=h.at_ (j:=j) (by rw[Qj];exact hj);rw[Y9]at q;exact⟨b,A,n,c,b',A',n',c',q0,q1,q2,q3,q⟩
theorem Ze{x:Int}(h1 : -9223372036854775808<=x)(h2:x<=9223372036854775808):qsz (x:Rat)<=2:=by
 have h3:=IW (n:=x.natAbs) Aa;have h4:sz 1=1:=by decide
 show max (sz x.natAbs) (sz 1)<=2;omega
theorem Ip(l:List Rat):(BN l).length=pl (co l):=by rw[<-(Fh l).pl,Gr]
theorem CS.isP{base:Nat}{w:World}{g:Nat}{t:TypeId}{N:Nat}{F:Nat->Rat}(h:CS w g t (Ei N F))(hF:Be N F)(hb:base<=g){c:Nat}(hc:N<=c)(hm:c<=9223372036854775807):FN base w (.slice (some ⟨g,0,none⟩) (pl F) c) F:=by
 have e:=Oi hF;have hrow:=h.row (JP N F) hb;have hl:((List.range N).map F).length=N:=Fj N F;have:=BD hF;refine⟨BN ((List.range N).map F),⟨_,c,by rw[Ip,e],by rw[Ip,e];omega,hm,?_⟩,Fh _,by rw[Gr,e]⟩;rw[Fg];exact Dr.take hrow _
theorem Qy(x:Rat)(a b:Nat):x^(a+b)=x^a*x^b:=by
 induction b with
 | zero=>rw[Nat.add_zero,Rat.pow_zero,Rat.mul_one]
 | succ b ih=>rw[<-Nat.add_assoc,Rat.pow_succ,ih,Rat.pow_succ,Rat.mul_assoc]
def Fr(D k Y:Nat)(q:Rat):Prop:=∃ m:Int,q=(m:Rat) / ((D:Rat)^k)/\m.natAbs<=Y
theorem Fr.mono{D k Y Y':Nat}{q:Rat}(h:Fr D k Y q)(l:Y<=Y'):Fr D k Y' q:=by obtain⟨m,h1,h2⟩:=h;exact⟨m,h1,Aa⟩
theorem Fr.zero(D k Y:Nat):Fr D k Y 0:=⟨0,by rw[show((0:Int):Rat)=0 from rfl,Rat.div_def,Rat.zero_mul],Ac⟩
theorem Fr.sub{D k Y Z:Nat}{p q:Rat}(h:Fr D k Y p)(g:Fr D k Z q):Fr D k (Y+Z) (p - q):=by
 obtain⟨m,h1,h2⟩:=h;obtain⟨n,g1,g2⟩:=g;refine⟨m - n,?_,?_⟩
 ·rw[h1,g1,Rat.intCast_sub,Rat.div_def,Rat.div_def,Rat.div_def];grind
 ·have:=Int.natAbs_sub_le m n;omega
theorem Fr.mul{D a b Y Z:Nat}{p q:Rat}(h:Fr D a Y p)(g:Fr D b Z q):Fr D (a+b) (Y*Z) (p*q):=by
 obtain⟨m,h1,h2⟩:=h;obtain⟨n,g1,g2⟩:=g;refine⟨m*n,?_,?_⟩
 ·rw[h1,g1,Rat.intCast_mul,Rat.div_def,Rat.div_def,Rat.div_def,Qy,Rat.inv_mul_rev];grind
 ·rw[Int.natAbs_mul];exact Nat.mul_le_mul h2 g2
theorem Fr.up{D k Y:Nat}{q:Rat}(hD:0 < D)(h:Fr D k Y q)(j:Nat):Fr D (k+j) (Y*D^j) q:=by
 have h0:=Jd hD;have h1:Fr D j (D^j) 1:=by
  refine⟨((D^j:Nat):Int),?_,Ac⟩;have h2:(D:Rat)^j≠0:=by
   induction j with
   | zero=>rw[Rat.pow_zero];decide
   | succ j ih=>rw[Rat.pow_succ];intro e;rcases Rat.mul_eq_zero.1 e with e | e<;>contradiction
  rw[Rat.intCast_natCast,Rat.natCast_pow];grind
 have:=h.mul h1;rwa[Rat.mul_one]at this
theorem Fr.qsz{D k Y:Nat}{q:Rat}(hD:0 < D)(h:Fr D k Y q){t:Nat}(h1:sz Y<=t)(h2:sz (D^k)<=t)(h3:1<=t):qsz q<=t:=by
 obtain⟨m,e,hm⟩:=h;rw[<-Rat.natCast_pow,II]at e;rw[e];exact Dp (Nat.le_trans (Bq hm) h1) (by simpa using h2) h3
section
variable{C S:Nat->Rat}{D X:Nat}
end
theorem ZM{n:Nat}(h:n<=9223372036854775807):qsz (n:Rat)<=2:=by
 have h3:=IW (n:=n) Aa;have h4:sz 1=1:=by decide
 show max (sz ((n:Int)).natAbs) (sz 1)<=2;rw[Int.natAbs_natCast];omega
theorem CD.rv{s:Nat}{F:Nat->Rat}(h:CD s F)(d:Nat):CD s (rv d F):=by
 obtain⟨D,X,⟨hD,hF⟩,h1,h2⟩:=h;refine⟨D,X,⟨hD,fun i=>?_⟩,h1,h2⟩;unfold Hp.rv
 split
 ·exact hF _
 ·exact⟨0,by show(0:Rat)=_;grind,Ac⟩
theorem CD.pd{s d:Nat}{F:Nat->Rat}(hC:CD s F)(hs:Be (d+1) F)(hd:d<=9223372036854775807):CD (1+d*(s+3)) (pd F):=by
 refine CD.of (k:=s+2) (n:=d) (fun i hi=>by unfold Hp.pd;rw[hs (i+1) Aa];exact Rat.mul_zero _) fun i hi=>?_;have h1:=CW ((i+1:Nat):Rat) (F (i+1));have h2:=ZM (n:=i+1) Aa;have h3:=hC.elem (i+1);show Hp.qsz (((i+1:Nat):Rat)*F (i+1))<=s+2;omega
theorem CS.hs{w:World}{g:Nat}{t:TypeId}{N c:Nat}{F:Nat->Rat}(h:CS w g t (Ei N F))(hs:∀ i,i < N->qsz (F i)<=274877906944)(hc:N<=c)(hm:c<=9223372036854775807):Qb 0 w (.slice (some ⟨g,0,none⟩) N c) ((List.range N).map F):=by
 have hrow:=h.row (JP N F) (Nat.zero_le g);refine PW.has (base:=0) ⟨_,c,by rw[Fj],by rw[Fj];exact hc,hm,hrow⟩ fun q hq=>?_;obtain⟨i,hi,rfl⟩:=List.mem_map.1 hq;exact hs i (List.mem_range.1 hi)
def lin(a:Rat):Nat->Rat:=cs (-a) pone
theorem CP:Be 1 pone:=(Be.pz 0).cs 1
theorem CE:Ae pone:=⟨1,CP⟩
theorem FR(x:Rat):ev pone x=1:=by unfold pone;rw[MI _ Ae.pz,Rb];grind
theorem OP(a:Rat):Be 2 (lin a):=CP.cs _
theorem OH(a:Rat):Ae (lin a):=⟨2,OP a⟩
theorem VX(a x:Rat):ev (lin a) x=x - a:=by unfold lin;rw[MI _ CE,FR];grind
theorem CD.pone:CD 3 pone:=by
 have:=CD.pz.cs 1;have e:qsz (1:Rat)=1:=by decide
 rw[e]at this;exact this
theorem CD.lin{a:Rat}(h:qsz a<=2):CD 6 (lin a):=by
 have:=CD.pone.cs (-a);rw[IU]at this;exact this.mono Aa
def lgp(X:Nat->Rat)(i:Nat):Nat->Nat->Rat
 | 0=>pone
 | n+1=>if n=i then lgp X i n else cv (lgp X i n) (lin (X n))
theorem FB(X:Nat->Rat)(i n:Nat):lgp X i (n+1)=if n=i then lgp X i n else cv (lgp X i n) (lin (X n)):=by rw[lgp]
theorem OZ(X:Nat->Rat)(i n:Nat):Ae (lgp X i n):=by
  induction n with
  | zero=>exact CE
  | succ n ih => rw [FB]; split
                 · exact ih
                 · exact ih.cv (OH _)
theorem Ps(X:Nat->Rat)(i n:Nat):Be (n+1) (lgp X i n)/\(i < n->Be n (lgp X i n)):=by
 induction n with
 | zero=>exact⟨CP,fun h=>Aa⟩
 | succ n ih =>
  rw[FB];split
  ·exact⟨ih.1.mono Aa,fun _=>ih.1⟩
  ·have h1:=ih.1.cv (OP (X n))
   refine⟨h1.mono Aa,fun h=>?_⟩;exact((ih.2 Aa).cv (OP (X n))).mono Aa
theorem WP(X:Nat->Rat){i n k:Nat}(hk:k < n)(hi:k≠i):ev (lgp X i n) (X k)=0:=by
 induction n with
 | zero=>omega
 | succ n ih =>
  rw[FB];split
  ·rcases Nat.lt_or_ge k n with h | h
   ·exact ih h
   ·omega
  ·rw[Cy (OZ _ _ _) (OH _),VX]
   rcases Nat.lt_or_ge k n with h | h
   ·rw[ih h];grind
   ·obtain rfl:k=n:=by omega
    grind
theorem Yt(X:Nat->Rat){i n:Nat}{x:Rat}(h:∀ k,k < n->k≠i->x≠X k):ev (lgp X i n) x≠0:=by
 induction n with
 | zero=>show ev pone x≠0;rw[FR];decide
 | succ n ih =>
  have h1:=ih fun k hk=>h k Aa;rw[FB];split
  ·exact h1
  ·rename_i hne
   rw[Cy (OZ _ _ _) (OH _),VX];intro e;rcases Rat.mul_eq_zero.1 e with e | e
   ·exact h1 e
   ·exact h n Aa hne Ad
theorem bL{X:Nat->Rat}(i n:Nat)(hX:∀ k,k < n->qsz (X k)<=2)(hn:n<=4294967290):CD (3+7*n) (lgp X i n):=by
 induction n with
 | zero=>exact CD.pone
 | succ n ih =>
  have h1:=ih (fun k hk=>hX k Aa) Aa;rw[FB];split
  ·exact h1.mono Aa
  ·exact(CD.cv (Ps X i n).1 Aa h1 (CD.lin (hX n Aa))).mono Aa
def hor(F:Nat->Rat)(x:Rat)(n i:Nat):Rat:=CL (n - i) (fun j=>F (i+j)) x
theorem TD(F:Nat->Rat)(x:Rat)(n:Nat):hor F x n n=0:=by unfold hor;rw[Nat.sub_self];rfl
theorem LP(F:Nat->Rat)(x:Rat){n i:Nat}(h:i < n):hor F x n i=hor F x n (i+1)*x+F i:=by
 unfold hor;obtain⟨m,hm⟩:∃ m,n - i=m+1:=⟨n - i - 1,Aa⟩
 rw[hm,DJ,show n - (i+1)=m from by omega];have:tl (fun j=>F (i+j))=fun j=>F (i+1+j):=by funext j;show F (i+(j+1))=_;rw[show i+(j+1)=i+1+j from by omega]
 rw[this];show F (i+0)+_=_;rw[Nat.add_zero];grind
theorem Qp(F:Nat->Rat)(x:Rat)(n:Nat):hor F x n 0=CL n F x:=by unfold hor;simp
theorem YN{F:Nat->Rat}{x:Rat}{s t:Nat}(hF:∀ i,qsz (F i)<=s)(hx:qsz x<=t)(n:Nat):qsz (CL n F x)<=1+n*(s+t+1):=by
 induction n generalizing F with
 | zero=>show qsz 0<=_;rw[JR];omega
 | succ n ih =>
  rw[DJ];have h1:=Fb (F 0) (x*CL n (tl F) x);have h2:=CW x (CL n (tl F) x);have h3:=ih (F:=tl F) fun i=>hF (i+1);have h4:=hF 0;rw[Nat.succ_mul];omega
theorem SA{F:Nat->Rat}{x:Rat}{s t n:Nat}(hs:Be n F)(hF:∀ i,qsz (F i)<=s)(hx:qsz x<=t):qsz (ev F x)<=1+n*(s+t+1):=by
 rw[Ee hs];exact YN hF hx n
noncomputable def dP(X Y:Nat->Rat)(n i:Nat):Nat->Rat:=psc (Y i / ev (lgp X i n) (X i)) (lgp X i n)
noncomputable def ZJ(X Y:Nat->Rat)(n:Nat):Nat->Nat->Rat
 | 0=>pz
 | m+1=>pad (ZJ X Y n m) (dP X Y n m)
def KX(X:Nat->Rat)(n:Nat):Prop:=∀ i k,i < n->k < i->X i≠X k
theorem KX.ne{X:Nat->Rat}{n:Nat}(h:KX X n){i k:Nat}(hi:i < n)(hk:k < n)(e:k≠i):X i≠X k:=by
 rcases Nat.lt_or_ge k i with l | l
 ·exact h i k hi l
 ·exact fun e2=>h k i hk Aa e2.symm
theorem Ui(X Y:Nat->Rat){n i:Nat}(h:i < n):Be n (dP X Y n i):=((Ps X i n).2 h).psc _
theorem P7(X Y:Nat->Rat)(n:Nat):∀ m,m<=n->Be n (ZJ X Y n m):=by
 intro m;induction m with
 | zero=>intro _;exact Be.pz n
 | succ m ih=>intro h;exact(ih Aa).pad (Ui X Y h)
theorem Wt{X Y:Nat->Rat}{n:Nat}(h:KX X n){k:Nat}(hk:k < n):∀ m,m<=n->ev (ZJ X Y n m) (X k)=if k < m then Y k else 0:=by
 intro m;induction m with
 | zero=>intro _;show ev pz _=_;rw[Rb,if_neg Aa]
 | succ m ih =>
  intro hm;show ev (pad (ZJ X Y n m) (dP X Y n m)) (X k)=_;rw[GI ⟨n,P7 X Y n m Aa⟩ ⟨n,Ui X Y hm⟩,ih Aa];unfold dP;rw[DX _ (OZ _ _ _)];by_cases e:k=m
  ·subst e
   have:=Yt X (i:=k) (n:=n) (x:=X k) fun j hj hne=>h.ne hk hj hne;rw[if_neg Aa,if_pos Aa];grind
  ·rw[WP X hk e]
   by_cases l:k < m
   ·rw[if_pos l,if_pos Aa];grind
   ·rw[if_neg l,if_neg Aa];grind
theorem K6{X:Nat->Rat}{n:Nat}(h:KX X n){F G:Nat->Rat}(hF:Be n F)(hG:Be n G)(e:∀ k,k < n->ev F (X k)=ev G (X k)):F=G:=by
 have hz:psb F G=pz:=by
  refine GA (l:=(List.range n).map X) (by simpa using hF.psb hG) ?_ ?_
  ·rw[List.nodup_iff_pairwise_ne,List.pairwise_map]
   refine List.Pairwise.imp_of_mem (R:=fun a b=>a < b) ?_ List.pairwise_lt_range;intro a b ha hb hab;exact fun e=>h b a (List.mem_range.1 hb) hab e.symm
  ·intro x hx
   obtain⟨k,hk,rfl⟩:=List.mem_map.1 hx;rw[bV ⟨n,hF⟩ ⟨n,hG⟩,e k (List.mem_range.1 hk)];grind
 funext i
 have:=congrFun hz i;simp only[psb,pz]at this;grind
theorem FO.at_{base n c:Nat}{e:TypeId}{w:World}{A:Option Addr}{l:List Rat}(h:FO base e w (.slice A n c) l){j:Nat}(hj:j < l.length) :
  ∃ g o b A1 n c b' A1' n' c',A=some ⟨g,o,none⟩/\base<=g/\w.cell? ⟨g,o+j*4,none⟩=some (.bool b)/\w.cell? ⟨g,o+j*4+1,none⟩=some (.slice A1 n c)/\w.cell? ⟨g,o+j*4+2,none⟩=some (.bool b')/\w.cell? ⟨g,o+j*4+3,none⟩=some (.slice A1' n' c')/\BX w (.agg #[.bool b,.slice A1 n c,.bool b',.slice A1' n' c']) l[j]:=by
 obtain⟨A',c',e1,h2,h3,h4⟩:=FO.row h;cases e1;exact Mr.at_ h4 hj
theorem FO.shape{base:Nat}{e:TypeId}{w:World}{v:Value}{l:List Rat}(h:FO base e w v l):∃ A c,v = .slice A l.length c/\l.length<=c/\c<=9223372036854775807:=by
 obtain⟨A',c',e1,h2,h3,h4⟩:=FO.row h;exact⟨A',c',e1,h2,h3⟩
theorem Su.own{w:World}{v:Value}{base:Nat}{q:Rat}{t:TypeId}(h:Su w v base q t):FO base t w v [q]:=by
 obtain⟨g,cs,rfl,h1,h2,h3,h4⟩:=h;refine⟨[cs],rfl,fun c hc=>by simp at hc;subst hc;exact h3,⟨by simp[h3],.inr ⟨g,1,cs,rfl,h1,h2,Ac,by simp[maxLen],by simp[h3],?_⟩⟩,fun j h h'=>?_⟩
 ·simp only[List.flatMap_cons,List.flatMap_nil,List.append_nil]
  exact List.take_of_length_le (by simp[h3])
 ·have:j=0:=by simp at h;omega
  subst this;exact h4
theorem AO.of_one{w:World}{A:Option Addr}{c N:Nat}{b:Bool}{n:Int}(h:BH w (.slice A 1 c) [N])(h0:N≠0)(hn:n=if b then -(N:Int)else N):AO w (.agg #[.bool b,.slice A 1 c]) n:=by
 refine⟨b,[N],⟨_,rfl,h⟩,?_,fun _=>by simpa using h0,fun _=>Ac⟩;rw[hn];unfold iv;simp[nv]
theorem AO.of_nil{w:World}:AO w (.agg #[.bool false,.slice none 0 0]) 0:=AO.zero w
theorem XZ{d:Nat}(h0:d≠0)(h1:d < 4294967296)(hb:d < 2^Lib.bitLen d)(hb2:2^Lib.bitLen d<=2*d):0 < Lib.bitLen d/\2^(Lib.bitLen d - 1)<=d:=by
 generalize Lib.bitLen d=b at *;rcases b with _ | b
 ·simp at hb;omega
 ·rw[Nat.pow_succ]at hb2
  exact⟨Aa,by rw[Nat.add_sub_cancel];omega⟩
theorem BL.uniq{n b c:Nat}(h:BL n b)(k:BL n c):b=c:=Nat.le_antisymm (h.le k.1) (k.le h.1)
theorem BL.sz{n b:Nat}(h:BL n b):b<=32*sz n:=h.le (by rw[<-E8];exact DR n)
theorem Qm{x y:Int}(h:x.sign=y.sign):x.sign*((x.natAbs:Int) - y.natAbs).sign=(x - y).sign:=by
 rcases Int.lt_trichotomy x 0 with h1 | h1 | h1
 ·rw[Int.sign_eq_neg_one_of_neg h1]at h ⊢
  have h2:y < 0:=by
   rcases Int.lt_trichotomy y 0 with k | k | k
   ·exact k
   ·rw[k]at h;cases h
   ·rw[Int.sign_eq_one_of_pos k]at h;cases h
  rw[show(x.natAbs:Int) - y.natAbs = -(x - y) by omega,Int.sign_neg];omega
 ·subst h1
  have:y=0:=by
   rcases Int.lt_trichotomy y 0 with k | k | k
   ·rw[Int.sign_eq_neg_one_of_neg k]at h;cases h
   ·exact k
   ·rw[Int.sign_eq_one_of_pos k]at h;cases h
  subst this;rfl
 ·rw[Int.sign_eq_one_of_pos h1]at h ⊢
  have h2:0 < y:=by
   rcases Int.lt_trichotomy y 0 with k | k | k
   ·rw[Int.sign_eq_neg_one_of_neg k]at h;cases h
   ·rw[k]at h;cases h
   ·exact k
  rw[show(x.natAbs:Int) - y.natAbs=x - y by omega];omega
theorem Tq{x y:Int}(h:x.sign≠y.sign):(x.sign - y.sign).sign=(x - y).sign:=by
 rcases Int.lt_trichotomy x 0 with h1 | h1 | h1<;>rcases Int.lt_trichotomy y 0 with h2 | h2 | h2
 all_goals first
  | (rw[Int.sign_eq_neg_one_of_neg h1,Int.sign_eq_neg_one_of_neg h2]at h;exact absurd rfl h)
  | (rw[Int.sign_eq_one_of_pos h1,Int.sign_eq_one_of_pos h2]at h;exact absurd rfl h)
  | (subst h1;subst h2;exact absurd rfl h)
  | (rw[Int.sign_eq_neg_one_of_neg h1,Int.sign_eq_one_of_pos h2,Int.sign_eq_neg_one_of_neg (show x - y < 0 by omega)];rfl)
  | (rw[Int.sign_eq_one_of_pos h1,Int.sign_eq_neg_one_of_neg h2,Int.sign_eq_one_of_pos (show 0 < x - y by omega)];rfl)
  | (subst h1;simp[Int.sign_neg])
  | (subst h2;simp)
theorem JC(x:Int) : -1<=x.sign/\x.sign<=1:=by
 rcases Int.lt_trichotomy x 0 with h | h | h
 ·rw[Int.sign_eq_neg_one_of_neg h];omega
 ·subst h;simp
 ·rw[Int.sign_eq_one_of_pos h];omega
theorem Bj.zero(w:World):Bj w (.agg #[.bool false,.slice none 0 0]) 0:=(JZ w).has Ab
def dl:Nat->(Nat->Rat)->Nat
 | 0,_=>1
 | n+1,F=>Nat.lcm (dl n F) (F n).den
theorem Og(n:Nat)(F:Nat->Rat):dl (n+1) F=Nat.lcm (dl n F) (F n).den:=rfl
theorem MK(F:Nat->Rat):∀ n,0 < dl n F
 | 0=>by show 0 < 1;omega
 | n+1=>Nat.lcm_pos (MK F n) (F n).den_pos
theorem RA(F:Nat->Rat):∀ n i,i < n->(F i).den∣dl n F
 | n+1,i,h=>by
  rw[Og];rcases Nat.lt_or_ge i n with l | l
  ·exact Nat.dvd_trans (RA F n i l) (Nat.dvd_lcm_left _ _)
  ·obtain rfl:i=n:=by omega
   exact Nat.dvd_lcm_right _ _
theorem Zm(n:Nat)(F:Nat->Rat):dl n F*((F n).den / Nat.gcd (dl n F) (F n).den)=dl (n+1) F:=by
 rw[Og,Nat.lcm,Nat.mul_div_assoc _ (Nat.gcd_dvd_right _ _)]
theorem Yh{F:Nat->Rat}{s:Nat}(h:∀ i,qsz (F i)<=s):∀ n,sz (dl n F)<=1+n*s
 | 0=>by show sz 1<=_;have:sz 1=1:=Ab;omega
 | n+1=>by
  have h1:=Yh h n;have h2:=h n;have h3:sz (dl (n+1) F)<=sz (dl n F*(F n).den):=Bq (by rw[Og];exact Nat.div_le_self _ _);have h4:=BV (dl n F) (F n).den;unfold qsz at h2;rw[Nat.succ_mul];omega
def DD(n:Nat)(F:Nat->Rat):Nat->Rat:=psc ((dl n F:Nat):Rat) F
theorem Yj{n:Nat}{F:Nat->Rat}(h:Be n F)(i:Nat):DD n F i=(((F i).num*((dl n F:Int) / ((F i).den:Int)):Int):Rat):=by
 rcases Nat.lt_or_ge i n with hi | hi
 ·obtain⟨k,hk⟩:=RA F n i hi
  have hd:((F i).den:Int)≠0:=by have:=(F i).den_pos;omega
  have e:(dl n F:Int) / ((F i).den:Int)=k:=by rw[hk,Int.natCast_mul,Int.mul_ediv_cancel_left _ hd]
  rw[e];show((dl n F:Nat):Rat)*F i=_;rw[hk];have h1:F i=((F i).num:Rat) / ((F i).den:Rat):=Iy _;have hd':((F i).den:Rat)≠0:=Jd (F i).den_pos;have h2:(((F i).num*(k:Int):Int):Rat)=((F i).num:Rat)*(k:Rat):=by rw[Rat.intCast_mul];rfl
  have h3:(((F i).den*k:Nat):Rat)=((F i).den:Rat)*(k:Rat):=by rw[Rat.natCast_mul]
  rw[h2,h3];generalize ((F i).num:Rat)=a at *;generalize ((F i).den:Rat)=d at *;rw[h1];grind
 ·show((dl n F:Nat):Rat)*F i=_
  rw[h i hi];simp
theorem FI{n:Nat}{F:Nat->Rat}(h:Be n F):ZI (DD n F):=fun i=>⟨_,Yj h i⟩
theorem YS{n:Nat}{F:Nat->Rat}(h:Be n F)(i:Nat):(DD n F i).num=(F i).num*((dl n F:Int) / ((F i).den:Int)):=by rw[Yj h];rfl
theorem EF{n:Nat}{F:Nat->Rat}(h:Ae F):Ae (DD n F):=h.psc _
theorem Ug(n:Nat)(F:Nat->Rat):((dl n F:Nat):Rat)≠0:=Jd (MK F n)
theorem M5{n:Nat}{F:Nat->Rat}(h:Ae F):pl (DD n F)=pl F:=Ec (Ug n F) h
theorem Px{n:Nat}{F:Nat->Rat}(h:Ae F)(h0:F≠pz):DD n F≠pz:=fun e=>h0 ((BI h).1 (by rw[<-M5 (n:=n) h,e,BR]))
theorem OO{n:Nat}{F:Nat->Rat}{s:Nat}(h:∀ i,qsz (F i)<=s)(i:Nat):qsz (DD n F i)<=1+n*s+1+s:=by
 have h1:=Yh h n;have h2:=h i;have h3:=CW ((dl n F:Nat):Rat) (F i);have h4:qsz ((dl n F:Nat):Rat)<=1+n*s+1:=by
  change qsz (((dl n F:Nat):Int):Rat)<=_
  rw[Bn,Int.natAbs_natCast];omega
 show qsz (((dl n F:Nat):Rat)*F i)<=_;omega
noncomputable def Lh(n:Nat)(F:Nat->Rat):Rat:=ld F / ld (pp (DD n F))
theorem JE{a:Rat}(ha:a≠0){F:Nat->Rat}(h:Ae F):ld (psc a F)=a*ld F:=by unfold ld;rw[Ec ha h];rfl
theorem Xv{F:Nat->Rat}(hz:ZI F)(h:Ae F)(h0:F≠pz):ld (pp F)=ld F / (pcn F:Rat):=by
 have hp':(pcn F:Rat)≠0:=fun e=>Dl hz h h0 (by exact_mod_cast e);unfold pp;rw[JE (Jn hp') h];grind
theorem Rx{n:Nat}{F:Nat->Rat}(hs:Be n F)(h0:F≠pz):Lh n F=(pcn (DD n F):Rat) / ((dl n F:Nat):Rat)/\psc (Lh n F) (pp (DD n F))=F:=by
 have h:Ae F:=⟨n,hs⟩
 have hz:=FI hs;have hf:=EF (n:=n) h;have hne:=Px (n:=n) h h0;have hp':(pcn (DD n F):Rat)≠0:=fun e=>Dl hz hf hne (by exact_mod_cast e);have hl:=CV h h0;have hd:=Ug n F;have e1:ld (DD n F)=((dl n F:Nat):Rat)*ld F:=JE hd h;have e2:Lh n F=(pcn (DD n F):Rat) / ((dl n F:Nat):Rat):=by
  unfold Lh;rw[Xv hz hf hne,e1];grind
 refine⟨e2,?_⟩;rw[e2];unfold pp DD;rw[Cb,Cb];have e3:(pcn (psc ((dl n F:Nat):Rat) F):Rat) / ((dl n F:Nat):Rat)*(1 / (pcn (psc ((dl n F:Nat):Rat) F):Rat))*((dl n F:Nat):Rat)=1:=by
  change (pcn (psc ((dl n F:Nat):Rat) F):Rat)≠0 at hp'
  grind
 rw[e3,Ct]
theorem QK{F:Nat->Rat}(hz:ZI F)(h:Ae F)(h0:F≠pz):cn (pp F)=1:=by
 have hpf:=Dx h;have hp:=Dl hz h h0;have hc:=Im hz h h0;have key:(pcn F*(cn (pp F):Int))∣(cn F:Int):=Xq fun i=>by
  obtain⟨k,hk⟩:=FH hpf i;obtain⟨j,hj⟩:=IV h i;have e:=Mk hz h h0 i;rw[hj,Int.mul_ediv_cancel_left _ hp]at e;have e2:(pp F i).num=j:=by rw[e];rfl
  rw[hj,<-e2,hk];exact⟨k,by rw[Int.mul_assoc]⟩
 have h1:=Int.natAbs_dvd_natAbs.2 key;rw[Int.natAbs_mul,F8]at h1;have h2:cn F*cn (pp F)∣cn F*1:=by simpa using h1
 exact Nat.eq_one_of_dvd_one (Nat.dvd_of_mul_dvd_mul_left (Nat.pos_of_ne_zero hc) h2)
theorem Lj{F:Nat->Rat}(hz:ZI F)(h:Ae F)(h0:F≠pz):0 < ld (pp F):=by
 rw[Xv hz h h0];have hl:=CV h h0;have hc:=Im hz h h0;have hc':(0:Rat) < (cn F:Rat):=by exact_mod_cast Nat.pos_of_ne_zero hc
 by_cases hn:ld F < 0
 ·have e:pcn F = -(cn F:Int):=by unfold pcn;rw[if_pos hn]
  rw[e];have e2:((-(cn F:Int):Int):Rat) = -(cn F:Rat):=by rw[Rat.intCast_neg];rfl
  rw[e2];have:ld F / -(cn F:Rat)=(-ld F) / (cn F:Rat):=by grind
  rw[this,Rat.div_def];exact Rat.mul_pos Ad (Rat.inv_pos.2 hc')
 ·have e:pcn F=(cn F:Int):=by unfold pcn;rw[if_neg hn]
  rw[e];have e2:(((cn F:Nat):Int):Rat)=(cn F:Rat):=rfl;rw[e2,Rat.div_def];exact Rat.mul_pos Ad (Rat.inv_pos.2 hc')
theorem WQ{F:Nat->Rat}(hz:ZI F)(h:Ae F):pp (pp F)=pp F:=by
 by_cases h0:F=pz
 ·rw[h0,Iu,Iu]
 ·have h1:pcn (pp F)=1:=by
   unfold pcn;rw[if_neg (by have:=Lj hz h h0;grind),QK hz h h0];rfl
  show psc (1 / ((pcn (pp F):Int):Rat)) (pp F)=pp F;rw[h1];have:1 / ((1:Int):Rat)=1:=by decide +kernel
  rw[this,Ct]
theorem MV{P:Nat->Prop}(h:∃ i,P i):∃ i,P i/\∀ j,j < i->¬ P j:=NJ h
def kD(p:Nat):Prop:=1 < p/\∀ k,k∣p->k=1\/k=p
theorem eD{d:Nat}(h:1 < d):∃ p,kD p/\p∣d:=by
 obtain⟨p,⟨h1,h2⟩,h3⟩:=MV (P:=fun p=>1 < p/\p∣d) ⟨d,h,Nat.dvd_refl d⟩;refine⟨p,⟨h1,fun k hk=>?_⟩,h2⟩;have hkp:=Nat.le_of_dvd Aa hk;have hk0:k≠0:=fun e=>by subst e;have:=Nat.eq_zero_of_zero_dvd hk;omega
 by_cases e:k=p
 ·exact .inr e
 ·exact .inl (by
   by_cases e1:1 < k
   ·exact absurd ⟨e1,Nat.dvd_trans hk h2⟩ (h3 k Aa)
   ·omega)
theorem kD.mul{p:Nat}(h:kD p){a b:Int}(k:(p:Int)∣a*b):(p:Int)∣a\/(p:Int)∣b:=by
 rw[Int.ofNat_dvd_left,Int.natAbs_mul]at k;rw[Int.ofNat_dvd_left,Int.ofNat_dvd_left];rcases h.2 _ (Nat.gcd_dvd_left p a.natAbs)with e | e
 ·exact .inr (Nat.Coprime.dvd_of_dvd_mul_left e k)
 ·exact .inl (by rw[<-e];exact Nat.gcd_dvd_right _ _)
def Dz(p:Nat)(x:Rat):Prop:=∃ z:Int,x=(p:Rat)*(z:Rat)
theorem Dz.add{p:Nat}{x y:Rat}(h:Dz p x)(k:Dz p y):Dz p (x+y):=by
 obtain⟨a,rfl⟩:=h;obtain⟨b,rfl⟩:=k;exact⟨a+b,by rw[Rat.intCast_add];grind⟩
theorem Dz.sub{p:Nat}{x y:Rat}(h:Dz p x)(k:Dz p y):Dz p (x - y):=by
 obtain⟨a,rfl⟩:=h;obtain⟨b,rfl⟩:=k;exact⟨a - b,by rw[Rat.intCast_sub];grind⟩
theorem Dz.zero(p:Nat):Dz p 0:=⟨0,Ac⟩
theorem Dz.mul{p:Nat}{x:Rat}(h:Dz p x)(y:Int):Dz p (x*(y:Rat)):=by
 obtain⟨a,rfl⟩:=h;exact⟨a*y,by rw[Rat.intCast_mul];grind⟩
theorem OB{p:Nat}{n:Int}:Dz p (n:Rat)↔(p:Int)∣n:=by
 constructor
 ·rintro⟨z,h⟩
  refine⟨z,?_⟩;rw[show((p:Nat):Rat)=(((p:Nat):Int):Rat)from rfl,<-Rat.intCast_mul]at h;exact Ff h
 ·rintro⟨z,rfl⟩
  exact⟨z,by rw[Rat.intCast_mul];rfl⟩
theorem iC{p n i:Nat}{f:Nat->Rat}(hi:i < n)(h:∀ k,k < n->k≠i->Dz p (f k)):Dz p (sm n f - f i):=by
 induction n with
 | zero=>omega
 | succ n ih =>
  rw[Bz];by_cases e:i=n
  ·subst e
   rw[show sm i f+f i - f i=sm i f from by grind];clear ih hi;have:∀ m,m<=i->Dz p (sm m f):=fun m=>by
    induction m with
    | zero=>intro _;exact Dz.zero p
    | succ m ih=>intro hm;rw[Bz];exact(ih Aa).add (h m Aa Aa)
   exact this i (Nat.le_refl _)
  ·have h1:=ih Aa fun k hk=>h k Aa
   rw[show sm n f+f n - f i=(sm n f - f i)+f n from by grind];exact h1.add (h n Aa fun q=>e q.symm)
theorem ZI.cv{F G:Nat->Rat}(h:ZI F)(k:ZI G):ZI (cv F G):=fun i=>by
 rw[Yi];have:∀ n (f:Nat->Rat),(∀ j,∃ z:Int,f j=(z:Rat))->∃ z:Int,sm n f=(z:Rat):=fun n f hf=>by
  induction n with
  | zero=>exact⟨0,rfl⟩
  | succ n ih =>
   obtain⟨a,ha⟩:=ih;obtain⟨b,hb⟩:=hf n;exact⟨a+b,by rw[Bz,ha,hb,Rat.intCast_add]⟩
 refine this _ _ fun j=>?_;obtain⟨a,ha⟩:=h j;obtain⟨b,hb⟩:=k (i - j);exact⟨a*b,by rw[ha,hb,Rat.intCast_mul]⟩
theorem N8{F:Nat->Rat}(h:Ae F){d:Nat}:d∣cn F↔∀ i,(d:Int)∣(F i).num:=
 ⟨fun k i=>Int.dvd_trans (Int.natCast_dvd_natCast.2 k) (FH h i),fun k=>Int.natCast_dvd_natCast.1 (Xq k)⟩
theorem gM{F G:Nat->Rat}(zF:ZI F)(zG:ZI G)(fF:Ae F)(fG:Ae G)(hF:cn F=1)(hG:cn G=1):cn (cv F G)=1:=by
 have nF:F≠pz:=fun e=>by rw[e,NA]at hF;omega
 have nG:G≠pz:=fun e=>by rw[e,NA]at hG;omega
 have h0:cn (cv F G)≠0:=Im (zF.cv zG) (fF.cv fG) fun e=>by
  have:=Du fF fG nF nG;have a:=AL fF nF;have b:=AL fG nG;rw[e,BR]at this;omega
 by_cases h1:cn (cv F G)=1
 ·exact h1
 ·obtain⟨p,hp,hd⟩:=eD (d:=cn (cv F G)) Aa
  have hall:=(N8 (fF.cv fG)).1 hd;have ex:∀ {H:Nat->Rat},Ae H->cn H=1->∃ i,¬ (p:Int)∣(H i).num:=fun {H} fH hH=>by
   by_cases k:∃ i,¬ (p:Int)∣(H i).num
   ·exact k
   ·have:=(N8 fH (d:=p)).2 fun i=>by
     by_cases q:(p:Int)∣(H i).num
     ·exact q
     ·exact absurd ⟨i,q⟩ k
    rw[hH]at this;have:=Nat.le_of_dvd Aa this;have:=hp.1;omega
  obtain⟨i,hi,hi'⟩:=MV (ex fF hF);obtain⟨j,hj,hj'⟩:=MV (ex fG hG);have hs:=iC (p:=p) (n:=i+j+1) (i:=i) (f:=fun k=>F k*G (i+j - k)) Aa fun k hk hne=>by
   rcases Nat.lt_or_ge k i with a | a
   ·have:Dz p (F k):=by
     rw[zF.num k];refine OB.2 ?_;by_cases q:(p:Int)∣(F k).num
     ·exact q
     ·exact absurd q (hi' k a)
    show Dz p (F k*G (i+j - k));rw[zG.num (i+j - k)];exact this.mul _
   ·have:Dz p (G (i+j - k)):=by
     rw[zG.num];refine OB.2 ?_;by_cases q:(p:Int)∣(G (i+j - k)).num
     ·exact q
     ·exact absurd q (hj' _ Aa)
    show Dz p (F k*G (i+j - k));rw[Rat.mul_comm,zF.num k];exact this.mul _
  rw[<-Yi]at hs;simp only[show i+j - i=j from by omega]at hs;have ht:Dz p (cv F G (i+j)):=by rw[(zF.cv zG).num];exact OB.2 (hall _)
  have hu:=ht.sub hs;rw[show cv F G (i+j) - (cv F G (i+j) - F i*G j)=F i*G j from Ad,zF.num i,zG.num j,<-Rat.intCast_mul]at hu;rcases hp.mul (OB.1 hu)with q | q
  ·exact absurd q hi
  ·exact absurd q hj
theorem XO(a:Int){F:Nat->Rat}(z:ZI F):∀ n,ct n (psc (a:Rat) F)=a.natAbs*ct n F
 | 0=>by show 0=_*0;omega
 | n+1=>by
  rw[GJ,GJ,XO a z n];have:(psc (a:Rat) F n).num=a*(F n).num:=by show((a:Rat)*F n).num=_;rw[z.num n,num_mul];rfl
  rw[this];show Nat.gcd _ _=_*Nat.gcd _ _;rw[Int.natAbs_mul,Int.natAbs_natCast,Int.natAbs_natCast,Nat.gcd_mul_left]
theorem I8{a:Int}(h:a≠0){F:Nat->Rat}(z:ZI F)(f:Ae F):cn (psc (a:Rat) F)=a.natAbs*cn F:=by
 unfold cn;rw[Ec (fun e=>h (by exact_mod_cast e)) f,XO a z]
theorem NW{F G:Nat->Rat}(zF:ZI F)(zG:ZI G)(fF:Ae F)(fG:Ae G):cn (cv F G)=cn F*cn G:=by
 by_cases hF:F=pz
 ·rw[hF,Cn,NA];omega
 by_cases hG:G=pz
 ·rw[hG,JY,NA];omega
 have nF:=Dl zF fF hF;have nG:=Dl zG fG hG;have e:cv F G=psc ((pcn F*pcn G:Int):Rat) (cv (pp F) (pp G)):=by
  have e1:=MR zF fF hF;have e2:=MR zG fG hG;have:cv F G=cv (psc (pcn F:Rat) (pp F)) (psc (pcn G:Rat) (pp G)):=by rw[<-e1,<-e2]
  rw[this,Cv,MS,Cb,Rat.intCast_mul]
 rw[e,I8 (Int.mul_ne_zero nF nG) ((Ha zF fF).cv (Ha zG fG)) ((Dx fF).cv (Dx fG)),gM (Ha zF fF) (Ha zG fG) (Dx fF) (Dx fG) (QK zF fF hF) (QK zG fG hG),Int.natAbs_mul,F8,F8];omega
theorem Pq{N:Nat}{F G:Nat->Rat}{p:Nat}{x:Int}(h:∀ n,(G n).num=if n=p then x else(F n).num):(DL N F).set p x=DL N G:=by
 apply List.ext_getElem
 ·simp[DL]
 ·intro i h1 h2
  rw[List.getElem_set,Ca,Ca,h];by_cases e:p=i
  ·subst e;simp
  ·rw[if_neg e,if_neg (fun q=>e q.symm)]
theorem TA(N:Nat):DL N pz=List.replicate N 0:=by
 apply List.ext_getElem
 ·simp[DL]
 ·intro i h1 h2;rw[Ca];simp;rfl
def ZX(b:Nat)(F G:Nat->Rat)(r:Value)(w:World):Prop:=∃ q m,r = .tuple #[q,m,.int .i64 0]/\AB b w q F/\AB b w m G
theorem Oc{F:Nat->Rat}(h:ZI F):ld F=((ld F).num:Rat):=h.num _
theorem Zw{G:Nat->Rat}(hz:ZI G)(h:Ae G):I5 (zq (DL (pl G) G)):=fun h0=>by
 rw[DZ,AR]at h0;have:=EA h h0;have e:(zq (DL (pl G) G)).length - 1=pl G - 1:=by rw[DZ,AR]
 simp only[e];rw[LZ (by rw[AR];omega),Ca,<-hz.num];exact this
theorem Ci.whole{base:Nat}{w:World}{g:Nat}{t:TypeId}{G:Nat->Rat}(h:Ci w g t (DL (pl G) G))(hz:ZI G)(hf:Ae G)(hb:base<=g){c:Nat}(hc:pl G<=c)(hm:c<=9223372036854775807):AB base w (.slice (some ⟨g,0,none⟩) (pl G) c) G:=
 ⟨_,⟨_,c,by rw[AR],by rw[AR];exact hc,hm,h.row hb⟩,Zw hz hf,Il hz (AA hf)⟩
theorem K5(l:List Int):l.take (pl (cz l))=DL (pl (cz l)) (cz l):=by
 have h:=BD (Cx l)
 apply List.ext_getElem
 ·rw[AR,List.length_take];omega
 ·intro i h1 h2
  have h3:i < l.length:=by rw[List.length_take]at h1;omega
  rw[Ca,List.getElem_take,Cq h3];rfl
theorem Oq{F G:Nat->Rat}(hF:ZI F)(hG:ZI G)(n:Nat):(psc (ld G) F n).num=(F n).num*(ld G).num:=by
 show(ld G*F n).num=_;rw[Oc hG,hF.num n,num_mul,Int.mul_comm];rfl
theorem YT{F G:Nat->Rat}(hF:ZI F)(hG:ZI G):ZI (psc (ld G) F):=by rw[Oc hG];exact hF.psc _
theorem Ox{F G:Nat->Rat}{k i n:Nat}(hi:i=pl F - pl G - k):D7 F G (k+1) n=psc (ld G) (D7 F G k) n - D7 F G k (pl F - 1 - k)*sh i G n:=by subst hi;rfl
theorem YA{F G:Nat->Rat}(hF:ZI F)(hG:ZI G){k i:Nat}(hi:i=pl F - pl G - k)(j:Nat):(D7 F G (k+1) (i+j)).num=(psc (ld G) (D7 F G k) (i+j)).num - (D7 F G k (pl F - 1 - k)).num*(G j).num:=by
 rw[Ox hi,show sh i G (i+j)=G j from by unfold sh;rw[if_neg Aa];congr 1;omega];rw[(YT (F4 hF hG k) hG).num (i+j),(F4 hF hG k).num (pl F - 1 - k),hG.num j,<-Rat.intCast_mul,num_sub];rfl
theorem Zu{F G:Nat->Rat}{k i n:Nat}(hi:i=pl F - pl G - k)(h:n < i):D7 F G (k+1) n=psc (ld G) (D7 F G k) n:=by
 rw[Ox hi,show sh i G n=0 from by unfold sh;rw[if_pos h]];grind
theorem XN{F G:Nat->Rat}(hG:Ae G){k i n:Nat}(hi:i=pl F - pl G - k)(h:i+pl G<=n):D7 F G (k+1) n=psc (ld G) (D7 F G k) n:=by
 rw[Ox hi,show sh i G n=0 from by unfold sh;rw[if_neg Aa];exact AA hG _ Aa];grind
theorem VW{F G:Nat->Rat}{k i:Nat}(hi:i=pl F - pl G - k)(h0:Gc F G k i=0)(n:Nat):(Gc F G (k+1) n).num=if n=i then(D7 F G k (pl F - 1 - k)).num else(psc (ld G) (Gc F G k) n).num:=by
 have e:Gc F G (k+1) n=psc (ld G) (Gc F G k) n+mono i (D7 F G k (pl F - 1 - k)) n:=by subst hi;rfl
 rw[e];by_cases hn:n=i
 ·subst hn
  rw[if_pos rfl,Kl,show psc (ld G) (Gc F G k) n=ld G*Gc F G k n from rfl,h0];congr 1;grind
 ·rw[if_neg hn,EP hn]
  congr 1;grind
end Go.Hp
namespace Go.Proofs.YtmhgnigpmompmaaGreat
open Go.RowKit Go.Hp
theorem Ur(v:Value)(x:Int)(w:World)(hv:Bj w v x):Bg 163 #[v] w (fun r _=>∃ b:Bool,r = .bool b/\(b=true->x=1)):=by
 obtain⟨neg,A,n,c,N,rfl,h1,h2,h3,hN,hx⟩:=hv.form;clear hv;by_cases hn:n=1
 ·subst hn
  obtain⟨ds,hd,rfl,hl⟩:=hN;obtain⟨A',c',he,hl',_,hA⟩:=hd;have hlen:ds.length=1:=by have:=congrArg (fun v=>match v with | Value.slice _ n _=>n | _=>0) he;simpa using this.symm
  rw[hlen]at he;cases he
  match ds,hlen,hA,hx with
  | [d],_,hA,hx =>
   obtain⟨a,rfl,hcb⟩:=Cu hA (k:=0) Ac;replace hcb:=fun o=>((Ext.refl w).alloc o).cell (show w.cell? a=some (.int .u32 (d:Nat))from hcb);have hd1:d < 4294967296:=hA.1 d Ac;have Hx:=Af (show d=1->neg=false->x=1 by rintro rfl rfl;rw[hx];simp[Cm,C9]);clear hx hA hl hl'
   go_enter Tryz.func163,Tryz.ntmps163
   by_cases hd:d=1
   ·have hb:(((d:Nat):Int)==1)=true:=by subst hd;rfl
    have H:=Af (show neg=false->x=1 from Hx.out hd);clear Hx hd;go_wp2
    go_ret
    exact Ai.mk ⟨!neg,rfl,fun h=>H.out (by simpa using h)⟩ ((Ext.refl w).alloc _)
   ·have hb:(((d:Nat):Int)==1)=false:=by simp;omega
    clear Hx hd;go_wp2
    go_ret
    exact Ai.mk ⟨false,rfl,fun h=>by cases h⟩ ((Ext.refl w).alloc _)
 ·have hb:(((n:Nat):Int)==1)=false:=by simp;omega
  clear hx hN hn
  go_enter Tryz.func163,Tryz.ntmps163
  go_wp2
  go_ret
  exact Ai.mk ⟨false,rfl,fun h=>by cases h⟩ ((Ext.refl w).alloc _)
theorem Wz(v u:Value)(neg':Bool)(x:Int)(M:Nat)(w:World)(hv:Bj w v x)(hu:Bt w u M)(hM:sz M<=1099511627776) :
  Bg 164 #[v,.bool neg',u] w (fun r w'=>AO w' r (x+if neg' then -(M:Int)else M)):=by
 obtain⟨neg,A,n,c,N,rfl,h1,h2,h3,hN,hx⟩:=hv.form;have HN:=Af hN;have HU:=Af hu;clear hN hv hu;have hs:sz N<=n:=HN.out.sz;obtain⟨z,hz⟩:∃ z,z=x+if neg' then -(M:Int)else M:=⟨_,rfl⟩
 rw[<-hz];have Hz:=Af (Au hx hz);clear hx hz
 go_enter Tryz.func164,Tryz.ntmps164
 go_wp2_with fail
 refine AQ (Bo _ N n _ (HN.out.ext (((Ext.refl w).alloc _).alloc _))) ?_;rintro r w1 hr hx1;have hu1:Bt w1 u M:=HU.out.ext hx1.a2;clear HU;have Hr:=Af (Au hr hu1);clear hr hu1;by_cases hsg:neg=neg'
 ·subst hsg
  have hb:(neg==neg)=true:=by simp
  have hc1:=hx1.cells;have hf1:=hx1.frozens
  go_wp2_with fail
  refine AQ (PQ _ _ N M (sz N) (sz M) w1 (Hr.out.1.num (Nat.le_refl _)) (Hr.out.2.num (Nat.le_refl _)) Aa Aa) ?_;rintro r2 w2 hr2 hx2;clear hc1 hf1
  go_wp2_with fail
  refine AQ (Co z neg _ (N+M) _ w2 (by rw[Hz.out.2,Hz.out.1];cases neg<;>simp<;>omega) hr2) ?_;rintro r3 w3 hr3 hx3;obtain⟨b,A2,n2,c2,rfl⟩:=hr3.cells;replace hx1:=(hx1.trans hx2).trans hx3;have hc1:=hx1.cells;have hf1:=hx1.frozens;have Hfin:=Af (Dk hr3 hx1.a2 (AV.at_ hx1 (g:=w.heap.size+1) Ac (by simp[Ah])) Aa);clear hr3 hr2;go_wp2;refine bodyPost_ret (v := .agg #[.bool b,.slice A2 n2 c2]) (by simp[results,Tryz.results164,go_sem,hc1]) rfl ?_
  exact Hfin.out
 ·have hb:(neg==neg')=false:=by simpa using hsg
  have hneg:neg'=!neg:=by cases neg<;>cases neg'<;>simp_all
  subst hneg;have hc1:=hx1.cells;have hf1:=hx1.frozens;clear hsg
  go_wp2_with fail
  refine AQ (KT _ _ N M w1 Hr.out.1 Hr.out.2 Aa Aa) ?_;rintro r2 w2 rfl hx2;replace Hr:=Af (Au (Hr.out.1.ext hx2) (Hr.out.2.ext hx2));replace hx1:=hx1.trans hx2;clear hc1 hf1 hx2;have hc1:=hx1.cells;have hf1:=hx1.frozens;by_cases hle:M<=N
  ·have hb2:decide (cmp N M>=0)=true:=by
    rcases Nat.lt_or_eq_of_le hle with e | e
    ·rw[PO e];rfl
    ·rw[cmp_eq e.symm];rfl
   have hb3:decide (0<=cmp N M)=true:=hb2;have Hle:=Af hle;clear hle
   go_wp2_with fail
   have hb0:=hx1.a1.box (i:=0) rfl rfl;refine EE 5 [24,25,26,27,28] [3,7,2] [_,_,_] [(kv ?_),(kv ?_),(kv ?_),(kv ?_),(fun γ=>γ 4)] (fun γ w'=>[True,True,True,True,DK w' (γ 4) (N - M) (sz N)]) ?s1 ?_
   case s1 =>
    iterate 5 refine⟨?_,?_⟩
    trivial
    iterate 4 focus
     refine Bi fun _ w' he R hR=>?_;have hc:=he.cells;have cq0:=he.cell hb0;go_simp;exact C8 hR
    ·refine Bi fun _ w' he R hR=>?_
     go_simp;exact BF (M3 _ _ N M w' (Hr.out.1.ext he) (Hr.out.2.ext he) Hle.out Aa) hR
   intro γ w3 hx3 hF;have p4:DK w3 (γ 4) (N - M) (sz N):=AC.get hF 4 Ab;clear hF;simp only[Bw,Nat.reduceAdd];generalize γ 4=g4 at *;clear γ
   go_wp2_with fail
   refine AQ (Co z neg _ (N - M) _ w3 (by have:=Hle.out;rw[Hz.out.2,Hz.out.1];cases neg<;>simp<;>omega) p4) ?_;rintro r3 w4 hr3 hx4;obtain⟨b,A2,n2,c2,rfl⟩:=hr3.cells;replace hx1:=(hx1.trans hx3).trans hx4;clear hc1 hf1;have hc1:=hx1.cells;have hf1:=hx1.frozens;have Hfin:=Af (Dk hr3 hx1.a2 (AV.at_ hx1 (g:=w.heap.size+1) Ac (by simp[Ah])) Aa);clear hr3 p4;go_wp2;refine bodyPost_ret (v := .agg #[.bool b,.slice A2 n2 c2]) (by simp[results,Tryz.results164,go_sem,hc1]) rfl ?_
   exact Hfin.out
  ·have hb2:decide (0<=cmp N M)=false:=by rw[Oa Aa];rfl
   have Hle:=Af hle;clear hle
   go_wp2_with fail
   refine AQ (M3 _ _ M N w2 Hr.out.2 Hr.out.1 (by have:=Hle.out;omega) Aa) ?_;rintro r2 w3 hr2 hx3;clear hc1 hf1
   go_wp2_with fail
   refine AQ (Co z (!neg) _ (M - N) _ w3 (by have:=Hle.out;rw[Hz.out.2,Hz.out.1];cases neg<;>simp<;>omega) hr2) ?_;rintro r3 w4 hr3 hx4;obtain⟨b,A2,n2,c2,rfl⟩:=hr3.cells;replace hx1:=(hx1.trans hx3).trans hx4;have hc1:=hx1.cells;have hf1:=hx1.frozens;have Hfin:=Af (Dk hr3 hx1.a2 (AV.at_ hx1 (g:=w.heap.size+1) Ac (by simp[Ah])) Aa);clear hr3 hr2;go_wp2;refine bodyPost_ret (v := .agg #[.bool b,.slice A2 n2 c2]) (by simp[results,Tryz.results164,go_sem,hc1]) rfl ?_
   exact Hfin.out
theorem M8(v u:Value)(x y:Int)(w:World)(hv:Bj w v x)(hu:Bj w u y):Bg 124 #[v,u] w (fun r w'=>AO w' r (x+y)):=by
 have Hv:=Af hv;obtain⟨neg,A,n,c,N,rfl,h1,h2,h3,hN,hx⟩:=hv.form;obtain⟨neg',A',n',c',M,rfl,k1,k2,k3,kN,hy⟩:=hu.form;have HN:=Af kN;clear hN hv hu kN hx;have hs:sz M<=n':=HN.out.sz;have Hy:=Af hy;clear hy
 go_enter Tryz.func124,Tryz.ntmps124
 go_wp2_with fail
 refine EE 6 [5,6,7,8,9,10] [2,3] [_,_] [(kv ?_),(kv ?_),(kv ?_),(kv ?_),(kv ?_),(fun γ=>γ 5)] (fun γ w'=>[True,True,True,True,True,Bt w' (γ 5) M]) ?s2 ?_
 case s2 =>
  iterate 6 refine⟨?_,?_⟩
  trivial
  iterate 5 focus
   refine Bi fun _ w' he R hR=>?_;have hc:=he.cells;go_simp;exact C8 hR
  ·refine Bi fun _ w' he R hR=>?_
   go_simp;exact BF (Bo _ M n' w' (HN.out.ext he.a3)) hR
 intro γ w1 hx1 hF;have p5:Bt w1 (γ 5) M:=AC.get hF 5 Ab;clear hF;simp only[Bw,Nat.reduceAdd];generalize γ 5=g5 at *;clear γ
 go_wp2_with fail
 refine AQ (Wz _ _ neg' x M w1 (Hv.out.ext hx1.a3) p5 Aa) ?_;rintro r w2 hr hx2;rw[<-Hy.out]at hr;obtain⟨b,A2,n2,c2,rfl⟩:=hr.cells;replace hx1:=hx1.trans hx2;have hc1:=hx1.cells;have hf1:=hx1.frozens;have Hfin:=Af (Dk hr hx1.a3 (AV.at_ hx1 (g:=w.heap.size+2) Ac (by simp[Ah])) Aa);clear hr p5;go_wp2;refine bodyPost_ret (v := .agg #[.bool b,.slice A2 n2 c2]) (by simp[results,Tryz.results124,go_sem,hc1]) rfl ?_
 exact Hfin.out
theorem Dj(v u:Value)(x y:Int)(w:World)(hv:Bj w v x)(hu:Bj w u y):Bg 118 #[v,u] w (fun r w'=>AO w' r (x*y)):=by
 obtain⟨neg,A,n,c,N,rfl,h1,h2,h3,hN,hx⟩:=hv.form;obtain⟨neg',A',n',c',M,rfl,k1,k2,k3,kN,hy⟩:=hu.form;have HN:=Af hN;have HM:=Af kN;clear hN hv hu kN;have hs:sz N<=n:=HN.out.sz;have hs':sz M<=n':=HM.out.sz;have Hz:=Af (show x*y=if (neg != neg')=true then -((N*M:Nat):Int)else((N*M:Nat):Int) by rw[hx,hy];cases neg<;>cases neg'<;>simp[Int.neg_mul,Int.mul_neg]);clear hx hy
 go_enter Tryz.func118,Tryz.ntmps118
 go_wp2_with fail
 refine EE 12 [5,6,7,8,9,10,11,12,13,14,15,16] [2,3] [_,_] [(kv ?_),(kv ?_),(kv ?_),(kv ?_),(kv ?_),(kv ?_),(kv ?_),(fun γ=>γ 7),(kv ?_),(kv ?_),(fun γ=>γ 10),(fun γ=>γ 11)] (fun γ w'=>[True,True,True,True,True,True,True,Bt w' (γ 7) N,True,True,Bt w' (γ 10) M,DK w' (γ 11) (N*M) (sz N+sz M)]) ?s3 ?_
 case s3 =>
  iterate 12 refine⟨?_,?_⟩
  trivial
  iterate 7 focus
   refine Bi fun _ w' he R hR=>?_;have hc:=he.cells;go_simp;(try go_ints);(try(rw[if_neg Aa]));(try(rw[if_pos Aa]));(try go_simp);(try go_ints)
   exact C8 hR
  ·refine Bi fun _ w' he R hR=>?_
   go_simp;exact BF (Bo _ N n w' (HN.out.ext he.a3)) hR
  iterate 2 focus
   refine Bi fun _ w' he R hR=>?_;have hc:=he.cells;go_simp;exact C8 hR
  ·refine Bi fun _ w' he R hR=>?_
   go_simp;exact BF (Bo _ M n' w' (HM.out.ext he.a3)) hR
  ·refine Gj fun γ w' he hf R hR=>?_;have f7:Bt w' (γ 7) N:=hf 7 Ab;have f10:Bt w' (γ 10) M:=hf 10 Ab;clear hf
   go_simp;exact BF (UL _ _ N M (sz N) (sz M) w' (f7.num (Nat.le_refl _)) (f10.num (Nat.le_refl _)) Aa Aa) hR
 intro γ w1 hx1 hF;have p7:Bt w1 (γ 7) N:=AC.get hF 7 Ab;have p10:Bt w1 (γ 10) M:=AC.get hF 10 Ab;have p11:DK w1 (γ 11) (N*M) (sz N+sz M):=AC.get hF 11 Ab;clear hF;simp only[Bw,Nat.reduceAdd];generalize γ 7=g7 at *;generalize γ 10=g10 at *;generalize γ 11=g11 at *;clear γ
 go_wp2_with fail
 refine AQ (Co (x*y) (neg != neg') _ (N*M) _ w1 Hz.out p11) ?_;rintro r w2 hr hx2;obtain⟨b,A2,n2,c2,rfl⟩:=hr.cells;replace hx1:=hx1.trans hx2;have hc1:=hx1.cells;have hf1:=hx1.frozens;have Hfin:=Af (Dk hr hx1.a3 (AV.at_ hx1 (g:=w.heap.size+2) Ac (by simp[Ah])) Aa);clear hr p7 p10 p11;go_wp2;refine bodyPost_ret (v := .agg #[.bool b,.slice A2 n2 c2]) (by simp[results,Tryz.results118,go_sem,hc1]) rfl ?_
 exact Hfin.out
def Md(x y:Int)(r:Value)(w:World):Prop:=∃ a b,r = .tuple #[a,b,.int .i64 (if y=0 then 5 else 0)]/\AO w a (x / y)/\AO w b (if y=0 then 0 else x % y)
theorem Kg(v u:Value)(x y:Int)(w:World)(hv:Bj w v x)(hu:Bj w u y):Bg 136 #[v,u] w ((Md x y)):=by
 obtain⟨neg,A,n,c,N,rfl,h1,h2,h3,hN,hx⟩:=hv.form;obtain⟨neg',A',n',c',M,rfl,k1,k2,k3,kN,hy⟩:=hu.form;have HN:=Af hN;have HM:=Af kN;clear hN hv hu kN;have hs:sz N<=n:=HN.out.sz;have hs':sz M<=n':=HM.out.sz;have Hxy:=Af (Au hx hy);clear hx hy
 go_enter Tryz.func136,Tryz.ntmps136
 go_wp2_with fail
 refine AQ (Bo _ M n' _ (HM.out.ext (((((Ext.refl w).alloc _).alloc _).alloc _).alloc _))) ?_;rintro r w1 hr hx1;obtain⟨A3,c3,rfl,q1,q2⟩:=hr.form;by_cases hM0:M=0
 ·have hb:(((sz M:Nat):Int)==0)=true:=by subst hM0;rfl
  have Hy:=Af (show y=0 by rw[Hxy.out.2,hM0];cases neg'<;>rfl);clear Hxy hM0;have hc1:=hx1.cells;have hf1:=hx1.frozens;have Hfin:=Af (PN (AO.zero w1) (AO.zero w1) hx1.a4 (AV.at_ hx1.a1 (g:=w.heap.size+1+1) Ac (by simp[Ah])) (AV.at_ hx1 (g:=w.heap.size+1+1+1) Ac (by simp[Ah])) Aa Aa);clear hr;go_wp2;refine bodyPost_ret (v := .tuple #[.agg #[.bool false,.slice none 0 0],.agg #[.bool false,.slice none 0 0],.int .i64 5]) (by simp[results,Tryz.results136,go_sem,hc1]) rfl ?_
  refine Ai.mk ⟨_,_,by rw[Hy.out];rfl,?_,?_⟩ Hfin.out.2.2
  ·rw[Hy.out,Int.ediv_zero];exact Hfin.out.1
  ·rw[Hy.out,if_pos rfl];exact Hfin.out.2.1
 ·have hMp:=Es hM0
  have hb:(((sz M:Nat):Int)==0)=false:=by simp;omega
  have Hr:=Af hr;clear hr;have H0:=Af hM0;clear hM0;have hc1:=hx1.cells;have hf1:=hx1.frozens
  go_wp2_with fail
  refine AQ (Bo _ N n w1 (HN.out.ext hx1.a4)) ?_;rintro r w2 hr hx2;clear hc1 hf1;replace Hr:=Af (Hr.out.ext hx2);replace hx1:=hx1.trans hx2;clear hx2
  go_wp2_with fail
  refine AQ (ME _ _ N M w2 hr Hr.out (by have:=H0.out;omega) Aa Aa) ?_;rintro r2 w3 ⟨a,b,rfl,ha,hb'⟩ hx2;obtain⟨A4,c4,rfl,d1,d2⟩:=hb'.form;replace Hr:=Af (Hr.out.ext hx2);replace hx1:=hx1.trans hx2;clear hx2 hr;have hc1:=hx1.cells;have hf1:=hx1.frozens;have Hq:=Af ha;have Hm:=Af hb';clear ha hb';have HY:=Af (show y≠0 by have:=H0.out;rw[Hxy.out.2];cases neg'<;>simp<;>omega);cases neg
  ·have HE:=Af (show x / y=(if neg'=true then -((N / M:Nat):Int)else(N / M:Nat))/\x % y=(if false=true then -((N % M:Nat):Int)else(N % M:Nat)) by
    rw[Hxy.out.1,Hxy.out.2];exact RP neg' (by have:=H0.out;omega))
   go_wp2_with fail
   refine AQ (Co (x / y) neg' _ (N / M) _ w3 HE.out.1 (Hq.out.num (Nat.le_refl _))) ?_;rintro rq w4 hrq hx3;obtain⟨bq,Aq,nq,cq,rfl⟩:=hrq.cells
   go_wp2_with fail
   refine AQ (Co (x % y) false _ (N % M) _ w4 HE.out.2 (DK.ext (Hm.out.num (Nat.le_refl _)) hx3)) ?_;rintro rr w5 hrr hx4;obtain⟨br,Ar,nr,cr,rfl⟩:=hrr.cells;replace hrq:=hrq.ext hx4;replace hx1:=(hx1.trans hx3).trans hx4;clear hc1 hf1 hx3 hx4;have hc1:=hx1.cells;have hf1:=hx1.frozens;have Hfin:=Af (PN hrq hrr hx1.a4 (AV.at_ hx1.a1 (g:=w.heap.size+1+1) Ac (by simp[Ah])) (AV.at_ hx1 (g:=w.heap.size+1+1+1) Ac (by simp[Ah])) Aa Aa)
   clear hrq hrr;go_wp2;refine bodyPost_ret (v := .tuple #[.agg #[.bool bq,.slice Aq nq cq],.agg #[.bool br,.slice Ar nr cr],.int .i64 0]) (by simp[results,Tryz.results136,go_sem,hc1]) rfl ?_;exact Ai.mk ⟨_,_,by rw[if_neg HY.out],Hfin.out.1,by rw[if_neg HY.out];exact Hfin.out.2.1⟩ Hfin.out.2.2
  ·by_cases hr0:N % M=0
   ·have HE:=Af (show x / y=(if (!neg')=true then -((N / M:Nat):Int)else(N / M:Nat))/\x % y=(if false=true then -((N % M:Nat):Int)else(N % M:Nat)) by
     rw[Hxy.out.1,Hxy.out.2];exact Q6 neg' (by have:=H0.out;omega) hr0)
    have hb2:decide (0 < sz (N % M))=false:=by rw[hr0];rfl
    clear hr0
    go_wp2_with fail
    refine AQ (Co (x / y) (!neg') _ (N / M) _ w3 HE.out.1 (Hq.out.num (Nat.le_refl _))) ?_;rintro rq w4 hrq hx3;obtain⟨bq,Aq,nq,cq,rfl⟩:=hrq.cells
    go_wp2_with fail
    refine AQ (Co (x % y) false _ (N % M) _ w4 HE.out.2 (DK.ext (Hm.out.num (Nat.le_refl _)) hx3)) ?_;rintro rr w5 hrr hx4;obtain⟨br,Ar,nr,cr,rfl⟩:=hrr.cells;replace hrq:=hrq.ext hx4;replace hx1:=(hx1.trans hx3).trans hx4;clear hc1 hf1 hx3 hx4;have hc1:=hx1.cells;have hf1:=hx1.frozens;have Hfin:=Af (PN hrq hrr hx1.a4 (AV.at_ hx1.a1 (g:=w.heap.size+1+1) Ac (by simp[Ah])) (AV.at_ hx1 (g:=w.heap.size+1+1+1) Ac (by simp[Ah])) Aa Aa)
    clear hrq hrr;go_wp2;refine bodyPost_ret (v := .tuple #[.agg #[.bool bq,.slice Aq nq cq],.agg #[.bool br,.slice Ar nr cr],.int .i64 0]) (by simp[results,Tryz.results136,go_sem,hc1]) rfl ?_;exact Ai.mk ⟨_,_,by rw[if_neg HY.out],Hfin.out.1,by rw[if_neg HY.out];exact Hfin.out.2.1⟩ Hfin.out.2.2
   ·have HE:=Af (show x / y=(if (!neg')=true then -((N / M+1:Nat):Int)else(N / M+1:Nat))/\x % y=(if false=true then -((M - N % M:Nat):Int)else(M - N % M:Nat)) by
     rw[Hxy.out.1,Hxy.out.2];exact SB neg' (by have:=H0.out;omega) Aa)
    have hb2:decide (0 < sz (N % M))=true:=by have:=Es hr0;simpa using this
    clear hr0;have hsq:sz (N / M)<=sz N:=Bq (Nat.div_le_self _ _)
    go_wp2_with fail
    refine AQ (PQ _ _ (N / M) 1 (sz N) 1 _ ((Hq.out.ext ((Ext.refl w3).alloc _)).num hsq) (DK.unit _ _) Aa Aa) ?_;rintro r4 w4 hr4 hx4;replace Hr:=Af (Hr.out.ext hx4.a1);replace Hm:=Af (Hm.out.ext hx4.a1);replace hx1:=hx1.trans hx4.a1;clear hc1 hf1 hx4 hb2 Hq;have hc1:=hx1.cells;have hf1:=hx1.frozens
    go_wp2_with fail
    refine AQ (M3 _ _ M (N % M) w4 Hr.out Hm.out (Nat.le_of_lt (Nat.mod_lt _ (by have:=H0.out;omega))) Aa) ?_;rintro r5 w5 hr5 hx5;replace hr4:=hr4.ext hx5;replace hx1:=hx1.trans hx5;clear hc1 hf1 hx5 Hr Hm;have hc1:=hx1.cells;have hf1:=hx1.frozens;have Hr4:=Af hr4;have Hr5:=Af hr5;clear hr4 hr5
    go_wp2_with fail
    refine AQ (Co (x / y) (!neg') _ (N / M+1) _ w5 HE.out.1 Hr4.out) ?_;rintro rq w6 hrq hx3;obtain⟨bq,Aq,nq,cq,rfl⟩:=hrq.cells
    go_wp2_with fail
    refine AQ (Co (x % y) false _ (M - N % M) _ w6 HE.out.2 (DK.ext Hr5.out hx3)) ?_;rintro rr w7 hrr hx4;obtain⟨br,Ar,nr,cr,rfl⟩:=hrr.cells;replace hrq:=hrq.ext hx4;replace hx1:=(hx1.trans hx3).trans hx4;clear hc1 hf1 hx3 hx4;have hc1:=hx1.cells;have hf1:=hx1.frozens;have Hfin:=Af (PN hrq hrr hx1.a4 (AV.at_ hx1.a1 (g:=w.heap.size+1+1) Ac (by simp[Ah])) (AV.at_ hx1 (g:=w.heap.size+1+1+1) Ac (by simp[Ah])) Aa Aa)
    clear hrq hrr;go_wp2;refine bodyPost_ret (v := .tuple #[.agg #[.bool bq,.slice Aq nq cq],.agg #[.bool br,.slice Ar nr cr],.int .i64 0]) (by simp[results,Tryz.results136,go_sem,hc1]) rfl ?_;exact Ai.mk ⟨_,_,by rw[if_neg HY.out],Hfin.out.1,by rw[if_neg HY.out];exact Hfin.out.2.1⟩ Hfin.out.2.2
theorem Qn(a b:Nat):Nat.gcd b (a % b)=Nat.gcd a b:=by rw[Nat.gcd_comm a b,Nat.gcd_rec b a,Nat.gcd_comm]
theorem S9(v u:Value)(N M:Nat)(w:World)(hv:Bt w v N)(hu:Bt w u M)(hN:sz N<=1099511627776)(hM:sz M<=1099511627776) :
  Bg 143 #[v,u] w (fun r w'=>Bt w' r (Nat.gcd N M)):=by
 have Hv:=Af hv;have Hu:=Af hu;clear hv hu;obtain⟨G,hG⟩:∃ G,G=Nat.gcd N M:=⟨_,rfl⟩
 rw[<-hG];have HG:=Af hG;clear hG
 go_enter Tryz.func143,Tryz.ntmps143
 go_wp2
 go_loopw [0,1] (fun av bv wr=>∃ A B:Nat,Bt wr av A/\Bt wr bv B/\Nat.gcd A B=G/\sz A<=1099511627776/\sz B<=1099511627776/\Ext w wr) (fun _ bv wr=>Wu bv wr)
 case atStart=>exact⟨N,M,Hv.out,Hu.out,HG.out.symm,hN,hM,Ext.refl _⟩
 case round =>
  obtain⟨A,B,hA,hB,hAB,h1,h2,hx⟩:=hrel;have HA:=Af hA;have HB:=Af hB;have HAB:=Af hAB;obtain⟨p,c,rfl,_,_⟩:=hA.form;obtain⟨p',c',rfl,_,_⟩:=hB.form;clear hA hB hAB;by_cases hB0:B=0
  ·have hb:decide (0 < sz B)=false:=by rw[hB0];rfl
   have H0:=Af hB0;clear hB0
   go_wp2_with fail
   refine AQ (J3 _ A _ HA.out Aa) ?_;rintro r w1 hr hx1;go_wp2
   go_ret
   have:=HAB.out;rw[H0.out,Nat.gcd_zero_right]at this;exact Ai.mk (this▸hr) (hx.trans hx1)
  ·have hb:decide (0 < sz B)=true:=by have:=Es hB0;simpa using this
   have H0:=Af hB0;clear hB0;by_cases hsm:sz A<=2/\sz B<=2
   ·have hb1:decide (((sz A:Nat):Int)<=2)=true:=by have:=hsm.1;simp;omega
    have hb2:decide (((sz B:Nat):Int)<=2)=true:=by have:=hsm.2;simp;omega
    have hA64:A < 18446744073709551616:=by have:=EB.1 hsm.1;rwa[OD]at this
    have hB64:B < 18446744073709551616:=by have:=EB.1 hsm.2;rwa[OD]at this
    clear hsm
    go_wp2_with fail
    refine AQ (QD _ A _ HA.out hA64) ?_;rintro r w1 rfl hx1
    go_wp2_with fail
    refine AQ (QD _ B _ (HB.out.ext hx1) hB64) ?_;rintro r w2 rfl hx2;replace hx:=(hx.trans hx1).trans hx2;clear hx1 hx2;go_wp2
    go_loopw [5,6] (fun av bv wx=>∃ A' B':Nat,av = .int .u64 A'/\bv = .int .u64 B'/\Nat.gcd A' B'=G/\A' < 18446744073709551616/\B' < 18446744073709551616/\Ext w wx) (fun _ bv _=>(intOf bv).toNat)
    case atStart=>exact⟨A,B,rfl,rfl,HAB.out,hA64,hB64,hx⟩
    case round =>
     obtain⟨A',B',rfl,rfl,hg,k1,k2,hx'⟩:=hrel;have Hg:=Af hg;clear hg;by_cases hB0:B'=0
     ·subst hB0
      go_wp2_with fail
      refine AQ (LJ A' _ rfl _ k1) ?_;rintro r w3 hr hx3;go_wp2
      go_ret
      have:=Hg.out;rw[Nat.gcd_zero_right]at this;exact Ai.mk (this▸hr) (hx'.trans hx3)
     ·have hp:(1:Int)<=B':=by omega
      have hb:((B':Int) != 0)=true:=by simp;omega
      go_wp2
      go_quiet (fail)
      go_wp2
      go_roundw
      case rel=>exact⟨B',A' % B',Ac,Ac,by rw[Qn,Hg.out],k2,by have:=Nat.mod_lt A' (show 0 < B' by omega);omega,hx'.drewN _⟩
      case measure =>
       have:=Nat.mod_lt A' (show 0 < B' by omega);simp only[intOf,Array.getD,Int.toNat_natCast]<;>simp<;>omega
   ·have hb1:decide (((sz A:Nat):Int)<=2)=false\/(decide (((sz A:Nat):Int)<=2)=true/\decide (((sz B:Nat):Int)<=2)=false):=by
     by_cases q:sz A<=2
     ·right;simp;omega
     ·left;simp;omega
    clear hsm;rcases hb1 with hb1 | ⟨hb1,hb2⟩
    all_goals
     go_wp2_with fail
     refine AQ (ME _ _ A B wr HA.out HB.out (by have:=H0.out;omega) Aa Aa) ?_;rintro r w1 ⟨q,m,rfl,hq,hm⟩ hx1;have hlt:=Nat.mod_lt A (show 0 < B by have:=H0.out;omega);have hm1:=Qo hm;have hb1:=Qo HB.out;have hsz:=Bq (Nat.le_of_lt hlt);have Hm:=Af hm;clear hm;go_wp2
     go_roundw
     case rel=>exact⟨B,A % B,HB.out.ext hx1,Hm.out,by rw[Qn,HAB.out],h2,Aa,hx.trans hx1⟩
     case measure=>simpa[hm1,hb1] using hlt
def R8(B:Nat)(w:World)(v:Value)(ds:List Nat):Prop:=BH w v ds/\(0 < ds.length->∀ a n c,v = .slice (some a) n c->a.block≠B)
theorem R8.ext{B:Nat}{w w':World}{v:Value}{ds:List Nat}(h:R8 B w v ds)(e:Ext w w'):R8 B w' v ds:=⟨h.1.ext e,h.2⟩
theorem R8.of_own{B base:Nat}{w:World}{v:Value}{ds:List Nat}(h:Vw base w v ds)(hb:B < base):R8 B w v ds:=⟨h.1,fun h0 a n c e=>by have:=h.2 h0 a n c e;omega⟩
theorem R8.set_{B:Nat}{w:World}{v:Value}{ds:List Nat}(h:R8 B w v ds)(i:Nat)(u:Value):R8 B (w.setCell ⟨B,i,none⟩ u) v ds:=⟨by
 obtain⟨A,c,e,h1,h2,hd,hA⟩:=h.1;refine⟨A,c,e,h1,h2,hd,fun h0=>?_⟩;obtain⟨a,ha,hc⟩:=hA h0;have hne:=h.2 h0 a _ _ (by rw[e,ha]);refine⟨a,ha,fun j hj=>?_⟩;have hb:(w.setCell ⟨B,i,none⟩ u).heap[(a.add j).block]? = w.heap[(a.add j).block]? := Below.heap_setCell w ⟨B,i,none⟩ u _ (by
  have e2:(a.add j).block=a.block:=by unfold Addr.add;split<;>rfl
  rw[e2];exact hne)
 have h3:=hc j hj;unfold World.cell? at h3 ⊢;rw[hb];exact h3,h.2⟩
end Go.Proofs.YtmhgnigpmompmaaGreat
namespace Go.Hp
open Go.RowKit
def IsU(_:World)(v:Value)(n:Nat):Prop:=v = .int .u64 n
theorem IsU.ext{w w':World}{v:Value}{n:Nat}(h:IsU w v n)(_:Ext w w'):IsU w' v n:=h
end Go.Hp
namespace Go.Proofs.YtmhgnigpmompmaaGreat
open Go.RowKit Go.Hp
theorem Un(v u:Value)(x y:Int)(w:World)(hv:Bj w v x)(hu:Bj w u y):Bg 93 #[v,u] w (fun r w'=>AO w' r (Int.gcd x y:Nat)):=by
 obtain⟨neg,A,n,c,N,rfl,h1,h2,h3,hN,hx⟩:=hv.form;obtain⟨neg',A',n',c',M,rfl,k1,k2,k3,kN,hy⟩:=hu.form;have HN:=Af hN;have HM:=Af kN;clear hN hv hu kN;have hs:sz N<=n:=HN.out.sz;have hs':sz M<=n':=HM.out.sz;have hg:Int.gcd x y=Nat.gcd N M:=by unfold Int.gcd;rw[hx,hy];cases neg<;>cases neg'<;>simp
 rw[hg];clear hx hy hg
 go_enter Tryz.func93,Tryz.ntmps93
 go_wp2_with fail
 refine EE 5 [5,6,7,8,9] [2,3] [_,_] [(kv ?_),(kv ?_),(fun γ=>γ 2),(kv ?_),(kv ?_)] (fun γ w'=>[True,True,Bt w' (γ 2) N,True,True]) ?s1 ?_
 case s1 =>
  iterate 5 refine⟨?_,?_⟩
  trivial
  iterate 2 focus
   refine Bi fun _ w' he R hR=>?_;have hc:=he.cells;go_simp;exact C8 hR
  ·refine Bi fun _ w' he R hR=>?_
   go_simp;exact BF (Bo _ N n w' (HN.out.ext he.a3)) hR
  iterate 2 focus
   refine Bi fun _ w' he R hR=>?_;have hc:=he.cells;go_simp;exact C8 hR
 intro γ w1 hx1 hF;have p2:Bt w1 (γ 2) N:=AC.get hF 2 Ab;clear hF;simp only[Bw,Nat.reduceAdd];generalize γ 2=g2 at *;clear γ
 go_wp2_with fail
 refine AQ (Bo _ M n' w1 (HM.out.ext hx1.a3)) ?_;rintro r2 w2 hr2 hx2;replace p2:=p2.ext hx2;replace hx1:=hx1.trans hx2;clear hx2
 go_wp2_with fail
 refine AQ (S9 _ _ N M w2 p2 hr2 Aa Aa) ?_;rintro r3 w3 hr3 hx2;replace hx1:=hx1.trans hx2;clear hx2 p2 hr2
 go_wp2_with fail
 refine AQ (Co (Nat.gcd N M:Nat) false _ (Nat.gcd N M) _ w3 rfl (hr3.num (Nat.le_refl _))) ?_;rintro r w4 hr hx2;obtain⟨b,A2,n2,c2,rfl⟩:=hr.cells;replace hx1:=hx1.trans hx2;have hc1:=hx1.cells;have hf1:=hx1.frozens;have Hfin:=Af (Dk hr hx1.a3 (AV.at_ hx1 (g:=w.heap.size+2) Ac (by simp[Ah])) Aa);clear hr hr3;go_wp2;refine bodyPost_ret (v := .agg #[.bool b,.slice A2 n2 c2]) (by simp[results,Tryz.results93,go_sem,hc1]) rfl ?_
 exact Hfin.out
theorem GK(v u:Value)(x y:Int)(w:World)(hv:Bj w v x)(hu:Bj w u y)(h0:y≠0)(hd:y∣x):Bg 86 #[v,u] w (fun r w'=>∃ a,r = .tuple #[a,.int .i64 0]/\AO w' a (x / y)):=by
 have Hv:=Af hv;have Hu:=Af hu;obtain⟨neg,A,n,c,N,rfl,h1,h2,h3,hN,hx⟩:=hv.form;obtain⟨neg',A',n',c',M,rfl,k1,k2,k3,kN,hy⟩:=hu.form;clear hN hx hv hu kN hy;have H0:=Af h0;have Hd:=Af hd;clear h0 hd
 go_enter Tryz.func86,Tryz.ntmps86
 go_wp2_with fail
 refine AQ (Kg _ _ x y _ (Hv.out.ext ((((Ext.refl w).alloc _).alloc _).alloc _)) (Hu.out.ext ((((Ext.refl w).alloc _).alloc _).alloc _))) ?_;rintro r w1 ⟨q,m,rfl,hq,hm⟩ hx1;rw[if_neg H0.out,Int.emod_eq_zero_of_dvd Hd.out]at hm;rw[if_neg H0.out];obtain⟨b,A1,n1,c1,rfl⟩:=hq.cells;obtain⟨A2,c2,rfl⟩:∃ A2 c2,m = .agg #[.bool false,.slice A2 0 c2]:=by obtain⟨A,c,e,_⟩:=hm.form;exact⟨A,c,e⟩
 have Hq:=Af hq;clear hq hm;have hx2:=(hx1.alloc (Obj.cells #[Value.bool b,Value.slice A1 n1 c1] 26)).alloc (Obj.cells #[Value.bool false,Value.slice A2 0 c2] 26);have hc2:=hx2.cells;have hf2:=hx2.frozens;have Hfin:=Af (Dk (Hq.out.ext (((Ext.refl w1).alloc _).alloc _)) hx2.a3 (AV.at_ hx2 (g:=w.heap.size+1+1) Ac (by simp[Ah])) Aa);have hc1:=hx1.cells;have hf1:=hx1.frozens;go_wp2;refine bodyPost_ret (v := .tuple #[.agg #[.bool b,.slice A1 n1 c1],.int .i64 0]) (by simp[results,Tryz.results86,go_sem,hc2]) rfl ?_
 obtain⟨r,e,hr,hx⟩:=Hfin.out;cases e;exact Ai.mk ⟨_,rfl,hr⟩ hx
theorem BX.mk_{w:World}{b b':Bool}{A A':Option Addr}{n c n' c':Nat}{q:Rat}{x y:Int}(h1:AO w (.agg #[.bool b,.slice A n c]) x)(h2:AO w (.agg #[.bool b',.slice A' n' c']) y)(e1:x=q.num)(e2:y=q.den):BX w (.agg #[.bool b,.slice A n c,.bool b',.slice A' n' c']) q:=
 ⟨b,A,n,c,b',A',n',c',rfl,e1▸h1,e2▸h2⟩
theorem Jz(v u:Value)(x y:Int)(w:World)(hv:Bj w v x)(hu:Bj w u y):Bg 149 #[v,u] w (fun r w'=>BX w' r (Rat.divInt x y)):=by
 have Hv:=Af hv;have Hu:=Af hu;have hsx:=hv.sz;have hsy:=hu.sz;obtain⟨neg,A,n,c,N,rfl,h1,h2,h3,hN,hx⟩:=hv.form;obtain⟨neg',A',n',c',M,rfl,k1,k2,k3,kN,hy⟩:=hu.form;clear hN hx hv hu kN hy
 go_enter Tryz.func149,Tryz.ntmps149
 go_wp2_with fail
 refine EE 3 [6,7,8] [2,3] [_,_] [(kv ?_),(fun γ=>γ 1),(kv ?_)] (fun γ w'=>[True,AO w' (γ 1) x,True]) ?s1 ?_
 case s1 =>
  iterate 3 refine⟨?_,?_⟩
  trivial
  iterate 1 focus
   refine Bi fun _ w' he R hR=>?_;have hc:=he.cells;go_simp;exact C8 hR
  ·refine Bi fun _ w' he R hR=>?_
   go_simp;exact BF (Iz _ x w' (Hv.out.ext he.a3)) hR
  iterate 1 focus
   refine Bi fun _ w' he R hR=>?_;have hc:=he.cells;go_simp;exact C8 hR
 intro γ w1 hx1 hF;have p1:AO w1 (γ 1) x:=AC.get hF 1 Ab;clear hF;simp only[Bw,Nat.reduceAdd];generalize γ 1=g1 at *;clear γ
 go_wp2_with fail
 refine AQ (Iz _ y w1 (Hu.out.ext hx1.a3)) ?_;rintro r w2 hr hx2;replace p1:=p1.ext hx2;replace hx1:=hx1.trans hx2;obtain⟨b1,A1,n1,c1,rfl,hn1,hb1'⟩:=p1.parts;obtain⟨b2,A2,n2,c2,rfl,hn2,hb2'⟩:=hr.parts;have e0:Ba w2 w.heap.size 26 #[.bool neg,.slice A n c]:=(Ba.new w _ _ (by simp[Ah])).ext hx1.a1.a1;have e1:Ba w2 (w.heap.size+1) 26 #[.bool neg',.slice A' n' c']:=by
  have:=(Ba.new (w.alloc _) _ _ (by simp[Ah])).ext hx1.a1;simpa using this
 have e2:Ba w2 (w.heap.size+1+1) 28 #[.bool false,.slice none 0 0,.bool false,.slice none 0 0]:=by
  have:=(Ba.new ((w.alloc _).alloc _) _ _ (by simp[Ah])).ext hx1;simpa using this
 replace hx1:=hx1.a3;obtain⟨ce00,ce01⟩:=e0.cells2;have fe0:=e0.frozen;obtain⟨ce10,ce11⟩:=e1.cells2;have fe1:=e1.frozen;have ce2:=e2.cells4;have fe2:=e2.frozen;have Hn1:=Af (Au hn1 hb1');have Hn2:=Af (Au hn2 hb2');clear hn1 hb1' hn2 hb2'
 go_upto_block 0 with(fail)
 obtain⟨W1,eW,e0',U⟩:=e0.put2 (.bool b1) (.slice A1 n1 c1);rw[<-eW];clear eW e0;replace p1:=p1.kd U.kd;replace hr:=hr.kd U.kd;replace e1:=e1.upd U Ak;replace e2:=e2.upd U Ak;replace hx1:=U.from_ hx1 Ak;have e0:=e0';clear U e0';obtain⟨W2,eW,e1',U⟩:=e1.put2 (.bool b2) (.slice A2 n2 c2);rw[<-eW];clear eW e1;replace p1:=p1.kd U.kd;replace hr:=hr.kd U.kd;replace e0:=e0.upd U Ak;replace e2:=e2.upd U Ak;replace hx1:=U.from_ hx1 Ak
 have e1:=e1';clear U e1';clear ce00 ce01 fe0 ce10 ce11 fe1 ce2 fe2;obtain⟨ce00,ce01⟩:=e0.cells2;have fe0:=e0.frozen;obtain⟨ce10,ce11⟩:=e1.cells2;have fe1:=e1.frozen;have ce2:=e2.cells4;have fe2:=e2.frozen;clear hx2
 go_cut [] (fun wx=>∃ (p q:Int) (b1:Bool) (A1:Option Addr) (n1 c1:Nat) (b2:Bool) (A2:Option Addr) (n2 c2:Nat),AO wx (.agg #[.bool b1,.slice A1 n1 c1]) p/\AO wx (.agg #[.bool b2,.slice A2 n2 c2]) q/\0 < q/\Rat.divInt x y=Rat.divInt p q/\sz p.natAbs<=1099511627776/\sz q.natAbs<=1099511627776/\Ba wx w.heap.size 26 #[.bool b1,.slice A1 n1 c1]/\Ba wx (w.heap.size+1) 26 #[.bool b2,.slice A2 n2 c2]/\Ba wx (w.heap.size+1+1) 28 #[.bool false,.slice none 0 0,.bool false,.slice none 0 0]/\Ext w wx)
 case first =>
  by_cases hz:y=0\/x=0
  ·have hq:Rat.divInt x y=0:=by rcases hz with h | h<;>simp[h]
   have hbb:(((n2:Nat):Int)==0)=true\/((((n2:Nat):Int)==0)=false/\(((n1:Nat):Int)==0)=true):=by
    rw[Hn1.out.1,Hn2.out.1];by_cases hy0:y=0
    ·exact .inl (aQ hy0)
    ·exact .inr ⟨WB hy0,aQ (hz.resolve_left hy0)⟩
   have Hq:=Af hq;clear hq hz;rcases hbb with hb1 | ⟨hb1,hb2⟩
   all_goals
    go_wp2_with fail
    refine AQ (Jb 1 _ Aa Aa) ?_;rintro r w3 hr1 hx3;obtain⟨b3,A3,n3,c3,rfl⟩:=hr1.cells;clear p1 hr ce00 ce01 fe0 ce10 ce11 fe1 ce2 fe2;replace e2:=e2.ext hx3;replace hx1:=hx1.trans hx3;clear hx3;have ce2:=e2.cells4;have fe2:=e2.frozen;go_wp2
    try clear ce00 ce01 fe0 ce10 ce11 fe1
    clear ce2 fe2;obtain⟨W9,eW,e2',U⟩:=e2.put4 (.bool false) (.slice none 0 0) (.bool b3) (.slice A3 n3 c3);rw[<-eW];clear eW e2;replace hr1:=hr1.kd U.kd;replace hx1:=U.from_ hx1 Ak;have e2:=e2';clear U e2';have ce2:=e2.cells4;have fe2:=e2.frozen;refine bodyPost_ret (v := .agg #[.bool false,.slice none 0 0,.bool b3,.slice A3 n3 c3]) (by simp[results,Tryz.results149,go_sem,ce2]) rfl ?_;exact Ai.mk (BX.mk_ (AO.zero _) hr1 (by rw[Hq.out];rfl) (by rw[Hq.out];rfl)) hx1
  ·have hy0:y≠0:=fun h=>hz (.inl h)
   have hx0:x≠0:=fun h=>hz (.inr h);have hb1:(((n2:Nat):Int)==0)=false:=by rw[Hn2.out.1];exact WB hy0
   have hb2:(((n1:Nat):Int)==0)=false:=by rw[Hn1.out.1];exact WB hx0
   have Hp1:=Af p1;have Hp2:=Af hr;clear p1 hr;by_cases hyn:y < 0
   ·obtain rfl:b2=true:=by rw[Hn2.out.2];simpa using hyn
    have Hy:=Af (Au hyn hy0);clear hyn hy0 hx0 hz;go_wp2;refine EE 3 [26,27,28] [2,3] [_,_] [(kv ?_),(fun γ=>γ 1),(kv ?_)] (fun γ w'=>[True,AO w' (γ 1) (-x),True]) ?s2 ?_
    case s2 =>
     iterate 3 refine⟨?_,?_⟩
     trivial
     iterate 1 focus
      refine Bi fun _ w' he R hR=>?_;have hc:=he.cells;have cq0:=he.cell ce00;have cq1:=he.cell ce01;have cq2:=he.cell ce10;have cq3:=he.cell ce11;go_simp;exact C8 hR
     ·refine Bi fun _ w' he R hR=>?_
      go_simp;exact BF (Ub _ x w' ((Hp1.out.ext he).has hsx)) hR
     iterate 1 focus
      refine Bi fun _ w' he R hR=>?_;have hc:=he.cells;have cq0:=he.cell ce00;have cq1:=he.cell ce01;have cq2:=he.cell ce10;have cq3:=he.cell ce11;go_simp;exact C8 hR
    intro γ w3 hx3 hF;have p1:AO w3 (γ 1) (-x):=AC.get hF 1 Ab;clear hF;simp only[Bw,Nat.reduceAdd];generalize γ 1=g1 at *;clear γ
    go_wp2_with fail
    refine AQ (Ub _ y w3 ((Hp2.out.ext hx3).has hsy)) ?_;rintro r w4 hr hx4;replace p1:=p1.ext hx4;replace hx3:=hx3.trans hx4;clear ce00 ce01 fe0 ce10 ce11 fe1 ce2 fe2 Hp1 Hp2;replace e0:=e0.ext hx3;replace e1:=e1.ext hx3;replace e2:=e2.ext hx3;replace hx1:=hx1.trans hx3;clear hx3;obtain⟨b3,A3,n3,c3,rfl⟩:=p1.cells;obtain⟨b4,A4,n4,c4,rfl⟩:=hr.cells;obtain⟨ce00,ce01⟩:=e0.cells2;have fe0:=e0.frozen;obtain⟨ce10,ce11⟩:=e1.cells2
    have fe1:=e1.frozen;go_wp2;obtain⟨W3,eW,e0',U⟩:=e0.put2 (.bool b3) (.slice A3 n3 c3);rw[<-eW];clear eW e0;replace p1:=p1.kd U.kd;replace hr:=hr.kd U.kd;replace e1:=e1.upd U Ak;replace e2:=e2.upd U Ak;replace hx1:=U.from_ hx1 Ak;have e0:=e0';clear U e0';obtain⟨W4,eW,e1',U⟩:=e1.put2 (.bool b4) (.slice A4 n4 c4);rw[<-eW];clear eW e1;replace p1:=p1.kd U.kd;replace hr:=hr.kd U.kd;replace e0:=e0.upd U Ak
    replace e2:=e2.upd U Ak;replace hx1:=U.from_ hx1 Ak;have e1:=e1';clear U e1'
    go_meet
    case rel=>exact⟨-x,-y,b3,A3,n3,c3,b4,A4,n4,c4,p1,hr,by have:=Hy.out;omega,by rw[Rat.neg_divInt_neg],by rwa[Int.natAbs_neg],by rwa[Int.natAbs_neg],e0,e1,e2,hx1⟩
   ·obtain rfl:b2=false:=by rw[Hn2.out.2];simpa using hyn
    have Hy:=Af (Au hyn hy0);clear hyn hy0 hx0 hz;go_wp2
    go_meet
    case rel=>exact⟨x,y,b1,A1,n1,c1,false,A2,n2,c2,Hp1.out,Hp2.out,by have:=Hy.out;omega,rfl,hsx,hsy,e0,e1,e2,hx1⟩
 case rest =>
  clear ce00 ce01 fe0 ce10 ce11 fe1 ce2 fe2 e0 e1 e2 hx1 p1 hr Hn1 Hn2 Hv Hu;obtain⟨p,q,b1,A1,n1,c1,b2,A2,n2,c2,p1,hr,hq0,hpq,hsp,hsq,e0,e1,e2,hx1⟩:=hcut;have Hpq:=Af hpq;have Hc:=Af (Au hq0 (Au hsp hsq));clear hq0 hpq hsp hsq hsx hsy;obtain⟨ce00,ce01⟩:=e0.cells2;have fe0:=e0.frozen;obtain⟨ce10,ce11⟩:=e1.cells2;have fe1:=e1.frozen;have ce2:=e2.cells4;have fe2:=e2.frozen
  go_wp2_with fail
  refine AQ (Ur _ q _ (hr.has Hc.out.2.2)) ?_;rintro r w3 ⟨b,rfl,hb⟩ hx3;replace p1:=p1.ext hx3;replace hr:=hr.ext hx3;replace e0:=e0.ext hx3;replace e1:=e1.ext hx3;replace e2:=e2.ext hx3;replace hx1:=hx1.trans hx3;clear hx3;clear ce00 ce01 fe0 ce10 ce11 fe1 ce2 fe2;obtain⟨ce00,ce01⟩:=e0.cells2;have fe0:=e0.frozen;obtain⟨ce10,ce11⟩:=e1.cells2;have fe1:=e1.frozen;have ce2:=e2.cells4;have fe2:=e2.frozen
  cases b
  ·clear hb
   go_wp2_with fail
   refine AQ (Un _ _ p q _ (p1.has Hc.out.2.1) (hr.has Hc.out.2.2)) ?_;rintro r w4 hg hx4;replace p1:=p1.ext hx4;replace hr:=hr.ext hx4;replace e0:=e0.ext hx4;replace e1:=e1.ext hx4;replace e2:=e2.ext hx4;replace hx1:=hx1.trans hx4;clear hx4;clear ce00 ce01 fe0 ce10 ce11 fe1 ce2 fe2;obtain⟨b5,A5,n5,c5,rfl⟩:=hg.cells;obtain⟨ce00,ce01⟩:=e0.cells2;have fe0:=e0.frozen;obtain⟨ce10,ce11⟩:=e1.cells2;have fe1:=e1.frozen
   have ce2:=e2.cells4;have fe2:=e2.frozen;have hgs:=VB (p:=p) Hc.out.1 Hc.out.2.2;have hg0:((Int.gcd p q:Nat):Int)≠0:=by have:=Int.gcd_pos_of_ne_zero_right p (show q≠0 by have:=Hc.out.1;omega);omega
   have Hg:=Af (Au hgs hg0);clear hgs hg0;have l0:=e0.lt;have l1:=e1.lt;have l2:=e2.lt
   go_wp2_with fail
   obtain⟨W5,eW5,e5,x5⟩:=Ba.made w4 26 #[.bool b5,.slice A5 n5 c5] (by simp[Ah]);rw[<-eW5];clear eW5;replace p1:=p1.ext x5;replace hr:=hr.ext x5;replace hg:=hg.ext x5;replace e0:=e0.ext x5;replace e1:=e1.ext x5;replace e2:=e2.ext x5;replace hx1:=hx1.trans x5;clear x5;clear ce00 ce01 fe0 ce10 ce11 fe1 ce2 fe2;refine AQ (Ur _ _ _ (hg.has Hg.out.1)) ?_;rintro r w6 ⟨b,rfl,hb⟩ hx4;replace p1:=p1.ext hx4
   replace hr:=hr.ext hx4;replace hg:=hg.ext hx4;replace e0:=e0.ext hx4;replace e1:=e1.ext hx4;replace e2:=e2.ext hx4;replace e5:=e5.ext hx4;replace hx1:=hx1.trans hx4;clear hx4;obtain⟨ce00,ce01⟩:=e0.cells2;have fe0:=e0.frozen;obtain⟨ce10,ce11⟩:=e1.cells2;have fe1:=e1.frozen;have ce2:=e2.cells4;have fe2:=e2.frozen;have ce5:=e5.cells2;have fe5:=e5.frozen;cases b
   ·clear hb
    go_wp2_with fail
    refine AQ (GK _ _ p _ _ (p1.has Hc.out.2.1) (hg.has Hg.out.1) Hg.out.2 (Int.gcd_dvd_left ..)) ?_;rintro r w7 ⟨a7,rfl,h7⟩ hx4;obtain⟨b7,A7,n7,c7,rfl⟩:=h7.cells;replace hr:=hr.ext hx4;replace hg:=hg.ext hx4;replace e0:=e0.ext hx4;replace e1:=e1.ext hx4;replace e2:=e2.ext hx4;replace e5:=e5.ext hx4;replace hx1:=hx1.trans hx4;clear hx4;clear ce00 ce01 fe0 ce10 ce11 fe1 ce2 fe2 ce5 fe5 p1;obtain⟨ce00,ce01⟩:=e0.cells2
    have fe0:=e0.frozen;obtain⟨ce10,ce11⟩:=e1.cells2;have fe1:=e1.frozen;have ce2:=e2.cells4;have fe2:=e2.frozen;have ce5:=e5.cells2;have fe5:=e5.frozen
    go_upto_region 11 with(fail)
    obtain⟨W7,eW,e0',U⟩:=e0.put2 (.bool b7) (.slice A7 n7 c7);rw[<-eW];clear eW e0;replace hr:=hr.kd U.kd;replace hg:=hg.kd U.kd;replace h7:=h7.kd U.kd;replace e1:=e1.upd U Ak;replace e2:=e2.upd U Ak;replace e5:=e5.upd U Ak;replace hx1:=U.from_ hx1 Ak;have e0:=e0';clear U e0';clear ce00 ce01 fe0 ce10 ce11 fe1 ce2 fe2 ce5 fe5;obtain⟨ce00,ce01⟩:=e0.cells2;have fe0:=e0.frozen;obtain⟨ce10,ce11⟩:=e1.cells2
    have fe1:=e1.frozen;have ce2:=e2.cells4;have fe2:=e2.frozen;have ce5:=e5.cells2;have fe5:=e5.frozen
    go_wp2_with fail
    refine AQ (GK _ _ q _ _ (hr.has Hc.out.2.2) (hg.has Hg.out.1) Hg.out.2 (Int.gcd_dvd_right ..)) ?_;rintro r w8 ⟨a8,rfl,h8⟩ hx4;obtain⟨b8,A8,n8,c8,rfl⟩:=h8.cells;replace h7:=h7.ext hx4;replace e0:=e0.ext hx4;replace e1:=e1.ext hx4;replace e2:=e2.ext hx4;replace hx1:=hx1.trans hx4;clear hx4;clear ce00 ce01 fe0 ce10 ce11 fe1 ce2 fe2 ce5 fe5 hr hg e5;obtain⟨ce00,ce01⟩:=e0.cells2;have fe0:=e0.frozen
    obtain⟨ce10,ce11⟩:=e1.cells2;have fe1:=e1.frozen;have ce2:=e2.cells4;have fe2:=e2.frozen
    go_upto_region 12 with(fail)
    obtain⟨W8,eW,e1',U⟩:=e1.put2 (.bool b8) (.slice A8 n8 c8);rw[<-eW];clear eW e1;replace h7:=h7.kd U.kd;replace h8:=h8.kd U.kd;replace e0:=e0.upd U Ak;replace e2:=e2.upd U Ak;replace hx1:=U.from_ hx1 Ak;have e1:=e1';clear U e1';clear ce00 ce01 fe0 ce10 ce11 fe1 ce2 fe2;obtain⟨ce00,ce01⟩:=e0.cells2;have fe0:=e0.frozen;obtain⟨ce10,ce11⟩:=e1.cells2;have fe1:=e1.frozen;have ce2:=e2.cells4;have fe2:=e2.frozen
    go_wp2
    try clear ce00 ce01 fe0 ce10 ce11 fe1
    clear ce2 fe2;obtain⟨W9,eW,e2',U⟩:=e2.put4 (.bool b7) (.slice A7 n7 c7) (.bool b8) (.slice A8 n8 c8);rw[<-eW];clear eW e2;replace h7:=h7.kd U.kd;replace h8:=h8.kd U.kd;replace hx1:=U.from_ hx1 Ak;have e2:=e2';clear U e2';have ce2:=e2.cells4;have fe2:=e2.frozen;refine bodyPost_ret (v := .agg #[.bool b7,.slice A7 n7 c7,.bool b8,.slice A8 n8 c8]) (by simp[results,Tryz.results149,go_sem,ce2]) rfl ?_
    exact Ai.mk (BX.mk_ h7 h8 (by rw[Hpq.out];exact(DF Hc.out.1).1.symm) (by rw[Hpq.out];exact(DF Hc.out.1).2.symm)) hx1
   ·have H1:=Af (hb rfl);clear hb
    go_wp2;clear ce5 fe5
    try clear ce00 ce01 fe0 ce10 ce11 fe1
    clear ce2 fe2;obtain⟨W9,eW,e2',U⟩:=e2.put4 (.bool b1) (.slice A1 n1 c1) (.bool b2) (.slice A2 n2 c2);rw[<-eW];clear eW e2;replace p1:=p1.kd U.kd;replace hr:=hr.kd U.kd;replace hx1:=U.from_ hx1 Ak;have e2:=e2';clear U e2';have ce2:=e2.cells4;have fe2:=e2.frozen;refine bodyPost_ret (v := .agg #[.bool b1,.slice A1 n1 c1,.bool b2,.slice A2 n2 c2]) (by simp[results,Tryz.results149,go_sem,ce2]) rfl ?_
    exact Ai.mk (BX.mk_ p1 hr (by rw[Hpq.out,(DF Hc.out.1).1,H1.out];simp) (by rw[Hpq.out,(DF Hc.out.1).2,H1.out];simp)) hx1
  ·have hq1:=hb rfl;clear hb
   have H1:=Af hq1;clear hq1;go_wp2
   try clear ce00 ce01 fe0 ce10 ce11 fe1
   clear ce2 fe2;obtain⟨W9,eW,e2',U⟩:=e2.put4 (.bool b1) (.slice A1 n1 c1) (.bool b2) (.slice A2 n2 c2);rw[<-eW];clear eW e2;replace p1:=p1.kd U.kd;replace hr:=hr.kd U.kd;replace hx1:=U.from_ hx1 Ak;have e2:=e2';clear U e2';have ce2:=e2.cells4;have fe2:=e2.frozen;refine bodyPost_ret (v := .agg #[.bool b1,.slice A1 n1 c1,.bool b2,.slice A2 n2 c2]) (by simp[results,Tryz.results149,go_sem,ce2]) rfl ?_
   exact Ai.mk (BX.mk_ p1 hr (by rw[Hpq.out,H1.out];exact(GD p).1.symm) (by rw[Hpq.out,H1.out];exact(GD p).2.symm)) hx1
end Go.Proofs.YtmhgnigpmompmaaGreat
namespace Go.Hp
theorem BX.cells{w:World}{v:Value}{q:Rat}(h:BX w v q):∃ b A n c b' A' n' c',v = .agg #[.bool b,.slice A n c,.bool b',.slice A' n' c']:=by
 obtain⟨b,A,n,c,b',A',n',c',e,_⟩:=h;exact⟨_,_,_,_,_,_,_,_,e⟩
theorem Fx{w w1:World}{g n c n' c':Nat}{A A':Option Addr}{b b':Bool}{q:Rat}(h:BX w1 (.agg #[.bool b,.slice A n c,.bool b',.slice A' n' c']) q)(hx:Ext w w1)(hn:AV w1 g)(hg:w.heap.size<=g) :
  Ai w (fun r w'=>BX w' r q) (.returned (.agg #[.bool b,.slice A n c,.bool b',.slice A' n' c'])) ((((w1.setCell ⟨g,0,none⟩ (.bool b)).setCell ⟨g,1,none⟩ (.slice A n c)).setCell ⟨g,2,none⟩ (.bool b')).setCell ⟨g,3,none⟩ (.slice A' n' c')):=
 Ai.mk (h.kd (((((KD.refl w1).set_ (i:=0) hn (.bool b)).set_ (i:=1) (hn.set_ rfl) (.slice A n c)).set_ (i:=2) ((hn.set_ rfl).set_ rfl) (.bool b')).set_ (i:=3) (((hn.set_ rfl).set_ rfl).set_ rfl) (.slice A' n' c'))) ((((hx.setCell _ _ hg).setCell _ _ hg).setCell _ _ hg).setCell _ _ hg)
theorem RQ(x y:Int):(Rat.divInt x y).num.sign=x.sign*y.sign:=by
 rcases Int.lt_trichotomy y 0 with h | h | h
 ·rw[show Rat.divInt x y=Rat.divInt (-x) (-y)from(Rat.neg_divInt_neg x y).symm,(DF Aa).1,Int.sign_eq_neg_one_of_neg h]
  have hg:=Int.gcd_pos_of_ne_zero_right (-x) (show -y≠0 by omega);have hd:(Int.gcd (-x) (-y):Int) ∣ -x:=Int.gcd_dvd_left ..;obtain⟨k,hk⟩:=hd;have e : -x / ((-x).gcd (-y):Nat)=k:=Int.ediv_eq_of_eq_mul_right Aa hk;have hs:=congrArg Int.sign hk;rw[Int.sign_mul,Int.sign_eq_one_of_pos (a:=(((-x).gcd (-y):Nat):Int)) Aa,Int.sign_neg]at hs;rw[e];omega
 ·subst h;simp
 ·rw[(DF h).1,Int.sign_eq_one_of_pos h]
  have hg:=Int.gcd_pos_of_ne_zero_right x (show y≠0 by omega);obtain⟨k,hk⟩:(Int.gcd x y:Int)∣x:=Int.gcd_dvd_left ..;have e:x / (x.gcd y:Nat)=k:=Int.ediv_eq_of_eq_mul_right Aa hk;have hs:=congrArg Int.sign hk;rw[Int.sign_mul,Int.sign_eq_one_of_pos (a:=((x.gcd y:Nat):Int)) Aa]at hs;rw[e];omega
theorem Wh(x:Int):Rat.divInt x 1=((x:Int):Rat):=Rat.ext (GD x).1 (by have:=(GD x).2;show _=1;omega)
def iQ(_:World)(v:Value)(n:Int):Prop:=v = .int .i64 n
theorem iQ.ext{w w':World}{v:Value}{n:Int}(h:iQ w v n)(_:Ext w w'):iQ w' v n:=h
def KV(q:Rat):Int:=q.num.sign
theorem PT{q:Rat}:KV q=0↔q=0:=by unfold KV;rw[Int.sign_eq_zero_iff_zero];exact Rat.num_eq_zero
theorem SG(a b c d:Int):Rat.divInt (a*d) (b*c)=Rat.divInt a b / Rat.divInt c d:=by
 rw[Rat.div_def,Rat.inv_divInt,Rat.divInt_mul_divInt]
theorem Ce.form{w:World}{v:Value}{q:Rat}(h:Ce w v q):∃ b A n c b' A' n' c' x y,v = .agg #[.bool b,.slice A n c,.bool b',.slice A' n' c']/\Bj w (.agg #[.bool b,.slice A n c]) x/\Bj w (.agg #[.bool b',.slice A' n' c']) y/\sz x.natAbs<=274877906944/\sz y.natAbs<=274877906944/\q=Rat.divInt x y:=h
end Go.Hp
namespace Go.Proofs.YtmhgnigpmompmaaGreat
open Go.RowKit Go.Hp
theorem Gn(v:Value)(q:Rat)(w:World)(hv:Ce w v q):Bg 133 #[v] w (fun r w'=>BX w' r q):=by
 obtain⟨b,A,n,c,b',A',n',c',x,y,rfl,hx,hy,sx,sy,hq⟩:=hv.form;have HX:=Af hx;have HY:=Af hy;clear hx hy hv sx sy;have Hq:=Af hq;clear hq
 go_enter Tryz.func133,Tryz.ntmps133
 go_wp2_with fail
 refine AQ (Jz _ _ x y _ (HX.out.ext (((Ext.refl w).alloc _).alloc _)) (HY.out.ext (((Ext.refl w).alloc _).alloc _))) ?_;rintro r w1 hr hx1;rw[<-Hq.out]at hr;obtain⟨b5,A5,n5,c5,b6,A6,n6,c6,rfl⟩:=hr.cells;have hc1:=hx1.cells;have hf1:=hx1.frozens;have Hfin:=Af (Fx hr hx1.a2 (AV.at_ hx1 (g:=w.heap.size+1) Ac (by simp[Ah])) Aa);clear hr;go_wp2;refine bodyPost_ret (v := .agg #[.bool b5,.slice A5 n5 c5,.bool b6,.slice A6 n6 c6]) (by simp[results,Tryz.results133,go_sem,hc1]) rfl ?_
 exact Hfin.out
theorem bT(v u:Value)(x y:Int)(w:World)(hv:Bj w v x)(hu:Bj w u y)(h0:y≠0):Bg 159 #[v,u] w (fun r w'=>∃ a,r = .tuple #[a,.int .i64 0]/\BX w' a (Rat.divInt x y)):=by
 have HX:=Af hv;have HY:=Af hu;have H0:=Af h0;clear h0;obtain⟨neg,A,n,c,N,rfl,h1,h2,h3,hN,hx⟩:=hv.form;obtain⟨neg',A',n',c',M,rfl,k1,k2,k3,kN,hy⟩:=hu.form;clear hN hx hv hu kN hy
 go_enter Tryz.func159,Tryz.ntmps159
 go_wp2_with fail
 refine AQ (Ib _ y _ (HY.out.ext ((((Ext.refl w).alloc _).alloc _).alloc _))) ?_;rintro r w1 rfl hx1;have hb:(y.sign==0)=false:=by simpa[Int.sign_eq_zero_iff_zero] using H0.out
 have hc1:=hx1.cells;have hf1:=hx1.frozens
 go_wp2_with fail
 refine AQ (Jz _ _ x y _ (HX.out.ext hx1.a3) (HY.out.ext hx1.a3)) ?_;rintro r w2 hr hx2;replace hx1:=hx1.trans hx2;clear hc1 hf1 hx2;obtain⟨b5,A5,n5,c5,b6,A6,n6,c6,rfl⟩:=hr.cells;have hc1:=hx1.cells;have hf1:=hx1.frozens;have Hfin:=Af (Fx hr hx1.a3 (AV.at_ hx1 (g:=w.heap.size+2) Ac (by simp[Ah])) Aa);clear hr;go_wp2;refine bodyPost_ret (v := .tuple #[.agg #[.bool b5,.slice A5 n5 c5,.bool b6,.slice A6 n6 c6],.int .i64 0]) (by simp[results,Tryz.results159,go_sem,hc1]) rfl ?_
 obtain⟨r,e,hr,hx⟩:=Hfin.out;cases e;exact Ai.mk ⟨_,rfl,hr⟩ hx
theorem WJ(n:Int)(w:World)(h1 : -9223372036854775808<=n)(h2:n < 9223372036854775808):Bg 120 #[.int .i64 n] w (fun r w'=>BX w' r (n:Rat)):=by
 go_enter Tryz.func120,Tryz.ntmps120
 go_wp2_with fail
 refine AQ (Jb n _ h1 h2) ?_;rintro r w1 hn hx1
 go_wp2_with fail
 refine AQ (Jb 1 _ Aa Aa) ?_;rintro r w2 h1' hx2;replace hn:=hn.ext hx2;replace hx1:=hx1.trans hx2;clear hx2;obtain⟨b5,A5,n5,c5,rfl⟩:=hn.cells;obtain⟨b6,A6,n6,c6,rfl⟩:=h1'.cells;have hr:=BX.mk_ hn h1' (q:=(n:Rat)) rfl rfl;clear hn h1';have hc1:=hx1.cells;have hf1:=hx1.frozens;have Hfin:=Af (Fx hr hx1.a1 (AV.at_ hx1 (g:=w.heap.size+0) Ac (by simp[Ah])) Aa);clear hr;go_wp2;refine bodyPost_ret (v := .agg #[.bool b5,.slice A5 n5 c5,.bool b6,.slice A6 n6 c6]) (by simp[results,Tryz.results120,go_sem,hc1]) rfl ?_
 exact Hfin.out
theorem GL(v:Value)(x:Int)(w:World)(hv:Bj w v x):Bg 102 #[v] w (fun r w'=>BX w' r (x:Rat)):=by
 have HX:=Af hv;obtain⟨neg,A,n,c,N,rfl,h1,h2,h3,hN,hx⟩:=hv.form;clear hN hx hv
 go_enter Tryz.func102,Tryz.ntmps102
 go_wp2_with fail
 refine AQ (Iz _ x _ (HX.out.ext (((Ext.refl w).alloc _).alloc _))) ?_;rintro r w1 hn hx1
 go_wp2_with fail
 refine AQ (Jb 1 _ Aa Aa) ?_;rintro r w2 h1' hx2;replace hn:=hn.ext hx2;replace hx1:=hx1.trans hx2;clear hx2;obtain⟨b5,A5,n5,c5,rfl⟩:=hn.cells;obtain⟨b6,A6,n6,c6,rfl⟩:=h1'.cells;have hr:=BX.mk_ hn h1' (q:=(x:Rat)) rfl rfl;clear hn h1';have hc1:=hx1.cells;have hf1:=hx1.frozens;have Hfin:=Af (Fx hr hx1.a2 (AV.at_ hx1 (g:=w.heap.size+1) Ac (by simp[Ah])) Aa);clear hr;go_wp2;refine bodyPost_ret (v := .agg #[.bool b5,.slice A5 n5 c5,.bool b6,.slice A6 n6 c6]) (by simp[results,Tryz.results102,go_sem,hc1]) rfl ?_
 exact Hfin.out
theorem PS(x:Int) : -1<=x.sign/\x.sign<=1:=by
 rcases Int.lt_trichotomy x 0 with h | h | h
 ·rw[Int.sign_eq_neg_one_of_neg h];omega
 ·subst h;simp
 ·rw[Int.sign_eq_one_of_pos h];omega
theorem Lf(x y:Int) : -1<=x.sign*y.sign/\x.sign*y.sign<=1:=by rw[<-Int.sign_mul];exact PS _
theorem LQ(v:Value)(q:Rat)(w:World)(hv:Ce w v q):Bg 89 #[v] w (fun r _=>r = .int .i64 (KV q)):=by
 obtain⟨b,A,n,c,b',A',n',c',x,y,rfl,hx,hy,sx,sy,hq⟩:=hv.form;have HX:=Af hx;have HY:=Af hy;clear hx hy hv sx sy;have Hq:=Af (show KV q=x.sign*y.sign by rw[hq];exact RQ x y);clear hq;have hb:=Lf x y
 go_enter Tryz.func89,Tryz.ntmps89
 go_wp2_with fail
 refine EE 5 [3,4,5,6,7] [1] [_] [(kv ?_),(kv ?_),(fun γ=>γ 2),(kv ?_),(kv ?_)] (fun γ w'=>[True,True,iQ w' (γ 2) x.sign,True,True]) ?s1 ?_
 case s1 =>
  iterate 5 refine⟨?_,?_⟩
  trivial
  iterate 2 focus
   refine Bi fun _ w' he R hR=>?_;have hc:=he.cells;go_simp;exact C8 hR
  ·refine Bi fun _ w' he R hR=>?_
   go_simp;exact BF (Ib _ x w' (HX.out.ext he.a1)) hR
  iterate 2 focus
   refine Bi fun _ w' he R hR=>?_;have hc:=he.cells;go_simp;exact C8 hR
 intro γ w1 hx1 hF;have p2:iQ w1 (γ 2) x.sign:=AC.get hF 2 Ab;clear hF;simp only[Bw,Nat.reduceAdd];generalize γ 2=g2 at *;clear γ;obtain rfl:g2 = .int .i64 x.sign:=p2
 go_wp2_with fail
 refine AQ (Ib _ y _ (HY.out.ext hx1.a1)) ?_;rintro r w2 rfl hx2;replace hx1:=hx1.trans hx2;go_wp2
 go_ret
 exact Ai.mk (by rw[Hq.out];rfl) hx1.a1
theorem aA(v:Value)(q:Rat)(w:World)(hv:Ce w v q):Bg 103 #[v] w (fun r w'=>BX w' r (-q)):=by
 obtain⟨b,A,n,c,b',A',n',c',x,y,rfl,hx,hy,sx,sy,hq⟩:=hv.form;have HX:=Af hx;have HY:=Af hy;clear hx hy hv;have Hq:=Af hq;clear hq
 go_enter Tryz.func103,Tryz.ntmps103
 go_wp2_with fail
 refine EE 5 [3,4,5,6,7] [1] [_] [(kv ?_),(kv ?_),(fun γ=>γ 2),(kv ?_),(kv ?_)] (fun γ w'=>[True,True,AO w' (γ 2) (-x),True,True]) ?s2 ?_
 case s2 =>
  iterate 5 refine⟨?_,?_⟩
  trivial
  iterate 2 focus
   refine Bi fun _ w' he R hR=>?_;have hc:=he.cells;go_simp;exact C8 hR
  ·refine Bi fun _ w' he R hR=>?_
   go_simp;exact BF (Ub _ x w' (HX.out.ext he.a2)) hR
  iterate 2 focus
   refine Bi fun _ w' he R hR=>?_;have hc:=he.cells;go_simp;exact C8 hR
 intro γ w1 hx1 hF;have p2:AO w1 (γ 2) (-x):=AC.get hF 2 Ab;clear hF;simp only[Bw,Nat.reduceAdd];generalize γ 2=g2 at *;clear γ
 go_wp2_with fail
 refine AQ (Jz _ _ (-x) y _ (p2.has (by rw[Int.natAbs_neg];omega)) (HY.out.ext hx1.a2)) ?_;rintro r w2 hr hx2;replace hx1:=hx1.trans hx2;clear hx2 p2;rw[<-Rat.neg_divInt,<-Hq.out]at hr;obtain⟨b5,A5,n5,c5,b6,A6,n6,c6,rfl⟩:=hr.cells;have hc1:=hx1.cells;have hf1:=hx1.frozens;have Hfin:=Af (Fx hr hx1.a2 (AV.at_ hx1 (g:=w.heap.size+1) Ac (by simp[Ah])) Aa);clear hr;go_wp2;refine bodyPost_ret (v := .agg #[.bool b5,.slice A5 n5 c5,.bool b6,.slice A6 n6 c6]) (by simp[results,Tryz.results103,go_sem,hc1]) rfl ?_
 exact Hfin.out
theorem Ju{x y:Int}(hx:sz x.natAbs<=274877906944)(hy:sz y.natAbs<=274877906944):sz (x*y).natAbs<=549755813888:=by
 rw[Int.natAbs_mul];have:=BV x.natAbs y.natAbs;omega
theorem Y8(v u:Value)(p q:Rat)(w:World)(hv:Ce w v p)(hu:Ce w u q):Bg 140 #[v,u] w (fun r w'=>BX w' r (p*q)):=by
 obtain⟨b,A,n,c,b',A',n',c',x,y,rfl,hx,hy,sx,sy,hp⟩:=hv.form;obtain⟨d,E,m,e,d',E',m',e',s,t,rfl,hs,ht,ss,st,hq⟩:=hu.form;have HX:=Af (Au hx hy);have HY:=Af (Au hs ht);clear hx hy hv hs ht hu;have Hq:=Af (show Rat.divInt (x*s) (y*t)=p*q by rw[hp,hq,Rat.divInt_mul_divInt]);clear hp hq;have m1:=Ju sx ss;have m2:=Ju sy st
 go_enter Tryz.func140,Tryz.ntmps140
 go_wp2_with fail
 refine EE 9 [5,6,7,8,9,10,11,12,13] [2,3] [_,_] [(kv ?_),(kv ?_),(kv ?_),(kv ?_),(fun γ=>γ 4),(kv ?_),(kv ?_),(kv ?_),(kv ?_)] (fun γ w'=>[True,True,True,True,AO w' (γ 4) (x*s),True,True,True,True]) ?s3 ?_
 case s3 =>
  iterate 9 refine⟨?_,?_⟩
  trivial
  iterate 4 focus
   refine Bi fun _ w' he R hR=>?_;have hc:=he.cells;go_simp;exact C8 hR
  ·refine Bi fun _ w' he R hR=>?_
   go_simp;exact BF (Dj _ _ x s w' (HX.out.1.ext he.a3) (HY.out.1.ext he.a3)) hR
  iterate 4 focus
   refine Bi fun _ w' he R hR=>?_;have hc:=he.cells;go_simp;exact C8 hR
 intro γ w1 hx1 hF;have p4:AO w1 (γ 4) (x*s):=AC.get hF 4 Ab;clear hF;simp only[Bw,Nat.reduceAdd];generalize γ 4=g4 at *;clear γ
 go_wp2_with fail
 refine AQ (Dj _ _ y t _ (HX.out.2.ext hx1.a3) (HY.out.2.ext hx1.a3)) ?_;rintro g9 w9 p9 hx9;replace p4:=p4.ext hx9;replace hx1:=hx1.trans hx9;clear hx9
 go_wp2_with fail
 refine AQ (Jz _ _ (x*s) (y*t) _ (p4.has Aa) (p9.has Aa)) ?_;rintro r w2 hr hx2;replace hx1:=hx1.trans hx2;clear hx2 p4 p9;rw[Hq.out]at hr;obtain⟨b5,A5,n5,c5,b6,A6,n6,c6,rfl⟩:=hr.cells;have hc1:=hx1.cells;have hf1:=hx1.frozens;have Hfin:=Af (Fx hr hx1.a3 (AV.at_ hx1 (g:=w.heap.size+2) Ac (by simp[Ah])) Aa);clear hr;go_wp2;refine bodyPost_ret (v := .agg #[.bool b5,.slice A5 n5 c5,.bool b6,.slice A6 n6 c6]) (by simp[results,Tryz.results140,go_sem,hc1]) rfl ?_
 exact Hfin.out
theorem Xm(v u:Value)(p q:Rat)(w:World)(hv:Ce w v p)(hu:Ce w u q)(h0:q≠0):Bg 122 #[v,u] w (fun r w'=>∃ a,r = .tuple #[a,.int .i64 0]/\BX w' a (p / q)):=by
 have HU:=Af hu;obtain⟨b,A,n,c,b',A',n',c',x,y,rfl,hx,hy,sx,sy,hp⟩:=hv.form;obtain⟨d,E,m,e,d',E',m',e',s,t,rfl,hs,ht,ss,st,hq⟩:=hu.form;have HX:=Af (Au hx hy);have HY:=Af (Au hs ht);clear hx hy hv hs ht hu;have Hq:=Af (show Rat.divInt (x*t) (y*s)=p / q by rw[hp,hq];exact SG x y s t);clear hp hq;have m1:=Ju sx st;have m2:=Ju sy ss;have hb:(KV q==0)=false:=by simpa[PT] using h0
 clear h0
 go_enter Tryz.func122,Tryz.ntmps122
 go_wp2_with fail
 refine AQ (LQ _ q _ (HU.out.ext ((((Ext.refl w).alloc _).alloc _).alloc _))) ?_;rintro r w0 rfl hx0;have hc0:=hx0.cells;have hf0:=hx0.frozens
 go_wp2_with fail
 have ca0:=hx0.a1.a1.box (g:=w.heap.size) (i:=0) rfl rfl;have ca1:=hx0.a1.a1.box (g:=w.heap.size) (i:=1) rfl rfl;have ca2:=hx0.a1.a1.box (g:=w.heap.size) (i:=2) rfl rfl;have ca3:=hx0.a1.a1.box (g:=w.heap.size) (i:=3) rfl rfl;have cb0:=hx0.a1.box (g:=w.heap.size+1) (i:=0) Ac rfl;have cb1:=hx0.a1.box (g:=w.heap.size+1) (i:=1) Ac rfl;have cb2:=hx0.a1.box (g:=w.heap.size+1) (i:=2) Ac rfl;have cb3:=hx0.a1.box (g:=w.heap.size+1) (i:=3) Ac rfl
 refine EE 9 [10,11,12,13,14,15,16,17,18] [2,3] [_,_] [(kv ?_),(kv ?_),(kv ?_),(kv ?_),(fun γ=>γ 4),(kv ?_),(kv ?_),(kv ?_),(kv ?_)] (fun γ w'=>[True,True,True,True,AO w' (γ 4) (x*t),True,True,True,True]) ?s4 ?_
 case s4 =>
  iterate 9 refine⟨?_,?_⟩
  trivial
  iterate 4 focus
   refine Bi fun _ w' he R hR=>?_;have hc:=he.cells;have cq0:=he.cell ca0;have cq1:=he.cell ca1;have cq2:=he.cell ca2;have cq3:=he.cell ca3;have cq4:=he.cell cb0;have cq5:=he.cell cb1;have cq6:=he.cell cb2;have cq7:=he.cell cb3;go_simp;exact C8 hR
  ·refine Bi fun _ w' he R hR=>?_
   go_simp;exact BF (Dj _ _ x t w' (HX.out.1.ext (hx0.trans he).a3) (HY.out.2.ext (hx0.trans he).a3)) hR
  iterate 4 focus
   refine Bi fun _ w' he R hR=>?_;have hc:=he.cells;have cq0:=he.cell ca0;have cq1:=he.cell ca1;have cq2:=he.cell ca2;have cq3:=he.cell ca3;have cq4:=he.cell cb0;have cq5:=he.cell cb1;have cq6:=he.cell cb2;have cq7:=he.cell cb3;go_simp;exact C8 hR
 intro γ w1 hx1 hF;have p4:AO w1 (γ 4) (x*t):=AC.get hF 4 Ab;clear hF;simp only[Bw,Nat.reduceAdd];generalize γ 4=g4 at *;clear γ;replace hx1:=hx0.trans hx1;clear hx0 hc0 hf0 ca0 ca1 ca2 ca3 cb0 cb1 cb2 cb3;have hc0:=hx1.cells;have hf0:=hx1.frozens
 go_wp2_with fail
 refine AQ (Dj _ _ y s _ (HX.out.2.ext hx1.a3) (HY.out.1.ext hx1.a3)) ?_;rintro g9 w9 p9 hx9;replace p4:=p4.ext hx9;replace hx1:=hx1.trans hx9;clear hx9 hc0 hf0
 go_wp2_with fail
 refine AQ (Jz _ _ (x*t) (y*s) _ (p4.has Aa) (p9.has Aa)) ?_;rintro r w2 hr hx2;replace hx1:=hx1.trans hx2;clear hx2 p4 p9;rw[Hq.out]at hr;obtain⟨b5,A5,n5,c5,b6,A6,n6,c6,rfl⟩:=hr.cells;have hc1:=hx1.cells;have hf1:=hx1.frozens;have Hfin:=Af (Fx hr hx1.a3 (AV.at_ hx1 (g:=w.heap.size+2) Ac (by simp[Ah])) Aa);clear hr;go_wp2;refine bodyPost_ret (v := .tuple #[.agg #[.bool b5,.slice A5 n5 c5,.bool b6,.slice A6 n6 c6],.int .i64 0]) (by simp[results,Tryz.results122,go_sem,hc1]) rfl ?_
 obtain⟨r,e,hr,hx⟩:=Hfin.out;cases e;exact Ai.mk ⟨_,rfl,hr⟩ hx
theorem Ut(v u:Value)(p q:Rat)(w:World)(hv:Ce w v p)(hu:Ce w u q):Bg 123 #[v,u] w (fun r w'=>BX w' r (p+q)):=by
 have HV:=Af hv;have HU:=Af hu;obtain⟨b,A,n,c,b',A',n',c',x,y,rfl,hx,hy,sx,sy,hp⟩:=hv.form;obtain⟨d,E,m,e,d',E',m',e',s,t,rfl,hs,ht,ss,st,hq⟩:=hu.form;have HX:=Af (Au hx hy);have HY:=Af (Au hs ht);clear hx hy hv hs ht hu;have Hpq:=Af (Au hp hq);clear hp hq
 go_enter Tryz.func123,Tryz.ntmps123
 go_wp2_with fail
 refine AQ (Ib _ y _ (HX.out.2.ext ((((Ext.refl w).alloc _).alloc _).alloc _))) ?_;rintro r w1 rfl hx1;have hc1:=hx1.cells;have hf1:=hx1.frozens;by_cases hy0:y=0
 ·have hb:(y.sign==0)=true:=by rw[hy0];rfl
  have Hz:=Af (show p+q=q by rw[Hpq.out.1,hy0,Rat.divInt_zero];exact Rat.zero_add _);clear hy0
  go_wp2_with fail
  refine AQ (Gn _ q _ (HU.out.ext hx1.a3)) ?_;rintro r w2 hr hx2;replace hx1:=hx1.trans hx2;clear hx2 hc1 hf1;rw[<-Hz.out]at hr;obtain⟨b5,A5,n5,c5,b6,A6,n6,c6,rfl⟩:=hr.cells;have hc1:=hx1.cells;have hf1:=hx1.frozens;have Hfin:=Af (Fx hr hx1.a3 (AV.at_ hx1 (g:=w.heap.size+2) Ac (by simp[Ah])) Aa);clear hr;go_wp2;refine bodyPost_ret (v := .agg #[.bool b5,.slice A5 n5 c5,.bool b6,.slice A6 n6 c6]) (by simp[results,Tryz.results123,go_sem,hc1]) rfl ?_
  exact Hfin.out
 have hb:(y.sign==0)=false:=by simpa[Int.sign_eq_zero_iff_zero] using hy0
 have Hy0:=Af hy0;clear hy0
 go_wp2_with fail
 refine AQ (Ib _ t _ (HY.out.2.ext hx1.a3)) ?_;rintro r w3 rfl hx3;clear hc1 hf1;replace hx1:=hx1.trans hx3;clear hx3;have hc1:=hx1.cells;have hf1:=hx1.frozens;by_cases ht0:t=0
 ·have hb:(t.sign==0)=true:=by rw[ht0];rfl
  have Hz:=Af (show p+q=p by rw[Hpq.out.2,ht0,Rat.divInt_zero];exact Rat.add_zero _);clear ht0
  go_wp2_with fail
  refine AQ (Gn _ p _ (HV.out.ext hx1.a3)) ?_;rintro r w2 hr hx2;replace hx1:=hx1.trans hx2;clear hx2 hc1 hf1;rw[<-Hz.out]at hr;obtain⟨b5,A5,n5,c5,b6,A6,n6,c6,rfl⟩:=hr.cells;have hc1:=hx1.cells;have hf1:=hx1.frozens;have Hfin:=Af (Fx hr hx1.a3 (AV.at_ hx1 (g:=w.heap.size+2) Ac (by simp[Ah])) Aa);clear hr;go_wp2;refine bodyPost_ret (v := .agg #[.bool b5,.slice A5 n5 c5,.bool b6,.slice A6 n6 c6]) (by simp[results,Tryz.results123,go_sem,hc1]) rfl ?_
  exact Hfin.out
 have hb2:(t.sign==0)=false:=by simpa[Int.sign_eq_zero_iff_zero] using ht0
 have Ht0:=Af ht0;clear ht0
 go_wp2_with fail
 refine AQ (Ur _ y _ (HX.out.2.ext hx1.a3)) ?_;rintro r w4 ⟨o1,rfl,ho1⟩ hx3;clear hc1 hf1;replace hx1:=hx1.trans hx3;clear hx3;have hc1:=hx1.cells;have hf1:=hx1.frozens;have m1:=Ju sx st;have m2:=Ju ss sy;have m3:=Ju sy st;have m4:sz (x*t+s*y).natAbs<=549755813889:=by
  have h1:=Bq (Int.natAbs_add_le (x*t) (s*y));have h2:=GX (x*t).natAbs (s*y).natAbs;omega
 have Hz:=Af (show p+q=Rat.divInt (x*t+s*y) (y*t) by rw[Hpq.out.1,Hpq.out.2,Rat.divInt_add_divInt _ _ Hy0.out Ht0.out]);have H1:=Af ho1;clear ho1;cases o1
 ·go_wp2_with fail
  have l4:w.heap.size+3<=w4.heap.size:=by have:=hx1.size;simpa using this
  have ca0:=hx1.a1.a1.box (g:=w.heap.size) (i:=0) rfl rfl;have ca1:=hx1.a1.a1.box (g:=w.heap.size) (i:=1) rfl rfl;have ca2:=hx1.a1.a1.box (g:=w.heap.size) (i:=2) rfl rfl;have ca3:=hx1.a1.a1.box (g:=w.heap.size) (i:=3) rfl rfl;have cb0:=hx1.a1.box (g:=w.heap.size+1) (i:=0) Ac rfl;have cb1:=hx1.a1.box (g:=w.heap.size+1) (i:=1) Ac rfl;have cb2:=hx1.a1.box (g:=w.heap.size+1) (i:=2) Ac rfl;have cb3:=hx1.a1.box (g:=w.heap.size+1) (i:=3) Ac rfl
  refine EE 12 [36,37,38,39,40,41,42,43,44,45,46,5] [2,3] [_,_] [(kv ?_),(kv ?_),(kv ?_),(kv ?_),(fun γ=>γ 4),(kv ?_),(kv ?_),(kv ?_),(kv ?_),(fun γ=>γ 9),(fun γ=>γ 10),(fun γ=>γ 11)] (fun γ w'=>[True,True,True,True,AO w' (γ 4) (x*t),True,True,True,True,AO w' (γ 9) (s*y),AO w' (γ 10) (x*t+s*y),Bh w' (γ 11) w4.heap.size #[.bool false,.slice none 0 0] 26]) ?s5 ?_
  case s5 =>
   iterate 12 refine⟨?_,?_⟩
   trivial
   iterate 4 focus
    refine Bi fun _ w' he R hR=>?_;have hc:=he.cells;have cq0:=he.cell ca0;have cq1:=he.cell ca1;have cq2:=he.cell ca2;have cq3:=he.cell ca3;have cq4:=he.cell cb0;have cq5:=he.cell cb1;have cq6:=he.cell cb2;have cq7:=he.cell cb3;go_simp;exact C8 hR
   ·refine Bi fun _ w' he R hR=>?_
    go_simp;exact BF (Dj _ _ x t w' (HX.out.1.ext (hx1.trans he).a3) (HY.out.2.ext (hx1.trans he).a3)) hR
   iterate 4 focus
    refine Bi fun _ w' he R hR=>?_;have hc:=he.cells;have cq0:=he.cell ca0;have cq1:=he.cell ca1;have cq2:=he.cell ca2;have cq3:=he.cell ca3;have cq4:=he.cell cb0;have cq5:=he.cell cb1;have cq6:=he.cell cb2;have cq7:=he.cell cb3;go_simp;exact C8 hR
   ·refine Bi fun _ w' he R hR=>?_
    go_simp;exact BF (Dj _ _ s y w' (HY.out.1.ext (hx1.trans he).a3) (HX.out.2.ext (hx1.trans he).a3)) hR
   ·refine Gj fun γ w' he hf R hR=>?_;have f4:AO w' (γ 4) (x*t):=hf 4 Ab;have f9:AO w' (γ 9) (s*y):=hf 9 Ab;clear hf
    go_simp;exact BF (M8 _ _ _ _ w' (f4.has Aa) (f9.has Aa)) hR
   ·refine Bi fun _ w' he R hR=>?_
    go_simp;exact hR _ _ ((Ext.refl _).alloc _) rfl (Bh.mk (Nat.le_trans Ac he.size) (by simp[Ah]))
  intro γ w6 hx6 hF;have p4:AO w6 (γ 4) (x*t):=AC.get hF 4 Ab;have p9:AO w6 (γ 9) (s*y):=AC.get hF 9 Ab;have p10:AO w6 (γ 10) (x*t+s*y):=AC.get hF 10 Ab;have p11:Bh w6 (γ 11) w4.heap.size #[.bool false,.slice none 0 0] 26:=AC.get hF 11 Ab;clear hF;simp only[Bw,Nat.reduceAdd];generalize γ 4=g4 at *;generalize γ 9=g9 at *;generalize γ 10=g10 at *;generalize γ 11=g11 at *;clear γ;obtain⟨gb,rfl,hgb,eb⟩:=p11
  obtain⟨b7,A7,n7,c7,rfl⟩:=p10.cells;clear hc1 hf1 ca0 ca1 ca2 ca3 cb0 cb1 cb2 cb3 p4 p9;replace hx1:=hx1.trans hx6;have ceb:=eb.cells2;have feb:=eb.frozen
  go_upto_region 8 with(fail)
  obtain⟨W8,eW,eb',U⟩:=eb.put2 (.bool b7) (.slice A7 n7 c7);rw[<-eW];clear eW eb;replace p10:=p10.kd U.kd;replace hx1:=U.from_ hx1 Ak;have eb:=eb';clear U eb';clear ceb feb;have ceb:=eb.cells2;have feb:=eb.frozen;have hc1:=hx1.cells;have ca0:=hx1.a1.a1.box (g:=w.heap.size) (i:=0) rfl rfl;have ca1:=hx1.a1.a1.box (g:=w.heap.size) (i:=1) rfl rfl;have ca2:=hx1.a1.a1.box (g:=w.heap.size) (i:=2) rfl rfl;have ca3:=hx1.a1.a1.box (g:=w.heap.size) (i:=3) rfl rfl
  have cb0:=hx1.a1.box (g:=w.heap.size+1) (i:=0) Ac rfl;have cb1:=hx1.a1.box (g:=w.heap.size+1) (i:=1) Ac rfl;have cb2:=hx1.a1.box (g:=w.heap.size+1) (i:=2) Ac rfl;have cb3:=hx1.a1.box (g:=w.heap.size+1) (i:=3) Ac rfl;refine EE 6 [47,48,49,50,51,52] [5,2,3] [_,_,_] [(kv ?_),(kv ?_),(kv ?_),(kv ?_),(kv ?_),(fun γ=>γ 5)] (fun γ w'=>[True,True,True,True,True,AO w' (γ 5) (y*t)]) ?s6 ?_
  case s6 =>
   iterate 6 refine⟨?_,?_⟩
   trivial
   iterate 5 focus
    refine Bi fun _ w' he R hR=>?_;have hc:=he.cells;have cq0:=(eb.ext he).cells2;have cq1:=he.cell ca0;have cq2:=he.cell ca1;have cq3:=he.cell ca2;have cq4:=he.cell ca3;have cq5:=he.cell cb0;have cq6:=he.cell cb1;have cq7:=he.cell cb2;have cq8:=he.cell cb3;go_simp;exact C8 hR
   ·refine Bi fun _ w' he R hR=>?_
    go_simp;exact BF (Dj _ _ y t w' (HX.out.2.ext (hx1.trans he).a3) (HY.out.2.ext (hx1.trans he).a3)) hR
  intro γ w8 hx9 hF;have p5:AO w8 (γ 5) (y*t):=AC.get hF 5 Ab;clear hF;simp only[Bw,Nat.reduceAdd];generalize γ 5=g5 at *;clear γ
  go_wp2_with fail
  refine AQ (Jz _ _ (x*t+s*y) (y*t) _ ((p10.ext hx9).has Aa) (p5.has Aa)) ?_;rintro r w10 hr hx10;rw[<-Hz.out]at hr;clear hc1 p5 ca0 ca1 ca2 ca3 cb0 cb1 cb2 cb3 ceb feb;replace hx1:=(hx1.trans hx9).trans hx10;clear hx9 hx10;obtain⟨b5,A5,n5,c5,b6,A6,n6,c6,rfl⟩:=hr.cells;have hc1:=hx1.cells;have hf1:=hx1.frozens;have Hfin:=Af (Fx hr hx1.a3 (AV.at_ hx1 (g:=w.heap.size+2) Ac (by simp[Ah])) Aa);clear hr
  go_wp2;refine bodyPost_ret (v := .agg #[.bool b5,.slice A5 n5 c5,.bool b6,.slice A6 n6 c6]) (by simp[results,Tryz.results123,go_sem,hc1]) rfl ?_;exact Hfin.out
 ·go_wp2_with fail
  refine AQ (Ur _ t _ (HY.out.2.ext hx1.a3)) ?_;rintro r w5 ⟨o2,rfl,ho2⟩ hx3;clear hc1 hf1;replace hx1:=hx1.trans hx3;clear hx3;have hc1:=hx1.cells;have hf1:=hx1.frozens;have H2:=Af ho2;clear ho2;cases o2
  ·go_wp2_with fail
   have l4:w.heap.size+3<=w5.heap.size:=by have:=hx1.size;simpa using this
   have ca0:=hx1.a1.a1.box (g:=w.heap.size) (i:=0) rfl rfl;have ca1:=hx1.a1.a1.box (g:=w.heap.size) (i:=1) rfl rfl;have ca2:=hx1.a1.a1.box (g:=w.heap.size) (i:=2) rfl rfl;have ca3:=hx1.a1.a1.box (g:=w.heap.size) (i:=3) rfl rfl;have cb0:=hx1.a1.box (g:=w.heap.size+1) (i:=0) Ac rfl;have cb1:=hx1.a1.box (g:=w.heap.size+1) (i:=1) Ac rfl;have cb2:=hx1.a1.box (g:=w.heap.size+1) (i:=2) Ac rfl;have cb3:=hx1.a1.box (g:=w.heap.size+1) (i:=3) Ac rfl
   refine EE 12 [36,37,38,39,40,41,42,43,44,45,46,5] [2,3] [_,_] [(kv ?_),(kv ?_),(kv ?_),(kv ?_),(fun γ=>γ 4),(kv ?_),(kv ?_),(kv ?_),(kv ?_),(fun γ=>γ 9),(fun γ=>γ 10),(fun γ=>γ 11)] (fun γ w'=>[True,True,True,True,AO w' (γ 4) (x*t),True,True,True,True,AO w' (γ 9) (s*y),AO w' (γ 10) (x*t+s*y),Bh w' (γ 11) w5.heap.size #[.bool false,.slice none 0 0] 26]) ?s7 ?_
   case s7 =>
    iterate 12 refine⟨?_,?_⟩
    trivial
    iterate 4 focus
     refine Bi fun _ w' he R hR=>?_;have hc:=he.cells;have cq0:=he.cell ca0;have cq1:=he.cell ca1;have cq2:=he.cell ca2;have cq3:=he.cell ca3;have cq4:=he.cell cb0;have cq5:=he.cell cb1;have cq6:=he.cell cb2;have cq7:=he.cell cb3;go_simp;exact C8 hR
    ·refine Bi fun _ w' he R hR=>?_
     go_simp;exact BF (Dj _ _ x t w' (HX.out.1.ext (hx1.trans he).a3) (HY.out.2.ext (hx1.trans he).a3)) hR
    iterate 4 focus
     refine Bi fun _ w' he R hR=>?_;have hc:=he.cells;have cq0:=he.cell ca0;have cq1:=he.cell ca1;have cq2:=he.cell ca2;have cq3:=he.cell ca3;have cq4:=he.cell cb0;have cq5:=he.cell cb1;have cq6:=he.cell cb2;have cq7:=he.cell cb3;go_simp;exact C8 hR
    ·refine Bi fun _ w' he R hR=>?_
     go_simp;exact BF (Dj _ _ s y w' (HY.out.1.ext (hx1.trans he).a3) (HX.out.2.ext (hx1.trans he).a3)) hR
    ·refine Gj fun γ w' he hf R hR=>?_;have f4:AO w' (γ 4) (x*t):=hf 4 Ab;have f9:AO w' (γ 9) (s*y):=hf 9 Ab;clear hf
     go_simp;exact BF (M8 _ _ _ _ w' (f4.has Aa) (f9.has Aa)) hR
    ·refine Bi fun _ w' he R hR=>?_
     go_simp;exact hR _ _ ((Ext.refl _).alloc _) rfl (Bh.mk (Nat.le_trans Ac he.size) (by simp[Ah]))
   intro γ w6 hx6 hF;have p4:AO w6 (γ 4) (x*t):=AC.get hF 4 Ab;have p9:AO w6 (γ 9) (s*y):=AC.get hF 9 Ab;have p10:AO w6 (γ 10) (x*t+s*y):=AC.get hF 10 Ab;have p11:Bh w6 (γ 11) w5.heap.size #[.bool false,.slice none 0 0] 26:=AC.get hF 11 Ab;clear hF;simp only[Bw,Nat.reduceAdd];generalize γ 4=g4 at *;generalize γ 9=g9 at *;generalize γ 10=g10 at *;generalize γ 11=g11 at *;clear γ;obtain⟨gb,rfl,hgb,eb⟩:=p11
   obtain⟨b7,A7,n7,c7,rfl⟩:=p10.cells;clear hc1 hf1 ca0 ca1 ca2 ca3 cb0 cb1 cb2 cb3 p4 p9;replace hx1:=hx1.trans hx6;have ceb:=eb.cells2;have feb:=eb.frozen
   go_upto_region 8 with(fail)
   obtain⟨W8,eW,eb',U⟩:=eb.put2 (.bool b7) (.slice A7 n7 c7);rw[<-eW];clear eW eb;replace p10:=p10.kd U.kd;replace hx1:=U.from_ hx1 Ak;have eb:=eb';clear U eb';clear ceb feb;have ceb:=eb.cells2;have feb:=eb.frozen;have hc1:=hx1.cells;have ca0:=hx1.a1.a1.box (g:=w.heap.size) (i:=0) rfl rfl;have ca1:=hx1.a1.a1.box (g:=w.heap.size) (i:=1) rfl rfl;have ca2:=hx1.a1.a1.box (g:=w.heap.size) (i:=2) rfl rfl
   have ca3:=hx1.a1.a1.box (g:=w.heap.size) (i:=3) rfl rfl;have cb0:=hx1.a1.box (g:=w.heap.size+1) (i:=0) Ac rfl;have cb1:=hx1.a1.box (g:=w.heap.size+1) (i:=1) Ac rfl;have cb2:=hx1.a1.box (g:=w.heap.size+1) (i:=2) Ac rfl;have cb3:=hx1.a1.box (g:=w.heap.size+1) (i:=3) Ac rfl;refine EE 6 [47,48,49,50,51,52] [5,2,3] [_,_,_] [(kv ?_),(kv ?_),(kv ?_),(kv ?_),(kv ?_),(fun γ=>γ 5)] (fun γ w'=>[True,True,True,True,True,AO w' (γ 5) (y*t)]) ?s8 ?_
   case s8 =>
    iterate 6 refine⟨?_,?_⟩
    trivial
    iterate 5 focus
     refine Bi fun _ w' he R hR=>?_;have hc:=he.cells;have cq0:=(eb.ext he).cells2;have cq1:=he.cell ca0;have cq2:=he.cell ca1;have cq3:=he.cell ca2;have cq4:=he.cell ca3;have cq5:=he.cell cb0;have cq6:=he.cell cb1;have cq7:=he.cell cb2;have cq8:=he.cell cb3;go_simp;exact C8 hR
    ·refine Bi fun _ w' he R hR=>?_
     go_simp;exact BF (Dj _ _ y t w' (HX.out.2.ext (hx1.trans he).a3) (HY.out.2.ext (hx1.trans he).a3)) hR
   intro γ w8 hx9 hF;have p5:AO w8 (γ 5) (y*t):=AC.get hF 5 Ab;clear hF;simp only[Bw,Nat.reduceAdd];generalize γ 5=g5 at *;clear γ
   go_wp2_with fail
   refine AQ (Jz _ _ (x*t+s*y) (y*t) _ ((p10.ext hx9).has Aa) (p5.has Aa)) ?_;rintro r w10 hr hx10;rw[<-Hz.out]at hr;clear hc1 p5 ca0 ca1 ca2 ca3 cb0 cb1 cb2 cb3 ceb feb;replace hx1:=(hx1.trans hx9).trans hx10;clear hx9 hx10;obtain⟨b5,A5,n5,c5,b6,A6,n6,c6,rfl⟩:=hr.cells;have hc1:=hx1.cells;have hf1:=hx1.frozens;have Hfin:=Af (Fx hr hx1.a3 (AV.at_ hx1 (g:=w.heap.size+2) Ac (by simp[Ah])) Aa);clear hr
   go_wp2;refine bodyPost_ret (v := .agg #[.bool b5,.slice A5 n5 c5,.bool b6,.slice A6 n6 c6]) (by simp[results,Tryz.results123,go_sem,hc1]) rfl ?_;exact Hfin.out
  ·go_wp2_with fail
   refine AQ (M8 _ _ x s _ (HX.out.1.ext hx1.a3) (HY.out.1.ext hx1.a3)) ?_;rintro r w6 hn hx3;clear hc1 hf1;replace hx1:=hx1.trans hx3;clear hx3;have hc1:=hx1.cells;have hf1:=hx1.frozens
   go_wp2_with fail
   refine AQ (Jb 1 _ Aa Aa) ?_;rintro r w7 h1' hx3;clear hc1 hf1;replace hx1:=hx1.trans hx3;replace hn:=hn.ext hx3;clear hx3;obtain⟨b5,A5,n5,c5,rfl⟩:=hn.cells;obtain⟨b6,A6,n6,c6,rfl⟩:=h1'.cells;have e9:Rat.divInt (x*t+s*y) (y*t)=((x+s:Int):Rat):=by rw[H1.out Ac,H2.out Ac,Int.mul_one,Int.mul_one,Int.mul_one];exact Wh _
   have hr:=BX.mk_ hn h1' (q:=p+q) (by rw[Hz.out,e9];rfl) (by rw[Hz.out,e9];rfl);clear hn h1';have E9:=Af e9;clear e9;have hc1:=hx1.cells;have hf1:=hx1.frozens;have Hfin:=Af (Fx hr hx1.a3 (AV.at_ hx1 (g:=w.heap.size+2) Ac (by simp[Ah])) Aa);clear hr;go_wp2;refine bodyPost_ret (v := .agg #[.bool b5,.slice A5 n5 c5,.bool b6,.slice A6 n6 c6]) (by simp[results,Tryz.results123,go_sem,hc1]) rfl ?_;exact Hfin.out
theorem Yn(v:Value)(x:Int)(w:World)(hv:Bj w v x):Bg 39 #[v] w (fun r w'=>BX w' r (x:Rat)):=by
 have HX:=Af hv;obtain⟨neg,A,n,c,N,rfl,h1,h2,h3,hN,hx⟩:=hv.form;clear hN hx hv
 go_enter Tryz.func39,Tryz.ntmps39
 go_wp2_with fail
 refine AQ (P9 _ x _ (HX.out.ext (((Ext.refl w).alloc _).alloc _))) ?_;rintro r w1 hn hx1
 go_wp2_with fail
 refine AQ (kH 1 _ Aa Aa) ?_;rintro r w2 h1' hx2;replace hn:=hn.ext hx2;replace hx1:=hx1.trans hx2;clear hx2;obtain⟨b5,A5,n5,c5,rfl⟩:=hn.cells;obtain⟨b6,A6,n6,c6,rfl⟩:=h1'.cells;have hr:=BX.mk_ hn h1' (q:=(x:Rat)) rfl rfl;clear hn h1';have hc1:=hx1.cells;have hf1:=hx1.frozens;have Hfin:=Af (Fx hr hx1.a2 (AV.at_ hx1 (g:=w.heap.size+1) Ac (by simp[Ah])) Aa);clear hr;go_wp2;refine bodyPost_ret (v := .agg #[.bool b5,.slice A5 n5 c5,.bool b6,.slice A6 n6 c6]) (by simp[results,Tryz.results39,go_sem,hc1]) rfl ?_
 exact Hfin.out
theorem Tv(v u:Value)(p q:Rat)(w:World)(hv:BX w v p)(hu:BX w u q):Bg 79 #[v,u] w (fun r _=>r = .bool (decide (p=q))):=by
 obtain⟨b,A,n,c,b',A',n',c',rfl,h1,h2⟩:=hv;obtain⟨d,E,m,e,d',E',m',e',rfl,k1,k2⟩:=hu;have H:=Af (Au h1 (Au h2 (Au k1 k2)));clear h1 h2 k1 k2
 go_enter Tryz.func79,Tryz.ntmps79
 go_wp2_with fail
 refine AQ (XV _ _ p.num q.num _ (H.out.1.ext (((Ext.refl w).alloc _).alloc _)) (H.out.2.2.1.ext (((Ext.refl w).alloc _).alloc _))) ?_;rintro r w1 rfl hx1;have hc1:=hx1.cells;have hf1:=hx1.frozens;by_cases hn:p.num=q.num
 ·have hb:decide (p.num=q.num)=true:=decide_eq_true hn
  have Hn:=Af hn;clear hn
  go_wp2_with fail
  refine AQ (XV _ _ (p.den:Int) (q.den:Int) _ (H.out.2.1.ext hx1.a2) (H.out.2.2.2.ext hx1.a2)) ?_;rintro r w2 rfl hx2;replace hx1:=hx1.trans hx2;clear hx2 hc1 hf1;go_wp2
  go_ret
  refine Ai.mk (show Value.bool (decide ((p.den:Int)=(q.den:Int)))=Value.bool (decide (p=q))from ?_) hx1.a2;exact congrArg _ (decide_eq_decide.2 ⟨fun h=>Rat.ext Hn.out Aa,fun h=>by rw[h]⟩)
 ·have hb:decide (p.num=q.num)=false:=decide_eq_false hn
  have Hn:=Af hn;clear hn;go_wp2
  go_ret
  refine Ai.mk (show Value.bool false=Value.bool (decide (p=q))from ?_) hx1.a2;exact congrArg _ (decide_eq_false fun h=>Hn.out (by rw[h])).symm
theorem aS(v u:Value)(p q:Rat)(w:World)(hv:Ce w v p)(hu:Ce w u q):Bg 99 #[v,u] w (fun r w'=>BX w' r (p - q)):=by
 have HV:=Af hv;have HU:=Af hu;have hs:=hu.qsz;obtain⟨b,A,n,c,b',A',n',c',x,y,rfl,-⟩:=hv.form;obtain⟨d,E,m,e,d',E',m',e',s,t,rfl,-⟩:=hu.form;clear hv hu;rw[Rat.sub_eq_add_neg]
 go_enter Tryz.func99,Tryz.ntmps99
 go_wp2_with fail
 refine EE 3 [5,6,7] [2,3] [_,_] [(kv ?_),(kv ?_),(fun γ=>γ 2)] (fun γ w'=>[True,True,BX w' (γ 2) (-q)]) ?s1 ?_
 case s1 =>
  iterate 3 refine⟨?_,?_⟩
  trivial
  iterate 2 focus
   refine Bi fun _ w' he R hR=>?_;have hc:=he.cells;go_simp;exact C8 hR
  ·refine Bi fun _ w' he R hR=>?_
   go_simp;exact BF (aA _ q w' (HU.out.ext he.a3)) hR
 intro γ w1 hx1 hF;have p2:BX w1 (γ 2) (-q):=AC.get hF 2 Ab;clear hF;simp only[Bw,Nat.reduceAdd];generalize γ 2=g2 at *;clear γ
 go_wp2_with fail
 refine AQ (Ut _ _ p (-q) _ (HV.out.ext hx1.a3) (p2.has (by rw[IU];exact hs))) ?_;rintro r w2 hr hx2;replace hx1:=hx1.trans hx2;clear hx2 p2;obtain⟨b5,A5,n5,c5,b6,A6,n6,c6,rfl⟩:=hr.cells;have hc1:=hx1.cells;have hf1:=hx1.frozens;have Hfin:=Af (Fx hr hx1.a3 (AV.at_ hx1 (g:=w.heap.size+2) Ac (by simp[Ah])) Aa);clear hr;go_wp2;refine bodyPost_ret (v := .agg #[.bool b5,.slice A5 n5 c5,.bool b6,.slice A6 n6 c6]) (by simp[results,Tryz.results99,go_sem,hc1]) rfl ?_
 exact Hfin.out
theorem WH(v u:Value)(p q:Rat)(w:World)(hv:Ce w v p)(hu:Ce w u q)(hs:qsz p+qsz q < 274877906944):Bg 49 #[v,u] w (fun r _=>r = .int .i64 (KV (p - q))):=by
 have HV:=Af hv;have HU:=Af hu;obtain⟨b,A,n,c,b',A',n',c',x,y,rfl,-⟩:=hv.form;obtain⟨d,E,m,e,d',E',m',e',s,t,rfl,-⟩:=hu.form;clear hv hu
 go_enter Tryz.func49,Tryz.ntmps49
 go_wp2_with fail
 refine AQ (aS _ _ p q _ (HV.out.ext (((Ext.refl w).alloc _).alloc _)) (HU.out.ext (((Ext.refl w).alloc _).alloc _))) ?_;rintro r w1 hr hx1
 go_wp2_with fail
 refine AQ (LQ _ (p - q) _ (hr.has (by have:=Tu p q;omega))) ?_;rintro r w2 rfl hx2;go_wp2
 go_ret
 exact Ai.mk rfl (hx1.trans hx2).a2
theorem bP{q:Rat}(h:q=0):(KV q==0)=true:=by subst h;rfl
theorem bS{q:Rat}(h:q≠0):(KV q==0)=false:=by simpa[PT] using h
theorem dQ(v:Value)(q:Rat)(w:World)(hv:Ce w v q):Bg 179 #[v] w (fun r _=>r = .bool (KV q==0)):=by
 have HV:=Af hv;obtain⟨b,A,n,c,b',A',n',c',x,y,rfl,-⟩:=hv.form;clear hv
 go_enter Tryz.func179,Tryz.ntmps179
 go_wp2_with fail
 refine AQ (LQ _ q _ (HV.out.ext ((Ext.refl w).alloc _))) ?_;rintro r w1 rfl hx1;go_wp2
 go_ret
 exact Ai.mk rfl hx1.a1
/-- qpoly.trimmed: without the zeros at the end,in place. -/
theorem GV(base:Nat)(A:Option Addr)(c:Nat)(l:List Rat)(w:World)(hl:l.length<=c)(hc:c<=9223372036854775807)(hA:Mr base w A l) :
  Calls Tryz.prog 158 #[.slice A l.length c] w fun e w'=>e = .returned (.slice A (BN l).length c)/\w=w':=by
 go_enter Tryz.func158,Tryz.ntmps158
 go_wp2
 go_loop [0] (fun v=>∃ m:Nat,m<=l.length/\v = .slice A m c/\∀ j,m<=j->(h:j < l.length)->l[j]=0) (fun v=>match v with | .slice _ m _=>m | _=>0)
 case atStart=>exact⟨l.length,Nat.le_refl _,rfl,fun j h1 h2=>Aa⟩
 case round =>
  obtain⟨m,hm,rfl,hz⟩:=hrel;by_cases h0:0 < m
  ·obtain⟨m,rfl⟩:∃ k,m=k+1:=⟨m - 1,Aa⟩
   obtain⟨g,o,b,A1,n,c1,b',A1',n',c',rfl,hb,q0,q1,q2,q3,hq⟩:=hA.at_ (j:=m) Aa;have hn:=hq.num_len;by_cases hd0:l[m]'(Aa)=0
   ·have hb:(((n:Nat):Int)==0)=true:=by rw[hn,hd0];rfl
    clear hA hn;go_wp2
    go_round
    case rel=>exact⟨m,Aa,rfl,fun j h1 h2=>by
     rcases Nat.eq_or_lt_of_le h1 with e | e
     ·subst e;exact hd0
     ·exact hz j Aa h2⟩
    case measure=>simp
   ·have hb:(((n:Nat):Int)==0)=false:=by
     have:=Es (n:=l[m].num.natAbs) (by have:l[m].num≠0:=fun e=>hd0 (Rat.num_eq_zero.1 e);omega);rw[<-hn]at this;simp;omega
    clear hA hn;go_wp2
    go_ret
    have ht:=JB hm hz (fun h _=>by simpa using hd0);have hlen:(BN l).length=m+1:=by rw[ht,List.length_take];omega
    exact⟨by rw[hlen];rfl,rfl⟩
  ·obtain rfl:m=0:=by omega
   go_wp2
   go_ret
   have ht:=JB hm hz (fun h hh=>Aa);have hlen:(BN l).length=0:=by rw[ht];rfl
   exact⟨by rw[hlen];rfl,rfl⟩
theorem PW.trim{base:Nat}{w:World}{A:Option Addr}{l:List Rat}(h:Mr base w A l){c:Nat}(hl:l.length<=c)(hc:c<=9223372036854775807:=by omega):PW base w (.slice A (BN l).length c) (BN l):=by
 refine⟨A,c,rfl,by have:=NL l;omega,hc,?_⟩;rw[Fg l];exact Dr.take h _
theorem Yp:(Tryz.prog.info? 28).map (fun i=>(i.zero,i.size,i.bytes))=some (some (.agg #[.bool false,.slice none 0 0,.bool false,.slice none 0 0]),4,64):=by kernel_rfl
theorem KF(n:Nat)(x:Int)(hx:x=n)(hn:n<=1099511627776)(w:World):∃ W,(Instr.makeSlice 135 (.int .i64 x) (.int .i64 x)).run Tryz.prog w = .ok (.slice (some ⟨w.heap.size,0,none⟩) n n) W/\CS W w.heap.size 28 (List.replicate n none)/\Ext w W:=by
 subst hx;obtain⟨i0,hi,hz0,hz1,hz2⟩:=info_parts Yp;have h:=run_make (P:=Tryz.prog) w 135 28 i0 (.agg #[.bool false,.slice none 0 0,.bool false,.slice none 0 0]) Tryz.underlying135 hi hz0 .i64 .i64 (n:Int) (n:Int) Aa Aa (by rw[hz2];omega) Aa;rw[h,hz1,Int.toNat_natCast];exact⟨_,rfl,CS.new w _ n,(Ext.refl w).alloc _⟩
theorem QR{l:List (Option Rat)}{m:List Rat}{k n:Nat}{q:Rat}(h:l=(m.take k).map some ++ List.replicate (n - k) none)(hk:k < n)(hm:m.length=n)(hq:m[k]'(by omega)=q):l.set k (some q)=(m.take (k+1)).map some ++ List.replicate (n - (k+1)) none:=by
 subst h;have h1:((m.take k).map some:List (Option Rat)).length=k:=by simp;omega
 rw[List.set_append,if_neg (by rw[h1];omega),h1,Nat.sub_self,show n - k=(n - (k+1))+1 from Aa,List.replicate_succ,List.set_cons_zero,List.take_succ_eq_append_getElem Aa,hq];simp
theorem M0(v:Value)(l:List Rat)(w:World)(hv:Qb 0 w v l)(hn:l.length<=1099511627776):Bg 156 #[v] w (fun r w'=>r = .slice (some ⟨w.heap.size,0,none⟩) (BN l).length l.length/\CS w' w.heap.size 28 (l.map some)):=by
 obtain⟨A,c,rfl,hl,hc,hA⟩:=hv;obtain⟨W0,hmk,ea,hx⟩:=KF l.length (l.length:Int) rfl hn w;have HA:Hid (Vv 0 w A l):=Af hA;clear hA
 go_enter Tryz.func156,Tryz.ntmps156
 go_wp2
 go_loopw [11] (fun iv wr=>∃ (k:Nat) (la:List (Option Rat)),k<=l.length/\iv = .int .i64 k/\CS wr w.heap.size 28 la/\la.length=l.length/\la=(l.take k).map some ++ List.replicate (l.length - k) none/\Ext w wr) (fun iv _=>l.length - (intOf iv).toNat)
 case atStart=>exact⟨0,_,Nat.zero_le _,rfl,ea,Ac,Ac,hx⟩
 case round =>
  obtain⟨k,la,hk,rfl,ea,hlen,hla,hx⟩:=hrel;have Hla:=Af hla;clear hla;have Hlen:=Af hlen;clear hlen;by_cases hkl:k < l.length
  ·obtain⟨g,o,b,A1,n,c1,b',A1',n',c1',rfl,_,q0,q1,q2,q3,hq⟩:=HA.out.at_ (j:=k) hkl
   replace q0:=hx.cell q0;replace q1:=hx.cell q1;replace q2:=hx.cell q2;replace q3:=hx.cell q3;have Hq:=Af hq;clear hq
   go_wp2_with fail
   refine AQ (Gn _ _ _ (Hq.out.ext (hx.alloc _))) ?_;rintro r w2 hr hx2;replace ea:=ea.ext hx2.a1;replace hx:=hx.trans hx2.a1;clear hx2 q0 q1 q2 q3;obtain⟨b5,A5,n5,c5,b6,A6,n6,c6,rfl⟩:=hr.cells;have hkla:k < la.length:=by have:=Hlen.out;omega
   obtain⟨_,_,_,_,_,_,_,_,ca0,ca1,ca2,ca3,-⟩:=ea.at_ (j:=k) (by first | omega | (simp;omega));have fa0:=ea.frozen (k*4);have fa1:=ea.frozen (k*4+1);have fa2:=ea.frozen (k*4+2);have fa3:=ea.frozen (k*4+3);go_wp2;obtain⟨W3,eW,ea',U⟩:=ea.put (k:=k) (by first | omega | (simp;omega)) hr;rw[<-eW];clear eW ea;replace hx:=U.from_ hx Ak;have ea:=ea';clear U ea'
   go_roundw
   case rel=>exact⟨k+1,_,Aa,by go_num,ea,by simpa using Hlen.out,QR Hla.out hkl rfl rfl,hx⟩
   case measure=>simp[intOf];omega
  ·obtain rfl:k=l.length:=by omega
   replace ea:CS wr w.heap.size 28 (l.map some):=by
    have:=Hla.out;rw[Nat.sub_self,List.replicate_zero,List.append_nil,List.take_of_length_le (Nat.le_refl _)]at this;rw[<-this];exact ea
   have hrow:=ea.row (m:=l) rfl (Nat.le_refl _)
   go_wp2_with fail
   refine Calls.mono (GV w.heap.size _ _ l _ (Nat.le_refl _) Aa hrow) ?_;rintro e w2 ⟨rfl,rfl⟩;go_wp2
   go_ret
   exact Ai.mk ⟨rfl,ea⟩ hx
theorem Vd(v:Value)(l:List Rat)(w:World)(hv:Qb 0 w v l)(hn:l.length<=1099511627776):Bg 156 #[v] w (fun r w'=>PW w.heap.size w' r (BN l)):=
 Ai.imp (M0 v l w hv hn) fun _ _ ⟨e,h⟩=>by subst e;exact PW.trim (h.row rfl (Nat.le_refl _)) (Nat.le_refl _) Aa
end Go.Proofs.YtmhgnigpmompmaaGreat
namespace Go.Hp
def F3(k j:Nat)(c:Rat)(R G:Nat->Rat)(n:Nat):Rat:=R n - (if k<=n/\n - k < j then c*G (n - k)else 0)
theorem NI(k:Nat)(c:Rat)(R G:Nat->Rat):F3 k 0 c R G=R:=by
 funext n;unfold F3;rw[if_neg Aa];grind
theorem KI{k m:Nat}{c:Rat}{R G:Nat->Rat}(h:Be m G):F3 k m c R G=psb R (cv (mono k c) G):=by
 funext n
 rw[FY];show R n - _=R n - c*sh k G n;unfold sh;by_cases h1:n < k
 ·rw[if_neg Aa,if_pos h1];grind
 ·rw[if_neg h1]
  by_cases h2:n - k < m
  ·rw[if_pos ⟨Aa,h2⟩]
  ·rw[if_neg Aa,h _ Aa];grind
theorem O3(k j:Nat)(c:Rat)(R G:Nat->Rat)(n:Nat):F3 k (j+1) c R G n=if n=k+j then F3 k j c R G n - c*G j else F3 k j c R G n:=by
 unfold F3;by_cases h:n=k+j
 ·subst h;rw[if_pos rfl,if_pos Aa,if_neg Aa,show k+j - k=j from by omega];grind
 ·rw[if_neg h]
  by_cases h2:k<=n/\n - k < j
  ·rw[if_pos h2,if_pos Aa]
  ·rw[if_neg h2,if_neg Aa]
theorem WZ{k j:Nat}{c:Rat}{R G:Nat->Rat}{m s:Nat}(hG:Be m G)(h1:∀ n,qsz (R n)<=s)(h2:∀ n,qsz (psb R (cv (mono k c) G) n)<=s)(n:Nat):qsz (F3 k j c R G n)<=s:=by
 by_cases h:k<=n/\n - k < j
 ·have e:F3 k j c R G n=psb R (cv (mono k c) G) n:=by
   rw[<-KI hG];unfold F3;rw[if_pos h];by_cases h3:k<=n/\n - k < m
   ·rw[if_pos h3]
   ·rw[if_neg h3,hG _ Aa];grind
  rw[e];exact h2 n
 ·have e:F3 k j c R G n=R n:=by unfold F3;rw[if_neg h];grind
  rw[e];exact h1 n
theorem Qe(l:List Rat):l.map some=Ei l.length (co l):=by
 apply List.ext_getElem
 ·simp[Ei]
 ·intro i h1 h2
  have:i < l.length:=by simpa using h1
  simp[Ei,F6 this]
def Jr(w:World)(v:Value)(c:Rat):Prop:=∃ a,v = .tuple #[a,.int .i64 0]/\BX w a c
theorem Jr.ext{w w':World}{v:Value}{c:Rat}(h:Jr w v c)(e:Ext w w'):Jr w' v c:=by
 obtain⟨a,h1,h2⟩:=h;exact⟨a,h1,h2.ext e⟩
theorem Zk{la:List (Option Rat)}{n:Nat}{Q:Nat->Rat}(hl:la.length=n)(h:∀ j (hj:j < la.length),la[j]=some (Q j)):la=Ei n Q:=by
 apply List.ext_getElem
 ·simp[Ei,hl]
 ·intro i h1 h2
  rw[h i h1];simp[Ei]
def JK(F G:Nat->Rat)(n s t i:Nat)(la:List (Option Rat))(Q R:Nat->Rat):Prop:=
 la.length=n/\(∀ j (h:j < la.length),i<=j->la[j]=some (Q j))/\(∀ j,j < i->Q j=0)/\Be n Q/\Be (i+pl G - 1) R/\F=pad (cv Q G) R/\CD (s+(n - i)*(t+1)) R
theorem JK.start{F G:Nat->Rat}{n s t:Nat}(hF:Be (n+pl G - 1) F)(hs:CD s F):JK F G n s t n (List.replicate n none) pz F:=
 ⟨Ac,fun j h h'=>by simp at h;omega,fun _ _=>rfl,Be.pz _,hF,by rw[Cn];funext m;simp only[pad,pz];grind,hs.mono Aa⟩
theorem JK.step{F G:Nat->Rat}{n s t k:Nat}{la:List (Option Rat)}{Q R:Nat->Rat}(hG:Ae G)(h0:G≠pz)(hcG:CD t G)(h:JK F G n s t (k+1) la Q R)(hk:k < n){c:Rat}(hc:c=R (k+pl G - 1) / ld G) :
  JK F G n s t k (la.set k (some c)) (pad Q (mono k c)) (psb R (cv (mono k c) G)):=by
 obtain⟨h1,h2,h3,h4,h5,h6,h7⟩:=h;have hp:=AL hG h0;refine⟨by simpa using h1,fun j hj hkj=>?_,fun j hj=>?_,h4.pad ((ES k c).mono Aa),?_,?_,?_⟩
 ·rw[List.getElem_set]
  split
  ·rename_i e;subst e
   show some c=some (Q k+mono k c k);rw[h3 k Aa,Kl];congr 1;grind
  ·rename_i e
   rw[h2 j (by simpa using hj) Aa];show some (Q j)=some (Q j+mono k c j);rw[EP (fun e'=>e e'.symm)];congr 1;grind
 ·show Q j+mono k c j=0
  rw[h3 j Aa,EP Aa];grind
 ·subst hc
  exact EJ hG h0 (h5.mono Aa)
 ·rw[CG]
  funext m
  have:=congrFun h6 m;simp only[pad,psb]at this ⊢;grind
 ·subst hc
  refine(CD.step (n:=k) hG h0 h7 hcG).mono ?_;have:n - k=(n - (k+1))+1:=by omega
  rw[this,Nat.succ_mul];omega
theorem JK.end_{F G:Nat->Rat}{n s t:Nat}{la:List (Option Rat)}{Q R:Nat->Rat}(hF:Ae F)(hG:Ae G)(h0:G≠pz)(h:JK F G n s t 0 la Q R):la=Ei n Q/\Q=pq F G/\R=pr F G/\Be n Q:=by
 obtain⟨h1,h2,h3,h4,h5,h6,h7⟩:=h;have:=Ir hF hG h0 ⟨n,h4⟩ h6 (by rwa[Nat.zero_add]at h5);exact⟨Zk h1 fun j hj=>h2 j hj (Nat.zero_le _),this.1,this.2,h4⟩
theorem Nr{k:Nat}{c:Rat}(h:c=0)(R G:Nat->Rat):psb R (cv (mono k c) G)=R:=by
 funext n;rw[FY];simp only[psb,psc];rw[h];grind
end Go.Hp
namespace Go.Proofs.YtmhgnigpmompmaaGreat
open Go.RowKit Go.Hp
set_option maxRecDepth 20000 in
theorem XC(v u:Value)(F G:Nat->Rat)(s t:Nat)(w:World)(hv:FN 0 w v F)(hu:FN 0 w u G)(h0:G≠pz)(hF:CD s F)(hG:CD t G)(hb:pl F<=1099511627776)(hK:s+(pl F+2)*(t+1)+2*t+2<=274877906944) :
  Bg 157 #[v,u] w (fun r w'=>∃ a b,r = .tuple #[a,b]/\FN w.heap.size w' a (pq F G)/\FN w.heap.size w' b (pr F G)):=by
 have hFf:=hv.fin;have hGf:=hu.fin;have hpG:=AL hGf h0;obtain⟨lf,hfv,hfl,hft,hfc⟩:=hv.hs (fun i=>by have:=hF.elem i;have:0 < (pl F+2)*(t+1):=Nat.mul_pos Aa Aa;omega);obtain⟨E,d,lg,rfl,hgd,hd,hE,hgl,hgt,hgc⟩:=hu.form;obtain⟨A,c,hve⟩:=hfv.len;have Hn:=Af (M0 v lf w hfv Aa);have hft':BN lf=lf:=(Fh lf).uniq hft (Gr lf);subst hve;rw[hfl]at Hn ⊢;have HE:=Af hE;have HX:=Af (Au hFf (Au hGf (Au h0 (Au hF (Au hG hK)))))
 have HL:=Af (Au hfl (Au hfc (Au hgl (Au hgc hft'))));clear hv hu h0 hF hG hK hFf hGf hE hgl hgt hgc hfv hfl hft hfc hft'
 go_enter Tryz.func157,Tryz.ntmps157
 go_wp2_with fail
 refine AQ Hn.out ?_;rintro r w1 ⟨rfl,er⟩ hx1;rw[HL.out.2.2.2.2,HL.out.1];rw[Qe,HL.out.1,HL.out.2.1]at er;clear Hn;by_cases hlt:pl F < pl G
 ·go_wp2
  go_ret2
  have hdl:=Lp (F:=F) (G:=G) ((AA HX.out.1).mono Aa) HX.out.2.1 HX.out.2.2.1;rw[hdl.1,hdl.2];exact Ai.mk ⟨_,_,rfl,FN.nil _ _,er.isP (AA HX.out.1) (Nat.le_refl _) (Nat.le_refl _) Aa⟩ hx1
 obtain⟨n,hn⟩:∃ n,n=pl F - pl G+1:=⟨_,rfl⟩
 have hnF:n+pl G=pl F+1:=by omega
 have hn1:1<=n:=by omega
 have hn40:n<=1099511627776:=by omega
 obtain⟨W0,hmk,eq,hxq⟩:=KF n ((pl F:Int) - pl G+1) Aa hn40 w1;have HN:=Af hnF;clear hnF hn;have hg12:=er.lt;replace er:=er.ext hxq;replace hx1:=hx1.trans hxq;clear hxq;go_wp2
 go_loopw [6] (fun iv wr=>∃ (i:Nat) (Q Rm:Nat->Rat) (la:List (Option Rat)),i<=n/\(∃ z:Int,z+1=i/\iv = .int .i64 z)/\CS wr w.heap.size 28 (Ei (pl F) Rm)/\CS wr w1.heap.size 28 la/\JK F G n s t i la Q Rm/\Ext w wr) (fun iv _=>(intOf iv+1).toNat)
 case atStart=>exact⟨n,pz,F,_,Nat.le_refl _,⟨_,Aa,rfl⟩,er,eq,JK.start ((AA HX.out.1).mono (by have:=HN.out;omega)) HX.out.2.2.2.1,hx1⟩
 case round =>
  clear er eq hx1;obtain⟨i,Q,Rm,la,hi,⟨z,hz,rfl⟩,er,eq,hst,hx⟩:=hrel;have HR:=Af hst;clear hst;by_cases hi0:0 < i
  ·obtain⟨k,rfl⟩:∃ k,i=k+1:=⟨i - 1,Aa⟩
   obtain rfl:z=(k:Int):=by omega
   clear hz hi0;have hkn:k < n:=by omega
   have hkp:k+pl G - 1 < pl F:=by have:=HN.out;omega
   have HL2:=HL.out.2.2.1;obtain⟨z1,Z1,zn,zc,z2,Z2,zn',zc',ca0,ca1,ca2,ca3,hza⟩:=er.full_at (j:=k+pl G - 1) hkp;obtain⟨g,o,b,A1,m1,c1,b',A1',m1',c1',rfl,_,q0,q1,q2,q3,hq⟩:=HE.out.at_ (j:=pl G - 1) Aa;replace q0:=hx.cell q0;replace q1:=hx.cell q1;replace q2:=hx.cell q2;replace q3:=hx.cell q3;have hlead:lg[pl G - 1]'(Aa)=ld G:=by rw[<-F6,HL.out.2.2.2.1];rfl
   rw[hlead]at hq;have Hq:=Af (Au hza hq);clear hza hq hlead HL2;have HB:=Af (show qsz (Rm (k+pl G - 1))<=274877906944/\qsz (ld G)<=274877906944/\ld G≠0 by
    have h0:=HN.out;have h1:=HR.out.2.2.2.2.2.2.elem (k+pl G - 1);have h2:qsz (ld G)<=t:=HX.out.2.2.2.2.1.elem _;have h3:=HX.out.2.2.2.2.2;have h4:(n - (k+1))*(t+1)<=(pl F+2)*(t+1):=Nat.mul_le_mul_right _ Aa;exact⟨Aa,Aa,CV HX.out.2.1 HX.out.2.2.1⟩)
   obtain⟨c0,hc0⟩:∃ c0,c0=Rm (k+pl G - 1) / ld G:=⟨_,rfl⟩
   have Hc0:=Af hc0;clear hc0;have hkla:k < la.length:=by have:=HR.out.1;omega
   have Hkla:=Af hkla
   go_wp2_with fail
   go_cut [] (fun wx=>CS wx w1.heap.size 28 (la.set k (some c0))/\CS wx w.heap.size 28 (Ei (pl F) Rm)/\Ext w wx)
   case first =>
    refine BG 20 [19] (fun x=>22) [32,33,34,35,36,37,38,39,40,41,42,43,44,45,46,47,48,31,49,50] [[],[],[],[],[],[4],[3,4,5],[3,4,5,6],[2,3,4,5,6,7],[2,3,4,5,6,7,8],[],[],[11],[11,12],[10,11,12,13],[10,11,12,13,14],[2,3,4,5,6,7,8,9,10,11,12,13,14,15],[2,3,4,5,6,7,8,9,10,11,12,13,14,15,16],[2,3,4,5,6,7,8,9,10,11,12,13,14,15,16,17],[2,3,4,5,6,7,8,9,10,11,12,13,14,15,16,17],[0,1,2,3,4,5,6,7,8,9,10,11,12,13,14,15,16,17,18],[0,1,2,3,4,5,6,7,8,9,10,11,12,13,14,15,16,17,18,20]] [4,6,5,1] [_,_,_,_] [(kv ?_),(kv ?_),(kv ?_),(kv ?_),(kv ?_),(kv ?_),(kv ?_),(kv ?_),(kv ?_),(kv ?_),(kv ?_),(kv ?_),(kv ?_),(kv ?_),(kv ?_),(kv ?_),(fun γ=>γ 16),(fun γ=>γ 16),(fun γ=>γ 18),(kv ?_)] (fun γ w'=>[True,True,True,True,True,True,True,True,True,True,True,True,True,True,True,True,Jr w' (γ 16) c0,True,BX w' (γ 18) c0,True]) Np Cg Cg Cg Cg Cg P5 Cg Nj ?m1 ?s1 ?_ ?l1
    case s1 =>
     iterate 20 refine⟨?_,?_⟩
     trivial
     iterate 16 focus
      refine Bi fun _ w' he R hR=>?_;have hc:=he.cells;have cq0:=he.cell ca0;have cq1:=he.cell ca1;have cq2:=he.cell ca2;have cq3:=he.cell ca3;have cq4:=he.cell q0;have cq5:=he.cell q1;have cq6:=he.cell q2;have cq7:=he.cell q3;go_simp;(try go_ints);(try(rw[if_neg Aa]));(try(rw[if_pos Aa]));(try go_simp);(try go_ints)
      exact C8 hR
     ·refine Bi fun _ w' he R hR=>?_
      go_simp;exact BF (Hc0.out▸Xm _ _ _ _ w' ((Hq.out.1.ext he).has HB.out.1) ((Hq.out.2.ext (hx.trans he)).has HB.out.2.1) HB.out.2.2) hR
     ·refine Bi fun _ w' he R hR=>?_
      have hc:=he.cells;go_simp
      (try go_ints);(try(rw[if_neg Aa]));(try(rw[if_pos Aa]));(try go_simp);(try go_ints)
      exact C8 hR
     ·refine Gj fun γ w' he hf R hR=>?_;have f16:Jr w' (γ 16) c0:=hf 16 Ab;clear hf
      obtain⟨a,e,ha⟩:=f16;go_simp;exact hR _ _ (Ext.refl _) rfl ha
     ·refine Gj fun γ w' he hf R hR=>?_;have f16:Jr w' (γ 16) c0:=hf 16 Ab;clear hf
      obtain⟨a,e,ha⟩:=f16;have hc:=he.cells;go_simp
      (try go_ints);(try(rw[if_neg Aa]));(try(rw[if_pos Aa]));(try go_simp);(try go_ints)
      exact C8 hR
    case m1 =>
     exact⟨⟨⟨⟨⟨⟨⟨⟨⟨⟨⟨⟨⟨⟨⟨⟨⟨⟨⟨⟨trivial,(fun γ wA w' e h=>h)⟩,(fun γ wA w' e h=>h)⟩,(fun γ wA w' e h=>h)⟩,(fun γ wA w' e h=>h)⟩,(fun γ wA w' e h=>h)⟩,(fun γ wA w' e h=>h)⟩,(fun γ wA w' e h=>h)⟩,(fun γ wA w' e h=>h)⟩,(fun γ wA w' e h=>h)⟩,(fun γ wA w' e h=>h)⟩,(fun γ wA w' e h=>h)⟩,(fun γ wA w' e h=>h)⟩,(fun γ wA w' e h=>h)⟩,(fun γ wA w' e h=>h)⟩,(fun γ wA w' e h=>h)⟩,(fun γ wA w' e h=>h)⟩,(fun γ wA w' e h=>(show Jr wA (γ 16) c0 from h).ext e)⟩,(fun γ wA w' e h=>h)⟩,(fun γ w w' e h=>BX.ext h e)⟩,(fun γ wA w' e h=>h)⟩
    case l1 =>
     intro Pn hPs hPn;obtain rfl:=Je hPs hPn;clear hPs hPn
     ·intro γ w2 hx2 hF hA
      clear hA;have p16:Jr w2 (γ 16) c0:=(AC.get hF 16 Ab).resolve_left Ab;have p18:BX w2 (γ 18) c0:=(AC.get hF 18 Ab).resolve_left Ab;clear hF;show AJ _ _ _ _ 3 [19] 20 _ _;simp only[Bw,Nat.reduceAdd,Cw,Xl];generalize γ 16=g16 at *;generalize γ 18=g18 at *;clear γ;obtain⟨a16,rfl,-⟩:=p16;obtain⟨b5,A5,n5,c5,b6,A6,n6,c6,rfl⟩:=p18.cells;clear ca0 ca1 ca2 ca3 q0 q1 q2 q3;replace er:=er.ext hx2;replace eq:=eq.ext hx2
      replace hx:=hx.trans hx2;clear hx2;obtain⟨_,_,_,_,_,_,_,_,ca0,ca1,ca2,ca3,-⟩:=eq.at_ (j:=k) (by first | omega | (simp;omega));have fa0:=eq.frozen (k*4);have fa1:=eq.frozen (k*4+1);have fa2:=eq.frozen (k*4+2);have fa3:=eq.frozen (k*4+3)
      repeat' first
       | (refine AJ.nil ?_;simp only[IG];go_wp2;done)
       | (refine AJ.nil ?_;(try simp only[IG]);go_wp2)
       | (refine AJ.mk _ ⟨?_,trivial⟩ (fun h=>?_)<;>first | exact absurd h Ab | ((try clear h);simp only[Df,IG];go_wp2;first | show AJ _ _ _ _ _ [19] _ _ _ | show AJ _ _ _ _ _ [] _ _ _))
      all_goals
       skip;obtain⟨W3,eW,eq',U⟩:=eq.put (k:=k) (by first | omega | (simp;omega)) p18;rw[<-eW];clear eW eq;replace er:=er.upd U Ak;replace hx:=U.from_ hx Ak;have eq:=eq';clear U eq'
       go_meet
       case rel=>exact⟨eq,er,hx⟩
    intro γ w2 hx2 hF hA;clear hA;have p16:Jr w2 (γ 16) c0:=AC.get hF 16 Ab;have p18:BX w2 (γ 18) c0:=AC.get hF 18 Ab;clear hF;simp only[Bw,Nat.reduceAdd];generalize γ 16=g16 at *;generalize γ 18=g18 at *;clear γ;obtain⟨a16,rfl,-⟩:=p16;obtain⟨b5,A5,n5,c5,b6,A6,n6,c6,rfl⟩:=p18.cells;clear ca0 ca1 ca2 ca3 q0 q1 q2 q3;replace er:=er.ext hx2;replace eq:=eq.ext hx2;replace hx:=hx.trans hx2;clear hx2;obtain⟨_,_,_,_,_,_,_,_,ca0,ca1,ca2,ca3,-⟩:=eq.at_ (j:=k) (by first | omega | (simp;omega))
    have fa0:=eq.frozen (k*4);have fa1:=eq.frozen (k*4+1);have fa2:=eq.frozen (k*4+2);have fa3:=eq.frozen (k*4+3);go_wp2;skip;obtain⟨W3,eW,eq',U⟩:=eq.put (k:=k) (by first | omega | (simp;omega)) p18;rw[<-eW];clear eW eq;replace er:=er.upd U Ak;replace hx:=U.from_ hx Ak;have eq:=eq';clear U eq'
    go_meet
    case rel=>exact⟨eq,er,hx⟩
   case rest =>
    clear er eq hx ca0 ca1 ca2 ca3 q0 q1 q2 q3;obtain⟨eq,er,hx⟩:=hcut;have HB2:=Af (show qsz c0<=274877906944/\(∀ j m,qsz (F3 k j c0 Rm G m)<=274877906944)/\∀ j (hj:j < lg.length),qsz lg[j]<=274877906944/\qsz (c0*lg[j])<=274877906944 by
     have h0:=HN.out;have h1:=fun m=>HR.out.2.2.2.2.2.2.elem m;have h1':=h1 (k+pl G - 1);have h2:qsz (ld G)<=t:=HX.out.2.2.2.2.1.elem _;have h3:=HX.out.2.2.2.2.2;have h4:(n - (k+1))*(t+1)+(t+1)<=(pl F+2)*(t+1):=by rw[<-Nat.succ_mul];exact Nat.mul_le_mul_right _ Aa
     have h5:=fun m=>(HR.out.2.2.2.2.2.2.step (n:=k) HX.out.2.1 HX.out.2.2.1 HX.out.2.2.2.2.1).elem m;rw[<-Hc0.out]at h5;have h6:qsz c0<=s+(n - (k+1))*(t+1)+t:=by rw[Hc0.out];have:=J5 (Rm (k+pl G - 1)) (ld G);omega
     refine⟨Aa,fun j m=>WZ (AA HX.out.2.1) (fun m=>by have:=h1 m;omega) (fun m=>by have:=h5 m;omega) m,fun j hj=>?_⟩;have h7:qsz lg[j]<=t:=by rw[<-F6 hj,HL.out.2.2.2.1];exact HX.out.2.2.2.2.1.elem _
     have:=CW c0 lg[j];exact⟨Aa,Aa⟩)
    have HST:=Af (HR.out.step HX.out.2.1 HX.out.2.2.1 HX.out.2.2.2.2.1 hkn Hc0.out);obtain⟨y1,Y1,yn,yc,y2,Y2,yn',yc',ca0,ca1,ca2,ca3,hy⟩:=eq.at_ (j:=k) (by rw[List.length_set];exact hkla);rw[List.getElem_set_self]at hy;have Hy:Hid (BX wc _ c0):=Af hy;clear hy hkla
    go_wp2_with fail
    refine AQ (dQ _ c0 _ (Hy.out.has HB2.out.1)) ?_;rintro r w3 rfl hx2;replace er:=er.ext hx2;replace eq:=eq.ext hx2;replace hx:=hx.trans hx2;clear hx2;clear ca0 ca1 ca2 ca3 Hy;by_cases hz:c0=0
    ·have hb:=bP hz
     have Hz:=Af hz;clear hz;go_wp2;have Hkn:=Af HST.out;rw[Nr Hz.out]at Hkn
     go_roundw
     case rel=>exact⟨k,_,Rm,_,Aa,⟨(k:Int) - 1,Aa,by go_num⟩,er,eq,Hkn.out,hx⟩
     case measure=>simp[intOf]<;>omega
    ·have hb:=bS hz
     clear hz;go_wp2;obtain⟨wq,rfl⟩:∃ wq:World,wq=wr:=⟨_,rfl⟩
     go_loopw [59] (fun jv wx=>∃ (j:Nat),j<=pl G/\jv = .int .i64 j/\CS wx w.heap.size 28 (Ei (pl F) (F3 k j c0 Rm G))/\CS wx w1.heap.size 28 (la.set k (some c0))/\Ext w wx) (fun jv _=>pl G - (intOf jv).toNat)
     case atStart=>exact⟨0,Nat.zero_le _,rfl,by rw[NI];exact er,eq,hx⟩
     case round =>
      clear er eq hx;obtain⟨j,hj,rfl,er,eq,hx⟩:=hrel;by_cases hjm:j < pl G
      ·have hjl:j < lg.length:=by have:=HL.out.2.2.1;omega
       obtain⟨g',o',bb,B1,nn,cc1,bb',B1',nn',cc1',hE',_,q0,q1,q2,q3,hq⟩:=HE.out.at_ (j:=j) hjl;cases hE';replace q0:=hx.cell q0;replace q1:=hx.cell q1;replace q2:=hx.cell q2;replace q3:=hx.cell q3;have Hq':=Af hq;clear hq;have hkj:k+j < pl F:=by have:=HN.out;omega
       have hne8:=er.lt;have hne9:=eq.lt
       go_wp2_with fail
       obtain⟨W10,eW10,e10,x10⟩:=Ba.made wr 28 #[.bool bb,.slice B1 nn cc1,.bool bb',.slice B1' nn' cc1'] (by simp[Ah]);rw[<-eW10];clear eW10 q0 q1 q2 q3;replace er:=er.ext x10;replace eq:=eq.ext x10;replace hx:=hx.trans x10;clear x10;obtain⟨z1,Z1,zn,zc,z2,Z2,zn',zc',ca0,ca1,ca2,ca3,hza⟩:=er.full_at hkj;obtain⟨y1,Y1,yn,yc,y2,Y2,yn',yc',cb0,cb1,cb2,cb3,hy⟩:=eq.at_ (j:=k) (by rw[List.length_set];exact Hkla.out)
       rw[List.getElem_set_self]at hy;have Hy:Hid (BX W10 _ c0):=Af hy;have Hza:=Af hza;clear hza hy;have ce10:=e10.cells4;have fe10:=e10.frozen;refine EE 17 [64,65,66,67,68,69,70,71,72,73,74,75,76,77,78,79,80] [5,6,7,4,8] [_,_,_,_,_] [(kv ?_),(kv ?_),(kv ?_),(kv ?_),(kv ?_),(kv ?_),(kv ?_),(kv ?_),(kv ?_),(kv ?_),(kv ?_),(kv ?_),(kv ?_),(kv ?_),(kv ?_),(fun γ=>γ 15),(fun γ=>γ 16)] (fun γ w'=>[True,True,True,True,True,True,True,True,True,True,True,True,True,True,True,BX w' (γ 15) (c0*lg[j]),BX w' (γ 16) (F3 k j c0 Rm G (k+j) - c0*lg[j])]) ?s2 ?_
       case s2 =>
        iterate 17 refine⟨?_,?_⟩
        trivial
        iterate 15 focus
         refine Bi fun _ w' he R hR=>?_;have hc:=he.cells;have cq0:=he.cell ca0;have cq1:=he.cell ca1;have cq2:=he.cell ca2;have cq3:=he.cell ca3;have cq4:=he.cell cb0;have cq5:=he.cell cb1;have cq6:=he.cell cb2;have cq7:=he.cell cb3;have cq8:=(e10.ext he).cells4;go_simp;(try go_ints);(try(rw[if_neg Aa]));(try(rw[if_pos Aa]));(try go_simp);(try go_ints)
         exact C8 hR
        ·refine Bi fun _ w' he R hR=>?_
         go_simp;exact BF (Y8 _ _ _ _ w' ((Hy.out.ext he).has HB2.out.1) ((Hq'.out.ext (hx.trans he)).has (HB2.out.2.2 j hjl).1)) hR
        ·refine Gj fun γ w' he hf R hR=>?_;have f15:BX w' (γ 15) (c0*lg[j]):=hf 15 Ab;clear hf
         go_simp;exact BF (aS _ _ _ _ w' ((Hza.out.ext he).has (HB2.out.2.1 _ _)) (f15.has (HB2.out.2.2 j hjl).2)) hR
       intro γ w6 hx6 hF;have p15:BX w6 (γ 15) (c0*lg[j]):=AC.get hF 15 Ab;have p16:BX w6 (γ 16) (F3 k j c0 Rm G (k+j) - c0*lg[j]):=AC.get hF 16 Ab;clear hF;simp only[Bw,Nat.reduceAdd];generalize γ 15=g15 at *;generalize γ 16=g16 at *;clear γ;clear ca0 ca1 ca2 ca3 cb0 cb1 cb2 cb3 ce10 fe10 e10 p15 Hza Hy;replace er:=er.ext hx6;replace eq:=eq.ext hx6;replace hx:=hx.trans hx6;clear hx6;obtain⟨b5,A5,n5,c5,b6,A6,n6,c6,rfl⟩:=p16.cells
       have hkf:k+j < (Ei (pl F) (F3 k j c0 Rm G)).length:=by rw[Qj];exact hkj
       have Hkf:=Af hkf;obtain⟨_,_,_,_,_,_,_,_,ca0,ca1,ca2,ca3,-⟩:=er.at_ (j:=k+j) (by first | omega | (simp;omega));have fa0:=er.frozen ((k+j)*4);have fa1:=er.frozen ((k+j)*4+1);have fa2:=er.frozen ((k+j)*4+2);have fa3:=er.frozen ((k+j)*4+3);clear hkf;go_wp2;have hkf:=Hkf.out;obtain⟨W7,eW,er',U⟩:=er.put (k:=k+j) (by first | omega | (simp;omega)) p16;rw[<-eW];clear eW er;replace eq:=eq.upd U Ak;replace hx:=U.from_ hx Ak
       have er:=er';clear U er'
       go_roundw
       case rel=>exact⟨j+1,Aa,by go_num,by
        rw[WF (G:=F3 k (j+1) c0 Rm G) (fun n=>by
         have e:lg[j]=G j:=by rw[<-F6 hjl,HL.out.2.2.2.1]
         rw[O3,e];split<;>simp_all)]at er
        exact er,eq,hx⟩
       case measure=>simp[intOf];omega
      ·obtain rfl:j=pl G:=by omega
       rw[KI (AA HX.out.2.1)]at er;have Hkn:=Af HST.out;go_wp2
       go_roundw
       case rel=>exact⟨k,_,_,_,Aa,⟨(k:Int) - 1,Aa,by go_num⟩,er,eq,Hkn.out,hx⟩
       case measure=>simp[intOf]<;>omega
  ·obtain rfl:i=0:=by omega
   have hz1:z < 0:=by omega
   have HE2:=Af (HR.out.end_ HX.out.1 HX.out.2.1 HX.out.2.2.1);have hla:=HE2.out.1;rw[hla,HE2.out.2.1]at eq;rw[HE2.out.2.2.1]at er;have Hz:=Af hz;clear hz hla HR;have hrq:=eq.row (JP n _) (base:=w.heap.size) Aa;have hrr:=er.row (JP (pl F) _) (Nat.le_refl _);have hTq:=fun W (e:wr=W)=>GV w.heap.size (some ⟨w1.heap.size,0,none⟩) n ((List.range n).map (pq F G)) W (by rw[Fj];omega) Aa (e▸hrq);have hTr:=fun W (e:wr=W)=>GV w.heap.size (some ⟨w.heap.size,0,none⟩) (pl F) ((List.range (pl F)).map (pr F G)) W (by rw[Fj];omega) Aa (e▸hrr)
   rw[Fj]at hTq hTr;have HT:=Af (Au hTq hTr);have HS2:=Af (show Be (pl F) (pr F G)from(Et HX.out.1 HX.out.2.1 HX.out.2.2.1).mono (by have:=HN.out;omega));have HP:=Af (Au (eq.isP (base:=w.heap.size) (HE2.out.2.1▸HE2.out.2.2.2) Aa (Nat.le_refl _) Aa) (er.isP (base:=w.heap.size) (N:=pl F) HS2.out (Nat.le_refl _) (Nat.le_refl _) Aa));clear hTq hTr hrq hrr er eq
   go_wp2_with fail
   refine Calls.mono (HT.out.1 _ rfl) ?_;rintro e w4 ⟨rfl,rfl⟩
   go_wp2_with fail
   refine Calls.mono (HT.out.2 _ rfl) ?_;rintro e w5 ⟨rfl,rfl⟩;go_wp2
   go_ret2
   rw[Ip,Ip,Oi (HE2.out.2.1▸HE2.out.2.2.2),Oi HS2.out];exact Ai.mk ⟨_,_,rfl,HP.out.1,HP.out.2⟩ hx
end Go.Proofs.YtmhgnigpmompmaaGreat
namespace Go.Hp
open Go.RowKit
def iH(base:Nat)(w:World)(v:Value)(t:TypeId)(l:List Rat):Prop:=l=[]\/∃ g cap,v = .slice (some ⟨g,0,none⟩) l.length cap/\base<=g/\l.length<=cap/\cap<=9223372036854775807/\CS w g t (l.map some)
def j5(base:Nat)(w:World)(v:Value)(t:TypeId)(F:Nat->Rat):Prop:=pl F=0\/∃ g cap,v = .slice (some ⟨g,0,none⟩) (pl F) cap/\base<=g/\pl F<=cap/\cap<=9223372036854775807/\CS w g t (Ei (pl F) F)
theorem CS.pre{w:World}{g:Nat}{t:TypeId}{l:List (Option Rat)}(h:CS w g t l)(n:Nat):CS w g t (l.take n):=by
 obtain⟨cs,h1,h2,h3⟩:=h;have hl:(l.take n).length<=l.length:=List.length_take_le' _ _;refine⟨cs,h1,Aa,fun j hj=>?_⟩;have:=h3 j Aa;rw[List.getElem_take];exact this
theorem UD(N n:Nat)(F:Nat->Rat)(h:n<=N):(Ei N F).take n=Ei n F:=by
 unfold Ei;rw[<-List.map_take,List.take_range,Nat.min_eq_left h]
theorem iH.fin{base n c:Nat}{w w':World}{A:Option Addr}{t:TypeId}{l:List Rat}(h:iH base w (.slice A n c) t l)(e:Ext w w'):j5 base w' (.slice A (BN l).length c) t (co l):=by
 have hp:pl (co l)<=l.length:=BD (KM l);rcases h with rfl | ⟨g,cap,e1,h1,h2,h3,h4⟩
 ·exact .inl (by rw[OI,BR])
 ·refine .inr ⟨g,cap,?_,h1,Aa,h3,?_⟩
  ·rw[Ip]
   injection e1 with e1 e2 e3;rw[e1,e3]
  ·have:=(h4.ext e).pre (pl (co l))
   rw[Qe,UD _ _ _ hp]at this;exact this
end Go.Hp
namespace Go.Proofs.YtmhgnigpmompmaaGreat
open Go.RowKit Go.Hp
end Go.Proofs.YtmhgnigpmompmaaGreat
namespace Go.Hp
open Go.RowKit
def Eb(w:World)(g:Nat)(t:TypeId)(q:Rat):Prop:=∃ b A n c b' A' n' c',Ba w g t #[.bool b,.slice A n c,.bool b',.slice A' n' c']/\BX w (.agg #[.bool b,.slice A n c,.bool b',.slice A' n' c']) q
theorem Eb.ext{w w':World}{g:Nat}{t:TypeId}{q:Rat}(h:Eb w g t q)(e:Ext w w'):Eb w' g t q:=by
 obtain⟨b,A,n,c,b',A',n',c',h1,h2⟩:=h;exact⟨b,A,n,c,b',A',n',c',h1.ext e,h2.ext e⟩
theorem Eb.lt{w:World}{g:Nat}{t:TypeId}{q:Rat}(h:Eb w g t q):g < w.heap.size:=by
 obtain⟨b,A,n,c,b',A',n',c',h1,h2⟩:=h;exact h1.lt
theorem Eb.upd{w w':World}{g:Nat}{t:TypeId}{q:Rat}{G:List Nat}(h:Eb w g t q)(U:Cc G w w')(hg:g∉G):Eb w' g t q:=by
 obtain⟨b,A,n,c,b',A',n',c',h1,h2⟩:=h;exact⟨b,A,n,c,b',A',n',c',h1.upd U hg,h2.kd U.kd⟩
theorem Eb.mk{w:World}{g:Nat}{t:TypeId}{q:Rat}{b b':Bool}{A A':Option Addr}{n c n' c':Nat}(h:Ba w g t #[.bool b,.slice A n c,.bool b',.slice A' n' c'])(k:BX w (.agg #[.bool b,.slice A n c,.bool b',.slice A' n' c']) q):Eb w g t q:=⟨_,_,_,_,_,_,_,_,h,k⟩
theorem FO.off{base:Nat}{e:TypeId}{w w':World}{v:Value}{l:List Rat}{g:Nat}(h:FO base e w v l)(U:Cc [g] w w')(hg:∀ k∈blk v,k < g):FO base e w' v l:=
 BB.upd h U (fun k hk hG=>by have:=hg k hk;simp at hG;omega) fun _ _ q=>q.kd U.kd
end Go.Hp
namespace Go.Proofs.YtmhgnigpmompmaaGreat
open Go.RowKit Go.Hp
end Go.Proofs.YtmhgnigpmompmaaGreat
namespace Go.Hp
theorem CD.mn{s:Nat}{F:Nat->Rat}(h:CD s F):CD (2*s) (mn F):=by
 have h1:=h.elem (pl F - 1);have h2:Hp.qsz (1 / ld F)<=s:=by
  have e:1 / ld F=(ld F)⁻¹ := by rw[Rat.div_def,Rat.one_mul]
  rw[e];exact Nat.le_trans (PD _) h1
 exact(h.psc (1 / ld F)).mono Aa
def Rq(s:Nat):Nat->Nat
 | 0=>s
 | j+1=>18*Rq s j+16
theorem Qh{s i j:Nat}(h:i<=j):Rq s i<=Rq s j:=by
 induction j with
 | zero=>obtain rfl:i=0:=Aa;exact Nat.le_refl _
 | succ j ih =>
  rcases Nat.eq_or_lt_of_le h with e | e
  ·rw[e];exact Nat.le_refl _
  ·have:=ih Aa
   show _<=18*Rq s j+16;omega
def Ol(F0 G0:Nat->Rat)(j:Nat)(F G:Nat->Rat):Prop:=
 Ae F/\Ae G/\(∀ E,Ae E->(Dv E F/\Dv E G↔Dv E F0/\Dv E G0))/\CD (Rq 44 j) F/\CD (Rq 44 j) G/\pl F<=7/\pl G+j<=7
theorem Ol.start{F G:Nat->Rat}(hF:Ae F)(hG:Ae G)(cF:CD 22 F)(cG:CD 22 G)(lF:pl F<=7)(lG:pl G<=7):Ol F G 0 F G:=
 ⟨hF,hG,fun _ _=>Iff.rfl,cF.mono (by show 22<=44;omega),cG.mono (by show 22<=44;omega),lF,lG⟩
theorem Ol.step{F0 G0 F G:Nat->Rat}{j:Nat}(h:Ol F0 G0 j F G)(h0:G≠pz):Ol F0 G0 (j+1) G (mn (pr F G)):=by
 obtain⟨hF,hG,hd,cF,cG,lF,lG⟩:=h;have hp:=AL hG h0;have hr:=EX hF hG;have hs:=BD (Et hF hG h0);have c1:=CD.pr (n:=8) ((AA hF).mono Aa) hG h0 cF cG;refine⟨hG,KH hr,fun E hE=>?_,cG.mono (Qh Aa),c1.mn.mono ?_,Aa,by rw[R4 hr];omega⟩
 ·rw[NT hr,LD];exact hd E hE
 ·show _<=18*Rq 44 j+16
  omega
theorem Ol.end_{F0 G0 F G:Nat->Rat}{j:Nat}(h:Ol F0 G0 j F G)(h0:G=pz):KQ F0 G0 (mn F):=by
 obtain⟨hF,hG,hd,_⟩:=h;subst h0;exact(KQ.zero hF).of hd
theorem Ol.room{F0 G0 F G:Nat->Rat}{j:Nat}(h:Ol F0 G0 j F G)(h0:G≠pz):j<=6/\Rq 44 j+(pl F+2)*(Rq 44 j+1)+2*Rq 44 j+2<=68719476736/\pl (pr F G)<=6/\CD (9*Rq 44 j+8) (pr F G):=by
 obtain⟨hF,hG,hd,cF,cG,lF,lG⟩:=h;have hp:=AL hG h0;have hs:=BD (Et hF hG h0);have c1:=CD.pr (n:=8) ((AA hF).mono Aa) hG h0 cF cG;have h6:Rq 44 j<=Rq 44 6:=Qh Aa;have h7:Rq 44 6=1528549360:=rfl;have h8:(pl F+2)*(Rq 44 j+1)<=9*(Rq 44 j+1):=Nat.mul_le_mul_right _ Aa;exact⟨Aa,Aa,Aa,c1.mono Aa⟩
def Nu:Nat->Nat
 | 0=>22
 | 1=>22
 | j+2=>Nu j+8*(Nu (j+1)+1)
def kQ(j:Nat):Nat:=1+8*(Nu j+8*(Nu (j+1)+1)+Nu (j+1)+1)
def Vm:Nat->Nat
 | 0=>3
 | 1=>3
 | j+2=>Vm j+(kQ j+Vm (j+1)+1)+1
theorem Te:∀ j,Nu j<=Nu (j+1)
 | 0=>Nat.le_refl _
 | j+1=>by show _<=Nu j+8*(Nu (j+1)+1);omega
theorem Sl:∀ j,Vm j<=Vm (j+1)
 | 0=>Nat.le_refl _
 | j+1=>by show _<=Vm j+(kQ j+Vm (j+1)+1)+1;omega
theorem IQ{f:Nat->Nat}(h:∀ j,f j<=f (j+1)){i j:Nat}(k:i<=j):f i<=f j:=by
 induction j with
 | zero=>obtain rfl:i=0:=Aa;exact Nat.le_refl _
 | succ j ih =>
  rcases Nat.eq_or_lt_of_le k with e | e
  ·rw[e];exact Nat.le_refl _
  ·exact Nat.le_trans (ih Aa) (h j)
theorem gN:Nu 7=7310526:=rfl
theorem fZ:Vm 7=76218651:=rfl
def Oh(F0 G0:Nat->Rat)(j:Nat)(R S U N:Nat->Rat):Prop:=
 (Ae R/\Ae S/\Ae U/\Ae N)/\(∀ E,Ae E->(Dv E R/\Dv E S↔Dv E F0/\Dv E G0)) /\
 (∃ V W,Ae V/\Ae W/\pad (cv U F0) (cv V G0)=R/\pad (cv N F0) (cv W G0)=S) /\
 (CD (Nu j) R/\CD (Nu (j+1)) S/\CD (Vm j) U/\CD (Vm (j+1)) N)/\pl R<=7/\pl S+j<=7/\pl G0<=7 /\
 ((j=0/\U=pone/\N=pz/\S=G0)\/(1<=j/\pl N+pl R<=pl G0+1/\pl U+pl R<=pl G0+1/\pl S<=pl R/\R≠pz))
theorem Oh.start{F G:Nat->Rat}(hF:Ae F)(hG:Ae G)(cF:CD 22 F)(cG:CD 22 G)(lF:pl F<=7)(lG:pl G<=7):Oh F G 0 F G pone pz:=
 ⟨⟨hF,hG,CE,Ae.pz⟩,fun _ _=>Iff.rfl,⟨pz,pone,Ae.pz,CE,by rw[Br,Cn];funext n;simp only[pad,pz];grind,by rw[Br,Cn];funext n;simp only[pad,pz];grind⟩,
  ⟨cF,cG,CD.pone,CD.pz.mono (by show 1<=3;omega)⟩,lF,lG,lG,.inl ⟨rfl,rfl,rfl,rfl⟩⟩
theorem Oh.step{F0 G0 R S U N:Nat->Rat}{j:Nat}(h:Oh F0 G0 j R S U N)(h0:S≠pz):Oh F0 G0 (j+1) S (pr R S) N (psb U (cv (pq R S) N)):=by
 obtain⟨⟨hR,hS,hU,hN⟩,hd,⟨V,W,hV,hW,e1,e2⟩,⟨cR,cS,cU,cN⟩,lR,lS,lG,hj⟩:=h;have hp:=AL hS h0;have hs:=BD (Et hR hS h0);have hR8:Be (8+pl S - 1) R:=(AA hR).mono Aa;have q8:=KN hR8 hS h0;have hq:=Dm R S;have c1:=CD.pr hR8 hS h0 cR cS;have c2:=CD.pq hR8 hS h0 cR cS;refine⟨⟨hS,EX hR hS,hN,hU.psb (hq.cv hN)⟩,fun E hE=>by rw[LD];exact hd E hE,⟨W,psb V (cv (pq R S) W),hW,hV.psb (hq.cv hW),e2,?_⟩,
  ⟨cS,c1,cN,cU.psb (CD.cv q8 Aa c2 cN)⟩,Aa,Aa,lG,.inr ?_⟩
 ·show _=psb R (cv (pq R S) S)
  rw[Fu,Fu,Ag,Ag,<-e2,Ez]
  conv=>rhs;rw[<-e1]
  funext n;simp only[pad,psb];grind
 ·rcases hj with⟨rfl,rfl,rfl,rfl⟩ | ⟨hj,d1,d2,d3,d4⟩
  ·have e:psb pone (cv (pq R S) pz)=pone:=by rw[JY];funext n;simp only[psb,pz];grind
   have l1:=BD CP;rw[e,BR];exact⟨Aa,Aa,Aa,Aa,h0⟩
  ·have q1:=KN (n:=pl R - pl S+1) ((AA hR).mono Aa) hS h0
   have l1:pl (psb U (cv (pq R S) N))<=pl G0+1 - pl S:=BD (((AA hU).mono Aa).psb ((q1.cv (AA hN)).mono Aa));exact⟨Aa,Aa,Aa,Aa,h0⟩
theorem Oh.room{F0 G0 R S U N:Nat->Rat}{j:Nat}(h:Oh F0 G0 j R S U N)(h0:S≠pz):j<=6/\Nu j<=7310526/\Nu (j+1)<=7310526/\Vm j<=76218651/\Vm (j+1)<=76218651/\Be 8 (pq R S)/\pl N<=8/\(∀ i,qsz (pq R S i)<=73105268) /\
  Nu j+(pl R+2)*(Nu (j+1)+1)+2*Nu (j+1)+2<=68719476736/\(∀ i,qsz (cv (pq R S) N i)<=661060805)/\pl U<=8:=by
 obtain⟨⟨hR,hS,hU,hN⟩,hd,-,⟨cR,cS,cU,cN⟩,lR,lS,lG,hj⟩:=h;have hp:=AL hS h0;have hR8:Be (8+pl S - 1) R:=(AA hR).mono Aa;have q8:=KN hR8 hS h0;have b1:Nu j<=7310526:=by rw[<-gN];exact IQ Te Aa
 have b2:Nu (j+1)<=7310526:=by rw[<-gN];exact IQ Te Aa
 have a1:Vm j<=76218651:=by rw[<-fZ];exact IQ Sl Aa
 have a2:Vm (j+1)<=76218651:=by rw[<-fZ];exact IQ Sl Aa
 have c2:=CD.pq hR8 hS h0 cR cS;have c3:=CD.cv q8 Aa c2 cN;have h8:(pl R+2)*(Nu (j+1)+1)<=9*(Nu (j+1)+1):=Nat.mul_le_mul_right _ Aa;have lN:pl N<=8/\pl U<=8:=by
  rcases hj with⟨rfl,rfl,rfl,rfl⟩ | ⟨hj,d1,d2,d3,d4⟩
  ·have:=BD CP
   rw[BR];omega
  ·omega
 refine⟨Aa,b1,b2,a1,a2,q8,lN.1,fun i=>?_,Aa,fun i=>?_,lN.2⟩
 ·have:=Pk hR8 hS h0 cR cS i;omega
 ·have:=c3.elem i;omega
theorem Oh.end_{F0 G0 R S U N:Nat->Rat}{j:Nat}(h:Oh F0 G0 j R S U N)(h0:S=pz)(hF:Ae F0)(hG:Ae G0)(hg:G0≠pz)(cF:CD 22 F0)(cG:CD 22 G0)(lF:pl F0<=7) :
  R≠pz/\CD 7310526 R/\CD 14621052 (mn R)/\CD 76218651 U/\CD 83529177 (psc (1 / ld R) U)/\pl U<=7/\1<=pl R/\pl R<=7 /\
  pq G0 (mn R)≠pz/\CD 1052715993 (pq G0 (mn R))/\pl (pq G0 (mn R))<=7 /\
  CD 8505257129 (pr (psc (1 / ld R) U) (pq G0 (mn R)))/\pl (pr (psc (1 / ld R) U) (pq G0 (mn R)))<=7 /\
  CD 8519878205 (psb (mn R) (cv (pr (psc (1 / ld R) U) (pq G0 (mn R))) F0))/\pl (psb (mn R) (cv (pr (psc (1 / ld R) U) (pq G0 (mn R))) F0))<=14 /\
  (∀ i,qsz (pq (psb (mn R) (cv (pr (psc (1 / ld R) U) (pq G0 (mn R))) F0)) G0 i)<=8519878572) /\
  jT F0 G0 (mn R) (pr (psc (1 / ld R) U) (pq G0 (mn R))) (pq (psb (mn R) (cv (pr (psc (1 / ld R) U) (pq G0 (mn R))) F0)) G0):=by
 subst h0;obtain⟨⟨hR,hS,hU,hN⟩,hd,⟨V,W,hV,hW,e1,e2⟩,⟨cR,cS,cU,cN⟩,lR,lS,lG,hj⟩:=h;rcases hj with⟨rfl,rfl,rfl,e⟩ | ⟨hj,d1,d2,d3,d4⟩
 ·exact absurd e.symm hg
 have pR:=AL hR d4;have cR':CD 7310526 R:=cR.mono (by rw[<-gN];exact IQ Te Aa);have cU':CD 76218651 U:=cU.mono (by rw[<-fZ];exact IQ Sl Aa);have hD:=KH hR;have cD:CD 14621052 (mn R):=cR'.mn.mono Aa;have hI:KQ F0 G0 (mn R):=(KQ.zero hR).of hd;have hD0:=jB hR d4;have lD:=R4 hR;obtain⟨A,hA,eA⟩:=hI.2.2.1;obtain⟨Q,hQ,eQ⟩:=hI.2.2.2.1;have hper:pq G0 (mn R)=Q:=by
  have:=(JG hQ hD hD0).1;rw[<-eQ]at this;exact this
 have hQ0:Q≠pz:=fun e=>hg (by rw[eQ,e,Cn]);have lQ:pl G0=pl Q+pl (mn R) - 1:=by rw[eQ];exact Du hQ hD hQ0 hD0
 have pQ:=AL hQ hQ0;have cQ:CD 1052715993 Q:=by
  rw[<-hper];exact(CD.pq (n:=8) ((AA hG).mono Aa) hD hD0 cG cD).mono Aa
 have c1:qsz (1 / ld R)<=7310526:=by
  have e:1 / ld R=(ld R)⁻¹ := by rw[Rat.div_def,Rat.one_mul]
  rw[e];exact Nat.le_trans (PD _) (cR'.elem _)
 have cU1:CD 83529177 (psc (1 / ld R) U):=(cU'.psc _).mono Aa;have hU1:Ae (psc (1 / ld R) U):=hU.psc _;have lU1:pl (psc (1 / ld R) U)<=7:=Nat.le_trans (BD ((AA hU).psc _)) Aa;rw[hper];obtain⟨U1,hU1e⟩:∃ U1,U1=psc (1 / ld R) U:=⟨_,rfl⟩
 rw[<-hU1e]at cU1 hU1 lU1 ⊢;have hU2:=EX hU1 hQ;have cU2:CD 8505257129 (pr U1 Q):=(CD.pr (n:=8) ((AA hU1).mono Aa) hQ hQ0 cU1 cQ).mono Aa;have sU2:=Et hU1 hQ hQ0;have lU2:=BD sU2;have cX:CD 8519878205 (psb (mn R) (cv (pr U1 Q) F0)):=(cD.psb (CD.cv sU2 Aa cU2 cF)).mono Aa;have hX:Ae (psb (mn R) (cv (pr U1 Q) F0)):=hD.psb (hU2.cv hF);have lX:pl (psb (mn R) (cv (pr U1 Q) F0))<=14:=BD (((AA hD).mono Aa).psb (((AA hU2).cv (AA hF)).mono Aa))
 have key:psb (mn R) (cv (pr U1 Q) F0)=cv (pad (psc (1 / ld R) V) (cv (pq U1 Q) A)) G0:=by
  have k1:cv (pr U1 Q) F0=psb (cv U1 F0) (cv (cv (pq U1 Q) Q) F0):=by
   unfold pr;rw[Fu]
  have k2:cv (cv (pq U1 Q) Q) F0=cv (cv (pq U1 Q) A) G0:=by
   rw[Ag,Ag];congr 1
   conv=>lhs;rw[eA]
   conv=>rhs;rw[eQ]
   rw[<-Ag,<-Ag,Av Q A]
  have k3:mn R=pad (cv U1 F0) (cv (psc (1 / ld R) V) G0):=by
   rw[hU1e,Cv,Cv];show psc (1 / ld R) R=_
   conv=>lhs;rw[<-e1]
   funext n;simp only[pad,psc];grind
  rw[k1,k2,CG]
  conv=>lhs;rw[k3]
  funext n;simp only[pad,psb];grind
 have hB:Ae (pad (psc (1 / ld R) V) (cv (pq U1 Q) A)):=(hV.psc _).pad ((Dm _ _).cv hA);have hV2:pq (psb (mn R) (cv (pr U1 Q) F0)) G0=pad (psc (1 / ld R) V) (cv (pq U1 Q) A):=by
  rw[key];exact(JG hB hG hg).1
 refine⟨d4,cR',cD,cU',cU1,Aa,pR,lR,hQ0,cQ,Aa,cU2,Aa,cX,lX,fun i=>?_,hI,hU2,Dm _ _,?_,sU2.mono Aa⟩
 ·have:=Pk (n:=15) ((AA hX).mono Aa) hG hg cX cG i
  omega
 ·rw[hV2,<-key]
  funext n;simp only[pad,psb];grind
end Go.Hp
namespace Go.Proofs.YtmhgnigpmompmaaGreat
open Go.RowKit Go.Hp
/-! ### over polynomials -/
theorem K7(v:Value)(l:List Rat)(w:World)(hv:Qb 0 w v l)(hn:l.length<=1099511627776):Bg 156 #[v] w (fun r w'=>FN w.heap.size w' r (co l)):=
 Ai.imp (Vd v l w hv hn) fun _ _ h=>FN.of_trim h rfl
theorem XU(v u:Value)(l m:List Rat)(s t:Nat)(w:World)(hv:Qb 0 w v l)(hu:Qb 0 w u m)(h0:co m≠pz)(hF:CD s (co l))(hG:CD t (co m))(hn:l.length<=274877906944)(hm:m.length<=274877906944)(hK:s+(pl (co l)+2)*(t+1)+2*t+2<=274877906944) :
  Bg 114 #[v,u] w (fun r w'=>∃ a b,r = .tuple #[a,b,.int .i64 0]/\FN w.heap.size w' a (pq (co l) (co m))/\FN w.heap.size w' b (pr (co l) (co m))):=by
 have HV:=Af hv;have HU:=Af hu;obtain⟨A,c,rfl⟩:=hv.len;obtain⟨E,d,rfl⟩:=hu.len;clear hv hu;have hp0:=BD (KM l);have HX:=Af (Au h0 (Au hF (Au hG (Au hK (AL (Ae.co m) h0)))));clear h0 hF hG hK
 go_enter Tryz.func114,Tryz.ntmps114
 go_wp2_with fail
 refine AQ (K7 _ m _ HU.out Aa) ?_;rintro r1 w1 hr1 hx1;have Hr1:=Af hr1;obtain⟨A1,c1,l1,rfl,k1,k2,-⟩:=hr1.form;have b0:((pl (co m):Int)==0)=false:=by have:=HX.out.2.2.2.2;simp;omega
 clear hr1
 go_wp2_with fail
 refine AQ (K7 _ l _ (HV.out.ext hx1) Aa) ?_;rintro r2 w2 hr2 hx2;have Hr2:=Af hr2;clear hr2
 go_wp2_with fail
 refine AQ (XC _ _ (co l) (co m) s t _ (Hr2.out.base_le (Nat.zero_le _)) ((Hr1.out.ext hx2).base_le (Nat.zero_le _)) HX.out.1 HX.out.2.1 HX.out.2.2.1 Aa HX.out.2.2.2.1) ?_;rintro r3 w3 ⟨a,b,rfl,ha,hb⟩ hx3;have Hab:=Af (Au ha hb);clear ha hb;have s1:=hx1.size;have s2:=hx2.size;go_wp2
 go_ret3
 exact Ai.mk ⟨_,_,rfl,Hab.out.1.base_le Aa,Hab.out.2.base_le Aa⟩ ((hx1.trans hx2).trans hx3)
end Go.Proofs.YtmhgnigpmompmaaGreat
namespace Go.Hp
open Go.RowKit
theorem FN.upd{base:Nat}{G:List Nat}{w w':World}{v:Value}{F:Nat->Rat}(h:FN base w v F)(U:Cc G w w')(hG:∀ g∈G,g < base):FN base w' v F:=by
 obtain⟨l,h1,h2,h3⟩:=h;exact⟨l,CU.upd h1 U hG fun _ _ q=>q.kd U.kd,h2,h3⟩
end Go.Hp
namespace Go.Proofs.YtmhgnigpmompmaaGreat
open Go.RowKit Go.Hp
theorem kI(n:Int)(w:World)(h1 : -4294967296 < n)(h2:n < 4294967296):Bg 58 #[.int .i64 n] w (fun r w'=>AO w' r n):=by
 go_enter Tryz.func58,Tryz.ntmps58
 by_cases hneg:n < 0
 ·have hb:decide (n < 0)=true:=by simpa using hneg
  have Hw:=Af (LH (x:=n) Aa hneg);obtain⟨N,hN⟩:∃ N,N=n.natAbs:=⟨_,rfl⟩
  have HN:=Af hN;have hNb:N < 4294967296:=by omega
  clear hN;go_wp2;obtain⟨W9,eW9,e9,x9⟩:=Ba.made (w.alloc (.cells #[.bool false,.slice none 0 0] 26)) 26 #[.bool true,.slice none 0 0] (by simp[Ah]);rw[<-eW9];clear eW9;rw[World.size_alloc]at e9
  go_loopw [3] (fun uv wx=>∃ m:Nat,uv = .int .u64 m/\m < 4294967296/\((m=N/\Ba wx (w.heap.size+1) 26 #[.bool true,.slice none 0 0])\/(m=0/\N≠0/\∃ A c,Ba wx (w.heap.size+1) 26 #[.bool true,.slice A 1 c]/\BH wx (.slice A 1 c) [N]))/\Ext (w.alloc (.cells #[.bool false,.slice none 0 0] 26)) wx) (fun uv _=>(intOf uv).toNat)
  case atStart=>exact⟨N,by rw[Hw.out,HN.out],hNb,.inl ⟨rfl,e9⟩,x9⟩
  case round =>
   clear e9 x9;obtain⟨m,rfl,hm,hst,hx⟩:=hrel;by_cases h0:m=0
   ·have hr:∃ A k c,Ba wr (w.heap.size+1) 26 #[.bool true,.slice A k c]/\AO wr (.agg #[.bool true,.slice A k c]) n:=by
     rcases hst with⟨e,hb⟩ | ⟨_,hne,A,c,hb,hd⟩
     ·exact⟨_,_,_,hb,by have h3:=HN.out;omega⟩
     ·exact⟨_,_,_,hb,AO.of_one hd hne (by have h3:=HN.out;(simp;omega))⟩
    obtain⟨A5,n5,c5,ez,hr⟩:=hr;have H0:=Af h0;clear h0;have Hr:=Af hr;clear hr hst;have hm0:¬ (0 < (m:Int)):=by have:=H0.out;omega
    have cez:=ez.cells2;have fez:=ez.frozen;have hx1:=hx;clear hx;have hc1:=hx1.cells;have hf1:=hx1.frozens;have Hfin:=Af (Dk Hr.out hx1.a1 (AV.at_ hx1 (g:=w.heap.size+0) Ac (by simp[Ah])) Aa);go_wp2;refine bodyPost_ret (v := .agg #[.bool true,.slice A5 n5 c5]) (by simp[results,Tryz.results58,go_sem,hc1]) rfl ?_;exact Hfin.out
   ·obtain⟨rfl,ez⟩:m=N/\Ba wr (w.heap.size+1) 26 #[.bool true,.slice none 0 0]:=by
     rcases hst with⟨e,hb⟩ | ⟨e,_⟩
     ·exact⟨e,hb⟩
     ·exact absurd e h0
    have hm0:0 < m:=by omega
    have hsz:w.heap.size<=wr.heap.size:=hx.a1.size;clear hst;have cez:=ez.cells2;have fez:=ez.frozen
    go_wp2_with (at_builtin;refine Bu rfl _ _ 24 rfl (.slice none 0 0) (.slice (some ⟨wr.heap.size,0,none⟩) 1 1) rfl rfl (Q3 wr w.heap.size _ _ [] m _ _ (Ic.nil _ _) (by first | rfl | omega) Ac hsz rfl) ?_)
    rintro v' w5 hown hg;have xa:Ext wr w5:=((Ext.refl wr).alloc _).grown hg (fun k hk=>by simp[Value.ownBlock]at hk);have hd:=hown.digv (Bc.cons hm Bc.nil);have hd2:=hd;obtain⟨A5,c5,rfl,-,-,-⟩:=hd2;clear hown hg;have ez5:=ez.ext xa;replace hx:=hx.trans xa;clear ez xa cez fez;have cez5:=ez5.cells2;have fez5:=ez5.frozen;have Hd:=Af hd;clear hd;have H0:=Af h0;clear h0;go_wp2;have eb:=ez5.set_ 1 (u := .slice A5 1 c5) rfl
    have U:=Cc.set_ ez5.nodig 1 (.slice A5 1 c5);replace hx:=U.from_ hx Ac;have Hdd:=Af (show BH _ _ _ from BH.kd Hd.out U.kd)
    go_roundw
    case rel=>exact⟨0,by go_num,Aa,.inr ⟨rfl,H0.out,A5,c5,eb,Hdd.out⟩,hx⟩
    case measure=>simp[intOf]<;>omega
 ·have hb:decide (n < 0)=false:=by simpa using hneg
  have Hw:=Af (Xu (x:=n) Aa Aa);obtain⟨N,hN⟩:∃ N,N=n.natAbs:=⟨_,rfl⟩
  have HN:=Af hN;have hNb:N < 4294967296:=by omega
  clear hN;go_wp2;obtain⟨W9,eW9,e9,x9⟩:=Ba.made (w.alloc (.cells #[.bool false,.slice none 0 0] 26)) 26 #[.bool false,.slice none 0 0] (by simp[Ah]);rw[<-eW9];clear eW9;rw[World.size_alloc]at e9
  go_loopw [3] (fun uv wx=>∃ m:Nat,uv = .int .u64 m/\m < 4294967296/\((m=N/\Ba wx (w.heap.size+1) 26 #[.bool false,.slice none 0 0])\/(m=0/\N≠0/\∃ A c,Ba wx (w.heap.size+1) 26 #[.bool false,.slice A 1 c]/\BH wx (.slice A 1 c) [N]))/\Ext (w.alloc (.cells #[.bool false,.slice none 0 0] 26)) wx) (fun uv _=>(intOf uv).toNat)
  case atStart=>exact⟨N,by(congr 1;have h3:=HN.out;omega),hNb,.inl ⟨rfl,e9⟩,x9⟩
  case round =>
   clear e9 x9;obtain⟨m,rfl,hm,hst,hx⟩:=hrel;by_cases h0:m=0
   ·have hr:∃ A k c,Ba wr (w.heap.size+1) 26 #[.bool false,.slice A k c]/\AO wr (.agg #[.bool false,.slice A k c]) n:=by
     rcases hst with⟨e,hb⟩ | ⟨_,hne,A,c,hb,hd⟩
     ·exact⟨_,_,_,hb,by have h3:=HN.out;(have e5:n=0:=by omega) ; rw[e5];exact AO.of_nil⟩
     ·exact⟨_,_,_,hb,AO.of_one hd hne (by have h3:=HN.out;(simp;omega))⟩
    obtain⟨A5,n5,c5,ez,hr⟩:=hr;have H0:=Af h0;clear h0;have Hr:=Af hr;clear hr hst;have hm0:¬ (0 < (m:Int)):=by have:=H0.out;omega
    have cez:=ez.cells2;have fez:=ez.frozen;have hx1:=hx;clear hx;have hc1:=hx1.cells;have hf1:=hx1.frozens;have Hfin:=Af (Dk Hr.out hx1.a1 (AV.at_ hx1 (g:=w.heap.size+0) Ac (by simp[Ah])) Aa);go_wp2;refine bodyPost_ret (v := .agg #[.bool false,.slice A5 n5 c5]) (by simp[results,Tryz.results58,go_sem,hc1]) rfl ?_;exact Hfin.out
   ·obtain⟨rfl,ez⟩:m=N/\Ba wr (w.heap.size+1) 26 #[.bool false,.slice none 0 0]:=by
     rcases hst with⟨e,hb⟩ | ⟨e,_⟩
     ·exact⟨e,hb⟩
     ·exact absurd e h0
    have hm0:0 < m:=by omega
    have hsz:w.heap.size<=wr.heap.size:=hx.a1.size;clear hst;have cez:=ez.cells2;have fez:=ez.frozen
    go_wp2_with (at_builtin;refine Bu rfl _ _ 24 rfl (.slice none 0 0) (.slice (some ⟨wr.heap.size,0,none⟩) 1 1) rfl rfl (Q3 wr w.heap.size _ _ [] m _ _ (Ic.nil _ _) (by first | rfl | omega) Ac hsz rfl) ?_)
    rintro v' w5 hown hg;have xa:Ext wr w5:=((Ext.refl wr).alloc _).grown hg (fun k hk=>by simp[Value.ownBlock]at hk);have hd:=hown.digv (Bc.cons hm Bc.nil);have hd2:=hd;obtain⟨A5,c5,rfl,-,-,-⟩:=hd2;clear hown hg;have ez5:=ez.ext xa;replace hx:=hx.trans xa;clear ez xa cez fez;have cez5:=ez5.cells2;have fez5:=ez5.frozen;have Hd:=Af hd;clear hd;have H0:=Af h0;clear h0;go_wp2;have eb:=ez5.set_ 1 (u := .slice A5 1 c5) rfl
    have U:=Cc.set_ ez5.nodig 1 (.slice A5 1 c5);replace hx:=U.from_ hx Ac;have Hdd:=Af (show BH _ _ _ from BH.kd Hd.out U.kd)
    go_roundw
    case rel=>exact⟨0,by go_num,Aa,.inr ⟨rfl,H0.out,A5,c5,eb,Hdd.out⟩,hx⟩
    case measure=>simp[intOf]<;>omega
theorem jZ(n:Int)(w:World)(h1 : -4294967296 < n)(h2:n < 4294967296):Bg 38 #[.int .i64 n] w (fun r w'=>BX w' r (n:Rat)):=by
 go_enter Tryz.func38,Tryz.ntmps38
 go_wp2_with fail
 refine AQ (kI n _ h1 h2) ?_;rintro r w1 hn hx1
 go_wp2_with fail
 refine AQ (kI 1 _ Aa Aa) ?_;rintro r w2 h1' hx2;replace hn:=hn.ext hx2;replace hx1:=hx1.trans hx2;clear hx2;obtain⟨b5,A5,n5,c5,rfl⟩:=hn.cells;obtain⟨b6,A6,n6,c6,rfl⟩:=h1'.cells;have hr:=BX.mk_ hn h1' (q:=(n:Rat)) rfl rfl;clear hn h1';have hc1:=hx1.cells;have hf1:=hx1.frozens;have Hfin:=Af (Fx hr hx1.a1 (AV.at_ hx1 (g:=w.heap.size+0) Ac (by simp[Ah])) Aa);clear hr;go_wp2;refine bodyPost_ret (v := .agg #[.bool b5,.slice A5 n5 c5,.bool b6,.slice A6 n6 c6]) (by simp[results,Tryz.results38,go_sem,hc1]) rfl ?_
 exact Hfin.out
end Go.Proofs.YtmhgnigpmompmaaGreat
namespace Go.Hp
open Go.RowKit
def Ua(w:World)(v:Value)(ns:List Int):Prop:=∃ g c,v = .slice (some ⟨g,0,none⟩) ns.length c/\ns.length<=c/\c<=9223372036854775807/\∀ j (h:j < ns.length),w.cell? ⟨g,j,none⟩=some (.int .i64 ns[j])
theorem Ua.new(w:World)(t:TypeId)(ns:List Int)(h:ns.length<=1000):Ua (w.alloc (.cells (ns.map fun n=>Value.int .i64 n).toArray t)) (.slice (some ⟨w.heap.size,0,none⟩) ns.length ns.length) ns:=
 ⟨_,_,rfl,Nat.le_refl _,Aa,fun j hj=>by
  rw[cell_of_row _ w.heap.size j _ t (0,0) (heap_alloc_new w _)];simp[hj]⟩
theorem PW.at_{base n c:Nat}{w:World}{A:Option Addr}{l:List Rat}(h:PW base w (.slice A n c) l){j:Nat}(hj:j < l.length) :
  ∃ g o b A1 n c b' A1' n' c',A=some ⟨g,o,none⟩/\base<=g/\w.cell? ⟨g,o+j*4,none⟩=some (.bool b)/\w.cell? ⟨g,o+j*4+1,none⟩=some (.slice A1 n c)/\w.cell? ⟨g,o+j*4+2,none⟩=some (.bool b')/\w.cell? ⟨g,o+j*4+3,none⟩=some (.slice A1' n' c')/\BX w (.agg #[.bool b,.slice A1 n c,.bool b',.slice A1' n' c']) l[j]:=by
 obtain⟨A',c',e1,h2,h3,h4⟩:=h;have e5:A'=A:=by injection e1 with h1;exact h1.symm
 subst e5;exact Mr.at_ h4 hj
end Go.Hp
namespace Go.Proofs.YtmhgnigpmompmaaGreat
open Go.RowKit Go.Hp
theorem RB(v:Value)(x:Int)(w:World)(hv:Bj w v x):Bg 174 #[v] w (fun r _=>∃ b:Nat,r = .int .i64 b/\BL x.natAbs b):=by
 obtain⟨neg,A,n,c,N,rfl,h1,h2,h3,hN,hx⟩:=hv.form;have HN:=Af hN;clear hN hv;have Hx:=Af (show x.natAbs=N by rw[hx];cases neg<;>simp);clear hx
 go_enter Tryz.func174,Tryz.ntmps174
 go_wp2_with fail
 refine AQ (Bo _ N n _ (HN.out.ext ((Ext.refl w).alloc _))) ?_;rintro r w1 hr hx1;obtain⟨ds,hd,hnv,ht,hl⟩:=hr.len;obtain⟨E,p1,rfl,hl1,hc1,hE⟩:=hd;have HX:=Af (show x.natAbs=nv ds by rw[Hx.out,<-hnv]);have hx:=hx1.a1;have hm:ds.length<=1099511627776:=by rw[hl];exact Nat.le_trans HN.out.sz h3
 clear hx1 hr hl HN Hx hnv h1 h2 h3;rcases Nat.eq_zero_or_pos ds.length with h0 | h0
 ·have hb:(((ds.length:Nat):Int)==0)=true:=by rw[h0];rfl
  have:ds=[]:=List.eq_nil_of_length_eq_zero h0;clear h0;have Hd:=Af this;clear this;go_wp2
  go_ret
  exact Ai.mk ⟨0,rfl,by rw[HX.out,Hd.out];exact BL.zero⟩ hx
 ·have hb:(((ds.length:Nat):Int)==0)=false:=beq_eq_false_iff_ne.2 Aa
  obtain⟨a,ha,hca⟩:=Cu hE (k:=ds.length - 1) Aa;have x1:=AZ hE.1 (ds.length - 1);have hd0:dg ds (ds.length - 1)≠0:=by
   rw[DN Aa];have:=ht (List.ne_nil_of_length_pos h0);rwa[List.getLast_eq_getElem]at this
  obtain⟨d,hdd⟩:∃ d,d=dg ds (ds.length - 1):=⟨_,rfl⟩
  rw[<-hdd]at hca x1 hd0;obtain⟨q1,q2⟩:=G7 d d (Nat.le_refl _) Aa;have q3:=XZ hd0 x1 q1 (q2 hd0);have Hd:=Af (Au hdd (Au ht (Au q1 q3)));clear hdd ht q1 q2 q3;have hbl:=Lib.bitLen_le d 32 Ab Aa;obtain⟨m,hmm⟩:∃ m,ds.length=m+1:=⟨ds.length - 1,Aa⟩
  rw[hmm]at hca hb hl1 hm ⊢;clear h0;have Hm:=Af hmm;clear hmm;subst ha;rw[Nat.add_sub_cancel]at hca;clear hd0
  go_wp2_with (go_at_call 188;refine(O0 _ _ Aa Aa).mono ?_;rintro e w' ⟨rfl,rfl⟩;rw[Int.toNat_natCast])
  go_ret
  refine Ai.mk ⟨32*m+Lib.bitLen d,by congr 1,?_⟩ hx;have:=BL.top (ds:=ds) (j:=Lib.bitLen d) hE.1 (by have:=Hm.out;omega) (by rw[<-Hd.out.1];exact Hd.out.2.2.1) Hd.out.2.2.2.1 (by rw[<-Hd.out.1];exact Hd.out.2.2.2.2);rw[Hm.out,Nat.add_sub_cancel]at this;rw[HX.out];exact this
theorem aC(v u:Value)(x y:Int)(w:World)(hv:Bj w v x)(hu:Bj w u y):Bg 189 #[v,u] w (fun r _=>r = .int .i64 (x - y).sign):=by
 have HV:=Af hv;have HU:=Af hu;obtain⟨neg,A,n,c,N,rfl,h1,h2,h3,hN,hx⟩:=hv.form;obtain⟨neg',A',n',c',M,rfl,k1,k2,k3,kN,hy⟩:=hu.form;have HN:=Af hN;have HM:=Af kN;clear hN hv hu kN;have Hx:=Af (show x.natAbs=N/\y.natAbs=M by rw[hx,hy];cases neg<;>cases neg'<;>simp);clear hx hy;have r1:=JC x;have r2:=JC y
 go_enter Tryz.func189,Tryz.ntmps189
 go_wp2;refine EE 4 [7,8,9,10] [2,3] [_,_] [(kv ?_),(kv (.int .i64 x.sign)),(kv ?_),(kv (.int .i64 y.sign))] (fun γ w'=>[True,True,True,True]) ?s1 ?_
 case s1 =>
  iterate 4 refine⟨?_,?_⟩
  trivial
  iterate 1 focus
   refine Bi fun _ w' he R hR=>?_;have hc:=he.cells;go_simp;exact C8 hR
  ·refine Bi fun _ w' he R hR=>?_
   go_simp;exact OA (Ib _ x w' (HV.out.ext he.a2)) hR
  iterate 1 focus
   refine Bi fun _ w' he R hR=>?_;have hc:=he.cells;go_simp;exact C8 hR
  ·refine Bi fun _ w' he R hR=>?_
   go_simp;exact OA (Ib _ y w' (HU.out.ext he.a2)) hR
 intro γ w1 hx1 hF;clear hF;simp only[Bw,Nat.reduceAdd];clear γ;by_cases hs:x.sign=y.sign
 ·have hb:(x.sign != y.sign)=false:=by simp[hs]
  have Hs:=Af (Qm hs);clear hs;have ea:=((Ba.new w 26 #[.bool neg,.slice A n c] (by simp[Ah])).alloc (.cells #[.bool neg',.slice A' n' c'] 26)).ext hx1;have eb:=(Ba.new (w.alloc (.cells #[.bool neg,.slice A n c] 26)) 26 #[.bool neg',.slice A' n' c'] (by simp[Ah])).ext hx1;rw[World.size_alloc]at eb;have cea:=ea.cells2;have fea:=ea.frozen;have ceb:=eb.cells2;have feb:=eb.frozen
  go_wp2_with fail
  refine EE 8 [18,19,20,21,22,23,24,25] [5,2,3] [_,_,_] [(kv ?_),(kv ?_),(kv ?_),(fun γ=>γ 3),(kv ?_),(kv ?_),(fun γ=>γ 6),(kv (.int .i64 (cmp N M)))] (fun γ w'=>[True,True,True,Bt w' (γ 3) N,True,True,Bt w' (γ 6) M,True]) ?s2 ?_
  case s2 =>
   iterate 8 refine⟨?_,?_⟩
   trivial
   iterate 3 focus
    refine Bi fun _ w' he R hR=>?_;have hc:=he.cells;have cq0:=(ea.ext he).cells2;have cq1:=(eb.ext he).cells2;go_simp;exact C8 hR
   ·refine Bi fun _ w' he R hR=>?_
    go_simp;exact BF (Bo _ N n w' (HN.out.ext (hx1.a2.trans he))) hR
   iterate 2 focus
    refine Bi fun _ w' he R hR=>?_;have hc:=he.cells;have cq0:=(ea.ext he).cells2;have cq1:=(eb.ext he).cells2;go_simp;exact C8 hR
   ·refine Bi fun _ w' he R hR=>?_
    go_simp;exact BF (Bo _ M n' w' (HM.out.ext (hx1.a2.trans he))) hR
   ·refine Gj fun γ w' he hf R hR=>?_;have f3:Bt w' (γ 3) N:=hf 3 Ab;have f6:Bt w' (γ 6) M:=hf 6 Ab;clear hf
    go_simp;exact OA (KT _ _ N M w' f3 f6 (Nat.le_trans HN.out.sz Aa) (Nat.le_trans HM.out.sz Aa)) hR
  intro γ w2 hx2 hF;have p3:Bt w2 (γ 3) N:=AC.get hF 3 Ab;have p6:Bt w2 (γ 6) M:=AC.get hF 6 Ab;clear hF;simp only[Bw,Nat.reduceAdd];generalize γ 3=g3 at *;generalize γ 6=g6 at *;clear γ;have:=Hs.out;rw[Hx.out.1,Hx.out.2]at this;go_wp2
  go_ret
  have hr:=JC (x - y);have hw:wrap64 (x.sign*cmp N M)=(x - y).sign:=by
   rw[show x.sign*cmp N M=(x - y).sign from this];exact IntWalk.wrap64_in _ ⟨Aa,Aa⟩
  exact Ai.mk (by show Value.int .i64 (wrap64 (x.sign*cmp N M))=_;rw[hw]) (hx1.a2.trans hx2)
 ·have hb:(x.sign != y.sign)=true:=by simp[hs]
  have Hs:=Af (Tq hs);clear hs
  go_wp2_with fail
  refine Calls.mono (Qw _ _ Aa Aa) ?_;rintro e w' ⟨rfl,rfl⟩;go_wp2
  go_ret
  exact Ai.mk (by rw[Hs.out];rfl) hx1.a2
set_option maxRecDepth 100000 in
theorem UH(x:Int)(w:World)(h0:0<=x)(h1:x < 65536) :
  Calls Tryz.prog 194 #[.int .u64 x] w fun e w'=>e = .returned (.int .i64 (Lib.bitLen x.toNat))/\w'=w:=by
 have ts:=Tryz.underlying9;by_cases c2:x < 256
 ·have c3:x<=255:=by omega
  go_enter Tryz.func194,Tryz.ntmps194
  go_wp2
  go_ret
  refine⟨Eu ?_,rfl⟩;have e:=Eg x h0 c3;show wrap64 (wrap64 (Lib.len8 x))=_;rw[e];have:=Lib.bitLen_le8' x h0 c3;exact IntWalk.wrap64_in _ ⟨Aa,Aa⟩
 ·have c3:x / 256<=255:=by omega
  have c4:0<=x / 256:=by omega
  go_enter Tryz.func194,Tryz.ntmps194
  go_wp2
  go_ret
  refine⟨Eu ?_,rfl⟩;show wrap64 (8+wrap64 (Lib.len8 (x / 256)))=_;have l:=Lib.bitLen_le8' (x / 256) c4 c3;have s:=Lib.bitLen_shift8 x.toNat Aa Aa;rw[Eg _ c4 c3,IntWalk.wrap64_in _ ⟨Aa,Aa⟩,s,show(x / 256).toNat=x.toNat / 256 from by omega];omega
theorem V5(x:Nat)(w:World)(h:x < 65536) :
  Calls Tryz.prog 190 #[.int .u64 (x:Nat)] w fun e w'=>e = .returned (.int .i64 (Lib.bitLen x:Nat))/\w'=w:=by
 have hb:=Lib.bitLen_le x 16 Ab Aa
 go_enter Tryz.func190,Tryz.ntmps190
 go_wp2_with (go_at_call 194;refine(UH _ _ Aa Aa).mono ?_;rintro e w' ⟨rfl,rfl⟩;rw[Int.toNat_natCast])
 go_ret
 exact⟨rfl,rfl⟩
end Go.Proofs.YtmhgnigpmompmaaGreat
namespace Go.Hp
open Go.RowKit
theorem MX.trim{base:Nat}{w:World}{A:Option Addr}{l:List Int}(h:Li base w A l){c:Nat}(hl:l.length<=c)(hc:c<=9223372036854775807:=by omega):MX base w (.slice A (BN (zq l)).length c) (Rn l):=by
 refine⟨A,c,by rw[NR],by rw[NR];have:=WT l;omega,hc,Dr.take h _⟩
theorem GG{l:List Int}{m:Nat}(hm:m<=l.length)(hz:∀ j,m<=j->(h:j < l.length)->l[j]=0)(hlast:∀ h:m - 1 < l.length,0 < m->l[m - 1]≠0):(BN (zq l)).length=m:=by
 have:=JB (l:=zq l) (m:=m) (by rw[DZ];exact hm) (fun j h1 h2=>by rw[DZ]at h2;rw[LZ h2,hz j h1 h2];rfl) (fun h h0=>by
  rw[DZ]at h;rw[LZ h];intro e;exact hlast h h0 (by exact_mod_cast e))
 rw[this,List.length_take,DZ];omega
theorem Ci.isZP{base:Nat}{w:World}{g:Nat}{t:TypeId}{l:List Int}{F:Nat->Rat}(h:Ci w g t l)(hF:cz l=F)(hb:base<=g){c:Nat}(hc:l.length<=c)(hm:c<=9223372036854775807):AB base w (.slice (some ⟨g,0,none⟩) (BN (zq l)).length c) F:=
 AB.of_trim (MX.trim (h.row hb) hc hm) hF
theorem Gs(l:List Int):(BN (zq l)).length=pl (cz l):=by unfold cz;rw[<-(Fh (zq l)).pl,Gr]
end Go.Hp
namespace Go.Proofs.YtmhgnigpmompmaaGreat
open Go.RowKit Go.Hp
/-- zpoly.trimmed: without the zeros at the end,in place. -/
theorem DW(base:Nat)(A:Option Addr)(c:Nat)(l:List Int)(w:World)(hl:l.length<=c)(hc:c<=9223372036854775807)(hA:Li base w A l) :
  Calls Tryz.prog 119 #[.slice A l.length c] w fun e w'=>e = .returned (.slice A (BN (zq l)).length c)/\w=w':=by
 go_enter Tryz.func119,Tryz.ntmps119
 go_wp2
 go_loop [0] (fun v=>∃ m:Nat,m<=l.length/\v = .slice A m c/\∀ j,m<=j->(h:j < l.length)->l[j]=0) (fun v=>match v with | .slice _ m _=>m | _=>0)
 case atStart=>exact⟨l.length,Nat.le_refl _,rfl,fun j h1 h2=>Aa⟩
 case round =>
  obtain⟨m,hm,rfl,hz⟩:=hrel;by_cases h0:0 < m
  ·obtain⟨m,rfl⟩:∃ k,m=k+1:=⟨m - 1,Aa⟩
   obtain⟨g,o,b,A1,n,c1,rfl,hb,q0,q1,hq⟩:=hA.at_ (j:=m) Aa;have hn:=hq.two.1;by_cases hd0:l[m]'(Aa)=0
   ·have hb:(((n:Nat):Int)==0)=true:=by rw[hn,hd0];rfl
    clear hA hn;go_wp2
    go_round
    case rel=>exact⟨m,Aa,rfl,fun j h1 h2=>by
     rcases Nat.eq_or_lt_of_le h1 with e | e
     ·subst e;exact hd0
     ·exact hz j Aa h2⟩
    case measure=>simp
   ·have hb:(((n:Nat):Int)==0)=false:=by
     have:=Es (n:=l[m].natAbs) Aa;rw[<-hn]at this;simp;omega
    clear hA hn;go_wp2
    go_ret
    have hlen:=GG hm hz (fun h _=>by simpa using hd0);exact⟨by rw[hlen];rfl,rfl⟩
  ·obtain rfl:m=0:=by omega
   go_wp2
   go_ret
   have hlen:=GG hm hz (fun h hh=>Aa);exact⟨by rw[hlen];rfl,rfl⟩
theorem JO:(Tryz.prog.info? 26).map (fun i=>(i.zero,i.size,i.bytes))=some (some (.agg #[.bool false,.slice none 0 0]),2,32):=by kernel_rfl
theorem IM(n:Nat)(x:Int)(hx:x=n)(hn:n<=1099511627776)(w:World):∃ W,(Instr.makeSlice 23 (.int .i64 x) (.int .i64 x)).run Tryz.prog w = .ok (.slice (some ⟨w.heap.size,0,none⟩) n n) W/\Ci W w.heap.size 26 (List.replicate n 0)/\Ext w W:=by
 subst hx;obtain⟨i0,hi,hz0,hz1,hz2⟩:=info_parts JO;have h:=run_make (P:=Tryz.prog) w 23 26 i0 (.agg #[.bool false,.slice none 0 0]) Tryz.underlying23 hi hz0 .i64 .i64 (n:Int) (n:Int) Aa Aa (by rw[hz2];omega) Aa;rw[h,hz1,Int.toNat_natCast];exact⟨_,rfl,Ci.new w _ n,(Ext.refl w).alloc _⟩
theorem XA{la m:List Int}{k n:Nat}(h:la=m.take k ++ List.replicate (n - k) 0)(hk:k < n)(hm:m.length=n){q:Int}(hq:q=m[k]'(by omega)):la.set k q=m.take (k+1) ++ List.replicate (n - (k+1)) 0:=by
 subst h;have h1:(m.take k).length=k:=by simp;omega
 rw[List.set_append,if_neg (by rw[h1];omega),h1,Nat.sub_self,show n - k=(n - (k+1))+1 from Aa,List.replicate_succ,List.set_cons_zero,List.take_succ_eq_append_getElem Aa,hq,List.append_assoc];rfl
theorem EG(v:Value)(l:List Int)(w:World)(hv:Gd 0 w v l)(hn:l.length<=1099511627776):Bg 84 #[v] w (fun r w'=>r = .slice (some ⟨w.heap.size,0,none⟩) (BN (zq l)).length l.length/\Ci w' w.heap.size 26 l):=by
 obtain⟨A,c,rfl,hl,hc,hA⟩:=hv;obtain⟨W0,hmk,ea,hx⟩:=IM l.length (l.length:Int) rfl hn w;have HA:Hid (KL 0 w A l):=Af hA;clear hA
 go_enter Tryz.func84,Tryz.ntmps84
 go_wp2
 go_loopw [11] (fun iv wr=>∃ (k:Nat) (la:List Int),k<=l.length/\iv = .int .i64 k/\Ci wr w.heap.size 26 la/\la.length=l.length/\la=l.take k ++ List.replicate (l.length - k) 0/\Ext w wr) (fun iv _=>l.length - (intOf iv).toNat)
 case atStart=>exact⟨0,_,Nat.zero_le _,rfl,ea,Ac,Ac,hx⟩
 case round =>
  obtain⟨k,la,hk,rfl,ea,hlen,hla,hx⟩:=hrel;have Hla:=Af hla;clear hla;have Hlen:=Af hlen;clear hlen;by_cases hkl:k < l.length
  ·obtain⟨g,o,b,A1,n,c1,rfl,_,q0,q1,hq⟩:=HA.out.at_ (j:=k) hkl
   replace q0:=hx.cell q0;replace q1:=hx.cell q1;have Hq:=Af hq;clear hq
   go_wp2_with fail
   refine AQ (Iz _ _ _ (Hq.out.kd (hx.alloc _).kd)) ?_;rintro r w2 hr hx2;replace ea:=ea.ext hx2.a1;replace hx:=hx.trans hx2.a1;clear hx2 q0 q1;obtain⟨b5,A5,n5,c5,rfl⟩:=hr.cells;have hkla:k < la.length:=by have:=Hlen.out;omega
   obtain⟨_,_,_,_,ca0,ca1,-⟩:=ea.at_ (j:=k) (by first | omega | (simp;omega));have fa0:=ea.frozen (k*2);have fa1:=ea.frozen (k*2+1);go_wp2;obtain⟨W3,eW,ea',U⟩:=ea.put (k:=k) (by first | omega | (simp;omega)) hr;rw[<-eW];clear eW ea;replace hx:=U.from_ hx Ak;have ea:=ea';clear U ea'
   go_roundw
   case rel=>exact⟨k+1,_,Aa,by go_num,ea,by simpa using Hlen.out,XA Hla.out hkl rfl rfl,hx⟩
   case measure=>simp[intOf];omega
  ·obtain rfl:k=l.length:=by omega
   replace ea:Ci wr w.heap.size 26 l:=by
    have:=Hla.out;rw[Nat.sub_self,List.replicate_zero,List.append_nil,List.take_of_length_le (Nat.le_refl _)]at this;rw[<-this];exact ea
   have hrow:=ea.row (Nat.le_refl _)
   go_wp2_with fail
   refine Calls.mono (DW w.heap.size _ _ l _ (Nat.le_refl _) Aa hrow) ?_;rintro e w2 ⟨rfl,rfl⟩;go_wp2
   go_ret
   exact Ai.mk ⟨rfl,ea⟩ hx
theorem J4(v:Value)(l:List Int)(w:World)(hv:Gd 0 w v l)(hn:l.length<=1099511627776):Bg 84 #[v] w (fun r w'=>AB w.heap.size w' r (cz l)):=
 Ai.imp (EG v l w hv hn) fun _ _ ⟨e,h⟩=>by subst e;exact h.isZP rfl (Nat.le_refl _) (Nat.le_refl _) Aa
theorem aG(v u:Value)(x y:Int)(w:World)(hv:Bj w v x)(hu:Bj w u y):Bg 137 #[v,u] w (fun r w'=>AO w' r (x - y)):=by
 have Hv:=Af hv;obtain⟨neg,A,n,c,N,rfl,h1,h2,h3,hN,hx⟩:=hv.form;obtain⟨neg',A',n',c',M,rfl,k1,k2,k3,kN,hy⟩:=hu.form;have HN:=Af kN;clear hN hv hu kN hx;have hs:sz M<=n':=HN.out.sz;have Hy:=Af (show x+(if (!neg')=true then -(M:Int)else M)=x - y by rw[hy];cases neg'<;>simp<;>omega);clear hy
 go_enter Tryz.func137,Tryz.ntmps137
 go_wp2_with fail
 refine EE 7 [5,6,7,8,9,10,11] [2,3] [_,_] [(kv ?_),(kv ?_),(kv ?_),(kv ?_),(kv ?_),(kv ?_),(fun γ=>γ 6)] (fun γ w'=>[True,True,True,True,True,True,Bt w' (γ 6) M]) ?s1 ?_
 case s1 =>
  iterate 7 refine⟨?_,?_⟩
  trivial
  iterate 6 focus
   refine Bi fun _ w' he R hR=>?_;have hc:=he.cells;go_simp;(try go_ints);(try(rw[if_neg Aa]));(try(rw[if_pos Aa]));(try go_simp);(try go_ints)
   exact C8 hR
  ·refine Bi fun _ w' he R hR=>?_
   go_simp;exact BF (Bo _ M n' w' (HN.out.ext he.a3)) hR
 intro γ w1 hx1 hF;have p6:Bt w1 (γ 6) M:=AC.get hF 6 Ab;clear hF;simp only[Bw,Nat.reduceAdd];generalize γ 6=g6 at *;clear γ
 go_wp2_with fail
 refine AQ (Wz _ _ (!neg') x M w1 (Hv.out.ext hx1.a3) p6 Aa) ?_;rintro r w2 hr hx2;rw[Hy.out]at hr;obtain⟨b,A2,n2,c2,rfl⟩:=hr.cells;replace hx1:=hx1.trans hx2;have hc1:=hx1.cells;have hf1:=hx1.frozens;have Hfin:=Af (Dk hr hx1.a3 (AV.at_ hx1 (g:=w.heap.size+2) Ac (by simp[Ah])) Aa);clear hr p6;go_wp2;refine bodyPost_ret (v := .agg #[.bool b,.slice A2 n2 c2]) (by simp[results,Tryz.results137,go_sem,hc1]) rfl ?_
 exact Hfin.out
theorem WI(v u:Value)(x a:Int)(gb:Nat)(b:Bool)(A:Option Addr)(n c:Nat)(w:World)(hv:Bj w v x)(hu:Bj w u 0)(h0:w.cell? ⟨gb,0,none⟩=some (.bool b))(h1:w.cell? ⟨gb,1,none⟩=some (.slice A n c))(ha:Bj w (.agg #[.bool b,.slice A n c]) a) :
  Bg 146 #[v,u,.pointer (some ⟨gb,0,none⟩)] w (fun r w'=>AO w' r (x*a)):=by
 have HV:=Af hv;have HA:=Af ha;obtain⟨b1,A1,n1,c1,rfl⟩:=hv.cells;obtain⟨b2,A2,n2,c2,rfl⟩:=hu.cells;clear hv hu ha;have k0:=fun o o' o''=>((((Ext.refl w).alloc o).alloc o').alloc o'').cell h0;have k1:=fun o o' o''=>((((Ext.refl w).alloc o).alloc o').alloc o'').cell h1;clear h0 h1
 go_enter Tryz.func146,Tryz.ntmps146
 go_wp2_with fail
 refine AQ (Dj _ _ x a _ (HV.out.ext ((((Ext.refl w).alloc _).alloc _).alloc _)) (HA.out.ext ((((Ext.refl w).alloc _).alloc _).alloc _))) ?_;rintro r w1 hr hx1;obtain⟨b5,A5,n5,c5,rfl⟩:=hr.cells;have hc1:=hx1.cells;have hf1:=hx1.frozens;have Hfin:=Af (Dk hr hx1.a3 (AV.at_ hx1 (g:=w.heap.size+2) Ac (by simp[Ah])) Aa);clear hr;go_wp2;refine bodyPost_ret (v := .agg #[.bool b5,.slice A5 n5 c5]) (by simp[results,Tryz.results146,go_sem,hc1]) rfl ?_
 exact Hfin.out
set_option maxRecDepth 20000 in
theorem Ph(v:Value)(l:List Int)(a:Int)(gb:Nat)(bb0:Bool)(B0:Option Addr)(m0 d0:Nat)(w:World)(hv:Gd 0 w v l)(k0:w.cell? ⟨gb,0,none⟩=some (.bool bb0))(k1:w.cell? ⟨gb,1,none⟩=some (.slice B0 m0 d0))(ha:Bj w (.agg #[.bool bb0,.slice B0 m0 d0]) a)(hn:l.length<=1099511627776) :
  Bg 145 #[v,.slice none 0 0,.func (.func 146) #[] #[.pointer (some ⟨gb,0,none⟩)]] w (fun r w'=>AB w.heap.size w' r (psc (a:Rat) (cz l))):=by
 obtain⟨A,c,rfl,hl,hc,hA⟩:=hv;obtain⟨N,hN⟩:∃ N,N=l.length:=⟨_,rfl⟩
 obtain⟨W0,hmk,ea,hx⟩:=IM N (l.length:Int) Aa Aa w;have hlN:l.length<=N:=by omega
 have hN40:N<=1099511627776:=by omega
 have HN:=Af hN;clear hN;have HA:Hid (KL 0 w A l):=Af hA;clear hA;have HC:=Af (Au k0 (Au k1 ha));clear k0 k1 ha;obtain⟨F,hF⟩:∃ F:Nat->Rat,F=psc (a:Rat) (cz l):=⟨_,rfl⟩
 rw[<-hF];have HZ:=Af (show ZI F/\Be N F from⟨by rw[hF];exact(ZI.cz l).psc a,by rw[hF];exact((Cx l).mono hlN).psc _⟩);have HF:=Af hF;clear hF;have HL:=Af (AR N F)
 go_enter Tryz.func145,Tryz.ntmps145
 go_wp2
 go_loopw [19] (fun iv wr=>∃ (k:Nat) (la:List Int),k<=N/\iv = .int .i64 k/\Ci wr w.heap.size 26 la/\la.length=N/\la=(DL N F).take k ++ List.replicate (N - k) 0/\Ext w wr) (fun iv _=>N - (intOf iv).toNat)
 case atStart=>exact⟨0,_,Nat.zero_le _,rfl,ea,Ac,Ac,hx⟩
 case round =>
  obtain⟨k,la,hk,rfl,ea,hlen,hla,hx⟩:=hrel;have Hla:=Af hla;clear hla;have Hlen:=Af hlen;clear hlen;have hbk:k < N\/k=N:=by omega
  rcases hbk with hkl | hkl
  ·have hk1:k < l.length:=by have:=HN.out;omega
   have hk2:¬ (k:Int) < 0:=by omega
   obtain⟨g,o,b,A1,n,c1,rfl,_,q0,q1,hq⟩:=HA.out.at_ (j:=k) hk1;replace q0:=fun o o'=>(((Ext.refl wr).alloc o).alloc o').cell (hx.cell q0);replace q1:=fun o o'=>(((Ext.refl wr).alloc o).alloc o').cell (hx.cell q1);have Hq:=Af hq;clear hq
   go_wp2_with fail
   refine AQ (WI _ _ l[k] a gb bb0 B0 m0 d0 _ (Hq.out.ext ((hx.alloc _).alloc _)) (Bj.zero _) (((hx.alloc _).alloc _).cell HC.out.1) (((hx.alloc _).alloc _).cell HC.out.2.1) (HC.out.2.2.ext ((hx.alloc _).alloc _))) ?_;rintro r w2 hr hx2;replace ea:=ea.ext hx2.a2;replace hx:=hx.trans hx2.a2;clear hx2;obtain⟨b5,A5,n5,c5,rfl⟩:=hr.cells;have hkla:k < la.length:=by have:=Hlen.out;omega
   obtain⟨_,_,_,_,ca0,ca1,-⟩:=ea.at_ (j:=k) (by first | omega | (simp;omega));have fa0:=ea.frozen (k*2);have fa1:=ea.frozen (k*2+1);go_wp2;obtain⟨W3,eW,ea',U⟩:=ea.put (k:=k) (by first | omega | (simp;omega)) hr;rw[<-eW];clear eW ea;replace hx:=U.from_ hx Ak;have ea:=ea';clear U ea'
   go_roundw
   case rel=>exact⟨k+1,_,Aa,by go_num,ea,by simpa using Hlen.out,XA Hla.out hkl HL.out (by rw[Ca,HF.out];show _=((a:Rat)*cz l k).num;rw[Cq hk1,num_mul,Int.mul_comm]),hx⟩
   case measure=>simp[intOf];omega
  ·obtain rfl:N=k:=hkl.symm
   replace ea:Ci wr w.heap.size 26 (DL N F):=by
    have:=Hla.out;rw[Nat.sub_self,List.replicate_zero,List.append_nil,List.take_of_length_le (by rw[HL.out];omega)]at this;rw[<-this];exact ea
   have hrow:=ea.row (Nat.le_refl _);have hT:=DW w.heap.size (some ⟨w.heap.size,0,none⟩) N (DL N F) wr (by rw[HL.out];omega) Aa hrow;rw[HL.out]at hT;have Hrow:=Af hrow;clear hrow
   go_wp2_with fail
   refine Calls.mono hT ?_;rintro e w2 ⟨rfl,rfl⟩;go_wp2
   go_ret
   exact Ai.mk (AB.of_trim (MX.trim Hrow.out (by rw[HL.out];omega)) (Il HZ.out.1 HZ.out.2)) hx
theorem QI(v u:Value)(l:List Int)(a:Int)(w:World)(hv:Gd 0 w v l)(hu:Bj w u a)(hn:l.length<=1099511627776) :
  Bg 96 #[v,u] w (fun r w'=>AB w.heap.size w' r (psc (a:Rat) (cz l))):=by
 have HV:=Af hv;have HU:=Af hu;obtain⟨A,c,rfl⟩:=hv.len;obtain⟨b1,A1,n1,c1,rfl⟩:=hu.cells;clear hv hu;have hb:=Ba.new w 26 #[.bool b1,.slice A1 n1 c1] (by simp[Ah]);have HB:=Af hb.cells2;clear hb
 go_enter Tryz.func96,Tryz.ntmps96
 go_wp2_with fail
 refine AQ (Ph _ l a w.heap.size b1 A1 n1 c1 _ (HV.out.ext ((Ext.refl w).alloc _)) HB.out.1 HB.out.2 (HU.out.ext ((Ext.refl w).alloc _)) hn) ?_;rintro r w1 hr hx1;go_wp2
 go_ret
 exact Ai.mk (hr.base_le Ac) hx1.a1
theorem Ky(v:Value)(base:Nat)(F:Nat->Rat)(w:World)(hv:AB base w v F)(h0:F≠pz):Bg 87 #[v] w (fun r w'=>AO w' r (ld F).num):=by
 have hp:=AL hv.fin h0;obtain⟨A,c,l,rfl,k1,k2,hA,k3,k4,k5⟩:=hv.form;obtain⟨g,o,b,A1,n,c1,rfl,_,q0,q1,hq⟩:=hA.at_ (j:=pl F - 1) Aa;have hl:l[pl F - 1]'(by omega)=(ld F).num:=by
  have h1:=congrFun k5 (pl F - 1);rw[Cq (show pl F - 1 < l.length by omega)]at h1;show _=(F (pl F - 1)).num;rw[<-h1];rfl
 rw[hl]at hq;have Hq:=Af hq;clear hq hA hl k4 k5 hv;have x0:=(Ext.refl w).alloc (.cells #[.bool false,.slice none 0 0] 26);replace q0:=x0.cell q0;replace q1:=x0.cell q1
 go_enter Tryz.func87,Tryz.ntmps87
 go_wp2;have ez:=Ba.new w 26 #[.bool b,.slice A1 n c1] (by simp[Ah]);have x1:=(Ext.refl w).alloc (.cells #[.bool b,.slice A1 n c1] 26);have hz:=Hq.out.kd x1.kd;have cez:=ez.cells2;have fez:=ez.frozen;refine bodyPost_ret (v := .agg #[.bool b,.slice A1 n c1]) (by simp[results,Tryz.results87,go_sem,cez]) rfl ?_;exact Ai.mk hz x1
theorem JA(v:Value)(l:List Int)(w:World)(hv:Gd 0 w v l)(hn:l.length<=1099511627776):Bg 94 #[v] w (fun r w'=>AO w' r (cn (cz l):Nat)):=by
 have hsz:=fun i=>Ot hv.sz Aa i;obtain⟨A,c,rfl,hl,hc,hA⟩:=hv;have HA:Hid (KL 0 w A l):=Af hA;clear hA;have HS:=Af hsz;clear hsz;rw[iP (Cx l)]
 go_enter Tryz.func94,Tryz.ntmps94
 go_wp2
 go_loopw [8] (fun iv wr=>∃ k:Nat,k<=l.length/\iv = .int .i64 k/\Ba wr w.heap.size 26 #[.bool false,.slice none 0 0]/\Bp wr (w.heap.size+1) 26 (ct k (cz l):Nat)/\Ext w wr) (fun iv _=>l.length - (intOf iv).toNat)
 case atStart=>exact⟨0,Nat.zero_le _,rfl,(Ba.new w _ _ (by simp[Ah])).alloc _,Bp.zero (by have:=Ba.new (w.alloc (.cells #[.bool false,.slice none 0 0] 26)) 26 #[.bool false,.slice none 0 0] (by simp[Ah]);rw[World.size_alloc]at this;exact this),((Ext.refl w).alloc _).alloc _⟩
 case round =>
  obtain⟨k,hk,rfl,ea,⟨b,B,bn,bc,eb,hb⟩,hx⟩:=hrel;have Hb:=Af hb;clear hb;by_cases hkl:k < l.length
  ·obtain⟨g,o,b1,A1,n,c1,rfl,_,q0,q1,hq⟩:=HA.out.at_ (j:=k) hkl
   replace q0:=hx.cell q0;replace q1:=hx.cell q1;have Hq:=Af (hq.kd hx.kd);clear hq;have hsk:=Jg HS.out k;have HK:=Af hsk;clear hsk;have xa:=fun o=>(Ext.refl wr).alloc o;have ceb:=eb.cells2;obtain⟨r0,r1⟩:=ceb;replace r0:=fun o=>(xa o).cell r0;replace r1:=fun o=>(xa o).cell r1;clear xa
   go_wp2_with fail
   refine AQ (Un _ _ (ct k (cz l):Nat) l[k] _ ((Hb.out.kd ((Ext.refl _).alloc _).kd).has (by have:=HK.out;simp;omega)) (Hq.out.kd ((Ext.refl _).alloc _).kd)) ?_;rintro r w2 hr hx2;have e1:Int.gcd (ct k (cz l):Nat) l[k]=ct (k+1) (cz l):=by rw[GJ,Cq hkl];rfl
   rw[e1]at hr;obtain⟨b5,A5,n5,c5,rfl⟩:=hr.cells;replace ea:=ea.ext hx2.a1;replace eb:=eb.ext hx2.a1;replace hx:=hx.trans hx2.a1;clear hx2 q0 q1 r0 r1 e1 HK Hb Hq;obtain⟨ceb0,ceb1⟩:=eb.cells2;have feb:=eb.frozen;go_wp2;obtain⟨W3,eW,eb',U⟩:=eb.put2 (.bool b5) (.slice A5 n5 c5);rw[<-eW];clear eW eb;replace hr:=hr.kd U.kd;replace ea:=ea.upd U Ak;replace hx:=U.from_ hx Ak;have eb:=eb';clear U eb'
   go_roundw
   case rel=>exact⟨k+1,Aa,by go_num,ea,Bp.mk eb hr,hx⟩
   case measure=>simp[intOf];omega
  ·obtain rfl:k=l.length:=by omega
   have cea:=ea.cells2;have fea:=ea.frozen;obtain⟨ceb0,ceb1⟩:=eb.cells2;have feb:=eb.frozen;go_wp2;have hr:=Hb.out;obtain⟨W3,eW,ea',U⟩:=ea.put2 (.bool b) (.slice B bn bc);rw[<-eW];clear eW ea;replace hr:=hr.kd U.kd;replace hx:=U.from_ hx Ak;have ea:=ea';clear U ea';clear cea;have cea:=ea.cells2;have fea:=ea.frozen;refine bodyPost_ret (v := .agg #[.bool b,.slice B bn bc]) (by simp[results,Tryz.results94,go_sem,cea]) rfl ?_
   exact Ai.mk hr hx
set_option maxRecDepth 20000 in
theorem Fe(v:Value)(l:List Int)(w:World)(hv:Gd 0 w v l)(hn:l.length<=1099511627776):Bg 85 #[v] w (fun r w'=>AB w.heap.size w' r (pp (cz l))):=by
 have hsz:=fun i=>Ot hv.sz Aa i;have HV:=Af hv;obtain⟨A0,c0,rfl⟩:=hv.len;have hfin:=Ae.cz l;have hzi:=ZI.cz l;have hpl:=BD (Cx l);obtain⟨F,hF⟩:∃ F,F=cz l:=⟨_,rfl⟩
 have hNorm:=J4 _ l w HV.out hn;rw[<-hF]at hsz hfin hzi hNorm hpl;rw[<-hF];have HX:=Af (Au hsz (Au hfin hzi));clear hsz hfin hzi HV hv hF;have HN:=Af hNorm;clear hNorm
 go_enter Tryz.func85,Tryz.ntmps85
 go_wp2_with fail
 refine AQ HN.out ?_;rintro r1 w1 hr1 hx1;have Hr1:=Af hr1;obtain⟨A,c,l1,rfl,k1,k2,hA,k3,k4,k5⟩:=hr1.form;obtain⟨l2,h21,h22,-,h24⟩:=hr1.hz HX.out.1;have H2:=Af (Au h21 (Au h22 h24));clear h21 h22 h24;have HA:=Af (Au hA (Au k3 k5));clear hr1 hA k3 k4 k5 HN;have hpl40:pl F<=1099511627776:=by omega
 go_wp2_with fail
 refine AQ (JA _ l2 _ H2.out.1 (by have:=H2.out.2.1;omega)) ?_;rintro r2 w2 hr2 hx2;rw[H2.out.2.2]at hr2;obtain⟨b5,A5,n5,c5,rfl⟩:=hr2.cells;have hs1:=hx1.size;have hs2:=hx2.size;obtain⟨W0,eW,eb,x0⟩:=Ba.made w2 26 #[.bool b5,.slice A5 n5 c5] (by simp[Ah]);replace hr2:=hr2.kd x0.kd;replace hx2:=hx2.trans x0;by_cases hp:0 < pl F
 ·obtain⟨g,o,b,A1,n,c1,rfl,_,q0,q1,hq⟩:=HA.out.1.at_ (j:=pl F - 1) (by have:=HA.out.2.1;omega)
  have hbb:=hq.two.2;have hld:ld F=(l1[pl F - 1]'(by have:=HA.out.2.1;omega):Rat):=by rw[<-Cq,HA.out.2.2];rfl
  have hpc:pcn F=if b=true then -(cn F:Int)else cn F:=by
   unfold pcn;rw[hld,hbb];by_cases hneg:l1[pl F - 1]'(by have:=HA.out.2.1;omega) < 0
   ·rw[if_pos (by exact_mod_cast hneg),if_pos (by simpa using hneg)]
   ·rw[if_neg (fun h=>hneg (by exact_mod_cast h)),if_neg (by simpa using hneg)]
  have Hpc:=Af hpc;clear hpc hld hbb hq q1;replace q0:=hx2.cell q0;subst eW;clear x0
  go_upto_if 22 with(fail)
  generalize w2.alloc (.cells #[.bool b5,.slice A5 n5 c5] 26)=W0 at *;generalize w2.heap.size=gb at *
  go_cut [] (fun wx=>Bp wx gb 26 (pcn F)/\Ext w1 wx)
  case first =>
   have ceb:=eb.cells2;have feb:=eb.frozen;cases b with
   | true =>
    have hcz:sz ((cn F:Nat):Int).natAbs<=1099511627776:=by have:=Jg HX.out.1 (pl F);simpa[cn] using this
    have Hr2:=Af (hr2.has hcz);clear hcz hr2
    go_wp2_with fail
    refine AQ (Ub _ (cn F:Nat) _ Hr2.out) ?_;rintro r3 w3 hr3 hx3;obtain⟨b6,A6,n6,c6,rfl⟩:=hr3.cells;replace eb:=eb.ext hx3;replace hx2:=hx2.trans hx3;clear ceb feb hx3 q0;have ceb:=eb.cells2;have feb:=eb.frozen;go_wp2;obtain⟨W3,eW,eb',U⟩:=eb.put2 (.bool b6) (.slice A6 n6 c6);rw[<-eW];clear eW eb;replace hr3:=hr3.kd U.kd;replace hx2:=U.from_ hx2 Ak;have eb:=eb';clear U eb'
    go_meet
    case rel=>exact⟨by have:=Hpc.out;simp at this;rw[this];exact Bp.mk eb hr3,hx2⟩
   | false =>
    have Hr2:=Af hr2;clear hr2;go_wp2
    go_meet
    case rel=>exact⟨by have:=Hpc.out;simp at this;rw[this];exact Bp.mk eb Hr2.out,hx2⟩
  case rest =>
   clear q0 eb hr2 hx2;obtain⟨⟨b,B,bn,bc,eb,hb⟩,hx2⟩:=hcut;have hbc:=eb.lt;have hsc:=hx2.size;have hf0:F≠pz:=fun e=>by rw[e,BR]at hp;omega
   have hppl:=DI HX.out.2.2 HX.out.2.1;have HB:=Af (Au hb (Au hf0 hppl));clear hb hf0 hppl;obtain⟨m,hm⟩:∃ m,m=DL (pl F) (pp F):=⟨_,rfl⟩
   have hml:m.length=pl F:=by rw[hm,AR]
   have HM:=Af (Au hm hml);clear hm hml;obtain⟨W0,hmk,ea,hxa⟩:=IM (pl F) (pl F:Int) rfl hpl40 wc;replace eb:=eb.ext hxa;replace hx2:=hx2.trans hxa;have HB':=Af (HB.out.1.kd hxa.kd);generalize wc.heap.size=ga at *;go_wp2;clear hmk hxa
   go_loopw [30] (fun iv wr=>∃ (k:Nat) (la:List Int),k<=pl F/\iv = .int .i64 k/\Ci wr ga 26 la/\la.length=pl F/\la=m.take k ++ List.replicate (pl F - k) 0/\Ba wr gb 26 #[.bool b,.slice B bn bc]/\AO wr (.agg #[.bool b,.slice B bn bc]) (pcn F)/\Ext w1 wr) (fun iv _=>pl F - (intOf iv).toNat)
   case atStart=>exact⟨0,_,Nat.zero_le _,rfl,ea,Ac,Ac,eb,HB'.out,hx2⟩
   case round =>
    clear hx2 ea eb HB';obtain⟨k,la,hk,rfl,ea,hlen,hla,eb,hb,hx2⟩:=hrel;have Hla:=Af hla;clear hla;have Hlen:=Af hlen;clear hlen;by_cases hkl:k < pl F
    ·have hkl1:k < l1.length:=by have:=HA.out.2.1;omega
     obtain⟨g',o',b1,B1,n1,d1,hgo,_,q0,q1,hq⟩:=HA.out.1.at_ (j:=k) hkl1;simp only[Option.some.injEq,Addr.mk.injEq,and_true]at hgo;obtain⟨rfl,rfl⟩:=hgo;replace q0:=hx2.cell q0;replace q1:=hx2.cell q1;have hFk:F k=(l1[k]:Rat):=by rw[<-HA.out.2.2,Cq hkl1]
     have hqz:sz l1[k].natAbs<=1099511627776:=by have:=HX.out.1 k;rw[hFk,Bn]at this;omega
     have hdv:pcn F∣l1[k]:=by have:=IV HX.out.2.1 k;rw[hFk]at this;exact this
     have hpz:=Dl HX.out.2.2 HX.out.2.1 HB.out.2.1;have hps:sz (pcn F).natAbs<=1099511627776:=by rw[F8];exact Jg HX.out.1 (pl F)
     have hval:m[k]'(by rw[HM.out.2];exact hkl)=l1[k] / pcn F:=by
      simp only[HM.out.1,Ca];rw[Mk HX.out.2.2 HX.out.2.1 HB.out.2.1,hFk];rfl
     have Hq:=Af (Au ((hq.has hqz).kd hx2.kd) (Au (hb.has hps) (Au hdv (Au hpz hval))));clear hq hqz hdv hpz hps hval hFk;have xa:=fun o=>(Ext.refl wr).alloc o;obtain⟨r0,r1⟩:=eb.cells2;replace r0:=fun o=>(xa o).cell r0;replace r1:=fun o=>(xa o).cell r1;have Hb:=Af hb;clear xa hb
     go_wp2_with fail
     refine AQ (GK _ _ l1[k] (pcn F) _ (Hq.out.1.kd ((Ext.refl _).alloc _).kd) (Hq.out.2.1.kd ((Ext.refl _).alloc _).kd) Hq.out.2.2.2.1 Hq.out.2.2.1) ?_;rintro r w3 ⟨a,rfl,hr⟩ hx3;obtain⟨b6,A6,n6,c6,rfl⟩:=hr.cells;replace ea:=ea.ext hx3.a1;replace eb:=eb.ext hx3.a1;have Hb':=Af (Hb.out.kd hx3.a1.kd);replace hx2:=hx2.trans hx3.a1;clear hx3 q0 q1 r0 r1 Hb;have hkla:k < la.length:=by have:=Hlen.out;omega
     obtain⟨_,_,_,_,ca0,ca1,-⟩:=ea.at_ (j:=k) (by first | omega | (simp;omega));have fa0:=ea.frozen (k*2);have fa1:=ea.frozen (k*2+1);go_wp2;have hb:=Hb'.out;obtain⟨W3,eW,ea',U⟩:=ea.put (k:=k) (by first | omega | (simp;omega)) hr;rw[<-eW];clear eW ea;replace hb:=hb.kd U.kd;replace eb:=eb.upd U Ak;replace hx2:=U.from_ hx2 Ak;have ea:=ea';clear U ea'
     go_roundw
     case rel=>exact⟨k+1,_,Aa,by go_num,ea,by simpa using Hlen.out,XA Hla.out hkl HM.out.2 Hq.out.2.2.2.2.symm,eb,hb,hx2⟩
     case measure=>simp[intOf];omega
    ·obtain rfl:k=pl F:=by omega
     have hla:=Hla.out;rw[Nat.sub_self,List.replicate_zero,List.append_nil,List.take_of_length_le (by rw[HM.out.2];exact Nat.le_refl _),HM.out.1]at hla;have hw:AB w.heap.size wr (.slice (some ⟨ga,0,none⟩) (pl F) (pl F)) (pp F):=by
      have h1:=Ci.whole (base:=w.heap.size) (G:=pp F) (c:=pl F) (by rw[HB.out.2.2,<-hla];exact ea) (Ha HX.out.2.2 HX.out.2.1) (Dx HX.out.2.1) Aa (by rw[HB.out.2.2];exact Nat.le_refl _) Aa;rw[HB.out.2.2]at h1;exact h1
     have Hw:=Af hw;clear hw hla;go_wp2
     go_ret
     exact Ai.mk Hw.out (hx1.trans hx2)
 ·have hp0:pl F=0:=by omega
  have hpz:=(BI HX.out.2.1).1 hp0;have Hz:=Af (Au hpz hp0);clear hpz;have hb:decide ((0:Int) < (pl F:Int))=false:=by simp;omega
  obtain⟨W1,hmk,ea,hxa⟩:=IM (pl F) (pl F:Int) rfl hpl40 W0;subst eW;clear x0 hp0;go_wp2;clear hmk
  go_loopw [30] (fun iv wr=>iv = .int .i64 0/\Ext w1 wr) (fun iv _=>0)
  case atStart=>exact⟨rfl,hx2.trans hxa⟩
  case round =>
   clear hx2;obtain⟨rfl,hx2⟩:=hrel;have hb2:¬ (0:Int) < (pl F:Int):=by omega
   go_wp2
   go_ret
   rw[Hz.out.1,Iu,BR];exact Ai.mk (AB.empty _ _ _ _ Aa) (hx1.trans hx2)
set_option maxRecDepth 40000 in
theorem gT(v u:Value)(l m:List Int)(s t:Nat)(w:World)(hv:Gd 0 w v l)(hu:Gd 0 w u m)(hs:∀ i,qsz (cz l i)<=s)(ht:∀ i,qsz (cz m i)<=t)(hn:l.length<=549755813888)(hm:m.length<=549755813888)(h0:cz m≠pz)(hst:s+(l.length+1)*(t+1)+t<=1099511627776) :
  Bg 95 #[v,u] w ((ZX w.heap.size (Gc (cz l) (cz m) (pl (cz l)+1 - pl (cz m))) (D7 (cz l) (cz m) (pl (cz l)+1 - pl (cz m))))):=by
 have HV:=Af hv;have HU:=Af hu;obtain⟨A0,c0,rfl⟩:=hv.len;obtain⟨A1,c1,rfl⟩:=hu.len;clear hv hu;have hN1:=EG _ l w HV.out Aa;rw[Gs]at hN1;have hN2:=fun W (x:Ext w W)=>EG _ m W (HU.out.ext x) Aa;simp only[Gs]at hN2;have hc1:=BD (Cx l);have hc2:=BD (Cx m);have hfF:=Ae.cz l;have hzF:=ZI.cz l;have hfG:=Ae.cz m;have hzG:=ZI.cz m;have hL:=AL hfG h0;have ht1:=K5 l;have ht2:=K5 m;obtain⟨F,hF⟩:∃ F,F=cz l:=⟨_,rfl⟩
 obtain⟨G,hG⟩:∃ G,G=cz m:=⟨_,rfl⟩
 rw[<-hF]at hN1 hs hc1 hfF hzF ht1;rw[<-hG]at hc2 hfG hzG hL ht h0 ht2;simp only[<-hG]at hN2;rw[<-hF,<-hG];obtain⟨P,hP⟩:∃ P,P=pl F:=⟨_,rfl⟩
 obtain⟨L,hLe⟩:∃ L,L=pl G:=⟨_,rfl⟩
 obtain⟨K,hK⟩:∃ K,K=pl F+1 - pl G:=⟨_,rfl⟩
 have HB:=Af (show(∀ k i,k<=K->sz (D7 F G k i).num.natAbs<=1099511627776)/\(∀ k i,k<=K->sz (psc (ld G) (D7 F G k) i).num.natAbs<=1099511627776)/\(∀ k i j,k<=K->sz ((D7 F G k i).num*(G j).num).natAbs<=1099511627776)/\(∀ k i,k<=K->pl G<=pl F->sz (Gc F G k i).num.natAbs<=1099511627776)/\sz (ld G).num.natAbs<=1099511627776/\(∀ j,sz (G j).num.natAbs<=1099511627776) by
  have key:∀ k,k<=K->k*(t+1)<=(l.length+1)*(t+1):=fun k hk=>Nat.mul_le_mul_right _ Aa;have g1:∀ j,sz (G j).num.natAbs<=t:=fun j=>Nat.le_trans (Fs _) (ht j);have g2:sz (ld G).num.natAbs<=t:=g1 _;refine⟨fun k i hk=>?_,fun k i hk=>?_,fun k i j hk=>?_,fun k i hk hle=>?_,Aa,fun j=>by have:=g1 j;omega⟩
  ·have a1:=GR hzF hzG hs ht k i;have a2:=Fs (D7 F G k i);have a3:=key k hk;omega
  ·have a1:=GR hzF hzG hs ht k i;have a2:=Fs (D7 F G k i);have a3:=key k hk
   rw[Oq (F4 hzF hzG k) hzG];have a4:=Oz a2 g2;omega
  ·have a1:=GR hzF hzG hs ht k i;have a2:=Fs (D7 F G k i);have a3:=key k hk
   have a4:=Oz a2 (g1 j);omega
  ·have a1:=Us hzF hzG hs ht hle k Aa i;have a2:=Fs (Gc F G k i);have a3:=key k hk;omega)
 have HX:=Af (Au hfF (Au hzF (Au hfG (Au hzG (Au h0 (Au hF hG))))));have HP:=Af (Au hP (Au hLe hK));rw[<-hP]at hc1 hN1 ht1;rw[<-hLe]at hc2 hL ht2;simp only[<-hLe]at hN2;have HN1:=Af hN1;have HN2:=Af hN2;have HT:=Af (Au ht1 ht2);have hKe:K=P+1 - L:=by rw[hP,hLe];exact hK
 clear hs ht hst hfF hzF hfG hzG h0 hF hG hP hLe hK ht1 ht2 hN1 hN2;rw[<-HP.out.2.2];have hb1:((L:Int)==0)=false:=by simpa using(show L≠0 by omega)
 go_enter Tryz.func95,Tryz.ntmps95
 go_wp2_with fail
 refine AQ HN1.out ?_;rintro r1 w1 ⟨rfl,er⟩ hx;have hg1:=er.lt
 go_wp2_with fail
 refine AQ (HN2.out w1 hx) ?_;rintro r2 w2 ⟨rfl,eg⟩ hx2;have hg2:=eg.lt;replace er:=er.ext hx2;replace hx:=hx.trans hx2;clear hx2;by_cases hlt:P < L
 ·have hK0:K=0:=by omega
  have Hr:=Af (show AB w.heap.size w2 (.slice (some ⟨w.heap.size,0,none⟩) P l.length) F by
   have h1:=er.isZP (F:=F) HX.out.2.2.2.2.2.1.symm (Nat.le_refl _) (c:=l.length) (Nat.le_refl _) Aa;rw[Gs,<-HX.out.2.2.2.2.2.1,<-HP.out.1]at h1;exact h1)
  have hb2:decide ((P:Int) < L)=true:=by simpa using hlt
  clear er eg hKe;go_wp2
  go_ret3
  rw[hK0];exact Ai.mk ⟨_,_,rfl,AB.nil _ _,Hr.out⟩ hx
 ·have hb2:decide ((P:Int) < L)=false:=by simpa using hlt
  have hK1:P+1=K+L:=by omega
  have hKp:0 < K:=by omega
  have HK:=Af hK1;replace er:=er.pre P;rw[HT.out.1]at er;replace eg:=eg.pre L;rw[HT.out.2]at eg;obtain⟨W0,hmk,eq,hxq⟩:=IM K ((P:Int) - L+1) Aa Aa w2;replace er:=er.ext hxq;replace eg:=eg.ext hxq;replace hx:=hx.trans hxq;have hg3:=eq.lt;rw[<-TA]at eq;have hK40:K<=1099511627776:=by omega
  clear hK1 hKe;generalize hgG:w1.heap.size=gG at *;generalize hgq:w2.heap.size=gq at *;go_wp2;clear hmk hxq
  go_loopw [7] (fun iv wr=>∃ k:Nat,k<=K/\iv = .int .i64 ((K:Int) - 1 - k)/\Ci wr w.heap.size 26 (DL P (D7 F G k))/\Ci wr gq 26 (DL K (Gc F G k))/\Ci wr gG 26 (DL L G)/\Ext w wr) (fun iv _=>(intOf iv+1).toNat)
  case atStart=>exact⟨0,Nat.zero_le _,by go_num,er,eq,eg,hx⟩
  case round =>
   clear er eq eg hx;obtain⟨k,hk,rfl,er,eq,eg,hx⟩:=hrel;by_cases hkl:k < K
   ·obtain⟨i,hi⟩:∃ i,i=K - 1 - k:=⟨_,rfl⟩
    have hii:(K:Int) - 1 - k=(i:Int):=by omega
    rw[hii];have hik:i < K:=by omega
    have HI:=Af (show i=pl F - pl G - k/\i+L - 1=pl F - 1 - k/\(i:Int) - 1=(K:Int) - 1 - (k+1:Nat)/\i+L<=P/\i+k < pl F+1 - pl G/\pl G<=pl F by
     have h1:=HK.out;have h2:=HP.out.1;have h3:=HP.out.2.1;refine⟨?_,?_,?_,?_,?_,?_⟩<;>omega)
    clear hi hii;have hiL:i+L - 1 < P:=by have:=HI.out.2.2.2.1;omega
    obtain⟨z0,Z0,zn0,zc0,cr0,cr1,hzc⟩:=er.at_ (j:=i+L - 1) (by rw[AR];exact hiL);rw[Ca]at hzc;have hgc:=eq.lt;have hLP:((i:Int)+L - 1).toNat=i+L - 1:=by omega
    go_wp2_with fail
    obtain⟨W8,eW8,e8,x8⟩:=Ba.made wr 26 #[.bool z0,.slice Z0 zn0 zc0] (by simp[Ah]);rw[<-eW8];clear eW8 cr0 cr1 hLP;have ec:=Bp.mk e8 (hzc.kd x8.kd);replace er:=er.ext x8;replace eq:=eq.ext x8;replace eg:=eg.ext x8;replace hx:=hx.trans x8;clear x8;clear hzc e8;generalize wr.heap.size=gc at *;generalize hcv:(D7 F G k (i+L - 1)).num=cv at *;have HC:=Af (show cv=(D7 F G k (pl F - 1 - k)).num/\sz cv.natAbs<=1099511627776/\∀ j,sz (cv*(G j).num).natAbs<=1099511627776 by
     subst hcv;exact⟨by rw[HI.out.2.1],HB.out.1 _ _ hk,fun j=>HB.out.2.2.1 _ _ j hk⟩)
    clear hcv hiL
    go_loopw [50] (fun jv wx=>∃ j:Nat,j<=P/\jv = .int .i64 j/\Ci wx w.heap.size 26 (DL P (mx j (psc (ld G) (D7 F G k)) (D7 F G k)))/\Ci wx gq 26 (DL K (Gc F G k))/\Ci wx gG 26 (DL L G)/\Bp wx gc 26 cv/\Ext w wx) (fun jv _=>P - (intOf jv).toNat)
    case atStart=>exact⟨0,Nat.zero_le _,rfl,by rw[Tt];exact er,eq,eg,ec,hx⟩
    case round =>
     clear er eq eg ec hx;obtain⟨j,hj,rfl,er,eq,eg,ec,hx⟩:=hrel;by_cases hjl:j < P
     ·obtain⟨z1,Z1,zn1,zc1,ca0,ca1,hz⟩:=er.at_ (j:=j) (by rw[AR];exact hjl)
      rw[Ca,Xr]at hz;have Hz:=Af (Au hz (show AB w.heap.size _ (.slice (some ⟨gG,0,none⟩) L m.length) G by
       have h1:=eg;have h2:=HP.out.2.1;rw[h2]at h1;rw[h2];exact h1.whole HX.out.2.2.2.1 HX.out.2.2.1 Aa Aa Aa))
      clear hz
      go_wp2_with fail
      refine EE 9 [53,54,55,56,57,58,59,60,61] [5,9,1] [_,_,_] [(kv ?_),(kv ?_),(kv ?_),(kv ?_),(kv ?_),(kv ?_),(kv ?_),(fun γ=>γ 7),(fun γ=>γ 8)] (fun γ w'=>[True,True,True,True,True,True,True,AO w' (γ 7) (ld G).num,AO w' (γ 8) ((D7 F G k j).num*(ld G).num)]) ?s1 ?_
      case s1 =>
       iterate 9 refine⟨?_,?_⟩
       trivial
       iterate 7 focus
        refine Bi fun _ w' he R hR=>?_;have hc:=he.cells;have cq0:=he.cell ca0;have cq1:=he.cell ca1;go_simp;(try go_ints);(try(rw[if_neg Aa]));(try(rw[if_pos Aa]));(try go_simp);(try go_ints)
        exact C8 hR
       ·refine Bi fun _ w' he R hR=>?_
        go_simp;exact BF (Ky _ w.heap.size G w' (Hz.out.2.ext he) HX.out.2.2.2.2.1) hR
       ·refine Gj fun γ w' he hf R hR=>?_;have f7:AO w' (γ 7) (ld G).num:=hf 7 Ab;clear hf
        go_simp;exact BF (Dj _ _ _ _ w' ((Hz.out.1.kd he.kd).has (HB.out.1 _ _ hk)) (f7.has HB.out.2.2.2.2.1)) hR
      intro γ w6 hx6 hF;have p7:AO w6 (γ 7) (ld G).num:=AC.get hF 7 Ab;have p8:AO w6 (γ 8) ((D7 F G k j).num*(ld G).num):=AC.get hF 8 Ab;clear hF;simp only[Bw,Nat.reduceAdd];generalize γ 7=g7 at *;generalize γ 8=g8 at *;clear γ;clear p7 Hz ca0 ca1;replace er:=er.ext hx6;replace eq:=eq.ext hx6;replace eg:=eg.ext hx6;replace ec:=ec.ext hx6;replace hx:=hx.trans hx6;clear hx6;obtain⟨b5,A5,n5,c5,rfl⟩:=p8.cells
      have hkf:j < (DL P (mx j (psc (ld G) (D7 F G k)) (D7 F G k))).length:=by rw[AR];exact hjl
      have Hkf:=Af hkf;obtain⟨_,_,_,_,ca0,ca1,-⟩:=er.at_ (j:=j) (by first | omega | (simp;omega));have fa0:=er.frozen (j*2);have fa1:=er.frozen (j*2+1);clear hkf;go_wp2;have hkf:=Hkf.out;obtain⟨W7,eW,er',U⟩:=er.put (k:=j) (by first | omega | (simp;omega)) p8;rw[<-eW];clear eW er;replace eq:=eq.upd U Ak;replace eg:=eg.upd U Ak;replace ec:=ec.upd U Ak;replace hx:=U.from_ hx Ak;have er:=er';clear U er'
      go_roundw
      case rel=>exact⟨j+1,Aa,by go_num,by
       rw[<-Oq (F4 HX.out.2.1 HX.out.2.2.2.1 k) HX.out.2.2.2.1,Ry]at er;exact er,eq,eg,ec,hx⟩
      case measure=>simp[intOf];omega
     ·obtain rfl:P=j:=by omega
      rw[X4 (Nat.le_refl _)]at er;go_wp2
      go_loopw [66] (fun jv wx=>∃ j:Nat,j<=K/\jv = .int .i64 j/\Ci wx w.heap.size 26 (DL P (psc (ld G) (D7 F G k)))/\Ci wx gq 26 (DL K (mx j (psc (ld G) (Gc F G k)) (Gc F G k)))/\Ci wx gG 26 (DL L G)/\Bp wx gc 26 cv/\Ext w wx) (fun jv _=>K - (intOf jv).toNat)
      case atStart=>exact⟨0,Nat.zero_le _,rfl,er,by rw[Tt];exact eq,eg,ec,hx⟩
      case round =>
       clear er eq eg ec hx hjl hj;obtain⟨j,hj,rfl,er,eq,eg,ec,hx⟩:=hrel;by_cases hjl:j < K
       ·obtain⟨z1,Z1,zn1,zc1,ca0,ca1,hz⟩:=eq.at_ (j:=j) (by rw[AR];exact hjl)
        rw[Ca,Xr]at hz;have Hz:=Af (Au hz (show AB w.heap.size _ (.slice (some ⟨gG,0,none⟩) L m.length) G by
         have h1:=eg;have h2:=HP.out.2.1;rw[h2]at h1;rw[h2];exact h1.whole HX.out.2.2.2.1 HX.out.2.2.1 Aa Aa Aa))
        clear hz
        go_wp2_with fail
        refine EE 9 [69,70,71,72,73,74,75,76,77] [4,10,1] [_,_,_] [(kv ?_),(kv ?_),(kv ?_),(kv ?_),(kv ?_),(kv ?_),(kv ?_),(fun γ=>γ 7),(fun γ=>γ 8)] (fun γ w'=>[True,True,True,True,True,True,True,AO w' (γ 7) (ld G).num,AO w' (γ 8) ((Gc F G k j).num*(ld G).num)]) ?s2 ?_
        case s2 =>
         iterate 9 refine⟨?_,?_⟩
         trivial
         iterate 7 focus
          refine Bi fun _ w' he R hR=>?_;have hc:=he.cells;have cq0:=he.cell ca0;have cq1:=he.cell ca1;go_simp;(try go_ints);(try(rw[if_neg Aa]));(try(rw[if_pos Aa]));(try go_simp);(try go_ints)
          exact C8 hR
         ·refine Bi fun _ w' he R hR=>?_
          go_simp;exact BF (Ky _ w.heap.size G w' (Hz.out.2.ext he) HX.out.2.2.2.2.1) hR
         ·refine Gj fun γ w' he hf R hR=>?_;have f7:AO w' (γ 7) (ld G).num:=hf 7 Ab;clear hf
          go_simp;exact BF (Dj _ _ _ _ w' ((Hz.out.1.kd he.kd).has (HB.out.2.2.2.1 _ _ hk HI.out.2.2.2.2.2)) (f7.has HB.out.2.2.2.2.1)) hR
        intro γ w6 hx6 hF;have p7:AO w6 (γ 7) (ld G).num:=AC.get hF 7 Ab;have p8:AO w6 (γ 8) ((Gc F G k j).num*(ld G).num):=AC.get hF 8 Ab;clear hF;simp only[Bw,Nat.reduceAdd];generalize γ 7=g7 at *;generalize γ 8=g8 at *;clear γ;clear p7 Hz ca0 ca1;replace er:=er.ext hx6;replace eq:=eq.ext hx6;replace eg:=eg.ext hx6;replace ec:=ec.ext hx6;replace hx:=hx.trans hx6;clear hx6;obtain⟨b5,A5,n5,c5,rfl⟩:=p8.cells
        have hkf:j < (DL K (mx j (psc (ld G) (Gc F G k)) (Gc F G k))).length:=by rw[AR];exact hjl
        have Hkf:=Af hkf;obtain⟨_,_,_,_,ca0,ca1,-⟩:=eq.at_ (j:=j) (by first | omega | (simp;omega));have fa0:=eq.frozen (j*2);have fa1:=eq.frozen (j*2+1);clear hkf;go_wp2;have hkf:=Hkf.out;obtain⟨W7,eW,eq',U⟩:=eq.put (k:=j) (by first | omega | (simp;omega)) p8;rw[<-eW];clear eW eq;replace er:=er.upd U Ak;replace eg:=eg.upd U Ak;replace ec:=ec.upd U Ak;replace hx:=U.from_ hx Ak;have eq:=eq';clear U eq'
        go_roundw
        case rel=>exact⟨j+1,Aa,by go_num,er,by
         rw[<-Oq (SX HX.out.2.1 HX.out.2.2.2.1 k) HX.out.2.2.2.1,Ry]at eq;exact eq,eg,ec,hx⟩
        case measure=>simp[intOf];omega
       ·obtain rfl:K=j:=by omega
        rw[X4 (Nat.le_refl _)]at eq;obtain⟨b,B,bn,bc,e8,hb⟩:=ec;have Hb:=Af hb;clear hb;have ce8:=e8.cells2;have fe8:=e8.frozen
        go_wp2_with fail
        refine AQ (Iz _ _ _ (Hb.out.has HC.out.2.1)) ?_;rintro r w3 hr hx3;have hb:=Hb.out.kd hx3.kd;clear ce8 fe8 Hb;replace er:=er.ext hx3;replace eq:=eq.ext hx3;replace eg:=eg.ext hx3;replace e8:=e8.ext hx3;replace hx:=hx.trans hx3;clear hx3;obtain⟨b5,A5,n5,c5,rfl⟩:=hr.cells;have hkf:i < (DL K (psc (ld G) (Gc F G k))).length:=by rw[AR];exact hik
        have Hkf:=Af hkf;have Hb:=Af hb;clear hb;obtain⟨_,_,_,_,ca0,ca1,-⟩:=eq.at_ (j:=i) (by first | omega | (simp;omega));have fa0:=eq.frozen (i*2);have fa1:=eq.frozen (i*2+1);clear hkf;go_wp2;have hkf:=Hkf.out;have hb:=Hb.out;obtain⟨W7,eW,eq',U⟩:=eq.put (k:=i) (by first | omega | (simp;omega)) hr;rw[<-eW];clear eW eq;replace hb:=hb.kd U.kd;replace er:=er.upd U Ak;replace eg:=eg.upd U Ak;replace e8:=e8.upd U Ak
        replace hx:=U.from_ hx Ak;have eq:=eq';clear U eq';rw[Pq (G:=Gc F G (k+1)) (fun n=>by rw[VW HI.out.1 ((IZ HI.out.2.2.2.2.2 k (by have:=HI.out.2.2.2.2.1;omega)).2 i HI.out.2.2.2.2.1),HC.out.1])]at eq;have ec:=Bp.mk e8 hb;clear e8 hb Hb Hkf hkf
        go_loopw [87] (fun jv wx=>∃ j:Nat,j<=L/\jv = .int .i64 j/\Ci wx w.heap.size 26 (DL P (mx (i+j) (D7 F G (k+1)) (psc (ld G) (D7 F G k))))/\Ci wx gq 26 (DL K (Gc F G (k+1)))/\Ci wx gG 26 (DL L G)/\Bp wx gc 26 cv/\Ext w wx) (fun jv _=>L - (intOf jv).toNat)
        case atStart=>exact⟨0,Nat.zero_le _,rfl,by rw[Nat.add_zero,Zn (fun n hn=>Zu HI.out.1 hn)];exact er,eq,eg,ec,hx⟩
        case round =>
         clear er eq eg ec hx hj hjl;obtain⟨j,hj,rfl,er,eq,eg,ec,hx⟩:=hrel;by_cases hjl:j < L
         ·obtain⟨y1,Y1,yn1,yc1,q0,q1,hy⟩:=eg.at_ (j:=j) (by rw[AR];exact hjl)
          rw[Ca]at hy;have Hy:=Af hy;clear hy;have hne:=ec.lt;have hne2:=eq.lt
          go_wp2_with fail
          obtain⟨W10,eW10,e10,x10⟩:=Ba.made wr 26 #[.bool y1,.slice Y1 yn1 yc1] (by simp[Ah]);rw[<-eW10];clear eW10 q0 q1;have hy:=Hy.out.kd x10.kd;replace er:=er.ext x10;replace eq:=eq.ext x10;replace eg:=eg.ext x10;replace ec:=ec.ext x10;replace hx:=hx.trans x10;clear x10;obtain⟨b,B,bn,bc,e8,hb⟩:=ec;have hij:i+j < P:=by have:=HI.out.2.2.2.1;omega
          obtain⟨z1,Z1,zn1,zc1,ca0,ca1,hz⟩:=er.at_ (j:=i+j) (by rw[AR];exact hij);rw[Ca,Xr]at hz;have Hz:=Af (Au hz (Au hb hy));clear hz hb hy Hy;have ce8:=e8.cells2;have fe8:=e8.frozen;have ce10:=e10.cells2;have fe10:=e10.frozen
          go_wp2_with fail
          refine EE 14 [92,93,94,95,96,97,98,99,100,101,102,103,104,105] [5,7,11,8,12] [_,_,_,_,_] [(kv ?_),(kv ?_),(kv ?_),(kv ?_),(kv ?_),(kv ?_),(kv ?_),(kv ?_),(kv ?_),(kv ?_),(kv ?_),(kv ?_),(fun γ=>γ 12),(fun γ=>γ 13)] (fun γ w'=>[True,True,True,True,True,True,True,True,True,True,True,True,AO w' (γ 12) (cv*(G j).num),AO w' (γ 13) ((psc (ld G) (D7 F G k) (i+j)).num - cv*(G j).num)]) ?s3 ?_
          case s3 =>
           iterate 14 refine⟨?_,?_⟩
           trivial
           iterate 12 focus
            refine Bi fun _ w' he R hR=>?_;have hc:=he.cells;have cq0:=he.cell ca0;have cq1:=he.cell ca1;have cq2:=(e8.ext he).cells2;have cq3:=(e10.ext he).cells2;go_simp;(try go_ints);(try(rw[if_neg Aa]));(try(rw[if_pos Aa]));(try go_simp);(try go_ints)
            exact C8 hR
           ·refine Bi fun _ w' he R hR=>?_
            go_simp;exact BF (Dj _ _ _ _ w' ((Hz.out.2.1.kd he.kd).has HC.out.2.1) ((Hz.out.2.2.kd he.kd).has (HB.out.2.2.2.2.2 _))) hR
           ·refine Gj fun γ w' he hf R hR=>?_;have f12:AO w' (γ 12) (cv*(G j).num):=hf 12 Ab;clear hf
            go_simp;exact BF (aG _ _ _ _ w' ((Hz.out.1.kd he.kd).has (HB.out.2.1 _ _ hk)) (f12.has (HC.out.2.2 j))) hR
          intro γ w6 hx6 hF;have p12:AO w6 (γ 12) (cv*(G j).num):=AC.get hF 12 Ab;have p13:AO w6 (γ 13) ((psc (ld G) (D7 F G k) (i+j)).num - cv*(G j).num):=AC.get hF 13 Ab;clear hF;simp only[Bw,Nat.reduceAdd];generalize γ 12=g12 at *;generalize γ 13=g13 at *;clear γ;have hb:=Hz.out.2.1.kd hx6.kd;clear p12 Hz ca0 ca1 ce8 fe8 ce10 fe10 e10;replace er:=er.ext hx6;replace eq:=eq.ext hx6;replace eg:=eg.ext hx6
          replace e8:=e8.ext hx6;replace hx:=hx.trans hx6;clear hx6;obtain⟨b5,A5,n5,c5,rfl⟩:=p13.cells;have hkf:i+j < (DL P (mx (i+j) (D7 F G (k+1)) (psc (ld G) (D7 F G k)))).length:=by rw[AR];exact hij
          have Hkf:=Af hkf;have Hb:=Af hb;clear hb;obtain⟨_,_,_,_,ca0,ca1,-⟩:=er.at_ (j:=i+j) (by first | omega | (simp;omega));have fa0:=er.frozen ((i+j)*2);have fa1:=er.frozen ((i+j)*2+1);clear hkf;go_wp2;have hkf:=Hkf.out;have hb:=Hb.out;obtain⟨W9,eW,er',U⟩:=er.put (k:=i+j) (by first | omega | (simp;omega)) p13;rw[<-eW];clear eW er;replace hb:=hb.kd U.kd;replace eq:=eq.upd U Ak;replace eg:=eg.upd U Ak
          replace e8:=e8.upd U Ak;replace hx:=U.from_ hx Ak;have er:=er';clear U er'
          go_roundw
          case rel=>exact⟨j+1,Aa,by go_num,by
           rw[HC.out.1,<-YA HX.out.2.1 HX.out.2.2.2.1 HI.out.1,Ry]at er;exact er,eq,eg,Bp.mk e8 hb,hx⟩
          case measure=>simp[intOf];omega
         ·obtain rfl:L=j:=by omega
          rw[ZR (fun n hn=>XN HX.out.2.2.1 HI.out.1 (by rw[<-HP.out.2.1];exact hn))]at er;go_wp2
          go_roundw
          case rel =>
           have hi1:=HI.out.2.2.1;exact⟨k+1,Aa,by rw[<-hi1],er,eq,eg,hx⟩
          case measure=>simp[intOf]
   ·obtain rfl:K=k:=by omega
    have hm1:(K:Int) - 1 - K = -1:=by omega
    rw[hm1];have hT1:=DW w.heap.size (some ⟨gq,0,none⟩) K (DL K (Gc F G K)) wr (by rw[AR];exact Nat.le_refl _) Aa (eq.row Aa);have hT2:=DW w.heap.size (some ⟨w.heap.size,0,none⟩) l.length (DL P (D7 F G K)) wr (by rw[AR];exact hc1) Aa (er.row (Nat.le_refl _));rw[AR]at hT1 hT2;have HE:=Af (Au (eq.row (base:=w.heap.size) Aa) (er.row (Nat.le_refl _)));clear er eq eg hm1
    go_wp2_with fail
    refine Calls.mono hT1 ?_;rintro e w3 ⟨rfl,rfl⟩
    go_wp2_with fail
    refine Calls.mono hT2 ?_;rintro e w3 ⟨rfl,rfl⟩;go_wp2
    go_ret3
    have hPG:pl G<=pl F:=by have:=HP.out;omega
    exact Ai.mk ⟨_,_,rfl,AB.of_trim (MX.trim HE.out.1 (by rw[AR];exact Nat.le_refl _) Aa) (Il (SX HX.out.2.1 HX.out.2.2.2.1 _) (by have h1:=(IZ hPG K (by rw[HP.out.2.2];exact Nat.le_refl _)).1;rw[<-HP.out.2.2]at h1;exact h1)),AB.of_trim (MX.trim HE.out.2 (by rw[AR];exact hc1) Aa) (Il (F4 HX.out.2.1 HX.out.2.2.2.1 _) (by have h1:=Kh HX.out.1 HX.out.2.2.1 HX.out.2.2.2.2.1 K (by rw[HP.out.2.2];exact Nat.le_refl _);exact h1.mono (by rw[<-HP.out.1];omega)))⟩ hx
end Go.Proofs.YtmhgnigpmompmaaGreat
