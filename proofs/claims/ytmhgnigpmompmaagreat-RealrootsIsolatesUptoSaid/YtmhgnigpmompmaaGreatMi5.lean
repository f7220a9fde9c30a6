/- Lemmas. -/
import Derived.Test.YtmhgnigpmompmaaGreatMi1
import Derived.Test.YtmhgnigpmompmaaGreatMi2
import Derived.Test.YtmhgnigpmompmaaGreatMi3
import Derived.Test.YtmhgnigpmompmaaGreatMi4
import Derived.Deep.RegionHeld3
import Derived.Test.YtmhgnigpmompmaaGreatRows
import Derived.WalkKit
import Derived.ProofKit
import Derived.OpenShut
import Derived.ShutString
import Derived.ChangeOld
import Derived.Below
import Derived.JoinedCond
set_option linter.unusedVariables false
set_option linter.unusedSimpArgs false
set_option maxHeartbeats 16000000
namespace Go.Hp
open Go.RowKit
structure O3(F G:Nat->Rat)(n s t j:Nat)(Q R:Nat->Rat):Prop where
 eq:psc (ld G^j) F=pad (cv Q G) R
 zQ:ZI Q
 zR:ZI R
 fQ:Bz n Q
 fR:Af R
 deg:pl R+j<=pl F
 qQ:∀ i,qsz (Q i)<=s+j*(t+1)
 qR:∀ i,qsz (R i)<=s+j*(t+1)
theorem O3.start{F G:Nat->Rat}{n s t:Nat}(hF:Af F)(hz:ZI F)(hs:∀ i,qsz (F i)<=s):O3 F G n s t 0 pz F where
 eq:=by rw[Rat.pow_zero,Cm,CF];funext m;simp only[pad,pz];grind
 zQ:=ZI.pz
 zR:=hz
 fQ:=Bz.pz n
 fR:=hF
 deg:=Nat.le_refl _
 qQ:=fun i=>by have h1:=Cf (F 0);have h2:=hs 0;show qsz 0<=_;have:qsz (0:Rat)=1:=Ab;omega
 qR:=fun i=>by have:=hs i;omega
theorem O3.step{F G:Nat->Rat}{n s t j:Nat}{Q R:Nat->Rat}(h:O3 F G n s t j Q R)(hn:n=pl F+1 - pl G)(fG:Af G)(h0:G≠pz)(zG:ZI G)(ht:∀ i,qsz (G i)<=t)(hl:pl G<=pl R){k:Nat}(hk:k=pl R - pl G){x:Int}(hx:(x:Rat)=R (pl R - 1)) :
  O3 F G n s t (j+1) (pad (psc (ld G) Q) (mono k (x:Rat))) (psb (psc (ld G) R) (cv (mono k (x:Rat)) G))/\pl (psb (psc (ld G) R) (cv (mono k (x:Rat)) G)) < pl R:=by
 have hp:=Bb fG h0;have hld:=De fG h0;have zl:∃ y:Int,ld G=(y:Rat):=zG _;obtain⟨y,hy⟩:=zl;have hsup:Bz (k+pl G) (psc (ld G) R):=((AO h.fR).mono Aa).psc _;have e1:(x:Rat)=psc (ld G) R (k+pl G - 1) / ld G:=by
  show _=ld G*R (k+pl G - 1) / ld G;rw[show k+pl G - 1=pl R - 1 from Aa,<-hx];grind
 have hs2:Bz (k+pl G - 1) (psb (psc (ld G) R) (cv (mono k (x:Rat)) G)):=by
  rw[e1];exact Fb fG h0 hsup
 have hle:=Bl hs2;have hxq:qsz (x:Rat)<=s+j*(t+1):=by rw[hx];exact h.qR _
 have hlq:qsz (ld G)<=t:=ht _;have hj:(j+1)*(t+1)=j*(t+1)+(t+1):=Nat.succ_mul _ _;have o1:qsz (0:Rat)=1:=by decide
 have zsR:ZI (psc (ld G) R):=by rw[hy];exact h.zR.psc y
 have zsQ:ZI (psc (ld G) Q):=by rw[hy];exact h.zQ.psc y
 refine⟨⟨?_,zsQ.pad (ZI.mono k x),zsR.psb ((ZI.mono k x).cv zG),(h.fQ.psc _).pad ((CY k _).mono (by have:=h.deg;omega)),⟨_,hs2⟩,by have:=h.deg;omega,fun i=>?_,fun i=>?_⟩,Aa⟩
 ·have e2:psc (ld G^(j+1)) F=psc (ld G) (psc (ld G^j) F):=by
   rw[Cr,Rat.pow_succ,Rat.mul_comm]
  rw[e2,h.eq,Dj,D7]
  funext m;simp only[psc,pad,psb];grind
 ·have a1:=RB zsQ (ZI.mono k x) i i
  have a2:qsz (psc (ld G) Q i)<=qsz (ld G)+qsz (Q i):=BQ _ _;have a3:=h.qQ i;have a4:qsz (mono k (x:Rat) i)<=s+j*(t+1):=by
   unfold mono;split
   ·exact hxq
   ·have:=Cf (x:Rat);omega
  show qsz (psc (ld G) Q i+mono k (x:Rat) i)<=_;omega
 ·have a1:=Ny zsR ((ZI.mono k x).cv zG) i i
  have a2:qsz (psc (ld G) R i)<=qsz (ld G)+qsz (R i):=BQ _ _;have a3:=h.qR i;have a4:qsz (cv (mono k (x:Rat)) G i)<=qsz (x:Rat)+t:=by
   rw[F6];show qsz ((x:Rat)*sh k G i)<=_;have b1:=BQ (x:Rat) (sh k G i);have b2:qsz (sh k G i)<=t:=by
    unfold sh;split
    ·have:=Cf (ld G);omega
    ·exact ht _
   omega
  show qsz (psc (ld G) R i - cv (mono k (x:Rat)) G i)<=_;omega
theorem QP(a:Rat)(m:Nat):∀ n:Nat,a^(m+n)=a^m*a^n
 | 0=>by rw[Nat.add_zero,Rat.pow_zero,Rat.mul_one]
 | n+1=>by rw[<-Nat.add_assoc,Rat.pow_succ,QP a m n,Rat.pow_succ,Rat.mul_assoc]
theorem O3.end_{F G:Nat->Rat}{n s t j:Nat}{Q R:Nat->Rat}(h:O3 F G n s t j Q R)(hn:n=pl F+1 - pl G)(fF:Af F)(fG:Af G)(h0:G≠pz)(hl:pl R < pl G)(hj:j<=n) :
  psc (ld G^(n - j)) Q=Gj F G n/\psc (ld G^(n - j)) R=Dc F G n:=by
 have hp:=Bb fG h0;have e1:psc (ld G^n) F=pad (cv (psc (ld G^(n - j)) Q) G) (psc (ld G^(n - j)) R):=by
  have e2:ld G^n=ld G^(n - j)*ld G^j:=by rw[<-QP];congr 1;omega
  rw[e2,<-Cr,h.eq,D7]
  funext m;simp only[psc,pad];grind
 have e3:psc (ld G^n) F=pad (cv (psc (ld G^n) (pq F G)) G) (psc (ld G^n) (pr F G)):=by
  rw[D7];have h1:=Lf F G
  funext m
  have h2:=congrFun h1 m;simp only[psc,pad]at h2 ⊢;rw[h2];grind
 have h1:=Ni fG (Af.psc _ ⟨n,h.fQ⟩) ((DR F G).psc _) h0 e1 e3 (((AO h.fR).mono Aa).psc _) ((Eb fF fG h0).psc _);have h2:=L9 fF fG h0;rw[<-hn]at h2;exact⟨h1.1.trans h2.1.symm,h1.2.trans h2.2.symm⟩
def bS(F G:Nat->Rat)(r:Value)(w:World):Prop:=∃ q m,r = .tuple #[q,m]/\AC 0 w q F/\AC 0 w m G
def KU(w:World)(v:Value)(p q:Rat):Prop:=∃ b1 A1 n1 c1 b2 A2 n2 c2 b3 A3 n3 c3 b4 A4 n4 c4,v = .agg #[.bool b1,.slice A1 n1 c1,.bool b2,.slice A2 n2 c2,.bool b3,.slice A3 n3 c3,.bool b4,.slice A4 n4 c4]/\BF w (.agg #[.bool b1,.slice A1 n1 c1,.bool b2,.slice A2 n2 c2]) p/\BF w (.agg #[.bool b3,.slice A3 n3 c3,.bool b4,.slice A4 n4 c4]) q
theorem KU.ext{w w':World}{v:Value}{p q:Rat}(h:KU w v p q)(e:Ext w w'):KU w' v p q:=by
 obtain⟨b1,A1,n1,c1,b2,A2,n2,c2,b3,A3,n3,c3,b4,A4,n4,c4,h1,h2,h3⟩:=h;exact⟨b1,A1,n1,c1,b2,A2,n2,c2,b3,A3,n3,c3,b4,A4,n4,c4,h1,h2.ext e,h3.ext e⟩
theorem Bg.cells8{w:World}{g:Nat}{t:TypeId}{x0 x1 x2 x3 x4 x5 x6 x7:Value}(h:Bg w g t #[x0,x1,x2,x3,x4,x5,x6,x7]) :
  w.cell? ⟨g,0,none⟩=some x0/\w.cell? ⟨g,1,none⟩=some x1/\w.cell? ⟨g,2,none⟩=some x2/\w.cell? ⟨g,3,none⟩=some x3/\w.cell? ⟨g,4,none⟩=some x4/\w.cell? ⟨g,5,none⟩=some x5/\w.cell? ⟨g,6,none⟩=some x6/\w.cell? ⟨g,7,none⟩=some x7:=
 ⟨h.cell rfl,h.cell rfl,h.cell rfl,h.cell rfl,h.cell rfl,h.cell rfl,h.cell rfl,h.cell rfl⟩
noncomputable def rts(W:Nat->Rat)(K:Nat)(p q:Rat):Int:=(V (EN W (pd W) K) p:Nat) - (V (EN W (pd W) K) q:Nat)
structure kM(l:List Int)(W:Nat->Rat)(S n M T M2 S2 D M3 K:Nat):Prop where
 len:l.length<=1000
 sim:P9 (cz l) S n M T
 t9:T<=36000
 s9:S<=36000
 m2:M+(n+(n - 1)+2)*(M+1)+M+1<=M2
 m3:2+(2*(n+(n - 1))+4)*(2*M2+4)<=274877906944
 w:W=y0 (pp (cz l))
 c:KR W S2 D M3
 k:Mt W (pd W) K
theorem Nk.cell{base:Nat}{t:TypeId}{w:World}{v:Value}{W:Nat->Rat}(h:Nk base t w v W):∃ A n c,v = .agg #[.slice A n c]:=by
 obtain⟨c,us,K,rfl,h2,h3,h4⟩:=h;obtain⟨A,c,rfl⟩:=h4.shape;exact⟨_,_,_,rfl⟩
theorem Bg.put8{w:World}{g:Nat}{t:TypeId}{a b c d a' b' c' d':Value}(h:Bg w g t #[a,b,c,d,a',b',c',d'])(x0 x1 x2 x3 x4 x5 x6 x7:Value)(h0:Ae x0=false:=by rfl)(h1:Ae x1=false:=by rfl)(h2:Ae x2=false:=by rfl)(h3:Ae x3=false:=by rfl)(h4:Ae x4=false:=by rfl)(h5:Ae x5=false:=by rfl)(h6:Ae x6=false:=by rfl)(h7:Ae x7=false:=by rfl) :
  ∃ W,W=(((((((w.setCell ⟨g,0,none⟩ x0).setCell ⟨g,1,none⟩ x1).setCell ⟨g,2,none⟩ x2).setCell ⟨g,3,none⟩ x3).setCell ⟨g,4,none⟩ x4).setCell ⟨g,5,none⟩ x5).setCell ⟨g,6,none⟩ x6).setCell ⟨g,7,none⟩ x7/\Bg W g t #[x0,x1,x2,x3,x4,x5,x6,x7]/\Ch [g] w W:=by
 have k0:Bg (w.setCell ⟨g,0,none⟩ x0) g t #[x0,b,c,d,a',b',c',d']:=h.set_ 0 h0;have k1:Bg ((w.setCell ⟨g,0,none⟩ x0).setCell ⟨g,1,none⟩ x1) g t #[x0,x1,c,d,a',b',c',d']:=k0.set_ 1 h1;have k2:Bg (((w.setCell ⟨g,0,none⟩ x0).setCell ⟨g,1,none⟩ x1).setCell ⟨g,2,none⟩ x2) g t #[x0,x1,x2,d,a',b',c',d']:=k1.set_ 2 h2;have k3:Bg ((((w.setCell ⟨g,0,none⟩ x0).setCell ⟨g,1,none⟩ x1).setCell ⟨g,2,none⟩ x2).setCell ⟨g,3,none⟩ x3) g t #[x0,x1,x2,x3,a',b',c',d']:=k2.set_ 3 h3
 have k4:Bg (((((w.setCell ⟨g,0,none⟩ x0).setCell ⟨g,1,none⟩ x1).setCell ⟨g,2,none⟩ x2).setCell ⟨g,3,none⟩ x3).setCell ⟨g,4,none⟩ x4) g t #[x0,x1,x2,x3,x4,b',c',d']:=k3.set_ 4 h4;have k5:Bg ((((((w.setCell ⟨g,0,none⟩ x0).setCell ⟨g,1,none⟩ x1).setCell ⟨g,2,none⟩ x2).setCell ⟨g,3,none⟩ x3).setCell ⟨g,4,none⟩ x4).setCell ⟨g,5,none⟩ x5) g t #[x0,x1,x2,x3,x4,x5,c',d']:=k4.set_ 5 h5;have k6:Bg (((((((w.setCell ⟨g,0,none⟩ x0).setCell ⟨g,1,none⟩ x1).setCell ⟨g,2,none⟩ x2).setCell ⟨g,3,none⟩ x3).setCell ⟨g,4,none⟩ x4).setCell ⟨g,5,none⟩ x5).setCell ⟨g,6,none⟩ x6) g t #[x0,x1,x2,x3,x4,x5,x6,d']:=k5.set_ 6 h6
 have k7:Bg ((((((((w.setCell ⟨g,0,none⟩ x0).setCell ⟨g,1,none⟩ x1).setCell ⟨g,2,none⟩ x2).setCell ⟨g,3,none⟩ x3).setCell ⟨g,4,none⟩ x4).setCell ⟨g,5,none⟩ x5).setCell ⟨g,6,none⟩ x6).setCell ⟨g,7,none⟩ x7) g t #[x0,x1,x2,x3,x4,x5,x6,x7]:=k6.set_ 7 h7;exact⟨_,rfl,k7,(((((((Ch.set_ h.nodig 0 x0).trans (Ch.set_ k0.nodig 1 x1)).trans (Ch.set_ k1.nodig 2 x2)).trans (Ch.set_ k2.nodig 3 x3)).trans (Ch.set_ k3.nodig 4 x4)).trans (Ch.set_ k4.nodig 5 x5)).trans (Ch.set_ k5.nodig 6 x6)).trans (Ch.set_ k6.nodig 7 x7)⟩
theorem Rv{p q:Rat}:decide (IU (p - q) < 0)=decide (p < q):=by
 rw[I7];unfold BI;by_cases h:p < q
 ·rw[if_neg Ah,if_pos Ah,decide_eq_true h];rfl
 ·rw[decide_eq_false h]
  split
  ·rfl
  ·rw[if_neg Ah];rfl
def Es(w:World)(v:Value)(p q:Rat):Prop:=∃ b1 A1 n1 c1 b2 A2 n2 c2 b3 A3 n3 c3 b4 A4 n4 c4,v = .agg #[.bool b1,.slice A1 n1 c1,.bool b2,.slice A2 n2 c2,.bool b3,.slice A3 n3 c3,.bool b4,.slice A4 n4 c4]/\Br w (.agg #[.bool b1,.slice A1 n1 c1,.bool b2,.slice A2 n2 c2]) p/\Br w (.agg #[.bool b3,.slice A3 n3 c3,.bool b4,.slice A4 n4 c4]) q
theorem Es.ext{w w':World}{v:Value}{p q:Rat}(h:Es w v p q)(e:Ext w w'):Es w' v p q:=by
 obtain⟨b1,A1,n1,c1,b2,A2,n2,c2,b3,A3,n3,c3,b4,A4,n4,c4,h1,h2,h3⟩:=h;exact⟨b1,A1,n1,c1,b2,A2,n2,c2,b3,A3,n3,c3,b4,A4,n4,c4,h1,h2.ext e,h3.ext e⟩
theorem Es.has{w:World}{v:Value}{p q:Rat}(h:Es w v p q)(hp:qsz p<=274877906944)(hq:qsz q<=274877906944):KU w v p q:=by
 obtain⟨b1,A1,n1,c1,b2,A2,n2,c2,b3,A3,n3,c3,b4,A4,n4,c4,h1,h2,h3⟩:=h;exact⟨b1,A1,n1,c1,b2,A2,n2,c2,b3,A3,n3,c3,b4,A4,n4,c4,h1,h2.has hp,h3.has hq⟩
/-! ### bounds of values -/
theorem Ju(B:Rat)(hB:0<=B):∀(n:Nat) (F:Nat->Rat),∃ M,0<=M/\∀ x,ab x<=B->ab (CU n F x)<=M
 | 0,F=>⟨0,Ab,fun x _=>by show ab 0<=0;decide⟩
 | n+1,F=>by
  obtain⟨M,h0,h⟩:=Ju B hB n (tl F);refine⟨ab (F 0)+B*M,by have:=Au (F 0);have:=Rat.mul_nonneg hB h0;grind,fun x hx=>?_⟩;rw[E8];have h1:=G7 (F 0) (x*CU n (tl F) x);have h2:ab (x*CU n (tl F) x)<=B*M:=by rw[Co];exact EX hx (h x hx) (Au _) hB
  grind
theorem V8(B:Rat)(hB:0<=B):∀(n:Nat) (F:Nat->Rat),∃ L,0<=L/\∀ x y,ab x<=B->ab y<=B->ab (CU n F x - CU n F y)<=L*ab (x - y)
 | 0,F=>⟨0,Ab,fun x y _ _=>by show ab (0 - 0)<=0*_;rw[Rat.zero_mul,show(0:Rat) - 0=0 by grind];decide⟩
 | n+1,F=>by
  obtain⟨L,h0,h⟩:=V8 B hB n (tl F);obtain⟨M,m0,hM⟩:=Ju B hB n (tl F);refine⟨M+B*L,by have:=Rat.mul_nonneg hB h0;grind,fun x y hx hy=>?_⟩;rw[E8,E8];have e:F 0+x*CU n (tl F) x - (F 0+y*CU n (tl F) y)=(x - y)*CU n (tl F) x+y*(CU n (tl F) x - CU n (tl F) y):=by grind
  rw[e];have h1:=G7 ((x - y)*CU n (tl F) x) (y*(CU n (tl F) x - CU n (tl F) y));have h2:ab ((x - y)*CU n (tl F) x)<=M*ab (x - y):=by
   rw[Co];have:=EX (Std.le_refl (ab (x - y))) (hM x hx) (Au _) (Au _);grind
  have h3:ab (y*(CU n (tl F) x - CU n (tl F) y))<=B*(L*ab (x - y)):=by rw[Co];exact EX hy (h x y hx hy) (Au _) hB
  grind
theorem iX(F:Nat->Rat):pd F=pad (tl F) (cs 0 (pd (tl F))):=by
 funext i
 match i with
 | 0=>show((0+1:Nat):Rat)*F 1=F 1+0;have:((0+1:Nat):Rat)=1:=rfl;rw[this];grind
 | i+1 =>
  show((i+1+1:Nat):Rat)*F (i+1+1)=F (i+1+1)+((i+1:Nat):Rat)*F (i+1+1);have:((i+1+1:Nat):Rat)=((i+1:Nat):Rat)+1:=by push_cast;rfl
  rw[this];grind
theorem Yx(n:Nat){F:Nat->Rat}(x:Rat):CU (n+1) (pd F) x=CU (n+1) (tl F) x+x*CU n (pd (tl F)) x:=by
 conv=>lhs;rw[iX F,UU]
 congr 1;rw[E8];show 0+x*CU n (pd (tl F)) x=_;grind
theorem UY(B:Rat)(hB:0<=B):∀(n:Nat) (F:Nat->Rat),Bz n F->∃ R,0<=R/\∀ x y,ab x<=B->ab y<=B->∃ r,ab r<=R/\CU n F y - CU n F x=(y - x)*(CU n (pd F) x+(y - x)*r)
 | 0,F,_=>⟨0,Ab,fun x y _ _=>⟨0,Ab,by show(0:Rat) - 0=_*(0+_*0);grind⟩⟩
 | n+1,F,hs=>by
  obtain⟨R,h0,h⟩:=UY B hB n (tl F) hs.tl;obtain⟨M,m0,hM⟩:=Ju B hB n (pd (tl F));refine⟨M+B*R,by have:=Rat.mul_nonneg hB h0;grind,fun x y hx hy=>?_⟩;obtain⟨r,hr,e⟩:=h x y hx hy;refine⟨CU n (pd (tl F)) x+y*r,?_,?_⟩
  ·have h1:=G7 (CU n (pd (tl F)) x) (y*r)
   have h2:ab (y*r)<=B*R:=by rw[Co];exact EX hy hr (Au _) hB
   have h3:=hM x hx;grind
  ·have e1:CU (n+1) (pd F) x=CU n (tl F) x+x*CU n (pd (tl F)) x:=by
    rw[Yx];congr 1;exact Mq hs.tl (Nat.le_succ n) x
   rw[e1,E8,E8];grind
theorem GL{F:Nat->Rat}(h:Af F){B:Rat}(hB:0<=B):∃ M,0<=M/\∀ x,ab x<=B->ab (ev F x)<=M:=Ju B hB (pl F) F
theorem PX{F:Nat->Rat}(h:Af F){B:Rat}(hB:0<=B):∃ L,0<=L/\∀ x y,ab x<=B->ab y<=B->ab (ev F x - ev F y)<=L*ab (x - y):=V8 B hB (pl F) F
theorem fT{F:Nat->Rat}(h:Af F){B:Rat}(hB:0<=B):∃ R,0<=R/\∀ x y,ab x<=B->ab y<=B->∃ r,ab r<=R/\ev F y - ev F x=(y - x)*(ev (pd F) x+(y - x)*r):=by
 obtain⟨R,h0,k⟩:=UY B hB (pl F) F (AO h);refine⟨R,h0,fun x y hx hy=>?_⟩;obtain⟨r,hr,e⟩:=k x y hx hy;refine⟨r,hr,?_⟩;have e1:ev (pd F) x=CU (pl F) (pd F) x:=Fe (PI ((AO h).mono (Nat.le_succ _))) x;rw[e1];exact e
theorem Uj(P:Nat->Rat->Prop)(mono:∀ i s t,P i s->s<=t->P i t):∀ m,(∀ i,i < m->∃ T,P i T)->∃ T,1<=T/\∀ i,i < m->P i T
 | 0,_=>⟨1,Ab,fun i hi=>Aa⟩
 | m+1,h=>by
  obtain⟨T,h1,h2⟩:=Uj P mono m fun i hi=>h i Aa;obtain⟨S,hS⟩:=h m Aa;refine⟨T+ab S,by have:=Au S;grind,fun i hi=>?_⟩;by_cases e:i=m
  ·subst e;exact mono _ _ _ hS (by have:=UZ S;grind)
  ·exact mono _ _ _ (h2 i Aa) (by have:=Au S;grind)
/-! ### the chain -/
theorem PY{F:Nat->Rat}(zF:ZI F)(fF:Af F)(h0:F≠pz):∃ c:Rat,0 < c/\rd F=psc c F:=by
 have h1:=IK zF fF h0;have h2:(0:Rat) < ((cn F:Nat):Rat):=by
  have:0 < cn F:=Nat.pos_of_ne_zero h1;exact_mod_cast this
 refine⟨1 / ((cn F:Nat):Rat),?_,rfl⟩;have h3:((cn F:Nat):Rat)*(1 / ((cn F:Nat):Rat))=1:=by grind
 rcases Std.lt_trichotomy 0 (1 / ((cn F:Nat):Rat))with a | a | a
 ·exact a
 ·rw[<-a,Rat.mul_zero]at h3;exact absurd h3 Ab
 ·exfalso
  have:=JX h2 a;grind
theorem jX{A B:Nat->Rat}(fA:Af A)(fB:Af B)(h0:B≠pz):nx A B=pz↔pr A B=pz:=by
 constructor
 ·intro h
  have:=(JY fA fB h0).2.2.1;rw[h,C8]at this;exact(BC (EP fA fB)).1 this.symm
 ·exact Jv
theorem Fs.dv{F0 G0 A B:Nat->Rat}{D S:Nat}(h:Fs F0 G0 D S A B){E:Nat->Rat}(hE:Af E):(Dv E A/\Dv E B)↔(Dv E F0/\Dv E G0):=by
 obtain⟨A',B',e,d,h,rfl,rfl,he,hd⟩:=h;rw[FW (JL he),FW (JL hd)];exact h.dv E hE
theorem LF{F G E:Nat->Rat}(c:Dx F G)(hE:Af E)(h1:Dv E F)(h2:Dv E G):pl E=1:=Dx.self hE ((c.dv h1).symm.dv h2)
theorem Fs.cop{F0 G0 A B:Nat->Rat}{D S:Nat}(h:Fs F0 G0 D S A B)(c:Dx F0 G0):Dx A B:=by
 obtain⟨fA,fB,-⟩:=h.facts;obtain⟨U,V,E,fU,fV,hg,e⟩:=Yf (pl B) fA fB (Nat.le_refl _);obtain⟨d1,d2⟩:=(h.dv hg.1).1 ⟨hg.2.2.1,hg.2.2.2.1⟩;have h1:=LF c hg.1 d1 d2;have hne:E≠pz:=fun q=>by rw[q,C8]at h1;omega
 have hl:=hg.2.1 hne;have hE:E=pone:=by
  funext i
  match i with
  | 0 =>
   have:ld E=E 0:=by unfold ld;rw[h1]
   rw[<-this,hl];rfl
  | i+1=>exact(AO hg.1) (i+1) Aa
 exact⟨U,V,fU,fV,by rw[e,hE]⟩
noncomputable def vx(F:Nat->Rat)(K:Nat)(x:Rat):Nat:=Wq (fun i=>ev (Cn F (pd F) i) x) K
noncomputable def IR(F:Nat->Rat)(x y:Rat):Nat:=open Classical in if ev F x≠0/\BI (ev F y)≠BI (ev F x)then 1 else 0
theorem Gr{c q:Rat}(h:0 < c):BI (c*q)=BI q:=by
 unfold BI;rcases Std.lt_trichotomy q 0 with a | a | a
 ·have:=JX h a
  rw[if_neg (show ¬ 0 < c*q by grind),if_pos this,if_neg (show ¬ 0 < q by grind),if_pos a]
 ·rw[a,Rat.mul_zero]
 ·have:=Rat.mul_pos h a
  rw[if_pos this,if_pos a]
section
variable{F:Nat->Rat}{K:Nat}
structure EA(F:Nat->Rat)(K:Nat):Prop where
 z:ZI F
 f:Af F
 n:F≠pz
 c:Dx F (pd F)
 k:Mt F (pd F) K
theorem EA.st(h:EA F K){S:Nat}(hS:∀ i,qsz (F i)<=S)(hS2:∀ i,qsz (pd F i)<=S)(i:Nat)(hi:i < K):Fs F (pd F) (pl F+pl (pd F)) S (Cn F (pd F) i) (Cn F (pd F) (i+1)):=
 Ki h.f (C9 h.f) h.z (Ex h.z) hS hS2 i fun j a b=>h.k.2.2 j a Aa
theorem EA.room(h:EA F K):∃ S,(∀ i,qsz (F i)<=S)/\∀ i,qsz (pd F i)<=S:=by
 obtain⟨S,hS⟩:=Ev h.f;obtain⟨T,hT⟩:=Ev (C9 h.f);exact⟨max S T,fun i=>Nat.le_trans (hS i) (Nat.le_max_left _ _),fun i=>Nat.le_trans (hT i) (Nat.le_max_right _ _)⟩
theorem EA.ne0(h:EA F K):Cn F (pd F) 0≠pz:=by
 obtain⟨c,hc,e⟩:=PY h.z h.f h.n;intro q;have e2:Cn F (pd F) 0=rd F:=rfl;rw[e2,e]at q;have:=Ea (show c≠0 by grind) h.f;rw[q,C8]at this;exact h.n ((BC h.f).1 this.symm)
theorem EA.ne(h:EA F K){i:Nat}(hi:i < K):Cn F (pd F) i≠pz:=by
 match i with
 | 0=>exact h.ne0
 | i+1=>exact h.k.2.2 (i+1) Aa hi
theorem EA.fin(h:EA F K){i:Nat}(hi:i < K):Af (Cn F (pd F) i):=by
 obtain⟨S,a,b⟩:=h.room;exact(h.st a b i hi).facts.1
theorem EA.last(h:EA F K):pl (Cn F (pd F) (K - 1))=1:=by
 obtain⟨S,a,b⟩:=h.room;have hK:=h.k.1;have h1:=h.st a b (K - 1) Aa;have e:K - 1+1=K:=by omega
 rw[e,h.k.2.1]at h1;obtain⟨fA,-⟩:=h1.facts;exact LF h.c fA ((h1.dv fA).1 ⟨Dv.refl _,Dv.zero _⟩).1 ((h1.dv fA).1 ⟨Dv.refl _,Dv.zero _⟩).2
theorem EA.recr(h:EA F K){i:Nat}(hi:i+2 < K):∃ q c,Af q/\0 < c/\∀ x,ev (Cn F (pd F) i) x=ev q x*ev (Cn F (pd F) (i+1)) x - c*ev (Cn F (pd F) (i+2)) x:=by
 have f0:=h.fin (show i < K by omega);have f1:=h.fin (show i+1 < K by omega);have n1:=h.ne (show i+1 < K by omega);have n2:=h.ne hi;have hp:pr (Cn F (pd F) i) (Cn F (pd F) (i+1))≠pz:=fun q=>n2 ((jX f0 f1 n1).2 q);obtain⟨-,fx,-,-,hc⟩:=JY f0 f1 n1;obtain⟨c,hc0,e⟩:=hc hp;refine⟨pq (Cn F (pd F) i) (Cn F (pd F) (i+1)),c,DR _ _,hc0,fun x=>?_⟩;have e2:=Lf (Cn F (pd F) i) (Cn F (pd F) (i+1));have e3:ev (Cn F (pd F) i) x=ev (pad (cv (pq (Cn F (pd F) i) (Cn F (pd F) (i+1))) (Cn F (pd F) (i+1))) (pr (Cn F (pd F) i) (Cn F (pd F) (i+1)))) x:=by rw[<-e2]
 rw[e3,Kh ((DR _ _).cv f1) (EP f0 f1),Gt (DR _ _) f1,e,Gu _ fx];show _ + -c*ev (nx (Cn F (pd F) i) (Cn F (pd F) (i+1))) x=_ - c*ev (Cn F (pd F) (i+2)) x;rw[Kv];grind
theorem IE{c:Rat}(h:0 < c):0 < 1 / c/\1 / c*c=1:=by
 have e:1 / c*c=1:=by grind
 refine⟨?_,e⟩;rcases Std.lt_trichotomy 0 (1 / c)with p | p | p
 ·exact p
 ·rw[<-p,Rat.zero_mul]at e;exact absurd e Ab
 ·have:=JX h p;grind
theorem QZ{p q t s:Rat}(h1:p<=t*q)(h2:0<=q)(h3:t<=s):p<=s*q:=Std.le_trans h1 (Rat.mul_le_mul_of_nonneg_right h3 h2)
theorem Zg{a b c d:Rat}(ha:1<=a)(hb:1<=b)(hc:1<=c):a<=a+b+c+ab d/\b<=a+b+c+ab d/\c<=a+b+c+ab d/\d<=a+b+c+ab d/\1<=a+b+c+ab d:=by
 have h1:=Au d;have h2:=UZ d;refine⟨?_,?_,?_,?_,?_⟩<;>grind
theorem EC{a b c:Rat}(h:a<=b)(hc:0<=c):a<=b+c:=by grind
theorem DC{a b c:Rat}(h:a<=c)(hb:0<=b):a<=b+c:=by grind
theorem EA.lipT(h:EA F K){B:Rat}(hB:0<=B):∃ T,1<=T/\∀ i,i < K->∀ x y,ab x<=B->ab y<=B->ab (ev (Cn F (pd F) i) x - ev (Cn F (pd F) i) y)<=T*ab (x - y):=
 Uj (fun i T=>∀ x y,ab x<=B->ab y<=B->ab (ev (Cn F (pd F) i) x - ev (Cn F (pd F) i) y)<=T*ab (x - y)) (fun i s t p q x y hx hy=>QZ (p x y hx hy) (Au _) q) K fun i hi=>by
  obtain⟨L,-,hL⟩:=PX (h.fin hi) hB;exact⟨L,hL⟩
theorem EA.bezT(h:EA F K){B:Rat}(hB:0<=B):∃ T,1<=T/\∀ i,i < K->∃ U W,Af U/\Af W/\pad (cv U (Cn F (pd F) i)) (cv W (Cn F (pd F) (i+1)))=pone/\∀ x,ab x<=B->ab (ev U x)<=T/\ab (ev W x)<=T:=by
 obtain⟨S,a,b⟩:=h.room;refine Uj (fun i T=>∃ U W,Af U/\Af W/\pad (cv U (Cn F (pd F) i)) (cv W (Cn F (pd F) (i+1)))=pone/\∀ x,ab x<=B->ab (ev U x)<=T/\ab (ev W x)<=T) (fun i s t p q=>?_) K fun i hi=>?_
 ·obtain⟨U,W,c1,c2,c3,c4⟩:=p
  exact⟨U,W,c1,c2,c3,fun x hx=>⟨Std.le_trans (c4 x hx).1 q,Std.le_trans (c4 x hx).2 q⟩⟩
 ·obtain⟨U,W,c1,c2,c3⟩:=(h.st a b i hi).cop h.c
  obtain⟨M,m0,hM⟩:=GL c1 hB;obtain⟨N,n0,hN⟩:=GL c2 hB;exact⟨M+N,U,W,c1,c2,c3,fun x hx=>⟨EC (hM x hx) n0,DC (hN x hx) m0⟩⟩
theorem EA.recT(h:EA F K){B:Rat}(hB:0<=B):∃ T,1<=T/\∀ i,i < K->i+2 < K->∃ q c,Af q/\0 < c/\(∀ x,ev (Cn F (pd F) i) x=ev q x*ev (Cn F (pd F) (i+1)) x - c*ev (Cn F (pd F) (i+2)) x)/\(∀ x,ab x<=B->ab (ev q x)<=T)/\1<=T*c:=by
 refine Uj (fun i T=>i+2 < K->∃ q c,Af q/\0 < c/\(∀ x,ev (Cn F (pd F) i) x=ev q x*ev (Cn F (pd F) (i+1)) x - c*ev (Cn F (pd F) (i+2)) x)/\(∀ x,ab x<=B->ab (ev q x)<=T)/\1<=T*c) (fun i s t p q hi=>?_) K fun i hi=>?_
 ·obtain⟨u,c,c1,c2,c3,c4,c5⟩:=p hi
  exact⟨u,c,c1,c2,c3,fun x hx=>Std.le_trans (c4 x hx) q,QZ c5 (Std.le_of_lt c2) q⟩
 ·by_cases hi2:i+2 < K
  ·obtain⟨q,c,c1,c2,c3⟩:=h.recr hi2
   obtain⟨M,m0,hM⟩:=GL c1 hB;obtain⟨hp,e⟩:=IE c2;refine⟨M+1 / c,fun _=>⟨q,c,c1,c2,c3,fun x hx=>EC (hM x hx) (Std.le_of_lt hp),?_⟩⟩;have h1:=Rat.mul_nonneg m0 (Std.le_of_lt c2);rw[Rat.add_mul,e];exact DC (Std.le_refl _) h1
  ·exact⟨0,fun q=>absurd q hi2⟩
theorem EA.topT(h:EA F K){B:Rat}(hB:0<=B)(hK1:1 < K):∃ k T4:Rat,0 < k/\1<=T4*k/\∀ x y,ab x<=B->ab y<=B->∃ r,ab r<=T4/\ev (Cn F (pd F) 0) y - ev (Cn F (pd F) 0) x=(y - x)*(k*ev (Cn F (pd F) 1) x+(y - x)*r):=by
 obtain⟨c0,hc0,e0⟩:=PY h.z h.f h.n;obtain⟨R,hR0,hR⟩:=fT h.f hB;have e00:Cn F (pd F) 0=rd F:=rfl;have e01:Cn F (pd F) 1=rd (pd F):=rfl;have n1:pd F≠pz:=fun q=>h.ne hK1 (by rw[e01,q,XC]);obtain⟨c1,hc1,e1⟩:=PY (Ex h.z) (C9 h.f) n1;obtain⟨hp1,i1⟩:=IE hc1;have hk:0 < c0*(1 / c1):=Rat.mul_pos hc0 hp1;obtain⟨hp2,i2⟩:=IE hk;have hcR:=Rat.mul_nonneg (Std.le_of_lt hc0) hR0;obtain⟨k,hkd⟩:∃ k,k=c0*(1 / c1):=⟨_,rfl⟩
 rw[<-hkd]at hk hp2 i2;refine⟨k,1 / k+c0*R,hk,?_,fun x y hx hy=>?_⟩
 ·rw[Rat.add_mul,i2]
  exact EC (Std.le_refl _) (Rat.mul_nonneg hcR (Std.le_of_lt hk))
 ·obtain⟨r,hr,e⟩:=hR x y hx hy
  refine⟨c0*r,?_,?_⟩
  ·rw[Co,DY (Std.le_of_lt hc0)]
   exact DC (Rat.mul_le_mul_of_nonneg_left hr (Std.le_of_lt hc0)) (Std.le_of_lt hp2)
  ·rw[e00,e01,e0,e1,Gu _ h.f,Gu _ h.f,Gu _ (C9 h.f)]
   obtain⟨P,hP⟩:∃ P,P=ev (pd F) x:=⟨_,rfl⟩
   rw[<-hP]at e ⊢;have e6:c0*ev F y - c0*ev F x=c0*(ev F y - ev F x):=by rw[Rat.sub_eq_add_neg,Rat.sub_eq_add_neg,Rat.mul_add,Rat.mul_neg]
   rw[e6,e,hkd];clear hR hr e hx hy hcR h hk hp2 i2 e6;have e7:c0*(1 / c1)*(c1*P)=c0*P*(1 / c1*c1):=by grind
   rw[e7,i1];grind
theorem EA.cells(h:EA F K){B:Rat}(hB:0<=B):∃ T,1<=T/\∀ x y,ab x<=B->ab y<=B->x < y->4*(T*(T*(T*(T*(y - x))))) < 1->KA (K - 1) (fun i=>ev (Cn F (pd F) i) x) (fun i=>ev (Cn F (pd F) i) y) T (y - x):=by
 have hK:=h.k.1;obtain⟨T1,t1,h1⟩:=h.lipT hB;obtain⟨T2,t2,h2⟩:=h.bezT hB;obtain⟨T3,t3,h3⟩:=h.recT hB;obtain⟨k,T4,h4⟩:∃ k T4:Rat,1 < K->0 < k/\1<=T4*k/\∀ x y,ab x<=B->ab y<=B->∃ r,ab r<=T4/\ev (Cn F (pd F) 0) y - ev (Cn F (pd F) 0) x=(y - x)*(k*ev (Cn F (pd F) 1) x+(y - x)*r):=by
  by_cases hK1:1 < K
  ·obtain⟨k,T4,q⟩:=h.topT hB hK1;exact⟨k,T4,fun _=>q⟩
  ·exact⟨0,0,fun q=>absurd q hK1⟩
 obtain⟨l1,l2,l3,l4,l5⟩:=Zg (d:=T4) t1 t2 t3;obtain⟨T,hT⟩:∃ T,T=T1+T2+T3+ab T4:=⟨_,rfl⟩
 rw[<-hT]at l1 l2 l3 l4 l5;refine⟨T,l5,fun x y hx hy hxy hsm=>?_⟩;have hlast:=h.last;have hcl:∀ z,ev (Cn F (pd F) (K - 1)) z=Cn F (pd F) (K - 1) 0:=fun z=>by
  unfold ev;rw[hlast,E8];show _+z*0=_;rw[Rat.mul_zero,Rat.add_zero]
 have hd0:0 < y - x:=by clear hsm h1 h2 h3 h4 hcl;grind
 have hdxy:ab (x - y)=y - x:=by
  clear hsm h1 h2 h3 h4 hcl;unfold ab;rw[if_pos Ah];grind
 have hfin:∀ i,i < K->Af (Cn F (pd F) i):=fun i hi=>h.fin hi;have hne:=De (hfin (K - 1) Aa) (h.ne (show K - 1 < K by omega));have hbz:∀ z,ab z<=B->∀ i,i+1 < K->∃ U W,U*ev (Cn F (pd F) i) z+W*ev (Cn F (pd F) (i+1)) z=1/\ab U<=T/\ab W<=T:=fun z hz i hi=>by
  obtain⟨U,W,c1,c2,c3,c4⟩:=h2 i Aa;refine⟨ev U z,ev W z,?_,Std.le_trans (c4 z hz).1 l2,Std.le_trans (c4 z hz).2 l2⟩;rw[<-Gt c1 (hfin i Aa),<-Gt c2 (hfin (i+1) hi),<-Kh (c1.cv (hfin i Aa)) (c2.cv (hfin (i+1) hi)),c3,P6]
 have hrc:∀ z,ab z<=B->∀ i,i+2 < K->∃ q c,ev (Cn F (pd F) i) z=q*ev (Cn F (pd F) (i+1)) z - c*ev (Cn F (pd F) (i+2)) z/\ab q<=T/\0 < c/\1<=T*c:=fun z hz i hi=>by
  obtain⟨q,c,c1,c2,c3,c4,c5⟩:=h3 i Aa hi;exact⟨ev q z,c,c3 z,Std.le_trans (c4 z hz) l3,c2,QZ c5 (Std.le_of_lt c2) l3⟩
 refine⟨l5,hd0,hsm,fun i hi=>?_,fun i hi=>hbz x hx i Aa,fun i hi=>hbz y hy i Aa,fun i hi=>hrc x hx i Aa,fun i hi=>hrc y hy i Aa,⟨by rw[hcl,hcl],?_⟩,fun hm=>?_⟩
 ·have:=h1 i Aa x y hx hy
  rw[hdxy]at this;exact QZ this (Std.le_of_lt hd0) l1
 ·show ev (Cn F (pd F) (K - 1)) x≠0
  rw[hcl];unfold ld at hne;rw[hlast]at hne;exact hne
 ·obtain⟨g1,g2,g3⟩:=h4 Aa
  obtain⟨r,hr,e⟩:=g3 x y hx hy;exact⟨k,r,e,g1,QZ g2 (Std.le_of_lt g1) l4,Std.le_trans hr l4⟩
theorem Si{T:Rat}(hT:1<=T):∃ δ:Rat,0 < δ/\∀ d,d<=δ->4*(T*(T*(T*(T*d)))) < 1:=by
 have hT0:0 < T:=by grind
 have p2:=Rat.mul_pos hT0 hT0;have p3:=Rat.mul_pos hT0 p2;have p4:=Rat.mul_pos hT0 p3;obtain⟨P,hP⟩:∃ P,P=T*(T*(T*T)):=⟨_,rfl⟩
 rw[<-hP]at p4;obtain⟨hδ,hi⟩:=IE (show 0 < 8*P by grind);refine⟨1 / (8*P),hδ,fun d hd=>?_⟩;have e:T*(T*(T*(T*d)))=P*d:=by rw[hP];grind
 rw[e];have h1:=Rat.mul_le_mul_of_nonneg_left hd (show 0<=P by grind);obtain⟨X,hX⟩:∃ X,X=1 / (8*P):=⟨_,rfl⟩
 rw[<-hX]at h1 hi;have h2:X*(8*P)=8*(P*X):=by grind
 rw[h2]at hi;clear h2 hX e hP p2 p3 hδ;grind
theorem EA.local_(h:EA F K){B:Rat}(hB:0<=B):∃ δ:Rat,0 < δ/\∀ x y,ab x<=B->ab y<=B->x < y->y - x<=δ->vx F K x=vx F K y+IR F x y:=by
 obtain⟨T,hT,hc⟩:=h.cells hB;obtain⟨δ,hδ,hs⟩:=Si hT;refine⟨δ,hδ,fun x y hx hy hxy hd=>?_⟩;have hs:=(hc x y hx hy hxy (hs _ hd)).sturm;have hK:=h.k.1;rw[show K - 1+1=K by omega]at hs;obtain⟨c0,hc0,e0⟩:=PY h.z h.f h.n;have e00:∀ z,ev (Cn F (pd F) 0) z=c0*ev F z:=fun z=>by
  show ev (rd F) z=_;rw[e0,Gu _ h.f]
 have e2:(if BI (ev (Cn F (pd F) 0) x)≠0/\BI (ev (Cn F (pd F) 0) y)≠BI (ev (Cn F (pd F) 0) x)then 1 else 0)=IR F x y:=by
  rw[e00,e00,Gr hc0,Gr hc0];unfold IR;have hz:BI (ev F x)≠0↔ev F x≠0:=by rw[Ne,DU]
  by_cases c:ev F x≠0/\BI (ev F y)≠BI (ev F x)
  ·rw[if_pos ⟨hz.2 c.1,c.2⟩,if_pos c]
  ·rw[if_neg (fun q=>c ⟨hz.1 q.1,q.2⟩),if_neg c]
 rw[e2]at hs;exact hs
end
theorem kY(q:Rat):∃ n:Nat,0 < n/\q<=(n:Rat):=by
 refine⟨q.num.natAbs+1,Aa,?_⟩;have h1:(0:Rat)<=((q.num.natAbs:Nat):Rat):=by exact_mod_cast Nat.zero_le _
 have h2:(((q.num.natAbs+1:Nat)):Rat)=((q.num.natAbs:Nat):Rat)+1:=by push_cast;rfl
 rw[h2];rcases Std.lt_trichotomy 0 q with a | a | a
 ·have hd:(1:Rat)<=((q.den:Nat):Rat):=by
   have:=q.den_pos;exact_mod_cast this
  have e:q*((q.den:Nat):Rat)=((q.num:Int):Rat):=by
   have h3:=JW q;have hd0:((q.den:Nat):Rat)≠0:=JH q.den_pos
   conv=>lhs;rw[h3]
   grind
  have h4:q*1<=q*((q.den:Nat):Rat):=Rat.mul_le_mul_of_nonneg_left hd (Std.le_of_lt a);have h5:((q.num:Int):Rat)<=((q.num.natAbs:Nat):Rat):=by
   have h6:q.num<=((q.num.natAbs:Nat):Int):=by omega
   have h7:((q.num:Int):Rat)<=((((q.num.natAbs:Nat):Int)):Rat):=by exact_mod_cast h6
   exact h7
  grind
 ·rw[<-a];grind
 ·grind
theorem EZ{a b z B:Rat}(ha:ab a<=B)(hb:ab b<=B)(h1:a<=z)(h2:z<=b):ab z<=B:=by
 rw[F7]at *;exact⟨Std.le_trans ha.1 h1,Std.le_trans h2 hb.2⟩
noncomputable def Wo(F:Nat->Rat)(a s:Rat):Nat->Nat
 | 0=>0
 | n+1=>Wo F a s n+IR F (a+((n:Nat):Rat)*s) (a+((n+1:Nat):Rat)*s)
section
variable{F:Nat->Rat}{K:Nat}
theorem CW(n:Nat):((n+1:Nat):Rat)=((n:Nat):Rat)+1:=by push_cast;rfl
theorem Ey(n:Nat):(0:Rat)<=((n:Nat):Rat):=by exact_mod_cast Nat.zero_le n
theorem YU{V:Rat->Nat}{B δ:Rat}(hl:∀ x y,ab x<=B->ab y<=B->x < y->y - x<=δ->V x=V y+IR F x y){a s:Rat}(hs:0 < s)(hsδ:s<=δ):∀ n,(∀ j,j<=n->ab (a+((j:Nat):Rat)*s)<=B)->V a=V (a+((n:Nat):Rat)*s)+Wo F a s n
 | 0,_=>by
  have e:a+((0:Nat):Rat)*s=a:=by show a+0*s=a;rw[Rat.zero_mul,Rat.add_zero]
  rw[e];rfl
 | n+1,hj=>by
  have h1:=YU hl hs hsδ n fun j h=>hj j Aa;have e:a+((n+1:Nat):Rat)*s=a+((n:Nat):Rat)*s+s:=by rw[CW];grind
  have h2:=hl (a+((n:Nat):Rat)*s) (a+((n+1:Nat):Rat)*s) (hj n Aa) (hj (n+1) (Nat.le_refl _)) (by rw[e];grind) (by rw[e];grind);rw[h1,h2];show _=_+(Wo F a s n+IR F _ _);omega
theorem cut{a b δ:Rat}(hab:a < b)(hδ:0 < δ):∃ n s,0 < n/\0 < s/\s<=δ/\a+((n:Nat):Rat)*s=b/\∀ j,j<=n->a<=a+((j:Nat):Rat)*s/\a+((j:Nat):Rat)*s<=b:=by
 obtain⟨hi,ei⟩:=IE hδ;obtain⟨n,hn,hq⟩:=kY ((b - a)*(1 / δ));have hn0:(0:Rat) < ((n:Nat):Rat):=by exact_mod_cast hn
 obtain⟨hm,em⟩:=IE hn0;have hba:0 < b - a:=by grind
 obtain⟨s,hs⟩:∃ s,s=(b - a)*(1 / ((n:Nat):Rat)):=⟨_,rfl⟩
 have hs0:0 < s:=by rw[hs];exact Rat.mul_pos hba hm
 have ens:((n:Nat):Rat)*s=b - a:=by rw[hs];grind
 refine⟨n,s,hn,hs0,?_,by rw[ens];grind,fun j hj=>?_⟩
 ·-- b - a<=n δ
  have h1:=Rat.mul_le_mul_of_nonneg_right hq (show 0<=δ by grind);have e1:(b - a)*(1 / δ)*δ=b - a:=by grind
  rw[e1,<-ens]at h1;rcases Std.lt_trichotomy s δ with c | c | c
  ·exact Std.le_of_lt c
  ·rw[c];exact Std.le_refl _
  ·exfalso
   have:=Rat.mul_lt_mul_of_pos_left c hn0;grind
 ·have h0:=Rat.mul_nonneg (Ey j) (Std.le_of_lt hs0)
  have hjn:((j:Nat):Rat)<=((n:Nat):Rat):=by exact_mod_cast hj
  have h1:=Rat.mul_le_mul_of_nonneg_right hjn (Std.le_of_lt hs0);rw[ens]at h1;refine⟨Ah,Ah⟩
theorem EA.sums(h:EA F K){a b:Rat}(hab:a < b){ε:Rat}(hε:0 < ε):∃ n s,0 < n/\0 < s/\s<=ε/\a+((n:Nat):Rat)*s=b/\(∀ j,j<=n->a<=a+((j:Nat):Rat)*s/\a+((j:Nat):Rat)*s<=b)/\vx F K a=vx F K b+Wo F a s n:=by
 have hB:0<=ab a+ab b:=by have:=Au a;have:=Au b;grind
 obtain⟨δ,hδ,hl⟩:=h.local_ hB;have hm:∃ μ:Rat,0 < μ/\μ<=δ/\μ<=ε:=by
  rcases Std.lt_trichotomy δ ε with c | c | c
  ·exact⟨δ,hδ,Std.le_refl _,Std.le_of_lt c⟩
  ·exact⟨δ,hδ,Std.le_refl _,by rw[c];exact Std.le_refl _⟩
  ·exact⟨ε,hε,Std.le_of_lt c,Std.le_refl _⟩
 obtain⟨μ,hμ,h1,h2⟩:=hm;obtain⟨n,s,hn,hs,hsμ,e,hj⟩:=cut hab hμ;refine⟨n,s,hn,hs,Std.le_trans hsμ h2,e,hj,?_⟩;have:=YU hl hs (Std.le_trans hsμ h1) n fun j hjn=>EZ (EC (Std.le_refl _) (Au b)) (DC (Std.le_refl _) (Au a)) (hj j hjn).1 (hj j hjn).2;rw[e]at this;exact this
theorem EA.mono(h:EA F K){a b:Rat}(hab:a<=b):vx F K b<=vx F K a:=by
 rcases Std.lt_trichotomy a b with c | c | c
 ·obtain⟨n,s,-,-,-,-,-,e⟩:=h.sums c (ε:=1) Ab
  omega
 ·rw[c];exact Nat.le_refl _
 ·exfalso;grind
theorem OD{a s:Rat}:∀ n,(∀ j,j < n->IR F (a+((j:Nat):Rat)*s) (a+((j+1:Nat):Rat)*s)=0)->Wo F a s n=0
 | 0,_=>rfl
 | n+1,hj=>by
  show Wo F a s n+IR F _ _=0;rw[OD n fun j h=>hj j Aa,hj n Aa]
theorem EA.flat(h:EA F K){a b ε:Rat}(hab:a<=b)(hε:0 < ε)(hf:∀ z,a<=z->z<=b->ε<=ab (ev F z)):vx F K a=vx F K b:=by
 rcases Std.lt_trichotomy a b with c | c | c
 ·have hB:0<=ab a+ab b:=by have:=Au a;have:=Au b;grind
  obtain⟨L,hL0,hL⟩:=PX h.f hB;obtain⟨hi,ei⟩:=IE (show 0 < L+1 by grind);have hμ:0 < ε*(1 / (L+1))*(1 / 2):=Rat.mul_pos (Rat.mul_pos hε hi) Ah;obtain⟨n,s,hn,hs,hsμ,e,hj,hv⟩:=h.sums c hμ;have hLs:L*s < ε:=by
   have h1:=Rat.mul_le_mul_of_nonneg_left hsμ (show 0<=L+1 by grind);have e1:(L+1)*(ε*(1 / (L+1))*(1 / 2))=ε*(1 / 2):=by grind
   rw[e1]at h1;grind
  have hz:=OD (F:=F) (a:=a) (s:=s) n fun j hjn=>by
   unfold IR;refine if_neg fun q=>?_;obtain⟨x1,x2⟩:=hj j Aa;obtain⟨y1,y2⟩:=hj (j+1) Aa;have bx:=EZ (EC (Std.le_refl (ab a)) (Au b)) (DC (Std.le_refl _) (Au a)) x1 x2;have by_:=EZ (EC (Std.le_refl (ab a)) (Au b)) (DC (Std.le_refl _) (Au a)) y1 y2;have hl:=hL _ _ bx by_;have ed:ab (a+((j:Nat):Rat)*s - (a+((j+1:Nat):Rat)*s))=s:=by
    have:a+((j:Nat):Rat)*s - (a+((j+1:Nat):Rat)*s) = - s:=by rw[CW];grind
    rw[this,Il,DY (Std.le_of_lt hs)]
   rw[ed]at hl;have:=(Gs hl (fun t=>q.2 t.1.symm)).1;have h3:=hf _ x1 x2;grind
  rw[hz]at hv;exact hv
 ·rw[c]
 ·exfalso;grind
theorem dN{f:Nat->Rat}(hf:Af f)(h0:f≠pz){B z:Rat}(hB:1<=B)(hc:∀ i,i < pl f - 1->ab (f i)<=ab (ld f)*(B - 1))(hz:B<=ab z):ab (ld f)<=ab (ev f z):=by
 have hp:=Bb hf h0;have hl:=Au (ld f);have key:∀ k,k < pl f->ab (ld f)<=ab (hor f z (pl f) (pl f - 1 - k)):=by
  intro k;induction k with
  | zero =>
   intro _;have e:=Kw f z (show pl f - 1 < pl f by omega);rw[show pl f - 1+1=pl f by omega,Px,Rat.zero_mul,Rat.zero_add]at e;rw[Nat.sub_zero,e];exact Std.le_refl _
  | succ k ih =>
   intro hk;have h1:=ih Aa;have e:=Kw f z (show pl f - 1 - (k+1) < pl f by omega);rw[show pl f - 1 - (k+1)+1=pl f - 1 - k by omega]at e;have h2:=hc (pl f - 1 - (k+1)) Aa;have h3:ab (ld f)*ab z<=ab (hor f z (pl f) (pl f - 1 - k)*z):=by rw[Co];exact Rat.mul_le_mul_of_nonneg_right h1 (Au _)
   have h4:ab (hor f z (pl f) (pl f - 1 - k)*z)<=ab (hor f z (pl f) (pl f - 1 - (k+1)))+ab (f (pl f - 1 - (k+1))):=by
    have:=X5 (hor f z (pl f) (pl f - 1 - (k+1))) (f (pl f - 1 - (k+1)));have e2:hor f z (pl f) (pl f - 1 - (k+1)) - f (pl f - 1 - (k+1))=hor f z (pl f) (pl f - 1 - k)*z:=by rw[e];grind
    rw[e2]at this;exact this
   have h5:ab (ld f)*B<=ab (ld f)*ab z:=Rat.mul_le_mul_of_nonneg_left hz hl;have h6:ab (ld f)*(B - 1)=ab (ld f)*B - ab (ld f):=by grind
   rw[h6]at h2;clear hc ih e h0 hf;grind
 have:=key (pl f - 1) Aa;rw[show pl f - 1 - (pl f - 1)=0 by omega,Nh]at this;exact this
theorem EA.beyond(h:EA F K){f q:Nat->Rat}(hf:Af f)(h0:f≠pz)(fq:Af q)(e:f=cv q F){B:Rat}(hB:1<=B)(hc:∀ i,i < pl f - 1->ab (f i)<=ab (ld f)*(B - 1)){a b:Rat}(hab:a<=b)(hout:∀ z,a<=z->z<=b->B<=ab z):vx F K a=vx F K b:=by
 have hBn:0<=ab a+ab b:=by have:=Au a;have:=Au b;grind
 obtain⟨M,hM0,hM⟩:=GL fq hBn;obtain⟨hi,ei⟩:=IE (show 0 < M+1 by grind);have hl:0 < ab (ld f):=Yt.2 (De hf h0);refine h.flat hab (Rat.mul_pos hl hi) fun z h1 h2=>?_;have hc1:=dN hf h0 hB hc (hout z h1 h2);have hb:=hM z (EZ (EC (Std.le_refl (ab a)) (Au b)) (DC (Std.le_refl _) (Au a)) h1 h2);rw[e,Gt fq h.f,Co,<-e]at hc1;have hz:=Au (ev F z);have h3:ab (ev q z)*ab (ev F z)<=(M+1)*ab (ev F z):=Rat.mul_le_mul_of_nonneg_right Ah hz
 have h4:=Std.le_trans hc1 h3;have h5:=Rat.mul_le_mul_of_nonneg_right h4 (Std.le_of_lt hi);have e2:(M+1)*ab (ev F z)*(1 / (M+1))=ab (ev F z):=by grind
 rw[e2]at h5;exact h5
end
theorem NQ{P:Rat->Rat->Prop}{a b δ:Rat}(hδ:0 < δ)(hab:a < b)(hc:∀ x y,a<=x->x < y->y<=b->y - x<=δ->P x y)
  (ht:∀ x y z,a<=x->x < y->y < z->z<=b->P x y->P y z->P x z):P a b:=by
 obtain⟨n,s,hn,hs,hsδ,e,hj⟩:=cut hab hδ;have key:∀ k,k < n->P a (a+((k+1:Nat):Rat)*s):=by
  intro k;induction k with
  | zero =>
   intro h;have e1:a+((0+1:Nat):Rat)*s=a+s:=by rw[CW];show a+(0+1)*s=_;grind
   have:=(hj 1 Aa).2;rw[show((1:Nat):Rat)=((0+1:Nat):Rat)from rfl]at this;rw[e1]at this ⊢;exact hc a (a+s) (Std.le_refl _) Ah this Ah
  | succ k ih =>
   intro h;have e1:a+((k+1+1:Nat):Rat)*s=a+((k+1:Nat):Rat)*s+s:=by rw[CW];grind
   have h1:=hj (k+1) Aa;have h2:=hj (k+1+1) Aa;have h3:a < a+((k+1:Nat):Rat)*s:=by
    have:=Rat.mul_nonneg (Ey k) (Std.le_of_lt hs);rw[CW];grind
   refine ht a (a+((k+1:Nat):Rat)*s) _ (Std.le_refl _) h3 (by rw[e1];grind) h2.2 (ih Aa) ?_;exact hc _ _ h1.1 (by rw[e1];grind) h2.2 (by rw[e1];grind)
 have:=key (n - 1) Aa;rw[show n - 1+1=n by omega,e]at this;exact this
noncomputable def rt(F:Nat->Rat)(K:Nat)(p q:Rat):Int:=(vx F K p:Int) - (vx F K q:Int)
section
variable{F:Nat->Rat}{K:Nat}
theorem J6(F:Nat->Rat)(K:Nat)(p q r:Rat):rt F K p q+rt F K q r=rt F K p r:=by unfold rt;omega
theorem PO(F:Nat->Rat)(K:Nat)(p:Rat):rt F K p p=0:=by unfold rt;omega
theorem EA.rt_nonneg(h:EA F K){p q:Rat}(hpq:p<=q):0<=rt F K p q:=by have:=h.mono hpq;unfold rt;omega
theorem EA.rt_sub(h:EA F K){p x y q:Rat}(h1:p<=x)(h2:x<=y)(h3:y<=q):rt F K x y<=rt F K p q:=by
 have:=h.rt_nonneg h1;have:=h.rt_nonneg h3;have:=J6 F K p x y;have:=J6 F K p y q;omega
theorem EA.loc(h:EA F K)(a b:Rat):∃ δ:Rat,0 < δ/\∀ x y,a<=x->x < y->y<=b->y - x<=δ->rt F K x y=IR F x y:=by
 have hB:0<=ab a+ab b:=by have:=Au a;have:=Au b;grind
 obtain⟨δ,hδ,hl⟩:=h.local_ hB;refine⟨δ,hδ,fun x y h1 h2 h3 h4=>?_⟩;have:=hl x y (EZ (EC (Std.le_refl (ab a)) (Au b)) (DC (Std.le_refl _) (Au a)) h1 Ah)
  (EZ (EC (Std.le_refl (ab a)) (Au b)) (DC (Std.le_refl _) (Au a)) Ah h3) h2 h4
 unfold rt;omega
theorem J9{q:Rat}(h:BI q≠0):q≠0:=fun e=>h (DU.2 e)
theorem Pj{q:Rat}(h:q≠0):BI q≠0:=fun e=>h (DU.1 e)
theorem Xg{x y:Rat}(h:(IR F x y:Int)=0)(hx:ev F x≠0):BI (ev F y)=BI (ev F x):=by
 unfold IR at h
 split at h
 ·omega
 ·rename_i c
  exact Classical.byContradiction fun e=>c ⟨hx,e⟩
theorem Zr{x y:Rat}(hx:ev F x≠0)(h:BI (ev F y)≠BI (ev F x)):(IR F x y:Int)=1:=by
 unfold IR;rw[if_pos ⟨hx,h⟩];rfl
theorem dL(F:Nat->Rat)(x y:Rat):0<=(IR F x y:Int)/\(IR F x y:Int)<=1:=by
 unfold IR;split<;>simp
theorem EA.sg_const(h:EA F K){p q:Rat}(hpq:p<=q)(h0:rt F K p q=0)(hp:ev F p≠0):BI (ev F q)=BI (ev F p):=by
 rcases Std.lt_trichotomy p q with c | c | c
 ·obtain⟨δ,hδ,hl⟩:=h.loc p q
  refine NQ (P:=fun x y=>rt F K x y=0->ev F x≠0->BI (ev F y)=BI (ev F x)) hδ c (fun x y a b c d e f=>?_) (fun x y z a b c d e f g k=>?_) h0 hp
  ·rw[hl x y a b c d]at e
   exact Xg e f
  ·have h1:=h.rt_nonneg (Std.le_of_lt b)
   have h2:=h.rt_nonneg (Std.le_of_lt c);have h3:=J6 F K x y z;have e1:=e Aa k;have e2:=f Aa (J9 (by rw[e1];exact Pj k));rw[e2,e1]
 ·rw[c]
 ·exfalso;grind
theorem Og(hf:Af F)(h0:F≠pz){p z δ:Rat}(hp:p < z)(hδ:0 < δ):∃ x,p < x/\x < z/\z - x<=δ/\ev F x≠0:=by
 obtain⟨μ,hμ,m1,m2⟩:∃ μ:Rat,0 < μ/\μ<=δ/\μ < z - p:=by
  rcases Std.lt_trichotomy δ (z - p)with c | c | c
  ·exact⟨δ,hδ,Std.le_refl _,c⟩
  ·exact⟨δ / 2,Ah,Ah,Ah⟩
  ·exact⟨(z - p) / 2,Ah,Ah,Ah⟩
 refine Classical.byContradiction fun hn=>?_;have hz:∀ x,z - μ<=x->x < z->ev F x=0:=fun x a b=>Classical.byContradiction fun e=>hn ⟨x,Ah,b,Ah,e⟩;have hpl:=Bb hf h0;obtain⟨n,hn'⟩:∃ n,n=pl F:=⟨_,rfl⟩
 have hn0:(0:Rat) < ((n:Nat):Rat):=by rw[hn'];exact_mod_cast hpl
 obtain⟨hi,ei⟩:=IE hn0;obtain⟨s,hs⟩:∃ s,s=μ*(1 / ((n:Nat):Rat)):=⟨_,rfl⟩
 have hs0:0 < s:=by rw[hs];exact Rat.mul_pos hμ hi
 have ens:((n:Nat):Rat)*s=μ:=by rw[hs];grind
 have hlist:((List.range n).map fun j:Nat=>z - μ+((j:Nat):Rat)*s).Nodup:=by
  rw[List.nodup_iff_pairwise_ne,List.pairwise_map];refine List.Pairwise.imp ?_ List.pairwise_lt_range;intro i j hij e;have hij':((i:Nat):Rat)+1<=((j:Nat):Rat):=by rw[<-CW];exact_mod_cast hij
  have:=Rat.mul_le_mul_of_nonneg_right hij' (Std.le_of_lt hs0);grind
 refine h0 (I5 (l:=(List.range n).map fun j:Nat=>z - μ+((j:Nat):Rat)*s) (by rw[List.length_map,List.length_range,hn'];exact AO hf) hlist ?_);intro x hx;obtain⟨j,hj,rfl⟩:=List.mem_map.1 hx;have hj:=List.mem_range.1 hj;have h1:=Rat.mul_nonneg (Ey j) (Std.le_of_lt hs0);have hij':((j:Nat):Rat)+1<=((n:Nat):Rat):=by rw[<-CW];exact_mod_cast hj
 have:=Rat.mul_le_mul_of_nonneg_right hij' (Std.le_of_lt hs0);exact hz _ Ah Ah
theorem EA.zero_counts(h:EA F K){p z q:Rat}(h1:p < z)(h2:z<=q)(hz:ev F z=0):1<=rt F K p q:=by
 obtain⟨δ,hδ,hl⟩:=h.loc p z;obtain⟨x,a,b,c,d⟩:=Og h.f h.n h1 hδ;have e1:=hl x z (Std.le_of_lt a) b (Std.le_refl _) c;rw[Zr d (by rw[hz,DU.2 rfl];exact fun e=>Pj d e.symm)]at e1;have:=h.rt_sub (Std.le_of_lt a) (Std.le_of_lt b) h2;omega
theorem EA.change_counts(h:EA F K){p q:Rat}(hpq:p<=q)(hp:ev F p≠0)(hc:BI (ev F q)≠BI (ev F p)):1<=rt F K p q:=by
 have h1:=h.rt_nonneg hpq;rcases Int.lt_or_le 0 (rt F K p q)with a | a
 ·exact a
 ·exact absurd (h.sg_const hpq Aa hp) hc
theorem EA.free(h:EA F K){p q x y:Rat}(h0:rt F K p q=0)(h1:p < x)(h2:x<=y)(h3:y<=q):ev F x≠0/\BI (ev F y)=BI (ev F x):=by
 have hx:ev F x≠0:=fun e=>by
  have:=h.zero_counts h1 (Std.le_trans h2 h3) e;omega
 have:=h.rt_sub (Std.le_of_lt h1) h2 h3;have:=h.rt_nonneg h2;exact⟨hx,h.sg_const h2 Aa hx⟩
end
theorem MB(p q:Rat):BI (p*q)=BI p*BI q:=by
 rcases Std.lt_trichotomy p 0 with a | a | a
 ·rcases Std.lt_trichotomy q 0 with b | b | b
  ·have:=Qx a b
   unfold BI;rw[if_pos this,if_neg Ah,if_pos a,if_neg Ah,if_pos b];rfl
  ·rw[b,Rat.mul_zero,show BI 0=0 from DU.2 rfl];simp
  ·have:=JX b a
   rw[Rat.mul_comm]at this;unfold BI;rw[if_neg Ah,if_pos this,if_neg Ah,if_pos a,if_pos b];rfl
 ·rw[a,Rat.zero_mul,show BI 0=0 from DU.2 rfl];simp
 ·rw[Gr a]
  unfold BI;rw[if_pos a];simp
theorem Dx.cell{A B:Nat->Rat}(fA:Af A)(fB:Af B)(c:Dx A B)(a b:Rat):∃ δ:Rat,0 < δ/\∀ x y,a<=x->x < y->y<=b->y - x<=δ ->
  (BI (ev A y)=BI (ev A x)/\ev A x≠0)\/(BI (ev B y)=BI (ev B x)/\ev B x≠0):=by
 obtain⟨U,W,fU,fW,e⟩:=c;have hB:0<=ab a+ab b:=by have:=Au a;have:=Au b;grind
 obtain⟨M,hM0,hM⟩:=GL fU hB;obtain⟨N,hN0,hN⟩:=GL fW hB;obtain⟨L,hL0,hL⟩:=PX fA hB;obtain⟨R,hR0,hR⟩:=PX fB hB;obtain⟨T,hT⟩:∃ T,T=M*L+N*R+1:=⟨_,rfl⟩
 have hML:=Rat.mul_nonneg hM0 hL0;have hNR:=Rat.mul_nonneg hN0 hR0;obtain⟨hi,ei⟩:=IE (show 0 < T by grind);refine⟨1 / T*(1 / 2),Ah,fun x y h1 h2 h3 h4=>?_⟩;have bx:=EZ (EC (Std.le_refl (ab a)) (Au b)) (DC (Std.le_refl _) (Au a)) h1 (show x<=b by grind);have by_:=EZ (EC (Std.le_refl (ab a)) (Au b)) (DC (Std.le_refl _) (Au a)) (show a<=y by grind) h3;have eab:ab (x - y)=y - x:=by rw[show x - y = -(y - x) by grind,Il,DY Ah]
 have l1:=hL x y bx by_;have l2:=hR x y bx by_;rw[eab]at l1 l2;by_cases c1:BI (ev A x)=BI (ev A y)/\BI (ev A x)≠0
 ·exact .inl ⟨c1.1.symm,J9 c1.2⟩
 by_cases c2:BI (ev B x)=BI (ev B y)/\BI (ev B x)≠0
 ·exact .inr ⟨c2.1.symm,J9 c2.2⟩
 exfalso;have s1:=(Gs l1 c1).1;have s2:=(Gs l2 c2).1;have e1:ev U x*ev A x+ev W x*ev B x=1:=by
  rw[<-Gt fU fA,<-Gt fW fB,<-Kh (fU.cv fA) (fW.cv fB),e];have:ev pone x=CU 1 pone x:=Fe EB x;rw[this];show pone 0+x*0=1;show(1:Rat)+x*0=1;grind
 have h5:ab (ev U x*ev A x)<=M*(L*(y - x)):=by rw[Co];exact EX (hM x bx) s1 (Au _) hM0
 have h6:ab (ev W x*ev B x)<=N*(R*(y - x)):=by rw[Co];exact EX (hN x bx) s2 (Au _) hN0
 have h7:=G7 (ev U x*ev A x) (ev W x*ev B x);rw[e1,show ab 1=1 from by decide]at h7;have h8:=Rat.mul_le_mul_of_nonneg_left h4 (show 0<=T by grind);have e8:T*(1 / T*(1 / 2))=1 / 2:=by grind
 rw[e8]at h8;have e9:M*(L*(y - x))+N*(R*(y - x))=T*(y - x) - (y - x):=by rw[hT];grind
 grind
theorem EA.rt_mul{A B:Nat->Rat}{K L M:Nat}(hA:EA A K)(hB:EA B L)(hC:EA (cv A B) M)(c:Dx A B){p q:Rat}(hpq:p<=q):rt (cv A B) M p q=rt A K p q+rt B L p q:=by
 rcases Std.lt_trichotomy p q with hlt | heq | hgt
 ·obtain⟨d1,g1,l1⟩:=hA.loc p q
  obtain⟨d2,g2,l2⟩:=hB.loc p q;obtain⟨d3,g3,l3⟩:=hC.loc p q;obtain⟨d4,g4,l4⟩:=c.cell hA.f hB.f p q;obtain⟨d,hd,q1,q2,q3,q4⟩:∃ d:Rat,0 < d/\d<=d1/\d<=d2/\d<=d3/\d<=d4:=by
   have two:∀ u v:Rat,0 < u->0 < v->∃ w,0 < w/\w<=u/\w<=v:=fun u v hu hv=>by
    rcases Std.lt_trichotomy u v with c | c | c
    ·exact⟨u,hu,Std.le_refl _,Std.le_of_lt c⟩
    ·exact⟨u,hu,Std.le_refl _,Ah⟩
    ·exact⟨v,hv,Std.le_of_lt c,Std.le_refl _⟩
   obtain⟨u,hu,u1,u2⟩:=two d1 d2 g1 g2;obtain⟨v,hv,v1,v2⟩:=two d3 d4 g3 g4;obtain⟨w,hw,w1,w2⟩:=two u v hu hv;exact⟨w,hw,Ah,Ah,Ah,Ah⟩
  refine NQ (P:=fun x y=>rt (cv A B) M x y=rt A K x y+rt B L x y) hd hlt (fun x y a1 a2 a3 a4=>?_) (fun x y z a1 a2 a3 a4 e f=>?_)
  ·rw[l1 x y a1 a2 a3 Ah,l2 x y a1 a2 a3 Ah,l3 x y a1 a2 a3 Ah]
   have e1:=Gt hA.f hB.f x;have e2:=Gt hA.f hB.f y;rcases l4 x y a1 a2 a3 Ah with⟨s,n⟩ | ⟨s,n⟩
   ·have j1:IR A x y=0:=by unfold IR;exact if_neg fun q=>q.2 s
    have j2:IR (cv A B) x y=IR B x y:=by
     unfold IR;rw[e1,e2,MB,MB,s];have hs:=Pj n;have:(ev A x*ev B x≠0/\BI (ev A x)*BI (ev B y)≠BI (ev A x)*BI (ev B x))↔(ev B x≠0/\BI (ev B y)≠BI (ev B x)):=by
      refine and_congr ⟨fun h e=>h (by rw[e,Rat.mul_zero]),fun h e=>?_⟩ ⟨fun h e=>h (by rw[e]),fun h e=>h (Int.eq_of_mul_eq_mul_left hs e)⟩;rcases Rat.mul_eq_zero.1 e with k | k
      ·exact n k
      ·exact h k
     simp only[this]
    omega
   ·have j1:IR B x y=0:=by unfold IR;exact if_neg fun q=>q.2 s
    have j2:IR (cv A B) x y=IR A x y:=by
     unfold IR;rw[e1,e2,MB,MB,s];have hs:=Pj n;have:(ev A x*ev B x≠0/\BI (ev A y)*BI (ev B x)≠BI (ev A x)*BI (ev B x))↔(ev A x≠0/\BI (ev A y)≠BI (ev A x)):=by
      refine and_congr ⟨fun h e=>h (by rw[e,Rat.zero_mul]),fun h e=>?_⟩ ⟨fun h e=>h (by rw[e]),fun h e=>h (Int.eq_of_mul_eq_mul_right hs e)⟩;rcases Rat.mul_eq_zero.1 e with k | k
      ·exact h k
      ·exact n k
     simp only[this]
    omega
  ·have h1:=J6 (cv A B) M x y z;have h2:=J6 A K x y z;have h3:=J6 B L x y z
   omega
 ·rw[heq,PO,PO,PO];rfl
 ·exfalso;grind
def JJ(B:Rat)(F:Nat->Rat):Prop:=∀ i,ab (F i)<=B
theorem Df{a b c:Rat}(h:a<=b)(hc:0<=c):a*c<=b*c:=Rat.mul_le_mul_of_nonneg_right h hc
theorem CK{a b c:Rat}(h:a<=b)(hc:0<=c):c*a<=c*b:=Rat.mul_le_mul_of_nonneg_left h hc
theorem JJ.lin{F:Nat->Rat}{B R a:Rat}(h:JJ B F)(ha:ab a<=R):JJ (B*(1+R)) (cv F (Hp.lin a)):=by
 intro i;have hB:0<=B:=by have:=h 0;have:=Au (F 0);grind
 have e:cv F (Hp.lin a)=pad (psc (-a) F) (cs 0 F):=by rw[Bq];unfold Hp.lin;rw[LZ,Da]
 have e2:cv F (Hp.lin a) i = -a*F i+cs 0 F i:=by rw[e];rfl
 have h1:ab (cs 0 F i)<=B:=by
  cases i with
  | zero=>show ab 0<=B;rw[show ab 0=0 from by decide];exact hB
  | succ i=>exact h i
 rw[e2];have h2:=G7 (-a*F i) (cs 0 F i);have h3:ab (-a*F i)=ab a*ab (F i):=by rw[Co,Il]
 have h4:ab a*ab (F i)<=R*B:=by
  have:=Df ha (Au (F i));have h0:0<=R:=by have:=Au a;grind
  have:=CK (h i) h0;grind
 grind
theorem iE:ab 1=1:=by decide
theorem DJ:ab 0=0:=by decide
theorem JJ.lgp{X:Nat->Rat}{R:Rat}(i:Nat)(h0:0<=R):∀ n,(∀ k,k < n->ab (X k)<=R)->JJ ((1+R)^n) (lgp X i n)
 | 0,_=>fun j=>by
  rw[Rat.pow_zero];show ab (pone j)<=1;unfold pone;cases j with
  | zero=>show ab 1<=1;rw[iE];grind
  | succ j=>show ab 0<=1;rw[DJ];grind
 | n+1,h=>by
  have ih:=JJ.lgp i h0 n fun k hk=>h k Aa;rw[FK,Rat.pow_succ]
  split
  ·intro j
   have h1:=ih j;have h2:0<=(1+R)^n:=by have:=ih 0;have:=Au (Hp.lgp X i n 0);grind
   have h3:(1+R)^n*0<=(1+R)^n*R:=CK h0 h2;grind
  ·exact ih.lin (h n Aa)
theorem Uu{a b:Rat}(h0:0<=a)(h:a<=b):∀ n:Nat,0<=a^n/\a^n<=b^n
 | 0=>by rw[Rat.pow_zero,Rat.pow_zero];exact⟨Ab,Ah⟩
 | n+1=>by
  have ih:=Uu h0 h n;rw[Rat.pow_succ,Rat.pow_succ];have h1:=Df ih.2 h0;have h2:0<=b^n:=by grind
  have h3:=CK h h2;have h4:=Df ih.1 h0;exact⟨Ah,Ah⟩
theorem JJ.psc{F:Nat->Rat}{B:Rat}(h:JJ B F){a A:Rat}(ha:ab a<=A):JJ (A*B) (psc a F):=fun i=>by
 show ab (a*F i)<=_;rw[Co];have h1:=Df ha (Au (F i));have h0:0<=A:=by have:=Au a;grind
 have h2:=CK (h i) h0;grind
theorem JJ.pad{F G:Nat->Rat}{A B:Rat}(h:JJ A F)(k:JJ B G):JJ (A+B) (pad F G):=fun i=>by
 show ab (F i+G i)<=_;have:=G7 (F i) (G i);have:=h i;have:=k i;grind
theorem Qc{F:Nat->Rat}{B R x:Rat}(h:JJ B F)(h0:0<=R)(hx:ab x<=R):∀ n,ab (CU n F x)<=B*(n:Rat)*(1+R)^n
 | 0=>by
  have hB:0<=B:=by have:=h 0;have:=Au (F 0);grind
  show ab 0<=_;rw[DJ,Rat.pow_zero];show(0:Rat)<=B*0*1;grind
 | n+1=>by
  have hB:0<=B:=by have:=h 0;have:=Au (F 0);grind
  have ih:=Qc (F:=tl F) (fun i=>h (i+1)) h0 hx n;rw[E8,Rat.pow_succ];have h1:=G7 (F 0) (x*CU n (tl F) x);have h2:=h 0;have h3:ab (x*CU n (tl F) x)=ab x*ab (CU n (tl F) x):=Co _ _;have h4:=Df hx (Au (CU n (tl F) x));have h5:=CK ih h0;have hp:=Uu (a:=1) (b:=1+R) Ab Ah n;have hp2:(1:Rat)^n=1:=by
   clear ih h1 h2 h3 h4 h5 hp;induction n with
   | zero=>rfl
   | succ n ih=>rw[Rat.pow_succ,ih];grind
  rw[hp2]at hp;have hn0:(0:Rat)<=(n:Rat):=by exact_mod_cast Nat.zero_le n
  obtain⟨P,hP⟩:∃ P,P=(1+R)^n:=⟨_,rfl⟩
  rw[<-hP]at h5 hp ⊢;have hc:(((n+1:Nat):Rat))=(n:Rat)+1:=by push_cast;rfl
  rw[hc];have hBn:0<=B*(n:Rat):=by have:=CK hn0 hB;grind
  have q1:R*(B*(n:Rat)*P)<=B*(n:Rat)*P*(1+R):=by
   have:0<=B*(n:Rat)*P:=by have:=CK (show(0:Rat)<=P by grind) hBn;grind
   grind
  have q2:B*1<=B*(P*(1+R)):=CK (by
   have:=Df hp.2 (show 0<=1+R by grind);grind) hB
  grind
theorem Kc(x:Int):ab (x:Rat)=((x.natAbs:Nat):Rat):=by
 unfold ab
 split
 ·rename_i h
  have:x < 0:=by exact_mod_cast h
  have e:((x.natAbs:Nat):Int) = -x:=by omega
  rw[show((x.natAbs:Nat):Rat)=(((x.natAbs:Nat):Int):Rat)from rfl,e];simp
 ·rename_i h
  have:0<=x:=Int.not_lt.1 fun h'=>h (by exact_mod_cast h');have e:((x.natAbs:Nat):Int)=x:=by omega
  rw[show((x.natAbs:Nat):Rat)=(((x.natAbs:Nat):Int):Rat)from rfl,e]
theorem VJ{y z Y:Rat}(hy:ab y<=Y)(hz:1<=ab z):ab (y / z)<=Y:=by
 have hne:z≠0:=fun e=>by rw[e,DJ]at hz;exact absurd hz Ab
 have h1:ab (y / z)*ab z=ab y:=by rw[<-Co,show y / z*z=y by grind]
 have h2:=CK hz (Au (y / z));grind
theorem ZI.lgp{X:Nat->Rat}(i:Nat):∀ n,(∀ k,k < n->∃ m:Int,X k=(m:Rat))->ZI (lgp X i n)
 | 0,_=>fun j=>by cases j with | zero=>exact⟨1,rfl⟩ | succ j=>exact⟨0,rfl⟩
 | n+1,h=>by
  have ih:=ZI.lgp i n fun k hk=>h k Aa;rw[FK]
  split
  ·exact ih
  ·obtain⟨m,hm⟩:=h n Aa
   have e:Hp.cv (Hp.lgp X i n) (lin (X n))=Hp.pad (Hp.psc (-X n) (Hp.lgp X i n)) (cs 0 (Hp.lgp X i n)):=by rw[Bq];unfold lin;rw[LZ,Da]
   intro j;rw[e];obtain⟨a,ha⟩:=ih j;obtain⟨b,hb⟩:∃ b:Int,cs 0 (Hp.lgp X i n) j=(b:Rat):=by
    cases j with
    | zero=>exact⟨0,rfl⟩
    | succ j=>exact ih j
   refine⟨-m*a+b,?_⟩;show -X n*Hp.lgp X i n j+cs 0 (Hp.lgp X i n) j=_;rw[ha,hb,hm]
   push_cast
   rfl
theorem Uv{F D:Nat->Rat}{n:Nat}{B:Rat}(zF:ZI F)(fF:Af F)(h0:F≠pz)(zD:ZI D)(fD:Af D)(hd:Iz F D)(hn:pl F<=n)(hB:JJ B F) :
  JJ ((n:Rat)*(B*(n:Rat)*(1+2*(n:Rat))^n*(1+2*(n:Rat))^n)) D:=by
 obtain⟨X,hA,hX⟩:=Ou fF h0 hn;obtain⟨Q,zQ,fQ,e⟩:=hd;obtain⟨R,hR⟩:∃ R:Rat,R=2*(n:Rat):=⟨_,rfl⟩
 have hR0:0<=R:=by
  have:(0:Rat)<=(n:Rat):=by exact_mod_cast Nat.zero_le n
  grind
 rw[<-hR];have hXi:∀ k,k < n->∃ m:Int,X k=(m:Rat):=fun k hk=>by obtain⟨-,m,-,h2⟩:=hX k hk;exact⟨m,h2⟩
 have hXR:∀ k,k < n->ab (X k)<=R:=fun k hk=>by
  obtain⟨-,m,h1,h2⟩:=hX k hk;rw[h2,Kc,hR];have:((((m:Nat):Int).natAbs:Nat):Rat)=((m:Nat):Rat):=by simp
  rw[this];have h3:((m:Nat):Rat)<=((2*n:Nat):Rat):=by exact_mod_cast Nat.le_of_lt h1
  have h4:((2*n:Nat):Rat)=2*(n:Rat):=by push_cast;rfl
  grind
 obtain⟨YY,hYY⟩:∃ YY,YY=B*(n:Rat)*(1+R)^n:=⟨_,rfl⟩
 rw[<-hYY];have hY:∀ k,k < n->ab (ev D (X k))<=YY:=fun k hk=>by
  obtain⟨h3,m,-,h4⟩:=hX k hk;have h1:=Qc hB hR0 (hXR k hk) n;rw[<-Fe ((AO fF).mono hn),<-hYY]at h1;have h5:ev F (X k)=ev Q (X k)*ev D (X k):=by rw[e,Gt fQ fD]
  rw[h4]at h1 h3 h5 ⊢;obtain⟨a,ha⟩:=Nj zF (m:Int);obtain⟨b,hb⟩:=Nj zQ (m:Int);obtain⟨c,hc⟩:=Nj zD (m:Int);rw[ha]at h1 h3;rw[ha,hb,hc]at h5;rw[hc];have h6:a=b*c:=by exact_mod_cast h5
  have h7:a≠0:=fun e=>h3 (by rw[e];rfl);have h8:c.natAbs<=a.natAbs:=Nat.le_of_dvd Aa (Int.natAbs_dvd_natAbs.2 ⟨b,by rw[h6,Int.mul_comm]⟩);rw[Kc]at h1 ⊢;have:((c.natAbs:Nat):Rat)<=((a.natAbs:Nat):Rat):=by exact_mod_cast h8
  grind
 have hDn:D≠pz:=fun e2=>h0 (by rw[e,e2,L6]);have hDl:pl D<=pl F:=Dv.le fD fF h0 ⟨Q,fQ,e⟩;obtain⟨Y,hYe⟩:∃ Y,Y=fun k=>ev D (X k):=⟨_,rfl⟩
 have hD:D=Zw X Y n n:=KN hA ((AO fD).mono Aa) (P5 X Y n n (Nat.le_refl _)) fun k hk=>by
  rw[Xc hA hk n (Nat.le_refl _),if_pos hk,hYe]
 have hc:∀ j,j < n->JJ (YY*(1+R)^n) (dJ X Y n j):=fun j hj=>by
  refine(JJ.lgp (R:=R) j hR0 n hXR).psc (VJ (by rw[hYe];exact hY j hj) ?_);have h1:=Xj X (i:=j) (n:=n) (x:=X j) fun k hk hne=>hA.ne hj hk hne;obtain⟨m,hm⟩:=hXi j hj;rw[hm]at h1 ⊢;obtain⟨y,hy⟩:=Nj (ZI.lgp j n hXi) m;rw[hy]at h1 ⊢;rw[Kc];have:y≠0:=fun e=>h1 (by rw[e];rfl);have h2:1<=y.natAbs:=by omega
  exact_mod_cast h2
 have hl:∀ m,m<=n->JJ ((m:Rat)*(YY*(1+R)^n)) (Zw X Y n m):=by
  intro m;induction m with
  | zero =>
   intro _ i;show ab 0<=(0:Rat)*_;rw[DJ];grind
  | succ m ih =>
   intro h i;have h1:=((ih Aa).pad (hc m h)) i;have hc:(((m+1:Nat):Rat))=(m:Rat)+1:=by push_cast;rfl
   rw[hc];show ab (Hp.pad (Zw X Y n m) (dJ X Y n m) i)<=_;grind
 rw[hD];exact hl n (Nat.le_refl _)
noncomputable def EL(F:Nat->Rat):Nat->Rat
 | 0=>0
 | k+1=>if EL F k < ab (F k / ld F)then ab (F k / ld F)else EL F k
theorem IB(F:Nat->Rat):∀ k,0<=EL F k
 | 0=>by show(0:Rat)<=0;decide
 | k+1=>by
  rw[EL]
  split
  ·exact Au _
  ·exact IB F k
theorem Ls(q:Rat):qsz (ab q)=qsz q:=by
 unfold ab
 split
 ·exact Gq q
 ·rfl
theorem Js{F:Nat->Rat}{s:Nat}(h:∀ i,qsz (F i)<=s)(hs:1<=s):∀ k,qsz (EL F k)<=2*s
 | 0=>by show qsz 0<=_;rw[GK];omega
 | k+1=>by
  rw[EL]
  split
  ·rw[Ls]
   have h1:=Fv (F k) (ld F);have h2:=h k;have h3:qsz (ld F)<=s:=h _;omega
  ·exact Js h hs k
def P2(r:Rat)(j:Nat):Prop:=r < 2^j/\∀ i,i < j->(2:Rat)^i<=r
theorem P2.uniq{r:Rat}{i j:Nat}(h:P2 r i)(k:P2 r j):i=j:=by
 rcases Nat.lt_trichotomy i j with a | a | a
 ·have:=k.2 i a;have:=h.1;grind
 ·exact a
 ·have:=h.2 j a;have:=k.1;grind
theorem BG(n:Nat):((2:Rat)^n)=((2^n:Nat):Rat):=by
 induction n with
 | zero=>rfl
 | succ n ih=>rw[Rat.pow_succ,ih,Nat.pow_succ];push_cast;rfl
theorem P2.ex{r:Rat}{N:Nat}(h:r<=(N:Rat)):∃ j,P2 r j/\j<=N:=by
 have hN:r < 2^N:=by
  have h1:N < 2^N:=Nat.lt_two_pow_self;have h2:(N:Rat) < ((2^N:Nat):Rat):=by exact_mod_cast h1
  rw[BG];grind
 have key:∀ n,r < 2^n->∃ j,P2 r j/\j<=n:=by
  intro n;induction n with
  | zero=>intro h;exact⟨0,⟨h,fun i hi=>Aa⟩,Nat.le_refl _⟩
  | succ n ih =>
   intro hn;by_cases h1:r < 2^n
   ·obtain⟨j,a,b⟩:=ih h1
    exact⟨j,a,Aa⟩
   ·refine⟨n+1,⟨hn,fun i hi=>?_⟩,Nat.le_refl _⟩
    have h3:(2:Nat)^i<=2^n:=Nat.pow_le_pow_right Ab Aa;have h4:((2^i:Nat):Rat)<=((2^n:Nat):Rat):=by exact_mod_cast h3
    rw[<-BG,<-BG]at h4;grind
 exact key N hN
theorem Ms{m n:Nat}(h:m<=n):((m:Nat):Rat)<=((n:Nat):Rat):=by exact_mod_cast h
theorem Ca(n:Nat):(0:Rat) < 2^n:=by rw[BG];exact_mod_cast Nat.two_pow_pos n
theorem MP(n:Nat):(1:Rat)<=2^n:=by rw[BG];exact_mod_cast Nat.one_le_two_pow
theorem M0{m n:Nat}(h:m<=n):(2:Rat)^m<=2^n:=by rw[BG,BG];exact_mod_cast Nat.pow_le_pow_right Ab h
theorem Dt(m n:Nat):(2:Rat)^(m+n)=2^m*2^n:=by rw[BG,BG,BG,Nat.pow_add];push_cast;rfl
theorem Ox(n:Nat):((n:Nat):Rat)<=2^n:=by rw[BG];exact_mod_cast Nat.le_of_lt Nat.lt_two_pow_self
theorem Sc{a b c d:Rat}(h1:a<=b)(h2:c<=d)(hc:0<=c)(hb:0<=b):a*c<=b*d:=EX h1 h2 hc hb
theorem Np{q:Rat}{s:Nat}(h:qsz q<=s):ab q<=2^(32*s)/\(q≠0->1<=ab q*2^(32*s)):=by
 have hn:q.num.natAbs<=2^(32*s):=by
  have:=EO.1 (Nat.le_trans (Iq q) h);rw[Cw]at this;omega
 have hd:q.den<=2^(32*s):=by
  have:=EO.1 (Nat.le_trans (Fw q) h);rw[Cw,Int.natAbs_natCast]at this;omega
 have hd0:(0:Rat) < ((q.den:Nat):Rat):=by exact_mod_cast q.den_pos
 have hd1:(1:Rat)<=((q.den:Nat):Rat):=by exact_mod_cast q.den_pos
 have e:q*((q.den:Nat):Rat)=(q.num:Rat):=by
  have:=JW q;have h0:((q.den:Nat):Rat)≠0:=by grind
  grind
 have e2:ab q*((q.den:Nat):Rat)=((q.num.natAbs:Nat):Rat):=by
  rw[<-Kc,<-e,Co,DY (Std.le_of_lt hd0)]
 have hq:=Au q;rw[BG];constructor
 ·have h1:((q.num.natAbs:Nat):Rat)<=((2^(32*s):Nat):Rat):=Ms hn
  have h2:=Sc (Std.le_refl (ab q)) hd1 Ab hq;grind
 ·intro hq0
  have h1:(1:Rat)<=((q.num.natAbs:Nat):Rat):=by
   have:1<=q.num.natAbs:=by
    have:q.num≠0:=fun e=>hq0 (Rat.num_eq_zero.1 e);omega
   exact_mod_cast this
  have h2:=Sc (Std.le_refl (ab q)) (Ms hd) (Std.le_of_lt hd0) hq;grind
theorem dM{F:Nat->Rat}(z:ZI F){i:Nat}(h:F i≠0):1<=ab (F i):=by
 obtain⟨m,hm⟩:=z i;rw[hm,Kc];have:m≠0:=fun e=>h (by rw[hm,e];rfl);have:1<=m.natAbs:=by omega
 exact_mod_cast this
theorem ZL{F:Nat->Rat}(h:F≠pz):∃ i,F i≠0:=Classical.byContradiction fun e=>h (funext fun i=>Classical.byContradiction fun k=>e ⟨i,k⟩)
theorem Jk(m:Nat):∀ n:Nat,((m:Nat):Rat)^n=((m^n:Nat):Rat)
 | 0=>rfl
 | n+1=>by rw[Rat.pow_succ,Jk m n,Nat.pow_succ];push_cast;rfl
theorem Ta{F:Nat->Rat}{a b n:Nat}(h:JJ (2^a) F){x:Rat}(hx:ab x<=2^b - 1):ab (CU n F x)<=2^(a+n+b*n):=by
 have h1:=Qc h (show(0:Rat)<=2^b - 1 by have:=MP b;grind) hx n;have e:(1:Rat)+(2^b - 1)=2^b:=by grind
 have e2:((2:Rat)^b)^n=2^(b*n):=by
  rw[BG,BG,Nat.pow_mul];exact Jk (2^b) n
 rw[e,e2]at h1;rw[Dt,Dt];have h2:=Sc (Sc (Std.le_refl ((2:Rat)^a)) (Ox n) (Ey n) (Std.le_of_lt (Ca a))) (Std.le_refl ((2:Rat)^(b*n))) (Std.le_of_lt (Ca _)) (Rat.mul_nonneg (Std.le_of_lt (Ca a)) (Std.le_of_lt (Ca n)));exact Std.le_trans h1 h2
theorem JJ.tl{F:Nat->Rat}{B:Rat}(h:JJ B F):JJ B (Hp.tl F):=fun i=>h (i+1)
theorem QX{a b:Nat}{x y:Rat}(hx:ab x<=2^b - 1)(hy:ab y<=2^b - 1):∀(n:Nat) (F:Nat->Rat),JJ (2^a) F->ab (CU n F x - CU n F y)<=2^(a+2*n+b*n)*ab (x - y)
 | 0,F,_=>by
  show ab (0 - 0)<=_;rw[show(0:Rat) - 0=0 by grind,DJ];exact Rat.mul_nonneg (Std.le_of_lt (Ca _)) (Au _)
 | n+1,F,h=>by
  have ih:=QX hx hy n (tl F) h.tl;have hv:=Ta (n:=n) h.tl hx;have hd:=Au (x - y);have e:F 0+x*CU n (tl F) x - (F 0+y*CU n (tl F) y)=(x - y)*CU n (tl F) x+y*(CU n (tl F) x - CU n (tl F) y):=by grind
  rw[E8,E8,e];have h1:=G7 ((x - y)*CU n (tl F) x) (y*(CU n (tl F) x - CU n (tl F) y));have h2:ab ((x - y)*CU n (tl F) x)<=2^(a+n+b*n)*ab (x - y):=by
   rw[Co,Rat.mul_comm];exact Df hv hd
  have hy2:ab y<=2^b:=by grind
  have h3:ab (y*(CU n (tl F) x - CU n (tl F) y))<=2^b*(2^(a+2*n+b*n)*ab (x - y)):=by
   rw[Co];exact Sc hy2 ih (Au _) (Std.le_of_lt (Ca b))
  have h4:(2:Rat)^(a+n+b*n)<=2^(a+2*n+b*n+b):=M0 Aa;have h5:=Df h4 hd;have e3:(2:Rat)^b*(2^(a+2*n+b*n)*ab (x - y))=2^(a+2*n+b*n+b)*ab (x - y):=by rw[Dt _ b];grind
  have e4:(2:Rat)^(a+2*(n+1)+b*(n+1))=4*2^(a+2*n+b*n+b):=by
   rw[show a+2*(n+1)+b*(n+1)=2+(a+2*n+b*n+b) by rw[Nat.mul_succ,Nat.mul_succ];omega,Dt 2];congr 1
  rw[e4];have h6:=Rat.mul_nonneg (Std.le_of_lt (Ca (a+2*n+b*n+b))) hd;grind
theorem JJ.pd{F:Nat->Rat}{a n:Nat}(h:JJ (2^a) F)(hs:Bz (n+1) F):JJ (2^(a+n)) (Hp.pd F):=fun i=>by
 show ab (((i+1:Nat):Rat)*F (i+1))<=_;by_cases hi:i+1<=n
 ·rw[Co,DY (Ey _),Dt,Rat.mul_comm ((2:Rat)^a)]
  refine Sc (Std.le_trans (Ms hi) (Ox n)) (h _) (Au _) (Std.le_of_lt (Ca n))
 ·rw[hs (i+1) Aa,Rat.mul_zero,DJ]
  exact Std.le_of_lt (Ca _)
theorem QI{a b:Nat}{x y:Rat}(hx:ab x<=2^b - 1)(hy:ab y<=2^b - 1):∀(n:Nat) (F:Nat->Rat),JJ (2^a) F->Bz n F ->
  ∃ r,ab r<=2^(a+3*n+b*n)/\CU n F y - CU n F x=(y - x)*(CU n (pd F) x+(y - x)*r)
 | 0,F,_,_=>⟨0,by rw[DJ];exact Std.le_of_lt (Ca _),by show(0:Rat) - 0=_*(0+_*0);grind⟩
 | n+1,F,h,hs=>by
  obtain⟨r,hr,e⟩:=QI hx hy n (tl F) h.tl hs.tl;have hpd:JJ (2^(a+n)) (pd (tl F)):=JJ.pd h.tl (hs.tl.mono (Nat.le_succ n));have hv:=Ta (n:=n) hpd hx;refine⟨CU n (pd (tl F)) x+y*r,?_,?_⟩
  ·have h1:=G7 (CU n (pd (tl F)) x) (y*r)
   have hy2:ab y<=2^b:=by grind
   have h2:ab (y*r)<=2^b*2^(a+3*n+b*n):=by rw[Co];exact Sc hy2 hr (Au _) (Std.le_of_lt (Ca b))
   have h3:(2:Rat)^(a+n+n+b*n)<=2^(a+3*n+b*n+b):=M0 Aa;have e3:(2:Rat)^b*2^(a+3*n+b*n)=2^(a+3*n+b*n+b):=by rw[Dt _ b];grind
   have e4:(2:Rat)^(a+3*(n+1)+b*(n+1))=8*2^(a+3*n+b*n+b):=by
    rw[show a+3*(n+1)+b*(n+1)=3+(a+3*n+b*n+b) by rw[Nat.mul_succ,Nat.mul_succ];omega,Dt 3];congr 1
   have h6:=Ca (a+3*n+b*n+b);grind
  ·have e1:CU (n+1) (pd F) x=CU n (tl F) x+x*CU n (pd (tl F)) x:=by
    rw[Yx];congr 1;exact Mq hs.tl (Nat.le_succ n) x
   rw[e1,E8,E8];grind
/-! ### two polynomials without a common root are not small together -/
def IQ(S D b:Nat):Nat:=96*(2*((S+1)*2^D)+(D+1)*((S+1)*2^D+1))+(D+1)+b*(D+1)+1
section
variable{F0 G0 A B:Nat->Rat}{D S:Nat}
theorem Fs.low1(h:Fs F0 G0 D S A B)(h0:B≠pz){b:Nat}{x e:Rat}(hx:ab x<=2^b - 1)(hA:ab (ev A x)<=e)(hB:ab (ev B x)<=e):ab (ev (nx A B) x)<=e*2^(IQ S D b):=by
 obtain⟨fA,fB,zA,zB,hd,qA,qB⟩:=h.facts;obtain⟨M,hM⟩:∃ M,M=(S+1)*2^D:=⟨_,rfl⟩
 have he0:0<=e:=Std.le_trans (Au _) hA;obtain⟨cA,cB,cR⟩:=h.clear h0 (M:=M) Aa;obtain⟨zN,fN,-,-,hN⟩:=JY fA fB h0;by_cases hR:pr A B=pz
 ·rw[Jv hR,Ri,DJ]
  exact Rat.mul_nonneg he0 (Std.le_of_lt (Ca _))
 obtain⟨c,hc,ec⟩:=hN hR;have hq:∀ i,qsz (pq A B i)<=2*M+(D+1)*(M+1):=fun i=>by
  have h1:=Na (n:=pl A+1 - pl B) ((AO fA).mono (by have:=Bb fB h0;omega)) fB h0 cA cB i;have h2:(pl A+1 - pl B)*(M+1)<=(D+1)*(M+1):=Nat.mul_le_mul_right _ Aa;omega
 obtain⟨X,hX⟩:∃ X,X=2*M+(D+1)*(M+1):=⟨_,rfl⟩
 rw[<-hX]at hq
 -- the factor c
 have hcl:1<=c*2^(64*X):=by
  obtain⟨i,hi⟩:=ZL hR;have e1:pr A B i = -c*nx A B i:=by rw[ec];rfl
  have hni:nx A B i≠0:=fun q=>hi (by rw[e1,q,Rat.mul_zero]);have h1:=(Np (Nat.le_trans (cR.elem i) (show _<=X by omega))).2 hi;have h2:ab (nx A B i)<=2^(32*X):=(Np (Nat.le_trans ((h.step h0).facts.2.2.2.2.2.2 i) (show _<=X by omega))).1;rw[e1,Co,Il,DY (Std.le_of_lt hc)]at h1;have h3:=Sc (Sc (Std.le_refl c) h2 (Au _) (Std.le_of_lt hc)) (Std.le_refl ((2:Rat)^(32*X))) (Std.le_of_lt (Ca _)) (Rat.mul_nonneg (Std.le_of_lt hc) (Std.le_of_lt (Ca _)))
  rw[show 64*X=32*X+32*X by omega,Dt];grind
 -- the quotient's value
 have hqv:ab (ev (pq A B) x)<=2^(32*X+(D+1)+b*(D+1)):=by
  have hsup:Bz (D+1) (pq A B):=(LA (n:=pl A+1 - pl B) ((AO fA).mono (by have:=Bb fB h0;omega)) fB h0).mono Aa;rw[Fe hsup];exact Ta (fun i=>(Np (hq i)).1) hx
 have e2:c*ev (nx A B) x=ev (pq A B) x*ev B x - ev A x:=by
  have e3:ev A x=ev (pq A B) x*ev B x+ev (pr A B) x:=by
   conv=>lhs;rw[Lf A B]
   rw[Kh ((DR A B).cv fB) (EP fA fB),Gt (DR A B) fB]
  rw[ec,Gu _ fN]at e3;grind
 obtain⟨Q,hQ⟩:∃ Q:Rat,Q=2^(32*X+(D+1)+b*(D+1)):=⟨_,rfl⟩
 rw[<-hQ]at hqv;have hQ1:1<=Q:=by rw[hQ];exact MP _
 have h5:c*ab (ev (nx A B) x)<=2*(Q*e):=by
  have h6:=X5 (ev (pq A B) x*ev B x) (ev A x);rw[<-e2,Co,DY (Std.le_of_lt hc),Co]at h6;have h7:=Sc hqv hB (Au _) Ah;have h8:=Sc hQ1 (Std.le_refl e) he0 Ah;grind
 have h9:=Sc (Std.le_refl (ab (ev (nx A B) x))) hcl Ab (Au _);have h10:=Df h5 (Std.le_of_lt (Ca (64*X)));have e11:(2:Rat)^(IQ S D b)=2*Q*2^(64*X):=by
  rw[hQ,show IQ S D b=1+(32*X+(D+1)+b*(D+1))+64*X by unfold IQ;rw[<-hM,<-hX];omega,Dt,Dt 1];congr 1
 rw[e11];grind
theorem Fs.low(c:Dx F0 G0){b:Nat}{x:Rat}(hx:ab x<=2^b - 1):∀(n:Nat) {A B:Nat->Rat} {e:Rat},Fs F0 G0 D S A B->pl B<=n->ab (ev A x)<=e->ab (ev B x)<=e->1<=e*2^(n*IQ S D b):=by
 intro n;induction n with
 | zero =>
  intro A B e h hn hA hB;obtain⟨fA,fB,zA,zB,hd,qA,qB⟩:=h.facts;have hBz:B=pz:=(BC fB).1 Aa;have hc:=h.cop c;rw[hBz]at hc;have hA1:pl A=1:=LF hc fA (Dv.refl A) (Dv.zero A);have e1:ev A x=A 0:=by unfold ev;rw[hA1];show A 0+x*0=A 0;grind
  have hA0:A 0≠0:=by have:=Eo fA Aa;rwa[hA1]at this
  have h1:=dM zA hA0;rw[e1]at hA;rw[Nat.zero_mul,Rat.pow_zero];grind
 | succ n ih =>
  intro A B e h hn hA hB;have hY:=MP (IQ S D b);have he0:0<=e:=Std.le_trans (Au _) hA;have hgrow:e<=e*2^IQ S D b:=by have:=Sc (Std.le_refl e) hY Ab he0;grind
  have e3:(2:Rat)^((n+1)*IQ S D b)=2^IQ S D b*2^(n*IQ S D b):=by rw[Nat.succ_mul,Nat.add_comm,Dt]
  by_cases h0:B=pz
  ·have:=ih h (by rw[h0,C8];omega) hA hB
   have h2:=Df hgrow (Std.le_of_lt (Ca (n*IQ S D b)));rw[e3];grind
  ·have hN:=h.low1 h0 hx hA hB
   obtain⟨fA,fB,zA,zB,hd,qA,qB⟩:=h.facts;have hlt:=(JY fA fB h0).2.2.2.1;have:=ih (h.step h0) Aa (Std.le_trans hB hgrow) hN;rw[e3];grind
end
theorem bJ{F:Nat->Rat}(zF:ZI F)(fF:Af F)(x:Rat):ab (ev (rd F) x)<=ab (ev F x):=by
 unfold rd;rw[Gu _ fF,Co];have h1:ab (1 / ((cn F:Nat):Rat))<=1:=by
  rcases Nat.eq_zero_or_pos (cn F)with h | h
  ·rw[h,show(1:Rat) / ((0:Nat):Rat)=0 from by rw[Rat.div_def];show 1*(0:Rat)⁻¹ = 0;rw[Rat.inv_zero,Rat.mul_zero],DJ];decide
  ·have hp:(0:Rat) < ((cn F:Nat):Rat):=by exact_mod_cast h
   have h1':(1:Rat)<=((cn F:Nat):Rat):=by exact_mod_cast h
   obtain⟨hi,ei⟩:=IE hp;rw[DY (Std.le_of_lt hi)];have:=Sc (Std.le_refl (1 / ((cn F:Nat):Rat))) h1' Ab (Std.le_of_lt hi);grind
 have:=Df h1 (Au (ev F x));grind
def WM(S D b:Nat):Nat:=D*IQ S D b
theorem Dx.low{F G:Nat->Rat}{S D b:Nat}(c:Dx F G)(fF:Af F)(fG:Af G)(zF:ZI F)(zG:ZI G)(qF:∀ i,qsz (F i)<=S)(qG:∀ i,qsz (G i)<=S)(hD:pl F+pl G=D)
  {x e:Rat} (hx:ab x<=2^b - 1) (h1:ab (ev F x)<=e) (h2:ab (ev G x)<=e):1<=e*2^(WM S D b):=by
 have hs:=Fs.start fF fG zF zG qF qG;rw[hD]at hs;have he0:0<=e:=Std.le_trans (Au _) h1;refine hs.low c hx D ?_ (Std.le_trans (bJ zF fF x) h1) (Std.le_trans (bJ zG fG x) h2);have:=hs.facts.2.2.2.2.1;omega
structure SF(F:Nat->Rat):Prop where
 p:BK F
 c:Dx F (pd F)
theorem BK.eq_dv{F G:Nat->Rat}(h:BK F)(k:BK G)(a:Dv F G)(b:Dv G F):F=G:=by
 have e:mn F=mn G:=Ul (Lv h.f) (Lv k.f) (fun _=>UK h.f h.n) (fun _=>UK k.f k.n) ((Jd h.f).trans (a.trans (Je G))) ((Jd k.f).trans (b.trans (Je F)));have hl:=De h.f h.n;have kl:=De k.f k.n;have e1:F=psc (ld F) (mn F):=by unfold mn;rw[Cr,show ld F*(1 / ld F)=1 by grind,Cm]
 have e2:mn G=psc (1 / ld G) G:=rfl;have e3:F=psc (ld F*(1 / ld G)) G:=by
  conv=>lhs;rw[e1,e,e2,Cr]
 have e4:Hp.pp F=Hp.pp G:=Un h.z k.z k.f k.n (by
  intro q;have:=N8 kl;rcases Rat.mul_eq_zero.1 q with x | x
  ·exact hl x
  ·exact this x) e3
 rw[h.self,k.self]at e4;exact e4
theorem kD{H A B:Nat->Rat}(h:Dv H A)(k:Dv H B):Dv (cv H H) (cv A B):=by
 obtain⟨Q1,f1,rfl⟩:=h;obtain⟨Q2,f2,rfl⟩:=k;refine⟨cv Q1 Q2,f1.cv f2,?_⟩;rw[AA,AA,<-AA H Q2 H,Bq H Q2,AA]
theorem iY{g:Nat->Rat}(h:BK g):SF (y0 g):=by
 obtain⟨hC,hW,e,-,-⟩:=EQ h;refine⟨hW,?_⟩;refine Classical.byContradiction fun hn=>?_;obtain⟨hE,hP,e2,-,-⟩:=EQ hW;have h1:1 < pl (yc (y0 g)):=by
  rcases Nat.lt_or_ge 1 (pl (yc (y0 g)))with a | a
  ·exact a
  ·exact absurd (Dx.of_gcd hW (Ex hW.z) (C9 hW.f) a) hn
 obtain⟨N,hN⟩:=bM hW;by_cases hc:pl (Eg (yc (y0 g)) (y0 (y0 g)))<=1
 ·have c1:=Dx.of_gcd hE hP.z hP.f hc
  have c2:=(Dx.pw hE.f hP.f c1 N).symm.symm;have:=Dx.self hE.f (((c2.symm).dv hN));omega
 ·obtain⟨hH,-,-,d1,d2,-⟩:=hE.gcd hP.z hP.f
  have h2:Dv (cv (Eg (yc (y0 g)) (y0 (y0 g))) (Eg (yc (y0 g)) (y0 (y0 g)))) (y0 g):=by
   have:=kD d2 d1;rw[<-e2]at this;exact this
  have:=ZN h hH h2;omega
theorem SF.stf{F:Nat->Rat}(h:SF F):∃ K,EA F K:=by
 obtain⟨S,hS⟩:=Ev h.p.f;obtain⟨T,hT⟩:=Ev (C9 h.p.f);obtain⟨K,hK,-⟩:=G9 h.p.f (C9 h.p.f) h.p.z (Ex h.p.z) (S:=max S T) (fun i=>Nat.le_trans (hS i) (Nat.le_max_left _ _)) (fun i=>Nat.le_trans (hT i) (Nat.le_max_right _ _));exact⟨K,h.p.z,h.p.f,h.p.n,h.c,hK⟩
noncomputable def kn(F:Nat->Rat):Nat:=open Classical in if h:∃ K,Mt F (pd F) K then Classical.choose h else 0
theorem Mt.kn{F:Nat->Rat}{K:Nat}(h:Mt F (pd F) K):Hp.kn F=K:=by
 have hx:∃ K,Mt F (pd F) K:=⟨K,h⟩
 unfold Hp.kn;rw[dif_pos hx];exact(Classical.choose_spec hx).uniq h
theorem SF.st{F:Nat->Rat}(h:SF F):EA F (kn F):=by
 obtain⟨K,hK⟩:=h.stf;rw[hK.k.kn];exact hK
noncomputable def rc(F:Nat->Rat)(p q:Rat):Int:=rt F (kn F) p q
theorem Qg(F:Nat->Rat)(p q r:Rat):rc F p q+rc F q r=rc F p r:=J6 F _ p q r
theorem SF.nonneg{F:Nat->Rat}(h:SF F){p q:Rat}(hpq:p<=q):0<=rc F p q:=h.st.rt_nonneg hpq
theorem SF.sub{F:Nat->Rat}(h:SF F){p x y q:Rat}(h1:p<=x)(h2:x<=y)(h3:y<=q):rc F x y<=rc F p q:=h.st.rt_sub h1 h2 h3
theorem SF.free{F:Nat->Rat}(h:SF F){p q x y:Rat}(h0:rc F p q=0)(h1:p < x)(h2:x<=y)(h3:y<=q):ev F x≠0/\BI (ev F y)=BI (ev F x):=h.st.free h0 h1 h2 h3
theorem SF.mul{A B:Nat->Rat}(hA:SF A)(hB:SF B)(hC:SF (cv A B))(c:Dx A B){p q:Rat}(hpq:p<=q):rc (cv A B) p q=rc A p q+rc B p q:=EA.rt_mul hA.st hB.st hC.st c hpq
theorem SF.split{A B:Nat->Rat}(hA:BK A)(hB:BK B)(h:SF (cv A B)):SF A/\SF B/\Dx A B:=by
 have half:∀ {A B:Nat->Rat},BK A->BK B->Dx (cv A B) (pd (cv A B))->Dx A (pd A)/\Dx A B:=by
  intro A B hA hB ⟨U,V,fU,fV,e⟩;have fA':=C9 hA.f;have fB':=C9 hB.f;rw[LY]at e;constructor
  ·refine⟨pad (cv U B) (cv V (pd B)),cv V B,(fU.cv hB.f).pad (fV.cv fB'),fV.cv hB.f,?_⟩
   rw[<-e,Dj,FR];have e1:cv (cv U B) A=cv U (cv A B):=by rw[AA,Bq B A]
   have e2:cv (cv V (pd B)) A=cv V (cv A (pd B)):=by rw[AA,Bq (pd B) A]
   have e3:cv (cv V B) (pd A)=cv V (cv (pd A) B):=by rw[AA,Bq B (pd A)]
   rw[e1,e2,e3]
   funext n;simp only[pad];grind
  ·refine⟨pad (cv U B) (cv V (pd B)),cv V (pd A),(fU.cv hB.f).pad (fV.cv fB'),fV.cv fA',?_⟩
   rw[<-e,Dj,FR];have e1:cv (cv U B) A=cv U (cv A B):=by rw[AA,Bq B A]
   have e2:cv (cv V (pd B)) A=cv V (cv A (pd B)):=by rw[AA,Bq (pd B) A]
   have e3:cv (cv V (pd A)) B=cv V (cv (pd A) B):=by rw[AA]
   rw[e1,e2,e3]
   funext n;simp only[pad];grind
 obtain⟨a1,a2⟩:=half hA hB h.c;obtain⟨b1,-⟩:=half hB hA (by rw[Bq];exact h.c);exact⟨⟨hA,a1⟩,⟨hB,b1⟩,a2⟩
theorem SF.factor{W A:Nat->Rat}(h:SF W)(hA:BK A)(hd:Iz W A):SF A/\SF (pq W A)/\Dx A (pq W A)/\W=cv A (pq W A):=by
 obtain⟨q1,q2⟩:=h.p.quot hA hd;have e:W=cv A (pq W A):=by rw[Bq];exact q2
 have hs:SF (cv A (pq W A)):=by rw[<-e];exact h
 obtain⟨a,b,c⟩:=SF.split hA q1 hs;exact⟨a,b,c,e⟩
theorem BK.zdv{F D:Nat->Rat}(h:BK F)(k:BK D)(hd:Dv D F):Iz F D:=by
 obtain⟨Q,fQ,e⟩:=hd;exact⟨Q,Ub h.z h.f k.z k.f k.n fQ e (by rw[k.c];exact Nat.one_dvd _),fQ,e⟩
theorem XB{E D:Nat->Rat}(hE:SF E)(hD:BK D)(h:Dv E D):Dv E (y0 D):=by
 obtain⟨hC,hW,e,-,-⟩:=EQ hD;obtain⟨N,hN⟩:=bM hD;have h1:Dv E (pw (y0 D) (N+1)):=by
  obtain⟨Q,fQ,eQ⟩:=hN;refine h.trans ⟨Q,fQ,?_⟩;show cv (pw (y0 D) N) (y0 D)=_
  conv=>rhs;rw[e]
  rw[eQ,AA,Bq (yc D)]
 obtain⟨hH,z1,z2,d1,d2,-⟩:=hE.p.gcd hW.z hW.f;obtain⟨f1,f2,f3,f4⟩:=hE.factor hH z1
 -- the rest of E is coprime to the square-free part
 have h2:Dx (pq E (Eg E (y0 D))) (y0 D):=by
  refine Dx.of_gcd f2.p hW.z hW.f ?_;obtain⟨kG,-,-,g1,g2,-⟩:=f2.p.gcd hW.z hW.f;have g3:Dv (Eg (pq E (Eg E (y0 D))) (y0 D)) E:=g1.trans ⟨Eg E (y0 D),hH.f,f4⟩;have g4:Dv (Eg (pq E (Eg E (y0 D))) (y0 D)) (Eg E (y0 D)):=by
   have:=(IA hE.p.f hW.f hE.p.z hW.z).2.2.2.2.2.2.2.2 _ kG.f g3 g2;exact this.trans (Jd hH.f)
  have:=Dx.self kG.f ((f3.dv g4).symm.dv g1);omega
 have h3:=Dx.pw f2.p.f hW.f h2 (N+1);have h4:Dv (pq E (Eg E (y0 D))) (pw (y0 D) (N+1)):=Dv.trans ⟨Eg E (y0 D),hH.f,f4⟩ h1;have h5:=f2.p.one (by have:=Dx.self f2.p.f (h3.symm.dv h4);omega);rw[h5,KJ]at f4;have:Dv (Eg E (y0 D)) (y0 D):=d2;rw[<-f4]at this;exact this
noncomputable def Bw(F:Nat->Rat):Nat->Rat:=y0 (pp F)
theorem D6{F:Nat->Rat}(z:ZI F)(f:Af F)(h0:F≠pz):SF (Bw F):=iY (BK.pp z f h0)
theorem K8{F:Nat->Rat}(z:ZI F)(f:Af F)(h0:F≠pz):Dv (Bw F) F:=by
 obtain⟨hC,hW,e,-,-⟩:=EQ (BK.pp z f h0);have h1:Dv (Bw F) (pp F):=⟨yc (pp F),hC.f,by rw[Bq];exact e⟩
 conv=>arg 2;rw[OA z f h0]
 exact h1.psc _
theorem OZ{E F:Nat->Rat}(z:ZI F)(f:Af F)(h0:F≠pz)(hE:SF E)(h:Dv E F):Dv E (Bw F):=
 XB hE (BK.pp z f h0) ((FB z f).2 h)
theorem TE{F G:Nat->Rat}(zF:ZI F)(fF:Af F)(zG:ZI G)(fG:Af G)(h0:F≠pz):Eg F G≠pz:=fun e=>by
 have h:=(IA fF fG zF zG).2.2.2.2.2.2.1;rw[e,M5]at h;exact h0 (Ma h)
theorem aN{F G:Nat->Rat}(zF:ZI F)(fF:Af F)(hF:F≠pz)(zG:ZI G)(fG:Af G)(hG:G≠pz):Bw (Eg F G)=Eg (Bw F) (Bw G):=by
 have k:=IA fF fG zF zG;have n:=TE zF fF zG fG hF;have s1:=D6 zF fF hF;have s2:=D6 zG fG hG;have s3:=D6 k.2.1 k.1 n;obtain⟨p4,z1,z2,d1,d2,-⟩:=s1.p.gcd s2.p.z s2.p.f;have s4:=(s1.factor p4 z1).1;have dF:Dv (Eg F G) F:=(Je _).trans k.2.2.2.2.2.2.1;have dG:Dv (Eg F G) G:=(Je _).trans k.2.2.2.2.2.2.2.1;have hd:=K8 k.2.1 k.1 n;refine s3.p.eq_dv p4 ?_ ?_
 ·have a1:=OZ zF fF hF s3 (hd.trans dF)
  have a2:=OZ zG fG hG s3 (hd.trans dG);exact((IA s1.p.f s2.p.f s1.p.z s2.p.z).2.2.2.2.2.2.2.2 _ s3.p.f a1 a2).trans (Jd p4.f)
 ·refine OZ k.2.1 k.1 n s4 ?_
  exact(k.2.2.2.2.2.2.2.2 _ p4.f (d1.trans (K8 zF fF hF)) (d2.trans (K8 zG fG hG))).trans (Jd k.1)
theorem SF.meet{W X:Nat->Rat}(hW:SF W)(hX:SF X):∃ U V,SF (Eg W X)/\SF U/\SF V/\W=cv (Eg W X) U/\X=cv (Eg W X) V/\Dx (Eg W X) U/\Dx (Eg W X) V/\Dx U V/\Dx U X /\
  (∀ p q:Rat,p<=q->rc W p q=rc (Eg W X) p q+rc U p q)/\(∀ p q:Rat,p<=q->rc X p q=rc (Eg W X) p q+rc V p q):=by
 obtain⟨p1,z1,z2,d1,d2,-⟩:=hW.p.gcd hX.p.z hX.p.f;obtain⟨a1,a2,a3,a4⟩:=hW.factor p1 z1;obtain⟨b1,b2,b3,b4⟩:=hX.factor p1 z2;have k:=IA hW.p.f hX.p.f hW.p.z hX.p.z;have cUV:Dx (pq W (Eg W X)) (pq X (Eg W X)):=by
  refine Dx.of_gcd a2.p b2.p.z b2.p.f ?_;obtain⟨kG,-,-,g1,g2,-⟩:=a2.p.gcd b2.p.z b2.p.f;have g3:=k.2.2.2.2.2.2.2.2 _ kG.f (g1.trans ⟨Eg W X,p1.f,a4⟩) (g2.trans ⟨Eg W X,p1.f,b4⟩);have:=Dx.self kG.f ((a3.dv (g3.trans (Jd p1.f))).symm.dv g1);omega
 refine⟨pq W (Eg W X),pq X (Eg W X),a1,a2,b2,a4,b4,a3,b3,cUV,?_,fun p q hpq=>?_,fun p q hpq=>?_⟩
 ·have:=Dx.mul a2.p.f p1.f b2.p.f a3.symm cUV
  rw[<-b4]at this;exact this
 ·have h1:=SF.mul a1 a2 (by rw[<-a4];exact hW) a3 hpq
  rw[<-a4]at h1;exact h1
 ·have h1:=SF.mul b1 b2 (by rw[<-b4];exact hX) b3 hpq
  rw[<-b4]at h1;exact h1
def PH(S D b:Nat):Nat:=32*S+(3+b)*D
def O6(S D b:Nat):Nat:=PH S D b+WM S D b+2
theorem Uz{F:Nat->Rat}{S:Nat}(h:∀ i,qsz (F i)<=S):JJ (2^(32*S)) F:=fun i=>(Np (h i)).1
theorem TC{F:Nat->Rat}{S D b:Nat}(qF:∀ i,qsz (F i)<=S)(hD:pl F<=D){x y:Rat}(hx:ab x<=2^b - 1)(hy:ab y<=2^b - 1):ab (ev F x - ev F y)<=2^(PH S D b)*ab (x - y):=by
 have h:=QX hx hy (pl F) F (Uz qF);refine Std.le_trans h (Df (M0 ?_) (Au _));unfold PH;have h1:b*pl F<=b*D:=Nat.mul_le_mul_left _ hD;rw[Nat.add_mul];omega
theorem gN{F:Nat->Rat}{S D b:Nat}(fF:Af F)(qF:∀ i,qsz (F i)<=S)(hD:pl F<=D){x y:Rat}(hx:ab x<=2^b - 1)(hy:ab y<=2^b - 1):∃ r,ab r<=2^(PH S D b)/\ev F y - ev F x=(y - x)*(ev (pd F) x+(y - x)*r):=by
 obtain⟨r,hr,e⟩:=QI hx hy (pl F) F (Uz qF) (AO fF);refine⟨r,Std.le_trans hr (M0 ?_),?_⟩
 ·unfold PH
  have h1:b*pl F<=b*D:=Nat.mul_le_mul_left _ hD;rw[Nat.add_mul];omega
 ·have e1:ev (pd F) x=CU (pl F) (pd F) x:=Fe (PI ((AO fF).mono (Nat.le_succ _))) x
  rw[e1];exact e
theorem EA.small_pt{F:Nat->Rat}{K:Nat}(h:EA F K){x y ε:Rat}(hxy:x<=y)(hε:0 < ε)(hr:1<=rt F K x y):∃ z,x<=z/\z<=y/\ab (ev F z) < ε:=by
 refine Classical.byContradiction fun hn=>?_;have:=h.flat hxy hε fun z a b=>by
  rcases Std.lt_trichotomy ε (ab (ev F z))with c | c | c
  ·exact Std.le_of_lt c
  ·rw[c];exact Std.le_refl _
  ·exact absurd ⟨z,a,b,c⟩ hn
 unfold rt at hr;omega
theorem Oo{q:Rat}(h:0 < q):BI q=1:=by unfold BI;rw[if_pos h]
theorem OB{q:Rat}(h:q < 0):BI q = -1:=by unfold BI;rw[if_neg Ah,if_pos h]
theorem QE:BI 0=0:=by decide
theorem ZO{F:Nat->Rat}{u v w:Rat}(h:(ev F u < ev F v/\ev F v < ev F w)\/(ev F w < ev F v/\ev F v < ev F u)):IR F u w=IR F u v+IR F v w:=by
 unfold IR;generalize ev F u=a at *;generalize ev F v=b at *;generalize ev F w=c at *;rcases Std.lt_trichotomy a 0 with ha | ha | ha<;>rcases Std.lt_trichotomy b 0 with hb | hb | hb<;>rcases Std.lt_trichotomy c 0 with hc | hc | hc
 all_goals first
  | (exfalso;grind)
  | skip
 all_goals(try have ea:=OB ha);(try have ea:=Oo ha);(try have eb:=OB hb);(try have eb:=Oo hb);(try have ec:=OB hc);(try have ec:=Oo hc)
 all_goals(try(have na:a≠0:=by grind));(try(have nb:b≠0:=by grind));(try(have nc:c≠0:=by grind))
 all_goals(try subst ha);(try subst hb);(try subst hc);simp_all [QE]
theorem EA.sep{F:Nat->Rat}{K S D b:Nat}(h:EA F K)(qF:∀ i,qsz (F i)<=S)(qG:∀ i,qsz (pd F i)<=S)(hD:pl F+pl (pd F)=D){x y:Rat}(hx:ab x<=2^b - 1)(hy:ab y<=2^b - 1)(hxy:x < y)(hd:(y - x)*2^(O6 S D b)<=1):rt F K x y<=1:=by
 refine Classical.byContradiction fun hn=>?_;obtain⟨d,hdd⟩:∃ d,d=y - x:=⟨_,rfl⟩
 have hd0:0 < d:=by grind
 obtain⟨L,hL⟩:∃ L:Rat,L=2^(PH S D b):=⟨_,rfl⟩
 have hL0:0 < L:=by rw[hL];exact Ca _
 obtain⟨E,hE⟩:∃ E:Rat,E=2^(WM S D b):=⟨_,rfl⟩
 have hE0:0 < E:=by rw[hE];exact Ca _
 have hLd:=Rat.mul_pos hL0 hd0;have hsmall:4*(L*d*E)<=1:=by
  have e:(2:Rat)^(O6 S D b)=L*E*4:=by
   unfold O6;rw[Dt,Dt,<-hL,<-hE];congr 1
  rw[e,<-hdd]at hd;grind
 have hin:∀ z,x<=z->z<=y->ab z<=2^b - 1:=fun z a c=>EZ hx hy a c;have hdist:∀ z z',x<=z->z<=y->x<=z'->z'<=y->ab (z - z')<=d:=fun z z' a c a' c'=>F7.2 ⟨Ah,Ah⟩;have lF:∀ z z',x<=z->z<=y->x<=z'->z'<=y->ab (ev F z - ev F z')<=L*d:=fun z z' a c a' c'=>by
  have:=TC qF (show pl F<=D by omega) (hin z a c) (hin z' a' c');rw[<-hL]at this;exact Std.le_trans this (CK (hdist z z' a c a' c') (Std.le_of_lt hL0))
 have lG:∀ z z',x<=z->z<=y->x<=z'->z'<=y->ab (ev (pd F) z - ev (pd F) z')<=L*d:=fun z z' a c a' c'=>by
  have:=TC qG (show pl (pd F)<=D by omega) (hin z a c) (hin z' a' c');rw[<-hL]at this;exact Std.le_trans this (CK (hdist z z' a c a' c') (Std.le_of_lt hL0))
 obtain⟨z0,z1,z2,z3⟩:=h.small_pt (Std.le_of_lt hxy) hLd Aa;have hall:∀ z,x<=z->z<=y->ab (ev F z)<=2*(L*d):=fun z a c=>by
  have h1:=lF z z0 a c z1 z2;have h2:=G7 (ev F z - ev F z0) (ev F z0);have e:ev F z - ev F z0+ev F z0=ev F z:=by grind
  rw[e]at h2;grind
 have hbig:∀ z,x<=z->z<=y->L*d < ab (ev (pd F) z):=fun z a c=>by
  rcases Std.lt_trichotomy (L*d) (ab (ev (pd F) z))with q | q | q
  ·exact q
  all_goals
   exfalso;have:=Dx.low h.c h.f (C9 h.f) h.z (Ex h.z) qF qG hD (hin z a c) (hall z a c) (show ab (ev (pd F) z)<=2*(L*d) by grind);rw[<-hE]at this;grind
 have hs0:BI (ev (pd F) x)≠0:=by
  have:=hbig x (Std.le_refl _) (Std.le_of_lt hxy);intro q;rw[DU.1 q,DJ]at this;grind
 have hmono:∀ u v,x<=u->u < v->v<=y->BI (ev F v - ev F u)=BI (ev (pd F) x):=fun u v a c a'=>by
  have hu:u<=y:=by grind
  have b1:=hbig u a hu;have s1:=Q8 (p:=ev (pd F) u) (q:=ev (pd F) x) (by
   have:=lG u x a hu (Std.le_refl _) (Std.le_of_lt hxy);grind)
  obtain⟨r,hr,e⟩:=gN h.f qF (show pl F<=D by omega) (hin u a hu) (hin v Ah a');rw[e,Gr (show 0 < v - u by grind),<-s1.1];refine(Q8 ?_).1.symm;have e2:ev (pd F) u - (ev (pd F) u+(v - u)*r) = -((v - u)*r):=by grind
  rw[e2,Il,Co];rw[<-hL]at hr;have h4:=Sc (show ab (v - u)<=d from F7.2 ⟨Ah,Ah⟩) hr (Au _) (Std.le_of_lt hd0);grind
 obtain⟨δ,hδ,hl⟩:=h.loc x y;have key:rt F K x y=IR F x y:=by
  refine NQ (P:=fun u v=>rt F K u v=IR F u v) hδ hxy (fun u v a1 a2 a3 a4=>hl u v a1 a2 a3 a4) (fun u v w a1 a2 a3 a4 e f=>?_);have m1:=hmono u v a1 a2 Ah;have m2:=hmono v w Ah a3 a4;have m3:=J6 F K u v w;have m4:IR F u w=IR F u v+IR F v w:=by
   refine ZO ?_;rcases Std.lt_trichotomy (ev (pd F) x) 0 with c | c | c
   ·rw[OB c]at m1 m2
    refine .inr ⟨?_,?_⟩
    ·rcases Std.lt_trichotomy (ev F w - ev F v) 0 with q | q | q
     ·grind
     ·rw[q,QE]at m2;exact absurd m2 Ab
     ·rw[Oo q]at m2;exact absurd m2 Ab
    ·rcases Std.lt_trichotomy (ev F v - ev F u) 0 with q | q | q
     ·grind
     ·rw[q,QE]at m1;exact absurd m1 Ab
     ·rw[Oo q]at m1;exact absurd m1 Ab
   ·exact absurd (DU.2 c) hs0
   ·rw[Oo c]at m1 m2
    refine .inl ⟨?_,?_⟩
    ·rcases Std.lt_trichotomy (ev F v - ev F u) 0 with q | q | q
     ·rw[OB q]at m1;exact absurd m1 Ab
     ·rw[q,QE]at m1;exact absurd m1 Ab
     ·grind
    ·rcases Std.lt_trichotomy (ev F w - ev F v) 0 with q | q | q
     ·rw[OB q]at m2;exact absurd m2 Ab
     ·rw[q,QE]at m2;exact absurd m2 Ab
     ·grind
  omega
 have:=(dL F x y).2;omega
theorem Dx.sep{A B:Nat->Rat}{S D b:Nat}(hA:SF A)(hB:SF B)(c:Dx A B)(qA:∀ i,qsz (A i)<=S)(qB:∀ i,qsz (B i)<=S)(hD:pl A+pl B=D){x y:Rat}(hx:ab x<=2^b - 1)(hy:ab y<=2^b - 1)(hxy:x < y)(hd:(y - x)*2^(O6 S D b)<=1) :
  rc A x y=0\/rc B x y=0:=by
 refine Classical.byContradiction fun hn=>?_;have n1:=hA.nonneg (Std.le_of_lt hxy);have n2:=hB.nonneg (Std.le_of_lt hxy);obtain⟨d,hdd⟩:∃ d,d=y - x:=⟨_,rfl⟩
 have hd0:0 < d:=by grind
 obtain⟨L,hL⟩:∃ L:Rat,L=2^(PH S D b):=⟨_,rfl⟩
 have hL0:0 < L:=by rw[hL];exact Ca _
 obtain⟨E,hE⟩:∃ E:Rat,E=2^(WM S D b):=⟨_,rfl⟩
 have hE0:0 < E:=by rw[hE];exact Ca _
 have hLd:=Rat.mul_pos hL0 hd0;have hsmall:4*(L*d*E)<=1:=by
  have e:(2:Rat)^(O6 S D b)=L*E*4:=by
   unfold O6;rw[Dt,Dt,<-hL,<-hE];congr 1
  rw[e,<-hdd]at hd;grind
 have one:∀ {P:Nat->Rat},SF P->(∀ i,qsz (P i)<=S)->pl P<=D->1<=rc P x y->ab (ev P x)<=2*(L*d):=fun {P} hP qP hp h1=>by
  obtain⟨z,z1,z2,z3⟩:=hP.st.small_pt (Std.le_of_lt hxy) hLd h1;have h2:=TC qP hp hx (EZ hx hy z1 z2);rw[<-hL]at h2;have h3:=CK (show ab (x - z)<=d from F7.2 ⟨Ah,Ah⟩) (Std.le_of_lt hL0);have h4:=G7 (ev P x - ev P z) (ev P z);have e:ev P x - ev P z+ev P z=ev P x:=by grind
  rw[e]at h4;grind
 have a1:=one hA qA Aa Aa;have a2:=one hB qB Aa Aa;have:=Dx.low c hA.p.f hB.p.f hA.p.z hB.p.z qA qB hD hx a1 a2;rw[<-hE]at this;grind
section
variable{P:Program}
theorem Oa(w:World)(k base:Nat)(t ty e:TypeId)(i:TypeInfo)(z:Value)(bytes:Nat)(ht:P.underlying t=some (.slice e))(hi:P.info? e=some i)(hz:i.zero=some z)
  (hsize:i.size=k) (hby:i.bytes=bytes) (hzs:z.cells.size=k) (hzd:nodig z.cells=true) (hsz:0 < k)
  (v:Value) (n:Nat) (xs:List Value) (hown:K3 k base e w v n xs)
  (a:Addr) (c:Nat) (news:List Value) (hl:news.length=k) (hnews:∀ j u,news[j]? = some u->w.cell? (a.add j)=some u) (h1:∀ u∈news,u.oneCell'=true) (hnd:∀ u∈news,Ae u=false)
  (h63:n+1<=maxLen) (hbytes:(n+1)*bytes<=140737488355328) (hbase:base<=w.heap.size) :
  ∃ v' w',(Builtin.append_ #[t,t] ty #[v,.slice (some a) 1 c]).run P w = .ok v' w'/\K3 k base e w' v' (n+1) (xs ++ news)/\Ch (blk v) w w'/\∀ g∈blk v',g∈blk v\/w.heap.size<=g:=by
 subst hsize;subst hby;have hl':news.length=1*i.size:=by rw[Nat.one_mul];exact hl
 have hlen:(xs ++ news).length=(n+1)*i.size:=by rw[List.length_append,hown.1,hl,Nat.succ_mul]
 have hsmall:n+1<=9223372036854775807:=by simp only[maxLen]at h63;omega
 have hzl:=BH.1 hzd;have hzc:∀ m,∀ u∈(Builtin.zeroCells z.cells m).toList,Ae u=false:=by
  intro m u hu;simp only[Builtin.zeroCells,Array.toList_map,Array.toList_range,List.mem_map,List.mem_range]at hu;obtain⟨j,hj,rfl⟩:=hu;have:j % z.cells.size < z.cells.size:=Nat.mod_lt _ Aa;rw[getElem!_pos z.cells _ this];exact hzl _ Ac
 have hxd:∀ u∈xs,Ae u=false:=by
  rcases hown.2 with⟨_,h0⟩ | ⟨g,cap,cur,_,_,hb,_,_,_,htake⟩
  ·intro u hu
   have:xs=[]:=List.eq_nil_of_length_eq_zero (by rw[hown.1,h0,Nat.zero_mul]);rw[this]at hu;cases hu
  ·intro u hu
   rw[<-htake]at hu;exact BH.1 hb.2 _ (List.mem_of_mem_take hu)
 have grown:∀(old:Nat),old < n+1 ->
   K3 i.size base e (w.drew.alloc (.cells (xs.toArray ++ news.toArray ++ Builtin.zeroCells z.cells (grownCap w (n+1) old e - (n+1))) e)) (.slice (some ⟨w.heap.size,0,none⟩) (n+1) (grownCap w (n+1) old e)) (n+1) (xs ++ news) /\
   ∀ G,Ch G w (w.drew.alloc (.cells (xs.toArray ++ news.toArray ++ Builtin.zeroCells z.cells (grownCap w (n+1) old e - (n+1))) e)):=by
  intro old ho;have hge:=grownCap_ge w (n+1) old e;have hcm:grownCap w (n+1) old e<=maxLen:=grownCap_le_maxLen w (n+1) old e h63;refine⟨⟨hlen,.inr ⟨w.heap.size,_,_,rfl,hbase,⟨heap_alloc_new w.drew _,?_⟩,hge,hcm,?_,?_⟩⟩,fun G=>Ch.of_ext ((Ext.refl w).drew.alloc _)⟩
  ·rw[BH]
   intro u hu;simp only[Array.toList_append,List.mem_append]at hu;rcases hu with(hu | hu) | hu
   ·exact hxd u (by simpa using hu)
   ·exact hnd u (by simpa using hu)
   ·exact hzc _ u hu
  ·simp only[Array.size_append,List.size_toArray,size_zeroCells,hzs,hown.1,hl]
   rw[<-Nat.succ_mul,<-Nat.add_mul];congr 1;omega
  ·simp only[Array.toList_append,List.append_assoc]
   rw[<-List.append_assoc,<-hlen];exact List.take_left
 rcases hown.2 with⟨rfl,rfl⟩ | ⟨g,cap,cur,rfl,hbg,hb,hnc,hcm,hcs,htake⟩
 ·have hx:xs=[]:=List.eq_nil_of_length_eq_zero (by simpa using hown.1)
  subst hx;have hr:=run_append_nil (P:=P) w t ty e i z ht hi hz a 1 c news hl' hnews Aa Aa (by have hb:=hbytes;simp only[Nat.zero_add]at hb;omega);have hgr:=grown 0 Aa;simp only[Nat.zero_add,List.nil_append,Array.empty_append]at hgr ⊢;exact⟨_,_,hr,hgr.1,hgr.2 _,fun g' hg' => .inr (by simp[blk,Value.ownBlock]at hg';omega)⟩
 ·have hg:=hb.1
  by_cases hroom:n+1<=cap
  ·have hfit:n*i.size+news.length<=cur.size:=by rw[hl,hcs,<-Nat.succ_mul];exact Nat.mul_le_mul_right _ hroom
   have hr:=run_append_room (P:=P) w t ty e i ht hi g n cap cur hg a 1 c news hl' hnews h1 hroom hfit;have hnew:∀ u∈cur.toList.take (n*i.size) ++ news ++ cur.toList.drop (n*i.size+news.length),Ae u=false:=by
    intro u hu;simp only[List.mem_append]at hu;rcases hu with(hu | hu) | hu
    ·exact BH.1 hb.2 _ (List.mem_of_mem_take hu)
    ·exact hnd u hu
    ·exact BH.1 hb.2 _ (List.mem_of_mem_drop hu)
   have hbx:Bg (w.setRow g (cur.toList.take (n*i.size) ++ news ++ cur.toList.drop (n*i.size+news.length)).toArray) g e _:=⟨setRow_heap w g cur _ e _ hg,BH.2 (by simpa using hnew)⟩
   refine⟨_,_,hr,⟨hlen,.inr ⟨g,cap,_,rfl,hbg,hbx,hroom,hcm,?_,?_⟩⟩,⟨fun g' o hg' ho=>?_,Ko hb fun h hne _=>setRow_other w g h _ hne,fun a' ha hG=>?_⟩,fun g' hg' => .inl hg'⟩
   ·simp only[List.size_toArray,List.length_append,List.length_take,List.length_drop,Array.length_toList]
    omega
   ·rw[htake,<-hlen]
    exact List.take_left
   ·rw[setRow_other w g g' _ (fun e=>hg' (by simp[blk,Value.ownBlock,e]))];exact ho
   ·have hga:a'.heap.size<=g:=hG g (by simp[blk,Value.ownBlock])
    exact ha.grown (row:=some g) ⟨rfl,rfl,rfl,by simp[World.setRow],fun k _ hk=>setRow_other w g k _ (fun e=>hk (by rw[e]))⟩ (fun k hk=>by cases hk;exact hga)
  ·have holds:∀ j u,xs[j]? = some u->w.cell? ((⟨g,0,none⟩:Addr).add j)=some u:=hown.owns.cells (g:=g) rfl
   have hr:=run_append_grow (P:=P) w t ty e i z ht hi hz ⟨g,0,none⟩ n cap xs hown.1 holds a 1 c news hl' hnews Aa Aa (growslice_fits Aa hbytes);have hgr:=grown cap Aa;exact⟨_,_,hr,hgr.1,hgr.2 _,fun g' hg' => .inr (by simp[blk,Value.ownBlock]at hg';omega)⟩
end
section
variable{α:Type}{k:Nat}{rd:World->Value->α->Prop}{base:Nat}{e:TypeId}{w w':World}{v:Value}{l:List α}
theorem BA.append_at{P:Program}(h:BA k rd base e w v l)(t ty:TypeId)(i:TypeInfo)(z:Value)(bytes:Nat)(ht:P.underlying t=some (.slice e))(hi:P.info? e=some i)(hz:i.zero=some z)
  (hsize:i.size=k) (hby:i.bytes=bytes) (hzs:z.cells.size=k) (hzd:nodig z.cells=true) (hsz:0 < k) {x:α}
  (a:Addr) (c:Nat) (news:Array Value) (hl:news.size=k) (hx:rd w (.agg news) x) (hnews:∀ j u,news.toList[j]? = some u->w.cell? (a.add j)=some u) (h1:∀ u∈news.toList,u.oneCell'=true) (hnd:nodig news=true)
  (h63:l.length+1<=maxLen) (hbytes:(l.length+1)*bytes<=140737488355328) (hbase:base<=w.heap.size) (hr:∀ w' u y,KD w w'->rd w u y->rd w' u y) :
  ∃ v' w',(Builtin.append_ #[t,t] ty #[v,.slice (some a) 1 c]).run P w = .ok v' w'/\BA k rd base e w' v' (l ++ [x])/\Ch (blk v) w w'/\∀ g∈blk v',g∈blk v\/w.heap.size<=g:=by
 obtain⟨ess,g1,g2,g3,g5⟩:=h;obtain⟨v',w',hrun,hown,hupd,hat⟩:=Oa (P:=P) w k base t ty e i z bytes ht hi hz hsize hby hzs hzd hsz v l.length _ g3 a c news.toList (by simpa using hl) hnews h1 (BH.1 hnd) h63 hbytes hbase;refine⟨v',w',hrun,⟨ess ++ [news],by simp[g1],?_,?_,?_⟩,hupd,hat⟩
 ·intro d hd
  rcases List.mem_append.1 hd with hd | hd
  ·exact g2 d hd
  ·simp at hd;subst hd;exact hl
 ·have e1:(ess ++ [news]).flatMap Array.toList=ess.flatMap Array.toList ++ news.toList:=by simp
  rw[e1,List.length_append];exact hown
 ·intro j hj hj'
  rcases Nat.lt_or_ge j l.length with hlt | hge
  ·rw[List.getElem_append_left hlt,List.getElem_append_left Aa]
   exact hr _ _ _ hupd.kd (g5 j hlt Aa)
  ·have:j=l.length:=by simp at hj;omega
   subst this;rw[List.getElem_append_right Aa,List.getElem_append_right Aa];simpa using hr _ _ _ hupd.kd hx
end
theorem Ch.new_trans{G G':List Nat}{w w' w'':World}(h:Ch G w w')(k:Ch G' w' w'')(hG:∀ g∈G',g∈G\/w.heap.size<=g):Ch G w w'':=by
 refine⟨fun g o hg ho=>k.1 g o (fun hm=>?_) (h.1 g o hg ho),h.kd.trans k.kd,fun a e hg=>k.2.2 a (h.2.2 a e hg) fun g hm=>?_⟩
 ·rcases hG g hm with q | q
  ·exact hg q
  ·have:=(Array.getElem?_eq_some_iff.1 ho).1;omega
 ·rcases hG g hm with q | q
  ·exact hg g q
  ·have:=e.size;omega
theorem Ch.none{w w':World}(x:Ext w w')(G:List Nat):Ch G w w':=Ch.of_ext x
theorem Es.kd{w w':World}{v:Value}{p q:Rat}(h:Es w v p q)(k:KD w w'):Es w' v p q:=by
 obtain⟨b1,A1,n1,c1,b2,A2,n2,c2,b3,A3,n3,c3,b4,A4,n4,c4,h1,h2,h3⟩:=h;exact⟨b1,A1,n1,c1,b2,A2,n2,c2,b3,A3,n3,c3,b4,A4,n4,c4,h1,h2.kd k,h3.kd k⟩
theorem KU.kd{w w':World}{v:Value}{p q:Rat}(h:KU w v p q)(k:KD w w'):KU w' v p q:=by
 obtain⟨b1,A1,n1,c1,b2,A2,n2,c2,b3,A3,n3,c3,b4,A4,n4,c4,h1,h2,h3⟩:=h;exact⟨b1,A1,n1,c1,b2,A2,n2,c2,b3,A3,n3,c3,b4,A4,n4,c4,h1,h2.kd k,h3.kd k⟩
def kL:World->Value->Rat×Rat->Prop:=fun w u y=>Es w u y.1 y.2
def Cv(base:Nat)(e:TypeId)(w:World)(v:Value)(l:List (Rat×Rat)):Prop:=BA 8 kL base e w v l
theorem Cv.ext{base:Nat}{e:TypeId}{w w':World}{v:Value}{l:List (Rat×Rat)}(h:Cv base e w v l)(x:Ext w w'):Cv base e w' v l:=BA.ext h x fun _ _ q=>q.ext x
theorem Cv.upd{base:Nat}{e:TypeId}{w w':World}{v:Value}{l:List (Rat×Rat)}{G:List Nat}(h:Cv base e w v l)(U:Ch G w w')(hg:∀ g∈blk v,g∉G):Cv base e w' v l:=
 BA.upd h U hg fun _ _ q=>q.kd U.kd
theorem Cv.nil(base:Nat)(e:TypeId)(w:World):Cv base e w (.slice none 0 0) []:=BA.nil 8 kL base e w
theorem Cv.len{base:Nat}{e:TypeId}{w:World}{v:Value}{l:List (Rat×Rat)}(h:Cv base e w v l):∃ A c,v = .slice A l.length c:=BA.len h
theorem Es.cells{w:World}{v:Value}{p q:Rat}(h:Es w v p q):∃ b1 A1 n1 c1 b2 A2 n2 c2 b3 A3 n3 c3 b4 A4 n4 c4,v = .agg #[.bool b1,.slice A1 n1 c1,.bool b2,.slice A2 n2 c2,.bool b3,.slice A3 n3 c3,.bool b4,.slice A4 n4 c4]:=by
 obtain⟨b1,A1,n1,c1,b2,A2,n2,c2,b3,A3,n3,c3,b4,A4,n4,c4,h1,h2,h3⟩:=h;exact⟨b1,A1,n1,c1,b2,A2,n2,c2,b3,A3,n3,c3,b4,A4,n4,c4,h1⟩
noncomputable def iso(R:Rat->Rat->Int):Nat->Rat->Rat->List (Rat×Rat)
 | 0,p,q=>if R p q=0 then [] else [(p,q)]
 | n+1,p,q=>if R p q=0 then [] else if R p q=1 then [(p,q)] else iso R n p ((p+q) / 2) ++ iso R n ((p+q) / 2) q
theorem Kn{R:Rat->Rat->Int}{p q:Rat}(h:R p q=0):∀ n,iso R n p q=[]
 | 0=>by unfold iso;rw[if_pos h]
 | n+1=>by unfold iso;rw[if_pos h]
theorem JA{R:Rat->Rat->Int}{p q:Rat}(h:R p q=1):∀ n,iso R n p q=[(p,q)]
 | 0=>by unfold iso;rw[if_neg Aa]
 | n+1=>by unfold iso;rw[if_neg Aa,if_pos h]
theorem KS{R:Rat->Rat->Int}{p q:Rat}{n:Nat}(h0:R p q≠0)(h1:R p q≠1):iso R (n+1) p q=iso R n p ((p+q) / 2) ++ iso R n ((p+q) / 2) q:=by
 rw[iso,if_neg h0,if_neg h1]
def Node(P Q:Rat)(d:Nat)(p q:Rat):Prop:=∃ k:Nat,k < 2^d/\p=P+(Q - P)*(((k:Nat):Rat) / 2^d)/\q=P+(Q - P)*(((k+1:Nat):Rat) / 2^d)
theorem XY{k d:Nat}(h:k<=2^d):qsz (((k:Nat):Rat) / 2^d)<=d+1:=by
 have e:((k:Nat):Rat) / 2^d=Rat.divInt ((k:Nat):Int) ((2^d:Nat):Int):=by
  rw[BG,Rat.divInt_eq_div];rfl
 rw[e];have h2:sz (2^d)<=d+1:=by
  have:=Gh 2 1 Ab d;rw[Int.natAbs_pow]at this;have e3:((2:Int).natAbs)^d=2^d:=rfl;rw[e3]at this;omega
 refine DN ?_ ?_ Aa
 ·rw[Int.natAbs_natCast];exact Nat.le_trans (Bi h) h2
 ·rw[Int.natAbs_natCast];exact h2
theorem Node.root(P Q:Rat):Node P Q 0 P Q:=by
 refine⟨0,Ab,?_,?_⟩
 ·rw[show((0:Nat):Rat)=0 from rfl,Rat.pow_zero];grind
 ·rw[show((0+1:Nat):Rat)=1 from rfl,Rat.pow_zero];grind
theorem Node.half{P Q p q:Rat}{d:Nat}(h:Node P Q d p q):Node P Q (d+1) p ((p+q) / 2)/\Node P Q (d+1) ((p+q) / 2) q:=by
 obtain⟨k,hk,rfl,rfl⟩:=h;have h2:(2:Rat)^d≠0:=by have:=Ca d;grind
 have e1:(2:Rat)^(d+1)=2^d*2:=Rat.pow_succ _ _;have c1:((2*k:Nat):Rat)=2*((k:Nat):Rat):=by push_cast;rfl
 have c2:((2*k+1:Nat):Rat)=2*((k:Nat):Rat)+1:=by rw[CW,c1]
 have c3:((2*k+1+1:Nat):Rat)=2*((k:Nat):Rat)+2:=by rw[CW,c2];grind
 have c4:((k+1:Nat):Rat)=((k:Nat):Rat)+1:=CW k;have hkk:2*k+1 < 2^(d+1):=by rw[Nat.pow_succ];omega
 constructor
 ·refine⟨2*k,Aa,?_,?_⟩
  ·rw[e1,c1];grind
  ·rw[e1,c2,c4];grind
 ·refine⟨2*k+1,hkk,?_,?_⟩
  ·rw[e1,c2,c4];grind
  ·rw[e1,c3,c4];grind
theorem Node.width{P Q p q:Rat}{d:Nat}(h:Node P Q d p q):(q - p)*2^d=Q - P:=by
 obtain⟨k,hk,rfl,rfl⟩:=h;have h2:(2:Rat)^d≠0:=by have:=Ca d;grind
 rw[CW];grind
theorem Node.within{P Q p q:Rat}{d:Nat}(h:Node P Q d p q)(hPQ:P < Q):P<=p/\p < q/\q<=Q:=by
 obtain⟨k,hk,rfl,rfl⟩:=h;have h2:=Ca d;obtain⟨hi,ei⟩:=IE h2;have hd:0 < Q - P:=by grind
 obtain⟨z,hz⟩:∃ z:Rat,z=1 / 2^d:=⟨_,rfl⟩
 rw[<-hz]at hi ei;have e:∀ x:Rat,x / 2^d=x*z:=fun x=>by rw[hz];grind
 rw[e,e];have k0:=Ey k;have k1:((k+1:Nat):Rat)<=((2^d:Nat):Rat):=Ms hk;rw[<-BG]at k1;have a0:=Rat.mul_nonneg (Std.le_of_lt hd) (Rat.mul_nonneg k0 (Std.le_of_lt hi));have a1:=Df k1 (Std.le_of_lt hi);have a2:(2:Rat)^d*z=1:=by grind
 rw[a2]at a1;have a3:=CK a1 (Std.le_of_lt hd);have a4:=Rat.mul_pos hd hi;rw[CW]at a3 ⊢;refine⟨Ah,Ah,Ah⟩
theorem Node.qsz{P Q p q:Rat}{d a:Nat}(h:Node P Q d p q)(hP:Hp.qsz P<=a)(hQ:Hp.qsz Q<=a):Hp.qsz p<=3*a+d+4/\Hp.qsz q<=3*a+d+4:=by
 obtain⟨k,hk,rfl,rfl⟩:=h;have key:∀ m:Nat,m<=2^d->Hp.qsz (P+(Q - P)*(((m:Nat):Rat) / 2^d))<=3*a+d+4:=fun m hm=>by
  have h1:=Pv Q P;have h2:=BQ (Q - P) (((m:Nat):Rat) / 2^d);have h3:=XY hm;have h4:=Ei P ((Q - P)*(((m:Nat):Rat) / 2^d));omega
 exact⟨key k Aa,key (k+1) hk⟩
theorem OG{F:Nat->Rat}(hF:SF F){P Q:Rat}(hPQ:P < Q){N:Nat}(hdeep:∀ d p q,Node P Q d p q->N<=d->rc F p q<=1) :
  ∀(n d:Nat) (p q:Rat),Node P Q d p q->N<=n+d->(∀ x∈iso (rc F) n p q,rc F x.1 x.2=1/\(∃ d',d<=d'/\d'<=n+d/\Node P Q d' x.1 x.2)/\p<=x.1/\x.2<=q) /\
   ((iso (rc F) n p q).length:Int)=rc F p q/\(iso (rc F) n p q).Pairwise fun x y=>x.2<=y.1:=by
 intro n;induction n with
 | zero =>
  intro d p q hn hN;have h1:=hdeep d p q hn Aa;have hw:=hn.within hPQ;have h0:=hF.nonneg (Std.le_of_lt hw.2.1);by_cases hz:rc F p q=0
  ·rw[Kn hz];exact⟨fun x hx=>by simp at hx,by simp[hz],List.Pairwise.nil⟩
  ·rw[JA (show rc F p q=1 by omega)]
   refine⟨fun x hx=>?_,CR,Ac⟩;have:x=(p,q):=by simpa using hx
   subst this;exact⟨show rc F p q=1 by omega,⟨d,Nat.le_refl _,Aa,hn⟩,Std.le_refl _,Std.le_refl _⟩
 | succ n ih =>
  intro d p q hn hN;have hw:=hn.within hPQ;have h0:=hF.nonneg (Std.le_of_lt hw.2.1);by_cases hz:rc F p q=0
  ·rw[Kn hz];exact⟨fun x hx=>by simp at hx,by simp[hz],List.Pairwise.nil⟩
  by_cases ho:rc F p q=1
  ·rw[JA ho]
   refine⟨fun x hx=>?_,by simp[ho],Ac⟩;have:x=(p,q):=by simpa using hx
   subst this;exact⟨ho,⟨d,Nat.le_refl _,Aa,hn⟩,Std.le_refl _,Std.le_refl _⟩
  ·rw[KS hz ho]
   obtain⟨n1,n2⟩:=hn.half;obtain⟨a1,a2,a3⟩:=ih (d+1) _ _ n1 Aa;obtain⟨b1,b2,b3⟩:=ih (d+1) _ _ n2 Aa;have w1:=(n1.within hPQ).2.1;have w2:=(n2.within hPQ).2.1;have hsum:=Qg F p ((p+q) / 2) q;refine⟨fun x hx=>?_,?_,?_⟩
   ·rcases List.mem_append.1 hx with hx | hx
    ·obtain⟨c1,⟨d',c2,c3,c4⟩,c5,c6⟩:=a1 x hx
     exact⟨c1,⟨d',Aa,Aa,c4⟩,c5,Ah⟩
    ·obtain⟨c1,⟨d',c2,c3,c4⟩,c5,c6⟩:=b1 x hx
     exact⟨c1,⟨d',Aa,Aa,c4⟩,Ah,c6⟩
   ·rw[List.length_append];push_cast;omega
   ·rw[List.pairwise_append]
    refine⟨a3,b3,fun x hx y hy=>?_⟩;obtain⟨-,-,-,c6⟩:=a1 x hx;obtain⟨-,-,c5,-⟩:=b1 y hy;exact Std.le_trans c6 c5
theorem eZ(W:Nat->Rat)(K:Nat)(p q:Rat):rts W K p q=rt W K p q:=by
 have e:∀ x,V (EN W (pd W) K) x=vx W K x:=fun x=>by
  unfold V vx Wq EN;rw[List.map_map];rfl
 unfold rts rt;rw[e,e]
theorem Jb{W:Nat->Rat}{K:Nat}(hK:Mt W (pd W) K)(p q:Rat):rts W K p q=rc W p q:=by rw[eZ];unfold rc;rw[hK.kn]
theorem Vr{G:List Nat}{X Y:World}(U:Ch G X Y){g i:Nat}{x:Value}(hg:g∉G)(h:X.cell? ⟨g,i,none⟩=some x):Y.cell? ⟨g,i,none⟩=some x:=by
 have hb:=World.block_lt_of_cell? X _ h;have ho:X.heap[g]? = some X.heap[g]:=Array.getElem?_eq_getElem hb;have:=U.1 g _ hg ho;rw[World.cell?_of_block (this.trans ho.symm)];exact h
def Tg(base:Nat)(t:TypeId)(w:World)(o:Value)(l:List (Rat×Rat))(e:Ending)(w':World):Prop:=∃ r,e = .returned r/\Cv base t w' r l/\Ch (blk o) w w'/\∀ g∈blk r,g∈blk o\/w.heap.size<=g
theorem fK(q:Rat):(ab q).num=(q.num.natAbs:Nat)/\(ab q).den=q.den:=by
 unfold ab
 split
 ·rename_i h
  have h1:=Ld (q:=-q);have h2:(-q).num = -q.num:=rfl;have h3:0 < -q:=by grind
  have:=h1.2 h3;exact⟨Aa,rfl⟩
 ·rename_i h
  have:0<=q.num:=Rat.num_nonneg.2 Ah;exact⟨Aa,rfl⟩
theorem Bg.put42{w:World}{g:Nat}{t:TypeId}{a b c d:Value}(h:Bg w g t #[a,b,c,d])(u v:Value)(hu:Ae u=false)(hv:Ae v=false) :
  ∃ W,W=(w.setCell ⟨g,0,none⟩ u).setCell ⟨g,1,none⟩ v/\Bg W g t #[u,v,c,d]/\Ch [g] w W:=
 ⟨_,rfl,(h.set_ 0 hu).set_ 1 hv,(Ch.set_ h.nodig 0 u).trans (Ch.set_ (h.set_ 0 hu).nodig 1 v)⟩
theorem VS(x y:Int):ab (Rat.divInt x y)=Rat.divInt (x.natAbs:Nat) (y.natAbs:Nat):=by
 have key:∀ n m:Nat,ab (Rat.divInt (n:Int) (m:Int))=Rat.divInt (n:Int) (m:Int):=fun n m=>by
  have:0<=Rat.divInt (n:Int) (m:Int):=Rat.divInt_nonneg Aa Aa;unfold ab;rw[if_neg Ah]
 rcases Int.natAbs_eq x with hx | hx<;>rcases Int.natAbs_eq y with hy | hy
 ·rw[hx,hy,key];simp
 ·rw[hx,hy,Rat.divInt_neg',<-Rat.neg_divInt,Il,key];simp
 ·rw[hx,hy,<-Rat.neg_divInt,Il,key];simp
 ·rw[hx,hy,Rat.divInt_neg',<-Rat.neg_divInt,<-Rat.neg_divInt,Il,Il,key];simp
theorem X8(p q:Rat):ab (p / q)=ab p / ab q:=by
 by_cases h:q=0
 ·rw[h,DJ,Rat.div_def,Rat.div_def,Rat.inv_zero,Rat.mul_zero,Rat.mul_zero];decide
 ·have h1:p / q*q=p:=by grind
  have h2:ab (p / q)*ab q=ab p:=by rw[<-Co,h1]
  have h3:ab q≠0:=fun e=>h (TY.1 e);grind
theorem MH{p q:Rat}:decide (IU (p - q)<=0)=decide (p<=q):=by
 rw[I7];unfold BI;by_cases h:p<=q
 ·rw[if_neg Ah,decide_eq_true h]
  split<;>rfl
 ·rw[decide_eq_false h,if_pos Ah];rfl
theorem G5(n:Nat):(((2:Int)^n:Int):Rat)=2^n:=by push_cast;rfl
theorem Ff{p q:Rat}:decide (IU (p - q) > 0)=decide (q < p):=by
 rw[I7];unfold BI;by_cases h:q < p
 ·rw[if_pos Ah,decide_eq_true h];rfl
 ·rw[decide_eq_false h,if_neg Ah]
  split<;>rfl
theorem P2.qsz{r:Rat}{s:Nat}(h0:0<=r)(h:Hp.qsz r<=s):∃ J,P2 r J/\J<=32*s+1:=by
 have h1:=(Np h).1;rw[DY h0,BG]at h1;have key:∀ m,r < 2^m->∃ J,P2 r J/\J<=m:=by
  intro m;induction m with
  | zero=>intro h;exact⟨0,⟨h,fun i hi=>Aa⟩,Nat.le_refl _⟩
  | succ m ih =>
   intro h;by_cases h2:r < 2^m
   ·obtain⟨J,a,b⟩:=ih h2;exact⟨J,a,Aa⟩
   ·exact⟨m+1,⟨h,fun i hi=>by have:=M0 (show i<=m by omega);grind⟩,Nat.le_refl _⟩
 refine key (32*s+1) ?_;rw[Rat.pow_succ];have:=Ca (32*s);rw[BG]at this ⊢;grind
noncomputable def bx(F:Nat->Rat):Nat:=open Classical in if h:∃ j,P2 (EL F (pl F - 1)+1) j then Classical.choose h else 0
theorem P2.bx{F:Nat->Rat}{j:Nat}(h:P2 (EL F (pl F - 1)+1) j):j=Hp.bx F:=by
 have hx:∃ j,P2 (EL F (pl F - 1)+1) j:=⟨j,h⟩
 unfold Hp.bx;rw[dif_pos hx];exact h.uniq (Classical.choose_spec hx)
theorem OC{F:Nat->Rat}{s:Nat}(h:∀ i,qsz (F i)<=s):bx F<=32*(2*s+2)+1:=by
 have h0:0<=EL F (pl F - 1)+1:=by have:=IB F (pl F - 1);grind
 have h1:=Ei (EL F (pl F - 1)) 1;have h2:qsz (1:Rat)=1:=by decide
 have h3:=Js h (Nat.le_trans (Cf (F 0)) (h 0)) (pl F - 1);obtain⟨j,hj,hj2⟩:=P2.qsz h0 (show qsz (EL F (pl F - 1)+1)<=2*s+2 by omega);rw[<-hj.bx];exact hj2
theorem MW(j:Nat):qsz ((2:Rat)^j)<=j+1/\qsz (-(2:Rat)^j)<=j+1:=by
 have h1:=Gg j;have e:((2:Rat)^j)=(((2:Int)^j:Int):Rat):=(G5 j).symm;have h2:qsz ((2:Rat)^j)<=j+1:=by rw[e,Bh];omega
 exact⟨h2,by rw[Gq];exact h2⟩
structure Pg(F:Nat->Rat)(D M:Nat):Prop where
 z:ZI F
 f:Af F
 n0:F≠pz
 e:Dn F=0
 q:∀ i,qsz (F i)<=1000
 pln:pl F<=1000
 sim:∃ S n M T,P9 F S n M T
 chn:∃ S,KR (Bw F) S D M
theorem Pg.sf{F:Nat->Rat}{D M:Nat}(h:Pg F D M):SF (Bw F):=D6 h.z h.f h.n0
theorem Pg.k{F:Nat->Rat}{D M:Nat}(h:Pg F D M):Mt (Bw F) (pd (Bw F)) (kn (Bw F)):=h.sf.st.k
theorem Pg.lim{F:Nat->Rat}{D M:Nat}(h:Pg F D M):M<=1000000/\D<=900:=by
 obtain⟨S,h⟩:=h.chn;exact⟨by have:=h.b;omega,h.D9⟩
theorem Nk.lower{base b:Nat}{t:TypeId}{w:World}{v:Value}{W:Nat->Rat}(h:Nk base t w v W)(hb:b<=base):Nk b t w v W:=by
 obtain⟨c,us,K,h1,h2,h3,h4⟩:=h;exact⟨c,us,K,h1,h2,h3,(h4.base_le hb).el_le hb⟩
theorem Cv.lower{base b:Nat}{e:TypeId}{w:World}{v:Value}{l:List (Rat×Rat)}(h:Cv base e w v l)(hb:b<=base):Cv b e w v l:=by
 obtain⟨ess,g1,g2,⟨g3,g4⟩,g5⟩:=h;refine⟨ess,g1,g2,⟨g3,?_⟩,g5⟩;rcases g4 with h4 | ⟨g,cap,cur,a,c,d⟩
 ·exact .inl h4
 ·exact .inr ⟨g,cap,cur,a,Nat.le_trans hb c,d⟩
def X6(base:Nat)(t:TypeId)(F:Nat->Rat)(N:Nat)(r:Value)(w:World):Prop:=∃ c,r = .tuple #[c,.int .i64 (Dn F)]/\(Dn F=0->Cv base t w c (iso (rc (Bw F)) N (-(2:Rat)^bx F) ((2:Rat)^bx F)))/\(Dn F≠0->c = .slice none 0 0)
def K9(F:Nat->Rat)(p q:Rat)(r:Value):Prop:=r = .tuple #[.int .i64 (if Dn F=0/\p<=q then rc (Bw F) p q else 0),.int .i64 (if Dn F=0 then(if p<=q then 0 else 2)else Dn F)]
structure Dk(F:Nat->Rat):Prop where
 z:ZI F
 f:Af F
 n0:F≠pz
 p:pl F<=7
 b:∀ i,(F i).num.natAbs<=4095
theorem DI{F:Nat->Rat}(z:ZI F){i s:Nat}(hs:1<=s)(h:(F i).num.natAbs < bp s):qsz (F i)<=s:=by
 have h3:=Cj h;rw[z.num i,Bh];omega
theorem Dk.q{F:Nat->Rat}(h:Dk F)(i:Nat):qsz (F i)<=1:=DI h.z Ab (Nat.lt_of_le_of_lt (h.b i) Ab)
theorem O0{F:Nat->Rat}(z:ZI F)(f:Af F){n X:Nat}(hp:pl F<=n+1)(h:∀ i,(F i).num.natAbs<=X)(i:Nat):(pd F i).num.natAbs<=n*X:=by
 have e:pd F i=((((i+1:Nat):Int)*(F (i+1)).num:Int):Rat):=by
  show((i+1:Nat):Rat)*F (i+1)=_
  conv=>lhs;rw[z.num (i+1)]
  push_cast;rfl
 rw[e];show(((i+1:Nat):Int)*(F (i+1)).num).natAbs<=_;rw[Int.natAbs_mul];by_cases hi:i+1<=n
 ·exact Nat.mul_le_mul hi (h _)
 ·have:F (i+1)=0:=(AO f) _ Aa
  rw[this];simp
theorem Tv{F:Nat->Rat}(z:ZI F)(f:Af F)(h0:F≠pz){X:Nat}(h:∀ i,(F i).num.natAbs<=X)(i:Nat):(pp F i).num.natAbs<=X:=by
 rw[MR z f h0];show((F i).num / pcn F).natAbs<=X;exact Nat.le_trans (Int.natAbs_ediv_le_natAbs _ _) (h i)
theorem V5{F:Nat->Rat}(z:ZI F){X:Nat}(h:∀ i,(F i).num.natAbs<=X):JJ ((X:Nat):Rat) F:=fun i=>by
 rw[z.num i,Kc];exact_mod_cast h i
theorem TW{F:Nat->Rat}(z:ZI F){X:Nat}(h:JJ ((X:Nat):Rat) F)(i:Nat):(F i).num.natAbs<=X:=by
 have:=h i;rw[z.num i,Kc]at this;exact_mod_cast this
theorem Rh(a b c d:Nat):((a:Nat):Rat)*(((b:Nat):Rat)*((c:Nat):Rat)*((d:Nat):Rat)*((d:Nat):Rat))=((a*(b*c*d*d):Nat):Rat):=by push_cast;rfl
theorem Dk.w{F:Nat->Rat}(h:Dk F):(∀ i,(Bw F i).num.natAbs<=7*(4095*7*15^7*15^7))/\pl (Bw F)<=7:=by
 have hP:=BK.pp h.z h.f h.n0;have hS:=D6 h.z h.f h.n0;have hpl:=Ef h.z h.f;have hd:Iz (pp F) (Bw F):=by
  obtain⟨hC,hW,e,-,-⟩:=EQ hP;exact⟨yc (pp F),hC.z,hC.f,by rw[Bq];exact e⟩
 have h1:=Uv hP.z hP.f hP.n hS.p.z hS.p.f hd (n:=7) (by rw[hpl];exact h.p) (V5 hP.z (Tv h.z h.f h.n0 h.b));refine⟨TW hS.p.z ?_,?_⟩
 ·intro i
  have:=h1 i;refine Std.le_trans this ?_;have e:(1:Rat)+2*((7:Nat):Rat)=((15:Nat):Rat):=by exact_mod_cast(rfl:1+2*7=15)
  rw[e,Jk];have:((7:Nat):Rat)*(((4095:Nat):Rat)*((7:Nat):Rat)*((15^7:Nat):Rat)*((15^7:Nat):Rat))=((7*(4095*7*15^7*15^7):Nat):Rat):=Rh 7 4095 7 _;rw[this];exact Std.le_refl _
 ·have:=Dv.le hS.p.f hP.f hP.n (Lt hd)
  rw[hpl]at this;have:=h.p;omega
theorem Dk.chn{F:Nat->Rat}(h:Dk F):KR (Bw F) 3 (pl (Bw F)+pl (pd (Bw F))) 32768/\pl (Bw F)+pl (pd (Bw F))<=13:=by
 obtain⟨h1,h2⟩:=h.w;have hS:=D6 h.z h.f h.n0;have h3:=LU hS.p.f;have h4:=Bb hS.p.f hS.p.n;have hD:pl (Bw F)+pl (pd (Bw F))<=13:=by omega
 have hp:2^(pl (Bw F)+pl (pd (Bw F)))<=2^13:=Nat.pow_le_pow_right Ab hD;have hm:(pl (Bw F)+pl (pd (Bw F))+1)*(32768+1)<=14*32769:=Nat.mul_le_mul_right _ Aa;refine⟨⟨hS.p.z,hS.p.f,fun i=>DI hS.p.z Ab (Nat.lt_of_le_of_lt (h1 i) (by decide +kernel)),fun i=>DI (Ex hS.p.z) Ab (Nat.lt_of_le_of_lt (O0 hS.p.z hS.p.f (n:=6) Aa h1 i) (by decide +kernel)),rfl,Aa,Aa,Aa⟩,hD⟩
theorem Dk.sim{F:Nat->Rat}(h:Dk F):P9 F 1 7 16384 36000:=by
 have hP:=BK.pp h.z h.f h.n0;have hpl:=Ef h.z h.f;have hpn:=Tv h.z h.f h.n0 h.b;exact⟨h.z,h.f,h.n0,h.q,fun i=>DI (Ex hP.z) Ab (Nat.lt_of_le_of_lt (O0 hP.z hP.f (n:=6) (by rw[hpl];exact h.p) hpn i) Ab),
  fun i=>UD hP (n:=7) (s:=1) (by rw[hpl];exact h.p) Ab (fun i=>DI hP.z Ab (Nat.lt_of_le_of_lt (hpn i) Ab)) Ab i,h.p,Ab,Ab,Ab,Ab⟩
theorem Dk.err{F:Nat->Rat}(h:Dk F):Dn F=0:=by
 refine Mj h.n0 (by have:=h.p;omega) fun⟨i,b,h1,h2⟩=>?_;have:=h1.le (m:=12) (Nat.lt_of_le_of_lt (h.b i) Ab);omega
theorem Dk.pg{F:Nat->Rat}(h:Dk F):Pg F (pl (Bw F)+pl (pd (Bw F))) 32768:=
 ⟨h.z,h.f,h.n0,h.err,fun i=>Nat.le_trans (h.q i) Ab,by have:=h.p;omega,⟨1,7,16384,36000,h.sim⟩,⟨3,h.chn.1⟩⟩
theorem ZT{S D b:Nat}(hS:S<=3)(hD:D<=13)(hb:b<=400):O6 S D b<=660000000:=by
 have hp:2^D<=8192:=Nat.le_trans (Nat.pow_le_pow_right Ab hD) Ab;have h1:(S+1)*2^D<=4*8192:=Nat.mul_le_mul Aa hp;have h2:(D+1)*((S+1)*2^D+1)<=14*32769:=Nat.mul_le_mul Aa Aa;have h3:b*(D+1)<=400*14:=Nat.mul_le_mul hb Aa;have h4:(3+b)*D<=403*13:=Nat.mul_le_mul Aa hD;have h5:IQ S D b<=50338607:=by unfold IQ;omega
 have h6:D*IQ S D b<=13*50338607:=Nat.mul_le_mul hD h5;unfold O6 PH WM;omega
theorem Dk.sep{F:Nat->Rat}(h:Dk F){p q:Rat}{E:Nat}(hE:660000000<=E)(hp:ab p<=2^400 - 1)(hq:ab q<=2^400 - 1)(hpq:p < q)(hd:(q - p)*2^E<=1):rc (Bw F) p q<=1:=by
 obtain⟨hC,hD⟩:=h.chn;have hS:=D6 h.z h.f h.n0;have h1:=ZT (S:=3) (b:=400) Ab hD Ab;have h2:=CK (M0 (show O6 3 (pl (Bw F)+pl (pd (Bw F))) 400<=E by omega)) (show 0<=q - p by grind);exact hS.st.sep hC.s hC.d rfl hp hq hpq (Std.le_trans h2 hd)
theorem YQ{b:Nat}(j:Nat)(h:j+1<=b):(2:Rat)^j<=2^b - 1:=by
 have h1:=M0 h;rw[Rat.pow_succ]at h1;have:=MP j;grind
theorem Dk.deep{F:Nat->Rat}(h:Dk F)(d:Nat)(p q:Rat)(hn:Node (-(2:Rat)^bx F) ((2:Rat)^bx F) d p q)(hd:700000000<=d):rc (Bw F) p q<=1:=by
 have hb:=OC h.q;have hpos:=Ca (bx F);have hPQ : -(2:Rat)^bx F < (2:Rat)^bx F:=by grind
 obtain⟨w1,w2,w3⟩:=hn.within hPQ;have hB:=YQ (b:=400) (bx F) Aa;have hap:ab p<=2^400 - 1:=F7.2 ⟨Ah,Ah⟩;have haq:ab q<=2^400 - 1:=F7.2 ⟨Ah,Ah⟩;obtain⟨E,hE⟩:∃ E,d=E+(bx F+1):=⟨d - (bx F+1),Aa⟩
 refine h.sep (E:=E) Aa hap haq w2 ?_;have hw:=hn.width;rw[hE,Dt,Rat.pow_succ]at hw;have:(q - p)*2^E*(2^bx F*2)=1*(2^bx F*2):=by grind
 have hne:(2:Rat)^bx F*2≠0:=by grind
 have:(q - p)*2^E=1:=by grind
 rw[this];exact Std.le_refl _
theorem UE:∀ l:List Int,JG 0 l<=l.length - 1
 | []=>Nat.le_refl _
 | s::l=>by
  rw[JG]
  split
  ·have:=UE l;simp;omega
  ·rename_i h
   rw[if_neg (show ¬ (0:Int) = -s by omega)];have:=Ye l s;simp;omega
theorem QD:pl (cz [-2,0,1])=3:=KP (BJ [-2,0,1]) (fun _=>by decide +kernel)
theorem bQ:cz [-2,0,1]≠pz:=fun e=>by have:=QD;rw[e,C8]at this;omega
theorem Gn:Dk (cz [-2,0,1]):=by
 refine⟨ZI.cz _,Af.cz _,bQ,by rw[QD];decide,fun i=>?_⟩
 match i with
 | 0=>decide +kernel
 | 1=>decide +kernel
 | 2=>decide +kernel
 | i+3=>rw[IG Ac];decide
theorem Ur(x:Rat):ev (cz [-2,0,1]) x = -2+x*x:=by
 rw[Fe (BJ [-2,0,1]) x];show cz [-2,0,1] 0+x*(cz [-2,0,1] 1+x*(cz [-2,0,1] 2+x*0))=_;have h0:cz [-2,0,1] 0 = -2:=by decide +kernel
 have h1:cz [-2,0,1] 1=0:=by decide +kernel
 have h2:cz [-2,0,1] 2=1:=by decide +kernel
 rw[h0,h1,h2];grind
theorem Xq:ld (cz [-2,0,1])=1:=by unfold ld;rw[QD];decide +kernel
theorem bU:SF (cz [-2,0,1]):=by
 refine⟨⟨ZI.cz _,Af.cz _,bQ,by rw[Xq];decide,?_⟩,?_⟩
 ·have h:=Gn
  have h1:cn (cz [-2,0,1])∣1:=by
   have h2:=Im (F:=cz [-2,0,1]) (Af.cz _) 2;have h3:(cz [-2,0,1] 2).num=1:=by decide +kernel
   rw[h3]at h2;exact Int.natCast_dvd_natCast.1 h2
  exact Nat.dvd_one.1 h1
 ·have e:∀ i,pd (cz [-2,0,1]) i=cs 0 (cs 2 pz) i:=fun i=>by
   match i with
   | 0=>decide +kernel
   | 1=>decide +kernel
   | i+2 =>
    show((i+2+1:Nat):Rat)*cz [-2,0,1] (i+3)=pz i;rw[IG Ac,Rat.mul_zero];rfl
  have e':pd (cz [-2,0,1])=cs 0 (cs 2 pz):=funext e;have f':cz [-2,0,1]=cs (-2) (cs 0 (cs 1 pz)):=funext fun i=>by
   match i with
   | 0=>decide +kernel
   | 1=>decide +kernel
   | 2=>decide +kernel
   | i+3=>rw[IG Ac];rfl
  refine⟨cs (-(1 / 2)) pz,cs 0 (cs (1 / 4) pz),Af.pz.cs _,(Af.pz.cs _).cs _,?_⟩;rw[e',f'];simp only[LZ,CF]
  funext i
  match i with
  | 0=>simp only[pad,psc,cs,pz,pone];grind
  | 1=>simp only[pad,psc,cs,pz,pone];grind
  | 2=>simp only[pad,psc,cs,pz,pone];grind
  | 3=>simp only[pad,psc,cs,pz,pone];grind
  | i+4=>simp only[pad,psc,cs,pz,pone];grind
theorem aI{F:Nat->Rat}(h:SF F):Bw F=F:=by
 have e:pp F=F:=h.p.self;have h2:=XB h h.p (Dv.refl F);have h3:=EQ h.p;unfold Bw;rw[e];refine h3.2.1.eq_dv h.p ⟨yc F,h3.1.f,?_⟩ h2;rw[Bq];exact h3.2.2.1
theorem Xb:Bw (cz [-2,0,1])=cz [-2,0,1]:=aI bU
theorem iL:bx (cz [-2,0,1])=2:=by
 refine(P2.bx ?_).symm;rw[QD];have h0:cz [-2,0,1] 0 = -2:=by decide +kernel
 have h1:cz [-2,0,1] 1=0:=by decide +kernel
 have e1:EL (cz [-2,0,1]) 1=2:=by
  show(if (0:Rat) < ab (cz [-2,0,1] 0 / ld (cz [-2,0,1]))then ab (cz [-2,0,1] 0 / ld (cz [-2,0,1]))else 0)=2;rw[h0,Xq];decide +kernel
 have e2:EL (cz [-2,0,1]) (3 - 1)=2:=by
  show(if EL (cz [-2,0,1]) 1 < ab (cz [-2,0,1] 1 / ld (cz [-2,0,1]))then ab (cz [-2,0,1] 1 / ld (cz [-2,0,1]))else EL (cz [-2,0,1]) 1)=2;rw[e1,h1,Xq];decide +kernel
 rw[e2];refine⟨by decide +kernel,fun i hi=>?_⟩
 match i with
 | 0=>decide +kernel
 | 1=>decide +kernel
theorem bO:rc (cz [-2,0,1]) 0 2=1/\rc (cz [-2,0,1]) (-4) 4=2/\rc (cz [-2,0,1]) (-4) 0=1/\rc (cz [-2,0,1]) 0 4=1:=by
 have hs:=bU;have e0:ev (cz [-2,0,1]) 0 = -2:=by rw[Ur];decide +kernel
 have e2:ev (cz [-2,0,1]) 2=2:=by rw[Ur];decide +kernel
 have e4:ev (cz [-2,0,1]) 4=14:=by rw[Ur];decide +kernel
 have em:ev (cz [-2,0,1]) (-4)=14:=by rw[Ur];decide +kernel
 have h1:1<=rc (cz [-2,0,1]) 0 2:=hs.st.change_counts (by decide +kernel) (by rw[e0];decide +kernel) (by rw[e0,e2];decide +kernel);have h2:1<=rc (cz [-2,0,1]) (-4) 0:=hs.st.change_counts (by decide +kernel) (by rw[em];decide +kernel) (by rw[e0,em];decide +kernel);have h3:=hs.sub (p:=0) (x:=0) (y:=2) (q:=4) (by decide +kernel) (by decide +kernel) (by decide +kernel);have h4:=Qg (cz [-2,0,1]) (-4) 0 4
 have h5:rc (cz [-2,0,1]) (-4) 4<=2:=by
  rw[<-Jb hs.st.k];unfold rts;have h6:V (EN (cz [-2,0,1]) (pd (cz [-2,0,1])) (kn (cz [-2,0,1]))) (-4)<=kn (cz [-2,0,1]) - 1:=by
   have:=UE ((EN (cz [-2,0,1]) (pd (cz [-2,0,1])) (kn (cz [-2,0,1]))).map fun F=>BI (ev F (-4)));rw[List.length_map,CP]at this;exact this
  obtain⟨S,hS⟩:=Ev hs.p.f;obtain⟨T,hT⟩:=Ev (C9 hs.p.f);obtain⟨K,q1,q2⟩:=G9 hs.p.f (C9 hs.p.f) hs.p.z (Ex hs.p.z) (S:=max S T) (fun i=>Nat.le_trans (hS i) (Nat.le_max_left _ _)) (fun i=>Nat.le_trans (hT i) (Nat.le_max_right _ _));rw[LU hs.p.f,QD]at q2;rw[q1.kn]at h6 ⊢;omega
 omega
theorem eG(N:Nat):iso (rc (Bw (cz [-2,0,1]))) (N+1) (-(2:Rat)^bx (cz [-2,0,1])) ((2:Rat)^bx (cz [-2,0,1]))=[(-4,0),(0,4)]:=by
 rw[Xb,iL];have e1:(2:Rat)^2=4:=by decide +kernel
 have e2 : -(2:Rat)^2 = -4:=by decide +kernel
 obtain⟨-,r1,r2,r3⟩:=bO;rw[e2,e1,KS Aa Aa];have e3:((-4:Rat)+4) / 2=0:=by decide +kernel
 rw[e3,JA r2,JA r3];rfl
theorem fM{F:Nat->Rat}(z:ZI F)(f:Af F)(h0:F≠pz):pl (Bw F)<=pl F:=Dv.le (D6 z f h0).p.f f h0 (K8 z f h0)
noncomputable def hfp(R:Rat->Rat->Int)(c:Rat×Rat):Rat×Rat:=if R c.1 ((c.1+c.2) / 2)=1 then(c.1,(c.1+c.2) / 2)else((c.1+c.2) / 2,c.2)
noncomputable def Fz(R:Rat->Rat->Int)(p q:Rat):Nat->Rat×Rat
 | 0=>(p,q)
 | k+1=>hfp R (Fz R p q k)
theorem GH(R:Rat->Rat->Int)(p q:Rat):∀ k,Node p q k (Fz R p q k).1 (Fz R p q k).2
 | 0=>Node.root p q
 | k+1=>by
  have h:=(GH R p q k).half;show Node p q (k+1) (hfp R (Fz R p q k)).1 (hfp R (Fz R p q k)).2;unfold hfp
  split
  ·exact h.1
  ·exact h.2
theorem aM{F:Nat->Rat}(h:SF F){c:Rat×Rat}(hc:c.1 < c.2)(h1:rc F c.1 c.2=1):rc F (hfp (rc F) c).1 (hfp (rc F) c).2=1:=by
 have a:=Qg F c.1 ((c.1+c.2) / 2) c.2;have b1:=h.nonneg (p:=c.1) (q:=(c.1+c.2) / 2) Ah;have b2:=h.nonneg (p:=(c.1+c.2) / 2) (q:=c.2) Ah;unfold hfp
 split
 ·assumption
 ·show rc F ((c.1+c.2) / 2) c.2=1
  omega
theorem Qk{F:Nat->Rat}(h:SF F){p q:Rat}(hpq:p < q)(h1:rc F p q=1):∀ k,rc F (Fz (rc F) p q k).1 (Fz (rc F) p q k).2=1
 | 0=>h1
 | k+1=>aM h ((GH (rc F) p q k).within hpq).2.1 (Qk h hpq h1 k)
theorem VR{p q:Rat}{E b k:Nat}(hpq:p < q)(hp:ab p<=2^b - 1)(hq:ab q<=2^b - 1){x y:Rat}(hn:Node p q k x y)(hk:E+b+1<=k):ab x<=2^b - 1/\ab y<=2^b - 1/\x < y/\(y - x)*2^E<=1:=by
 obtain⟨w1,w2,w3⟩:=hn.within hpq;obtain⟨p1,p2⟩:=F7.1 hp;obtain⟨q1,q2⟩:=F7.1 hq;refine⟨F7.2 ⟨Ah,Ah⟩,F7.2 ⟨Ah,Ah⟩,w2,?_⟩;have hw:=hn.width;obtain⟨r,rfl⟩:∃ r,k=E+(b+1)+r:=⟨k - (E+(b+1)),Aa⟩
 rw[Dt,Dt,Rat.pow_succ]at hw;have h1:=MP r;have h2:=Ca b;have h3:=Ca E;have hd:0 < (y - x)*2^E:=Rat.mul_pos Ah h3;have e1:(y - x)*2^E*(2^b*2)*2^r<=1*(2^b*2):=by
  have:(y - x)*2^E*(2^b*2)*2^r=q - p:=by rw[<-hw];grind
  rw[this];grind
 have hd2:0<=(y - x)*2^E*(2^b*2):=Rat.mul_nonneg (Std.le_of_lt hd) Ah;have e2:(y - x)*2^E*(2^b*2)<=(y - x)*2^E*(2^b*2)*2^r:=by
  have:=Rat.mul_le_mul_of_nonneg_left h1 hd2;rw[Rat.mul_one]at this;exact this
 exact Rat.le_of_mul_le_mul_right (Std.le_trans e2 e1) Ah
structure Vo(F:Nat->Rat):Prop where
 z:ZI F
 f:Af F
 n0:F≠pz
 d:∀ E,SF E->Dv E F->∀ i,qsz (E i)<=5
theorem WJ{D:Nat}(hD:D<=13):O6 5 D 400<=1000000000:=by
 have hp:2^D<=8192:=Nat.le_trans (Nat.pow_le_pow_right Ab hD) Ab;have h1:(5+1)*2^D<=6*8192:=Nat.mul_le_mul Aa hp;have h2:(D+1)*((5+1)*2^D+1)<=14*49153:=Nat.mul_le_mul Aa Aa;have h5:IQ 5 D 400<=75509000:=by unfold IQ;omega
 have h6:D*IQ 5 D 400<=13*75509000:=Nat.mul_le_mul hD h5;unfold O6 PH WM;omega
theorem Vo.apart{F G:Nat->Rat}(hF:Vo F)(hG:Vo G)(hD:pl F+pl G<=13){x y:Rat}(hx:ab x<=2^400 - 1)(hy:ab y<=2^400 - 1)(hxy:x < y)(hd:(y - x)*2^1000000000<=1)(h1:rc (Bw F) x y=1)(h0:rc (Bw (Eg F G)) x y=0):rc (Bw G) x y=0:=by
 have sF:=D6 hF.z hF.f hF.n0;have sG:=D6 hG.z hG.f hG.n0;rw[aN hF.z hF.f hF.n0 hG.z hG.f hG.n0]at h0;obtain⟨U,V,sC,sU,sV,eW,eX,-,-,-,cUX,a1,a2⟩:=sF.meet sG;have b1:=a1 x y (Std.le_of_lt hxy);have dU:Dv U F:=Dv.trans ⟨Eg (Bw F) (Bw G),sC.p.f,eW⟩ (K8 hF.z hF.f hF.n0);have dG:=K8 hG.z hG.f hG.n0;have pU:=Dv.le sU.p.f hF.f hF.n0 dU;have pG:=Dv.le sG.p.f hG.f hG.n0 dG;have hs:=WJ (D:=pl U+pl (Bw G)) Aa
 have h2:=CK (M0 hs) (show 0<=y - x by grind);rcases Dx.sep sU sG cUX (hF.d U sU dU) (hG.d _ sG dG) rfl hx hy hxy (Std.le_trans h2 hd)with e | e
 ·omega
 ·exact e
theorem Vo.stop{F G:Nat->Rat}(hF:Vo F)(hG:Vo G)(hD:pl F+pl G<=13){p q:Rat}(hpq:p < q)(hp:ab p<=2^400 - 1)(hq:ab q<=2^400 - 1)(h1:rc (Bw F) p q=1)(h0:rc (Bw (Eg F G)) p q=0) :
  ∃ K,K<=1000001000/\rc (Bw G) (Fz (rc (Bw F)) p q K).1 (Fz (rc (Bw F)) p q K).2=0/\∀ j,j < K->rc (Bw G) (Fz (rc (Bw F)) p q j).1 (Fz (rc (Bw F)) p q j).2≠0:=by
 have hx:∃ K,K<=1000001000/\rc (Bw G) (Fz (rc (Bw F)) p q K).1 (Fz (rc (Bw F)) p q K).2=0:=by
  obtain⟨M,hM⟩:∃ M,M=1000001000:=⟨_,rfl⟩
  refine⟨M,Aa,?_⟩;have hn:=GH (rc (Bw F)) p q M;obtain⟨E,hE⟩:∃ E,E=1000000000:=⟨_,rfl⟩
  obtain⟨t1,t2,t3,t4⟩:=VR (E:=E) hpq hp hq hn Aa;rw[hE]at t4;have o:=Qk (D6 hF.z hF.f hF.n0) hpq h1 M;obtain⟨w1,w2,w3⟩:=hn.within hpq;have kC:=IA hF.f hG.f hF.z hG.z;have sC:=D6 kC.2.1 kC.1 (TE hF.z hF.f hG.z hG.f hF.n0);have c1:=sC.sub w1 (Std.le_of_lt w2) w3;have c2:=sC.nonneg (Std.le_of_lt w2);exact hF.apart hG hD t1 t2 t3 t4 o Aa
 obtain⟨K,hK,e⟩:=hx;induction K using Nat.strongRecOn with
 | _ K ih =>
  by_cases hj:∃ j,j < K/\rc (Bw G) (Fz (rc (Bw F)) p q j).1 (Fz (rc (Bw F)) p q j).2=0
  ·obtain⟨j,h1,h2⟩:=hj
   exact ih j h1 Aa h2
  ·exact⟨K,hK,e,fun j hj' he=>hj ⟨j,hj',he⟩⟩
theorem Nk.upd{base:Nat}{G:List Nat}{t:TypeId}{w w':World}{v:Value}{W:Nat->Rat}(h:Nk base t w v W)(U:Ch G w w')(hG:∀ g∈G,g < base):Nk base t w' v W:=by
 obtain⟨c,us,K,h1,h2,h3,h4⟩:=h;refine⟨c,us,K,h1,h2,h3,?_⟩;have hb:=BA.blk_ge h4.out;have hne:∀ g'∈blk c,g'∉G:=fun g' hg' hm=>by
  have:=hb g' hg';have:=hG g' hm;omega
 refine⟨BA.upd h4.out U hne fun _ _ q=>q,h4.len,fun g' hg' i c hc=>?_,fun i a b=>(h4.el i a b).upd U hG⟩;obtain⟨o,ho⟩:∃ o,w.heap[g']? = some o:=⟨_,Array.getElem?_eq_getElem (hb g' hg').2⟩
 have hk:=U.1 g' o (hne g' hg') ho;rw[World.cell?_of_block (hk.trans ho.symm)]at hc;exact h4.nb g' hg' i c hc
def Xt(w:World)(g:Nat)(t:TypeId)(p q:Rat):Prop:=∃ b1 A1 n1 c1 b2 A2 n2 c2 b3 A3 n3 c3 b4 A4 n4 c4,Bg w g t #[.bool b1,.slice A1 n1 c1,.bool b2,.slice A2 n2 c2,.bool b3,.slice A3 n3 c3,.bool b4,.slice A4 n4 c4]/\BF w (.agg #[.bool b1,.slice A1 n1 c1,.bool b2,.slice A2 n2 c2]) p/\BF w (.agg #[.bool b3,.slice A3 n3 c3,.bool b4,.slice A4 n4 c4]) q
theorem UR{R:Rat->Rat->Int}{p q:Rat}{t:Nat}(hp:qsz p<=t)(hq:qsz q<=t)(k:Nat):qsz (Fz R p q k).1<=3*t+k+4/\qsz (Fz R p q k).2<=3*t+k+4/\qsz (((Fz R p q k).1+(Fz R p q k).2) / 2)<=3*t+k+5:=by
 have h:=(GH R p q k).qsz hp hq;have h2:=(GH R p q k).half.1.qsz hp hq;exact⟨h.1,h.2,Aa⟩
def UG(F:Nat->Rat)(p q:Rat)(n:Int)(r:Value)(w:World):Prop:=∃ z E,r = .tuple #[z,.int .i64 E]/\(E=0->Es w z (Fz (rc (Bw F)) p q n.toNat).1 (Fz (rc (Bw F)) p q n.toNat).2) /\
 (E≠0->z = .agg #[.bool false,.slice none 0 0,.bool false,.slice none 0 0,.bool false,.slice none 0 0,.bool false,.slice none 0 0])/\E=if Dn F≠0 then Dn F else if n < 0\/1000 < n then 2 else if p < q/\rc (Bw F) p q=1 then 0 else 12
theorem Es.one{w:World}{cs:Array Value}{p q:Rat}(h:Es w (.agg cs) p q):∃ b1 A1 n1 c1 b2 A2 n2 c2 b3 A3 n3 c3 b4 A4 n4 c4,cs=#[.bool b1,.slice A1 n1 c1,.bool b2,.slice A2 n2 c2,.bool b3,.slice A3 n3 c3,.bool b4,.slice A4 n4 c4]:=by
 obtain⟨b1,A1,n1,c1,b2,A2,n2,c2,b3,A3,n3,c3,b4,A4,n4,c4,h1⟩:=h.cells;injection h1 with h1;exact⟨_,_,_,_,_,_,_,_,_,_,_,_,_,_,_,_,h1⟩
theorem Cv.at_{base n c:Nat}{e:TypeId}{w:World}{A:Option Addr}{l:List (Rat×Rat)}(h:Cv base e w (.slice A n c) l){j:Nat}(hj:j < l.length) :
  ∃ g o b1 A1 n1 c1 b2 A2 n2 c2 b3 A3 n3 c3 b4 A4 n4 c4,A=some ⟨g,o,none⟩/\w.cell? ⟨g,o+j*8,none⟩=some (.bool b1)/\w.cell? ⟨g,o+j*8+1,none⟩=some (.slice A1 n1 c1)/\w.cell? ⟨g,o+j*8+2,none⟩=some (.bool b2)/\w.cell? ⟨g,o+j*8+3,none⟩=some (.slice A2 n2 c2) /\
   w.cell? ⟨g,o+j*8+4,none⟩=some (.bool b3)/\w.cell? ⟨g,o+j*8+5,none⟩=some (.slice A3 n3 c3)/\w.cell? ⟨g,o+j*8+6,none⟩=some (.bool b4)/\w.cell? ⟨g,o+j*8+7,none⟩=some (.slice A4 n4 c4) /\
   Es w (.agg #[.bool b1,.slice A1 n1 c1,.bool b2,.slice A2 n2 c2,.bool b3,.slice A3 n3 c3,.bool b4,.slice A4 n4 c4]) l[j].1 l[j].2:=by
 obtain⟨A',c',e1,-,-,hA⟩:=BA.row h;have eA:A'=A:=by injection e1 with h1;exact h1.symm
 subst eA;obtain⟨g,o,ha,hb,hc⟩:=hA Aa;obtain⟨cs,q1,q2,q3⟩:=hc j hj;obtain⟨b1,A1,n1,c1,b2,A2,n2,c2,b3,A3,n3,c3,b4,A4,n4,c4,rfl⟩:=Es.one q3;refine⟨g,o,b1,A1,n1,c1,b2,A2,n2,c2,b3,A3,n3,c3,b4,A4,n4,c4,ha,?_,?_,?_,?_,?_,?_,?_,?_,q3⟩
 ·exact q2 0 Ab
 ·exact q2 1 Ab
 ·exact q2 2 Ab
 ·exact q2 3 Ab
 ·exact q2 4 Ab
 ·exact q2 5 Ab
 ·exact q2 6 Ab
 ·exact q2 7 Ab
def N9(w:World)(g:Nat)(vs:List (Value×List Int)):Prop:=∀ j (h:j < vs.length),w.cell? ⟨g,j,none⟩=some vs[j].1/\Dq 0 w vs[j].1 vs[j].2
theorem N9.ext{w w':World}{g:Nat}{vs:List (Value×List Int)}(h:N9 w g vs)(e:Ext w w'):N9 w' g vs:=fun j hj=>⟨e.cell (h j hj).1,(h j hj).2.ext e⟩
def PL(m:List Int):Prop:=m.length<=12/\pl (cz m)<=7/\∀ i,(cz m i).num.natAbs<=4095
def dB(vs:List (Value×List Int))(r:Value):Prop:=∃ b:Bool,r = .bool b/\(b=true->∀ p∈vs,PL p.2)
theorem PL.lite{m:List Int}(h:PL m)(h0:cz m≠pz):Dk (cz m):=⟨ZI.cz m,Af.cz m,h0,h.2.1,h.2.2⟩
theorem Tk(w:World)(t:TypeId){v:Value}{l:List Int}(h:Dq 0 w v l){g:Nat}(hg:g=w.heap.size):N9 (w.alloc (.cells #[v] t)) g [(v,l)]:=by
 subst hg;intro j hj;obtain rfl:j=0:=by simpa using hj
 exact⟨by rw[cell_of_row _ w.heap.size 0 _ t (0,0) (heap_alloc_new w _)];rfl,h.ext ((Ext.refl w).alloc _)⟩
def Tp(l:List K5):Prop:=l.length<=1048576/\∀ x∈l,x.2.length<=1048576
theorem Dk.chnF{F:Nat->Rat}(h:Dk F):KR F 1 (pl F+pl (pd F)) 16384:=by
 have h3:=LU h.f;have h4:=Bb h.f h.n0;have hD:pl F+pl (pd F)<=13:=by have:=h.p;omega
 have hp:2^(pl F+pl (pd F))<=2^13:=Nat.pow_le_pow_right Ab hD;have hm:(pl F+pl (pd F)+1)*(16384+1)<=14*16385:=Nat.mul_le_mul_right _ Aa;exact⟨h.z,h.f,h.q,fun i=>DI (Ex h.z) Ab (Nat.lt_of_le_of_lt (O0 h.z h.f (n:=6) (by have:=h.p;omega) h.b i) Ab),rfl,Aa,Aa,Aa⟩
theorem Dk.k{F:Nat->Rat}(h:Dk F):Mt F (pd F) (kn F)/\kn F<=8:=by
 obtain⟨K,q1,q2⟩:=G9 h.f (C9 h.f) h.z (Ex h.z) h.chnF.s h.chnF.d;rw[q1.kn];have h3:=LU h.f;have:=h.p;exact⟨q1,Aa⟩
theorem Dk.rc_bd{F:Nat->Rat}(h:Dk F)(p q:Rat):rc (Bw F) p q<=1000:=by
 have hk:=(D6 h.z h.f h.n0).st.k;have hC:=h.chn.1;have hC2:=h.chn.2;rw[<-Jb hk];unfold rts;have h3:=WH (EN (Bw F) (pd (Bw F)) (kn (Bw F))) p;rw[CP]at h3;obtain⟨K0,q1,q2⟩:=G9 hC.f (C9 hC.f) hC.z (Ex hC.z) hC.s hC.d;rw[q1.uniq hk]at q2;omega
theorem Dk.rc_pos{F:Nat->Rat}(h:Dk F){p q:Rat}(hpq:p<=q):0<=rc (Bw F) p q:=(D6 h.z h.f h.n0).nonneg hpq
theorem Dk.rcr{l:List Int}(h:Dk (cz l))(hl:l.length<=12):kM l (Bw (cz l)) 1 7 16384 36000 300000 3 (pl (Bw (cz l))+pl (pd (Bw (cz l)))) 32768 (kn (Bw (cz l))):=
 ⟨Aa,h.sim,Aa,Aa,Aa,Aa,rfl,h.chn.1,(D6 h.z h.f h.n0).st.k⟩
def iR(w:World)(g:Nat)(t:TypeId)(p q:Rat):Prop:=∃ b1 A1 n1 c1 b2 A2 n2 c2 b3 A3 n3 c3 b4 A4 n4 c4,Bg w g t #[.bool b1,.slice A1 n1 c1,.bool b2,.slice A2 n2 c2,.bool b3,.slice A3 n3 c3,.bool b4,.slice A4 n4 c4]/\Br w (.agg #[.bool b1,.slice A1 n1 c1,.bool b2,.slice A2 n2 c2]) p/\Br w (.agg #[.bool b3,.slice A3 n3 c3,.bool b4,.slice A4 n4 c4]) q
theorem YK{F:Nat->Rat}(h:SF F){P:Rat×Rat}(hP:P.1 < P.2)(h1:rc F P.1 P.2=1):rc F P.1 ((P.1+P.2) / 2)=0\/rc F P.1 ((P.1+P.2) / 2)=1:=by
 have a:=Qg F P.1 ((P.1+P.2) / 2) P.2;have b1:=h.nonneg (p:=P.1) (q:=(P.1+P.2) / 2) Ah;have b2:=h.nonneg (p:=(P.1+P.2) / 2) (q:=P.2) Ah;omega
theorem Bp.inj{w:World}{v:Value}{x y:Int}(h:Bp w v x)(k:Bp w v y):x=y:=by
 obtain⟨n,ds,⟨s,rfl,hd⟩,rfl,-⟩:=h;obtain⟨m,es,⟨t,e,he⟩,rfl,-⟩:=k;cases e;rw[hd.uniq he]
theorem BF.inj{w:World}{v:Value}{p q:Rat}(h:BF w v p)(k:BF w v q):p=q:=by
 obtain⟨b,A,n,c,b',A',n',c',x,y,rfl,h1,h2,-,-,rfl⟩:=h;obtain⟨d,B,m,e,d',B',m',e',x',y',k0,k1,k2,-,-,rfl⟩:=k;cases k0;rw[h1.inj k1,h2.inj k2]
theorem Xt.inj{w:World}{g:Nat}{t:TypeId}{p q p' q':Rat}(h:Xt w g t p q)(k:Xt w g t p' q'):p=p'/\q=q':=by
 obtain⟨b1,A1,n1,c1,b2,A2,n2,c2,b3,A3,n3,c3,b4,A4,n4,c4,h1,h2,h3⟩:=h;obtain⟨d1,B1,m1,e1,d2,B2,m2,e2,d3,B3,m3,e3,d4,B4,m4,e4,k1,k2,k3⟩:=k;have e:=h1.1.symm.trans k1.1;cases e;exact⟨h2.inj k2,h3.inj k3⟩
def WS(F G:Nat->Rat)(p q:Rat)(s:Int):Prop:=(G=pz/\s=0)\/(G≠pz/\rc (Bw (Eg F G)) p q=1/\s=0) \/
 (G≠pz/\rc (Bw (Eg F G)) p q≠1/\∃ K,rc (Bw G) (Fz (rc (Bw F)) p q K).1 (Fz (rc (Bw F)) p q K).2=0/\(∀ j,j < K->rc (Bw G) (Fz (rc (Bw F)) p q j).1 (Fz (rc (Bw F)) p q j).2≠0)/\s=IU (ev G (Fz (rc (Bw F)) p q K).2))
theorem WS.uniq{F G:Nat->Rat}{p q:Rat}{s s':Int}(h:WS F G p q s)(k:WS F G p q s'):s=s':=by
 rcases h with⟨a,b⟩ | ⟨a,b,c⟩ | ⟨a,b,K,c,d,e⟩<;>rcases k with⟨a',b'⟩ | ⟨a',b',c'⟩ | ⟨a',b',K',c',d',e'⟩
 ·rw[b,b']
 ·exact absurd a a'
 ·exact absurd a a'
 ·exact absurd a' a
 ·rw[c,c']
 ·exact absurd b b'
 ·exact absurd a' a
 ·exact absurd b' b
 ·rcases Nat.lt_trichotomy K K' with z | z | z
  ·exact absurd c (d' K z)
  ·subst z;rw[e,e']
  ·exact absurd c' (d K' z)
def Rm(F:Nat->Rat):Prop:=∃ D M,Pg F D M/\D<=20
structure kU(w:World)(v:Value)(P:Rat×Rat):Prop where
 out:KU w v P.1 P.2
theorem kU.ext{w w':World}{v:Value}{P:Rat×Rat}(h:kU w v P)(e:Ext w w'):kU w' v P:=⟨h.out.ext e⟩
end Go.Hp
namespace Go.Proofs.YtmhgnigpmompmaaGreat
open Go.RowKit Go.Hp
set_option maxRecDepth 20000 in
theorem aB(v u:Value)(l m:List Int)(s t M:Nat)(w:World)(hv:Dq 0 w v l)(hu:Dq 0 w u m)(hs:∀ i,qsz (cz l i)<=s)(ht:∀ i,qsz (cz m i)<=t)(hn:l.length<=1000000)(hm:m.length<=1000000)(h0:cz m≠pz)(hM:s+(l.length+2)*(t+1)+t+1<=M)(hst:2+(l.length+m.length+4)*(2*M+4)<=274877906944) :
  Be 141 #[v,u] w ((bS (Gj (cz l) (cz m) (pl (cz l)+1 - pl (cz m))) (Dc (cz l) (cz m) (pl (cz l)+1 - pl (cz m))))):=by
 have HV:=Ad hv;have HU:=Ad hu;obtain⟨A0,c0,rfl⟩:=hv.len;obtain⟨A1,c1,rfl⟩:=hu.len;clear hv hu;have hN1:=fun W (x:Ext w W)=>CV _ l W (HV.out.ext x) Aa;have hD:=fun W (x:Ext w W)=>FC _ m W (HU.out.ext x) Aa;have hLd:=fun W (x:Ext w W)=>Kz _ m W (HU.out.ext x) Aa;have hc1:=Bl (BJ l);have hc2:=Bl (BJ m);have hfF:=Af.cz l;have hzF:=ZI.cz l;have hfG:=Af.cz m;have hzG:=ZI.cz m;have hL:=Bb hfG h0;have hMb:4*M+12<=274877906944:=by
  have:4*(2*M+4)<=(l.length+m.length+4)*(2*M+4):=Nat.mul_le_mul_right _ Aa;omega
 have hMul:=fun(k:Nat) (z:Int) (W:World) (x:Ext w W) (v:Value) (hv:AC 0 W v (mono k (z:Rat))) (hk:k<=l.length) (hz:qsz (z:Rat)<=M)=>show Be 23 #[v,.slice A1 m.length c1] W (fun r w'=>AC 0 w' r (cv (mono k (z:Rat)) (cz m)))from by
  have hq:∀ i,qsz (mono k (z:Rat) i)<=M:=fun i=>by
   unfold mono;split
   ·exact hz
   ·have:qsz (0:Rat)=1:=by decide
    have:=Cf (z:Rat);omega
  have hp:=Bl (CY k (z:Rat));obtain⟨l2,g1,g2,-,g4⟩:=hv.hz (fun i=>by have:=hq i;omega);rw[<-g4];refine Ag.imp (Uf _ _ l2 m M t W g1 (HU.out.ext x) (by rw[g4];exact hq) ht ?_ Aa Aa) fun _ _ h=>h.base_le (Nat.zero_le _);have h1:(l2.length+m.length)*(M+t+1)<=(l.length+m.length+4)*(2*M+4):=Nat.mul_le_mul Aa Aa;omega
 obtain⟨F,hF⟩:∃ F,F=cz l:=⟨_,rfl⟩
 obtain⟨G,hG⟩:∃ G,G=cz m:=⟨_,rfl⟩
 rw[<-hF]at hs hc1 hfF hzF;rw[<-hG]at hc2 hfG hzG hL ht h0;simp only[<-hF]at hN1;simp only[<-hG]at hD hLd hMul;rw[<-hF,<-hG];obtain⟨n,hnn⟩:∃ n,n=pl F+1 - pl G:=⟨_,rfl⟩
 rw[<-hnn];have hnl:n<=l.length+1:=by omega
 have hbig:∀ k,k<=n->∀ q,q<=s+k*(t+1)->q+1<=M/\q+t+1<=M:=fun k hk q hq=>by
  have:k*(t+1)<=(l.length+2)*(t+1):=Nat.mul_le_mul_right _ Aa;omega
 have htM:t+1<=M:=by omega
 have hst0:O3 F G n s t 0 pz F:=O3.start hfF hzF hs;have hlr:∀ j,j<=n->2+(j+1)*t<=549755813888/\1+j*t<=M:=fun j hj=>by
  have h1:(j+1)*t<=(l.length+2)*(t+1):=Nat.mul_le_mul Aa Aa;have h2:j*t<=(l.length+2)*(t+1):=Nat.mul_le_mul Aa Aa;omega
 have HX:=Ad (Ai hfF (Ai hzF (Ai hfG (Ai hzG (Ai h0 (Ai ht (Ai hbig (Ai hMb (Ai htM hlr)))))))));have HC:=Ad (Ai hD (Ai hLd hMul));have HN:=Ad (Ai hN1 (Ai hst0 hnn));have HLG:=Ad (show sz (ld G).num.natAbs<=1099511627776/\qsz (((ld G).num:Int):Rat)<=M/\(((ld G).num:Int):Rat)=ld G/\sz (ld G).num.natAbs<=t from by
  have e:(((ld G).num:Int):Rat)=ld G:=(hzG.num _).symm;have h1:qsz (ld G)<=t:=ht _;have h2:=EW h1;exact⟨Aa,by rw[e];omega,e,h2⟩)
 have hmax:max 0 ((pl F:Int) - 1 - ((pl G:Int) - 1)+1)=(n:Nat):=by omega
 clear hs ht hfF hzF hfG hzG h0 hF hG hD hLd hMul hN1 hst hM hbig hst0 hMb htM hlr HV HU hnn
 go_enter Tryz.func141,Tryz.ntmps141
 go_wp2_with fail
 refine AB (HN.out.1 _ ((Ext.refl w).alloc _)) ?_;rintro r1 w1 hr1 hx;obtain⟨A2,c2,rfl,-⟩:=hr1.shape;have H1:=Ad (hr1.base_le (b:=0) (Nat.zero_le _));clear hr1;replace hx:=hx.a1
 go_wp2_with fail
 refine AB (HC.out.1 w1 hx) ?_;rintro r2 w2 rfl hx2;have h1:=H1.out.ext hx2;replace hx:=hx.trans hx2;have H2:=Ad h1;clear hx2 H1 h1
 go_wp2_with fail
 refine AB (HC.out.2.1 w2 hx) ?_;rintro r3 w3 hr3 hx3;obtain⟨b5,A5,n5,c5,rfl⟩:=hr3.cells;obtain⟨W4,eW,eb,x4⟩:=Bg.made w3 26 #[.bool b5,.slice A5 n5 c5] (by simp[Ae]);have hl4:=hr3.kd x4.kd;have h2:=H2.out.ext (hx3.trans x4);replace hx:=hx.trans (hx3.trans x4);have HL:=Ad hl4;have H3:=Ad h2;clear hr3 hl4 h2 hx3 x4 H2;go_wp2;rw[<-eW];clear eW;generalize w3.heap.size=gl at *
 go_loopw [6,7,10] (fun qv rv kv wr=>∃ (j:Nat) (Q R:Nat->Rat),kv = .int .i64 ((n:Int) - j)/\j<=n/\O3 F G n s t j Q R/\AC 0 wr rv R/\AC 0 wr qv Q/\Bj wr gl 26 (ld G).num/\Ext w wr) (fun _ rv _ _=>Oc rv)
 case atStart=>exact⟨0,pz,F,Ac,Nat.zero_le _,HN.out.2.1,H3.out,AC.empty 0 _ _ _ Aa,Bj.mk eb HL.out,hx⟩
 case round =>
  clear hx eb HL H3 hmax;obtain⟨j,Q,R,rfl,hj,hst,hR,hQ,⟨b6,A6,n6,c6,eb,hl⟩,hx⟩:=hrel;obtain⟨AR,cR,lr,rfl,j1,j2,hA,j3,j4,j5⟩:=hR.form;obtain⟨AQ,cQ,rfl,-⟩:=hQ.shape;have HS:=Ad (Ai hst (Ai hA (Ai j3 (Ai j5 (Ai hR (Ai hQ hl))))));clear hst hA j3 j4 j5 hR hQ hl;by_cases hle:pl G<=pl R
  ·obtain⟨k,hk⟩:∃ k,k=pl R - pl G:=⟨_,rfl⟩
   have hlt:pl R - 1 < lr.length:=by have:=HS.out.2.2.1;omega
   obtain⟨g,o,b,B1,n1,d1,rfl,-,q0,q1,hq⟩:=HS.out.2.1.at_ (j:=pl R - 1) hlt;have hval:=Uq HS.out.2.2.2.1 (i:=pl R - 1) hlt;rw[hval]at hq;obtain⟨z,hzz⟩:∃ z,z=(R (pl R - 1)).num:=⟨_,rfl⟩
   rw[<-hzz]at hq;have hind:((pl R:Int) - 1).toNat=pl R - 1:=by omega
   have hkk:(pl R:Int) - 1 - ((pl G:Int) - 1)=(k:Nat):=by omega
   have hjn:j < n:=by have:=HS.out.1.deg;have:=HN.out.2.2;omega
   have hzc:(z:Rat)=R (pl R - 1):=by rw[hzz];exact(HS.out.1.zR.num _).symm
   have hst2:=HS.out.1.step HN.out.2.2 HX.out.2.2.1 HX.out.2.2.2.2.1 HX.out.2.2.2.1 HX.out.2.2.2.2.2.1 hle hk hzc;have HZ:=Ad (show O3 F G n s t (j+1) (pad (psc (ld G) Q) (mono k (z:Rat))) (psb (psc (ld G) R) (cv (mono k (z:Rat)) G))/\pl (psb (psc (ld G) R) (cv (mono k (z:Rat)) G)) < pl R/\z≠0/\qsz (z:Rat)+1<=M/\(∀ i,qsz (cv (mono k (z:Rat)) G i)<=2*M)/\(∀ i,qsz (mono k (z:Rat) i)<=M)/\(∀ i,qsz (psc (ld G) Q i)<=2*M)/\(∀ i,qsz (psc (ld G) R i)<=2*M)/\(∀ i,qsz (Q i)<=M)/\(∀ i,qsz (R i)<=M)/\pl (cv (mono k (z:Rat)) G)<=549755813888/\pl (mono k (z:Rat))<=549755813888/\pl Q<=549755813888/\pl (psc (ld G) Q)<=549755813888/\pl (psc (ld G) R)<=549755813888/\pl R<=549755813888/\k<=l.length from by
    have o1:qsz (0:Rat)=1:=by decide
    have o2:=Cf (z:Rat);have hpG:=Bb HX.out.2.2.1 HX.out.2.2.2.2.1;have hdeg:=HS.out.1.deg;have hQs:∀ i,qsz (Q i)<=M:=fun i=>by have:=HX.out.2.2.2.2.2.2.1 _ hj _ (HS.out.1.qQ i);omega
    have hRs:∀ i,qsz (R i)<=M:=fun i=>by have:=HX.out.2.2.2.2.2.2.1 _ hj _ (HS.out.1.qR i);omega
    have hzq:qsz (z:Rat)+1<=M:=by rw[hzc];have:=HX.out.2.2.2.2.2.2.1 _ hj _ (HS.out.1.qR (pl R - 1));omega
    have hlG:qsz (ld G)<=M:=by have h1:qsz (ld G)<=t:=HX.out.2.2.2.2.2.1 _;have:=HX.out.2.2.2.2.2.2.2.2.1;omega
    have hQp:=Bl HS.out.1.fQ;refine⟨hst2.1,hst2.2,fun e=>?_,hzq,fun i=>?_,fun i=>?_,fun i=>?_,fun i=>?_,hQs,hRs,?_,?_,?_,?_,?_,?_,?_⟩
    ·have h1:R (pl R - 1)≠0:=Eo HS.out.1.fR Aa
     apply h1;rw[<-hzc,e];rfl
    ·rw[F6]
     show qsz ((z:Rat)*sh k G i)<=_;have a1:=BQ (z:Rat) (sh k G i);have a2:qsz (sh k G i)<=M:=by
      unfold sh;split
      ·omega
      ·have:=HX.out.2.2.2.2.2.1 (i - k);have:=HX.out.2.2.2.2.2.2.2.2.1;omega
     omega
    ·unfold mono;split<;>omega
    ·have a1:=BQ (ld G) (Q i);have a2:=hQs i;show qsz (ld G*Q i)<=_;omega
    ·have a1:=BQ (ld G) (R i);have a2:=hRs i;show qsz (ld G*R i)<=_;omega
    ·have:=Bl ((CY k (z:Rat)).cv (AO HX.out.2.2.1));omega
    ·have:=Bl (CY k (z:Rat));omega
    ·omega
    ·have:=Bl (HS.out.1.fQ.psc (ld G));omega
    ·have:=Bl ((AO HS.out.1.fR).psc (ld G));omega
    ·omega
    ·omega)
   have Hq:=Ad (Ai hq (Ai hk hzc));clear hq hk hzc hval hst2 hzz;have xw:=Ext.refl wr
   go_wp2_with fail
   have hzrow:Dq 0 (wr.alloc (.cells #[.bool b,.slice B1 n1 d1] 26)) (.slice (some ⟨wr.heap.size,0,none⟩) 1 1) [z]:=
    LQ.has (CE.row (Ez.own (Ez.mk Hq.out.1 (base:=0) (Nat.zero_le _) 26))) (fun x hx=>by
     simp at hx;subst hx;have h1:sz x.natAbs<=qsz (x:Rat):=by rw[Bh];omega
     have h2:=HX.out.2.2.2.2.2.2.2.1;have h3:=HZ.out.2.2.2.1;omega)
   have HR:=Ad hzrow;clear hzrow;refine AB (Ot _ z k _ HR.out HZ.out.2.2.1 (by have:=HZ.out.2.2.2.2.2.2.2.2.2.2.2.2.2.2.2.2;omega)) ?_;rintro r6 w6 hr6 hx6;replace xw:=(xw.alloc _).trans hx6;replace hx:=(hx.alloc _).trans hx6;replace eb:=(eb.alloc _).ext hx6;have H6:=Ad hr6;have hl6:=HS.out.2.2.2.2.2.2.kd xw.kd;have HL6:=Ad hl6;clear hr6 hx6 HR hkk hind q0 q1 hl6;have ceb:=eb.cells2;have feb:=eb.frozen
   go_wp2_with fail
   refine AB (LH _ _ Q (ld G).num M _ (HS.out.2.2.2.2.2.1.ext xw) (HL6.out.has HLG.out.1) HZ.out.2.2.2.2.2.2.2.2.1 (by have:=HLG.out.2.1;have:=HX.out.2.2.2.2.2.2.2.1;omega) HZ.out.2.2.2.2.2.2.2.2.2.2.2.2.1) ?_;rintro r7 w7 hr7 hx7;rw[HLG.out.2.2.1]at hr7;have h6:=H6.out.ext hx7;replace xw:=xw.trans hx7;replace hx:=hx.trans hx7;have H7:=Ad (Ai hr7 h6);have HL7:=Ad (HL6.out.kd hx7.kd);replace eb:=eb.ext hx7
   clear hr7 h6 hx7 H6 HL6 ceb feb
   go_wp2_with fail
   refine AB (kF _ _ (psc (ld G) Q) (mono k (z:Rat)) (2*M) M _ H7.out.1 H7.out.2 HZ.out.2.2.2.2.2.2.1 HZ.out.2.2.2.2.2.1 (by have:=HX.out.2.2.2.2.2.2.2.1;omega) HZ.out.2.2.2.2.2.2.2.2.2.2.2.2.2.1 HZ.out.2.2.2.2.2.2.2.2.2.2.2.1) ?_;rintro r8 w8 hr8 hx8;obtain⟨A8,c8,rfl,-⟩:=hr8.shape;have h7:=H7.out.2.ext hx8;replace xw:=xw.trans hx8;replace hx:=hx.trans hx8;have H8:=Ad (Ai hr8 h7);have HL8:=Ad (HL7.out.kd hx8.kd)
   replace eb:=eb.ext hx8;clear hr8 h7 hx8 H7 HL7;have ceb:=eb.cells2;have feb:=eb.frozen
   go_wp2_with fail
   refine AB (LH _ _ R (ld G).num M _ (HS.out.2.2.2.2.1.ext xw) (HL8.out.has HLG.out.1) HZ.out.2.2.2.2.2.2.2.2.2.1 (by have:=HLG.out.2.1;have:=HX.out.2.2.2.2.2.2.2.1;omega) HZ.out.2.2.2.2.2.2.2.2.2.2.2.2.2.2.2.1) ?_;rintro r9 w9 hr9 hx9;rw[HLG.out.2.2.1]at hr9;have h8:=H8.out.1.ext hx9;have h8':=H8.out.2.ext hx9;replace hx:=hx.trans hx9;have H9:=Ad (Ai hr9 (Ai h8 h8'));have HL9:=Ad (HL8.out.kd hx9.kd)
   replace eb:=eb.ext hx9;clear hr9 h8 h8' hx9 H8 HL8 ceb feb
   go_wp2_with fail
   refine AB (HC.out.2.2 k z _ hx _ H9.out.2.2 HZ.out.2.2.2.2.2.2.2.2.2.2.2.2.2.2.2.2 (by have:=HZ.out.2.2.2.1;omega)) ?_;rintro r10 w10 hr10 hx10;have h9:=H9.out.1.ext hx10;have h9':=H9.out.2.1.ext hx10;replace hx:=hx.trans hx10;have H10:=Ad (Ai hr10 (Ai h9 h9'));have HL10:=Ad (HL9.out.kd hx10.kd);replace eb:=eb.ext hx10;clear hr10 h9 h9' hx10 H9 HL9
   go_wp2_with fail
   refine AB (jN _ _ (psc (ld G) R) (cv (mono k (z:Rat)) G) (2*M) (2*M) _ H10.out.2.1 H10.out.1 HZ.out.2.2.2.2.2.2.2.1 HZ.out.2.2.2.2.1 (by have:=HX.out.2.2.2.2.2.2.2.1;omega) HZ.out.2.2.2.2.2.2.2.2.2.2.2.2.2.2.1 HZ.out.2.2.2.2.2.2.2.2.2.2.1) ?_;rintro r11 w11 hr11 hx11;obtain⟨A11,c11,rfl,-⟩:=hr11.shape;have h10:=H10.out.2.2.ext hx11;replace hx:=hx.trans hx11;have H11:=Ad (Ai hr11 h10);have HL11:=Ad (HL10.out.kd hx11.kd)
   replace eb:=eb.ext hx11;clear hr11 h10 hx11 H10 HL10;go_wp2
   go_roundw
   case rel=>exact⟨j+1,_,_,by go_num,Aa,HZ.out.1,H11.out.1,H11.out.2,Bj.mk eb HL11.out,hx⟩
   case measure=>exact HZ.out.2.1
  ·have hend:=HS.out.1.end_ HN.out.2.2 HX.out.1 HX.out.2.2.1 HX.out.2.2.2.2.1 Aa hj
   have hnj:(n:Int) - j=((n - j:Nat):Int):=by omega
   have hsz:=HX.out.2.2.2.2.2.2.2.2.2 (n - j) Aa;have hpw:=Gh (ld G).num t HLG.out.2.2.2 (n - j);have hQs:∀ i,qsz (Q i)<=M:=fun i=>by have:=HX.out.2.2.2.2.2.2.1 _ hj _ (HS.out.1.qQ i);omega
   have hRs:∀ i,qsz (R i)<=M:=fun i=>by have:=HX.out.2.2.2.2.2.2.1 _ hj _ (HS.out.1.qR i);omega
   have hQp:=Bl HS.out.1.fQ;have hpc:(((ld G).num^(n - j):Int):Rat)=ld G^(n - j):=by rw[<-Jz,HLG.out.2.2.1]
   have hql:qsz (((ld G).num^(n - j):Int):Rat)<=M+1:=by rw[Bh];omega
   have HE:=Ad (Ai hend (Ai hsz (Ai hpw (Ai hQs (Ai hRs (Ai (show pl Q<=549755813888 by omega) (Ai (show pl R<=549755813888 by have:=HS.out.1.deg;omega) (Ai hpc hql))))))));clear hend hsz hpw hQs hRs hQp hpc hql;have hnb:n - j<=1099511627776:=by omega
   have ceb:=eb.cells2;have feb:=eb.frozen
   go_wp2_with fail
   (try rw[hnj])
   refine AB (Ya _ (ld G).num (n - j) t _ (HS.out.2.2.2.2.2.2.has HLG.out.1) HLG.out.2.2.2 HE.out.2.1.1 hnb) ?_;rintro r6 w6 hr6 hx6;obtain⟨b7,A7,n7,c7,rfl⟩:=hr6.cells;obtain⟨W7,eW7,e7,x7⟩:=Bg.made w6 26 #[.bool b7,.slice A7 n7 c7] (by simp[Ae]);have xw:=hx6.trans x7;have hp7:=hr6.kd x7.kd;replace hx:=hx.trans xw;have H7:=Ad hp7;clear hr6 hp7 hx6 x7 ceb feb hnj
   go_upto_region 11 with(fail)
   rw[<-eW7];clear eW7;generalize w6.heap.size=g7 at *;obtain⟨q0,q1⟩:=e7.cells2
   go_wp2_with fail
   obtain⟨Rr,hRr⟩:∃ Rr,Rr=R:=⟨_,rfl⟩
   have HRr:=Ad hRr;clear hRr;refine Cu 8 [62,63,64,65,66,67,4,5] [6,12,7] [_,_,_] [(kv ?_),(kv ?_),(fun γ=>γ 2),(kv ?_),(kv ?_),(fun γ=>γ 5),(fun γ=>γ 2),(fun γ=>γ 5)] (fun γ w'=>[True,True,AC 0 w' (γ 2) (psc (((ld G).num^(n - j):Int):Rat) Q),True,True,AC 0 w' (γ 5) (psc (((ld G).num^(n - j):Int):Rat) Rr),True,True]) ?s1 ?_
   case s1 =>
    iterate 8 refine⟨?_,?_⟩
    trivial
    iterate 2 focus
     refine AX fun _ w' he R hR=>?_;have hc:=he.cells;have cq0:=he.cell q0;have cq1:=he.cell q1;go_simp;exact Bo hR
    ·refine AX fun _ w' he R hR=>?_
     go_simp;exact Ba (LH _ _ Q _ M w' (HS.out.2.2.2.2.2.1.ext (xw.trans he)) ((H7.out.kd he.kd).has (by have:=HE.out.2.2.1;have:=HE.out.2.1.2;have:=HX.out.2.2.2.2.2.2.2.1;omega)) HE.out.2.2.2.1 (by have:=HE.out.2.2.2.2.2.2.2.2;have:=HX.out.2.2.2.2.2.2.2.1;omega) HE.out.2.2.2.2.2.1) hR
    iterate 2 focus
     refine AX fun _ w' he R hR=>?_;have hc:=he.cells;have cq0:=he.cell q0;have cq1:=he.cell q1;go_simp;exact Bo hR
    ·refine AX fun _ w' he R hR=>?_
     go_simp;exact Ba (LH _ _ Rr _ M w' (HRr.out▸HS.out.2.2.2.2.1.ext (xw.trans he)) ((H7.out.kd he.kd).has (by have:=HE.out.2.2.1;have:=HE.out.2.1.2;have:=HX.out.2.2.2.2.2.2.2.1;omega)) (HRr.out▸HE.out.2.2.2.2.1) (by have:=HE.out.2.2.2.2.2.2.2.2;have:=HX.out.2.2.2.2.2.2.2.1;omega) (HRr.out▸HE.out.2.2.2.2.2.2.1)) hR
    ·refine AX fun _ w' he R hR=>?_
     have hc:=he.cells;go_simp
     (try go_ints);(try(rw[if_neg Aa]));(try(rw[if_pos Aa]));(try go_simp);(try go_ints)
     exact Bo hR
    ·refine AX fun _ w' he R hR=>?_
     have hc:=he.cells;go_simp
     (try go_ints);(try(rw[if_neg Aa]));(try(rw[if_pos Aa]));(try go_simp);(try go_ints)
     exact Bo hR
   intro γ w8 hx8 hF;have p2:AC 0 w8 (γ 2) (psc (((ld G).num^(n - j):Int):Rat) Q):=Ak.get hF 2 Ab;have p5:AC 0 w8 (γ 5) (psc (((ld G).num^(n - j):Int):Rat) Rr):=Ak.get hF 5 Ab;clear hF;simp only[Bf,Nat.reduceAdd];generalize γ 2=g2 at *;generalize γ 5=g5 at *;clear γ;rw[HE.out.2.2.2.2.2.2.2.1,HE.out.1.1]at p2;rw[HRr.out,HE.out.2.2.2.2.2.2.2.1,HE.out.1.2]at p5;have HP:=Ad (Ai p2 p5);clear p2 p5;go_wp2
   go_ret2
   exact Ag.mk ⟨_,_,rfl,HP.out.1,HP.out.2⟩ (hx.trans hx8)
theorem aO(v u:Value)(F G:Nat->Rat)(s M:Nat)(w:World)(hv:AC 0 w v F)(hu:AC 0 w u G)(hs:∀ i,qsz (F i)<=s)(ht:∀ i,qsz (G i)<=s)(h0:G≠pz)(hn:pl F<=1000000)(hm:pl G<=1000000)(hM:s+(pl F+2)*(s+1)+s+1<=M)(hst:2+(pl F+pl G+4)*(2*M+4)<=274877906944) :
  Be 141 #[v,u] w ((bS (Gj F G (pl F+1 - pl G)) (Dc F G (pl F+1 - pl G)))):=by
 have hMb:4*M<=274877906944:=by
  have:4*(2*M+4)<=(pl F+pl G+4)*(2*M+4):=Nat.mul_le_mul_right _ Aa;omega
 obtain⟨l,h1,h2,-,rfl⟩:=hv.hz (fun i=>by have:=hs i;omega);obtain⟨m,k1,k2,-,rfl⟩:=hu.hz (fun i=>by have:=ht i;omega);exact aB v u l m s s M w h1 k1 hs ht Aa Aa h0 (by rw[h2];exact hM) (by rw[h2,k2];exact hst)
theorem jS(v:Value)(F:Nat->Rat)(w:World)(hv:AC 0 w v F)(hs:∀ i,qsz (F i)<=549755813888)(hn:pl F<=549755813888) :
  Be 104 #[v] w (fun r w'=>AC w.heap.size w' r (pp F)):=by
 obtain⟨l,h1,h2,-,rfl⟩:=hv.hz (fun i=>by have:=hs i;omega);exact EE v l w h1 hs Aa
set_option maxRecDepth 20000 in
theorem dZ(v u:Value)(l m:List Int)(S M M2:Nat)(w:World)(hv:Dq 0 w v l)(hu:Dq 0 w u m)(hs:∀ i,qsz (cz l i)<=S)(ht:∀ i,qsz (cz m i)<=S)(hn:l.length<=1000)(hm:m.length<=1000)(hM:(S+1)*2^(pl (cz l)+pl (cz m))<=M)(hB:M+(pl (cz l)+pl (cz m)+2)*(M+1)+M+1<=M2)(hB2:2+(2*(pl (cz l)+pl (cz m))+4)*(2*M2+4)<=274877906944) :
  Be 91 #[v,u] w (fun r w'=>AC 0 w' r (Eg (cz l) (cz m))):=by
 have HV:=Ad hv;have HU:=Ad hu;obtain⟨A0,c0,rfl⟩:=hv.len;obtain⟨A1,c1,rfl⟩:=hu.len;clear hv hu;have hc1:=Bl (BJ l);have hc2:=Bl (BJ m);have hSM:S+1<=M:=by
  have h:0 < 2^(pl (cz l)+pl (cz m)):=Nat.pow_pos Ab;have:=Nat.le_mul_of_pos_right (S+1) h;omega
 have hM2b:4*M2+10<=274877906944:=by
  have:2*(2*M2+4)<=(2*(pl (cz l)+pl (cz m))+4)*(2*M2+4):=Nat.mul_le_mul_right _ Aa;omega
 have hMM:M<=M2:=by omega
 have hcn:sz (cn (cz l))<=S/\sz (cn (cz m))<=S:=⟨FP hs _,FP ht _⟩
 have hst:=Gz.start (Af.cz l) (Af.cz m) (ZI.cz l) (ZI.cz m) hs ht;have hP1:=fun W (x:Ext w W)=>EE _ l W (HV.out.ext x) (fun i=>by have:=hs i;omega) Aa;have hP2:=fun W (x:Ext w W)=>EE _ m W (HU.out.ext x) (fun i=>by have:=ht i;omega) Aa;have hC1:=Ic _ l w HV.out (fun i=>by have:=hs i;omega) Aa;have hC2:=fun W (x:Ext w W)=>Ic _ m W (HU.out.ext x) (fun i=>by have:=ht i;omega) Aa;have hz:=(show(∀ A,Gz (cz l) (cz m) (pl (cz l)+pl (cz m)) S A pz->psc ((Nat.gcd (cn (cz l)) (cn (cz m)):Nat):Rat) A=Eg (cz l) (cz m))from
  fun A h=>(Tn (h.end_ (Af.cz l) (Af.cz m) (ZI.cz l) (ZI.cz m) rfl)).symm)
 have hpl:pl (cz l)+pl (cz m)<=2000:=by omega
 obtain⟨F,hF⟩:∃ F,F=cz l:=⟨_,rfl⟩
 obtain⟨G,hG⟩:∃ G,G=cz m:=⟨_,rfl⟩
 rw[<-hF]at hcn hC1;rw[<-hG]at hcn;rw[<-hF,<-hG]at hM hB hB2 hst hz hpl ⊢;simp only[<-hF]at hP1;simp only[<-hG]at hP2 hC2;have HC:=Ad (Ai hC1 (Ai hC2 (Ai hP1 hP2)));have HX:=Ad (Ai hM (Ai hB (Ai hz (Ai hcn (Ai hSM (Ai hB2 (Ai hM2b hMM)))))));have HSt:=Ad (Ai hst hpl);clear hs ht hn hm hM hB hB2 hM2b hMM hc1 hc2 hSM hcn hst hP1 hP2 hC1 hC2 hz hF hG hpl HV HU
 go_enter Tryz.func91,Tryz.ntmps91
 go_wp2_with fail
 refine AB HC.out.1 ?_;rintro r1 w1 hr1 hx
 go_wp2_with fail
 refine AB (HC.out.2.1 w1 hx) ?_;rintro r2 w2 hr2 hx2;have H12:=Ad (Ai ((hr1.kd hx2.kd).has (by have h1:=HX.out.2.2.2.1.1;have h2:=HX.out.2.2.2.2.1;have h3:=HX.out.2.2.2.2.2.2;simp only[Int.natAbs_natCast];omega)) (hr2.has (by have h1:=HX.out.2.2.2.1.2;have h2:=HX.out.2.2.2.2.1;have h3:=HX.out.2.2.2.2.2.2;simp only[Int.natAbs_natCast];omega)));replace hx:=hx.trans hx2;clear hr1 hr2 hx2
 go_wp2_with fail
 refine AB (V6 _ _ (cn F:Nat) (cn G:Nat) _ H12.out.1 H12.out.2 (by have h1:=HX.out.2.2.2.1.1;have h2:=HX.out.2.2.2.2.1;have h3:=HX.out.2.2.2.2.2.2;simp only[Int.natAbs_natCast];omega) (by have h1:=HX.out.2.2.2.1.2;have h2:=HX.out.2.2.2.2.1;have h3:=HX.out.2.2.2.2.2.2;simp only[Int.natAbs_natCast];omega)) ?_;rintro r3 w3 hr3 hx3;obtain⟨b5,A5,n5,c5,rfl⟩:=hr3.cells;obtain⟨cc,hcc⟩:∃ cc:Nat,cc=Nat.gcd (cn F) (cn G):=⟨_,rfl⟩
 replace hr3:AJ w3 (.agg #[.bool b5,.slice A5 n5 c5]) (cc:Nat):=by rw[hcc];exact hr3
 obtain⟨W4,eW4,e4,x4⟩:=Bg.made w3 26 #[.bool b5,.slice A5 n5 c5] (by simp[Ae]);have ec:=Bj.mk e4 (hr3.kd x4.kd);replace hx:=(hx.trans hx3).trans x4;have HCC:=Ad hcc;clear hx3 x4 hr3 e4 H12 hcc
 go_wp2_with fail
 rw[<-eW4];clear eW4;generalize w3.heap.size=gc at *;refine AB (HC.out.2.2.1 W4 hx) ?_;rintro r5 w5 hr5 hx5;have ec5:=ec.ext hx5;replace hx:=hx.trans hx5;have H5:=Ad (hr5.base_le (Nat.zero_le _));clear hr5 hx5
 go_wp2_with fail
 refine AB (HC.out.2.2.2 w5 hx) ?_;rintro r6 w6 hr6 hx6;replace ec5:=ec5.ext hx6;replace hx:=hx.trans hx6;have h5:=H5.out.ext hx6;have h6:=hr6.base_le (Nat.zero_le _);clear hr6 hx6 H5;go_wp2
 go_loopw [6,7] (fun fv gv wr=>∃ A B,AC 0 wr fv A/\AC 0 wr gv B/\Gz F G (pl F+pl G) S A B/\Bj wr gc 26 (cc:Nat)/\Ext w wr) (fun _ gv _=>Oc gv)
 case atStart=>exact⟨_,_,h5,h6,HSt.out.1,ec5,hx⟩
 case round =>
  clear h5 h6 ec5 hx ec;obtain⟨A,B,hA,hB,hst,ec,hx⟩:=hrel;obtain⟨A2,c2,rfl,-⟩:=hA.shape;obtain⟨A3,c3,rfl,-⟩:=hB.shape;have HA:=Ad (Ai hA hB);clear hA hB;have HS:=Ad hst;clear hst;by_cases h0:0 < pl B
  ·have hbn:B≠pz:=fun e=>by rw[e,C8]at h0;omega
   have hroom:=HS.out.room rfl;have hpl:=HS.out.deg;have HR:=Ad (show(∀ i,qsz (A i)<=M)/\(∀ i,qsz (B i)<=M)/\M+(pl A+2)*(M+1)+M+1<=M2/\B≠pz/\2+(pl A+pl B+4)*(2*M2+4)<=274877906944/\pl A<=1000000/\pl B<=1000000 from by
    refine⟨fun i=>Nat.le_trans (hroom.1 i) HX.out.1,fun i=>Nat.le_trans (hroom.2.1 i) HX.out.1,?_,hbn,?_,by have:=HSt.out.2;omega,by have:=HSt.out.2;omega⟩
    ·have h1:=HX.out.2.1
     have h2:(pl A+2)*(M+1)<=(pl F+pl G+2)*(M+1):=Nat.mul_le_mul_right _ Aa;omega
    ·have h1:=HX.out.2.2.2.2.2.1
     have h2:(pl A+pl B+4)*(2*M2+4)<=(2*(pl F+pl G)+4)*(2*M2+4):=Nat.mul_le_mul_right _ Aa;omega)
   have hst2:=HS.out.step hbn (R:=Dc A B (pl A+1 - pl B)) rfl;have HS2:=Ad (Ai hst2.1 (Ai hst2.2 hroom.2.2));clear hst2 hbn hroom hpl
   go_wp2_with fail
   refine AB (aO _ _ A B M M2 _ HA.out.1 HA.out.2 HR.out.1 HR.out.2.1 HR.out.2.2.2.1 HR.out.2.2.2.2.2.1 HR.out.2.2.2.2.2.2 HR.out.2.2.1 HR.out.2.2.2.2.1) ?_;rintro r7 w7 ⟨qv,rv,rfl,hq,hr⟩ hx7;have hrr:=hr.base_le (b:=0) (Nat.zero_le _);have hB7:=HA.out.2.ext hx7;have ec7:=ec.ext hx7;replace hx:=hx.trans hx7;have H7:=Ad (Ai hrr hB7);clear hr hrr hB7 hq hx7 ec
   go_wp2_with fail
   refine Calls.mono (jS _ _ _ H7.out.1 (fun i=>by
    have h1:=HS2.out.2.2 i;have h2:=HX.out.1;have h3:(S+1)*2^(pl F+pl G - (pl A+pl B)+(pl A+1 - pl B))<=(S+1)*2^(pl F+pl G)*2:=by
     have e1:(S+1)*2^(pl F+pl G)*2=(S+1)*2^(pl F+pl G+1):=by rw[Nat.pow_succ,Nat.mul_assoc]
     rw[e1];refine Nat.mul_le_mul_left _ (Nat.pow_le_pow_right Ab ?_);have:=HS.out.deg;omega
    have h4:=HX.out.2.2.2.2.2.2;omega) (by have:=PR HS.out.fA HS.out.fB HR.out.2.2.2.1;have:=HR.out.2.2.2.2.2.2;omega)) ?_
   rintro e w8 ⟨r8,rfl,hr8,hx8⟩;have hB8:=H7.out.2.ext hx8;have hp8:=hr8.base_le (b:=0) (Nat.zero_le _);have ec8:=ec7.ext hx8;replace hx:=hx.trans hx8;obtain⟨A4,c4,rfl,-⟩:=hr8.shape;have H8:=Ad (Ai hB8 hp8);clear hB8 hp8 hr8 hx8 ec7 H7;go_wp2
   go_roundw
   case rel=>exact⟨_,_,H8.out.1,H8.out.2,HS2.out.1,ec8,hx⟩
   case measure=>exact HS2.out.2.1
  ·have hbz:B=pz:=(BC HS.out.fB).1 Aa
   have hroom:=HS.out.room rfl;subst hbz;have hz:=HX.out.2.2.1 A HS.out;have HZ:=Ad (Ai hz (Ai hroom.1 (show pl A<=2000 by have:=HS.out.deg;have:=HSt.out.2;omega)));have h0:pl pz=0:=C8;rw[h0];clear hz hroom;obtain⟨b,Bv,bn,bc,e8,hb8⟩:=ec;have Hb:=Ad hb8;clear hb8;have ce8:=e8.cells2;have fe8:=e8.frozen
   go_wp2_with fail
   have hcs:sz cc<=S:=by
    rw[HCC.out];have h1:=HX.out.2.2.2.1;by_cases e:cn F=0
    ·rw[e,Nat.gcd_zero_left];exact h1.2
    ·exact Nat.le_trans (Bi (Nat.gcd_le_left _ (Nat.pos_of_ne_zero e))) h1.1
   have Hcs:=Ad hcs;clear hcs;refine AB (LH _ _ A (cc:Nat) M _ HA.out.1 (Hb.out.has (by have h1:=Hcs.out;have h3:=HX.out.2.2.2.2.1;have h4:=HX.out.2.2.2.2.2.2;simp only[Int.natAbs_natCast];omega)) (fun i=>Nat.le_trans (HZ.out.2.1 i) HX.out.1) (by rw[Bh];have h1:=Hcs.out;have h3:=HX.out.2.2.2.2.1;have h4:=HX.out.2.2.2.2.2.2;simp only[Int.natAbs_natCast];omega) (by have:=HZ.out.2.2;omega)) ?_;rintro r9 w9 hr9 hx9
   have h9:AC 0 w9 r9 (Eg F G):=by
    rw[<-HZ.out.1,<-HCC.out];exact hr9
   have H9:=Ad h9;clear h9 hr9;go_wp2
   go_ret
   exact Ag.mk H9.out (hx.trans hx9)
theorem eH(v u:Value)(F G:Nat->Rat)(S M M2:Nat)(w:World)(hv:AC 0 w v F)(hu:AC 0 w u G)(hs:∀ i,qsz (F i)<=S)(ht:∀ i,qsz (G i)<=S)(hn:pl F<=1000)(hm:pl G<=1000)(hM:(S+1)*2^(pl F+pl G)<=M)(hB:M+(pl F+pl G+2)*(M+1)+M+1<=M2)(hB2:2+(2*(pl F+pl G)+4)*(2*M2+4)<=274877906944) :
  Be 91 #[v,u] w (fun r w'=>AC 0 w' r (Eg F G)):=by
 have hSM:S+1<=M:=by
  have h:0 < 2^(pl F+pl G):=Nat.pow_pos Ab;have:=Nat.le_mul_of_pos_right (S+1) h;omega
 have hM2b:4*M2+10<=274877906944:=by
  have:2*(2*M2+4)<=(2*(pl F+pl G)+4)*(2*M2+4):=Nat.mul_le_mul_right _ Aa;omega
 obtain⟨l,h1,h2,-,rfl⟩:=hv.hz (fun i=>by have:=hs i;omega);obtain⟨m,k1,k2,-,rfl⟩:=hu.hz (fun i=>by have:=ht i;omega);exact dZ v u l m S M M2 w h1 k1 hs ht Aa Aa hM hB hB2
theorem Vk(v u:Value)(F G:Nat->Rat)(w:World)(hv:AC 0 w v F)(hu:AC 0 w u G)(hs:∀ i,qsz (F i)<=36000)(ht:∀ i,qsz (G i)<=36000)(hn:pl F<=17)(hm:pl G<=17)(h0:G≠pz)(hd:Iz F G) :
  Be 105 #[v,u] w (fun r w'=>∃ q,r = .tuple #[q,.bool true]/\AC 0 w' q (pq F G)):=by
 obtain⟨l,h1,h2,-,rfl⟩:=hv.hz (fun i=>by have:=hs i;omega);obtain⟨m,k1,k2,-,rfl⟩:=hu.hz (fun i=>by have:=ht i;omega);have e1:(l.length+2)*(36000+1)<=19*36001:=Nat.mul_le_mul_right _ Aa;have e2:(l.length+m.length+4)*(2*756021+4)<=38*(2*756021+4):=Nat.mul_le_mul_right _ Aa;refine Ag.imp (Vy v u l m 36000 36000 756021 w h1 k1 hs ht Aa Aa h0 Aa Aa) fun r w' hr=>?_;obtain⟨q,b,rfl,-,hb,hq⟩:=hr;have hbt:=hb.2 hd
 subst hbt;exact⟨q,rfl,hq rfl⟩
theorem aJ(v:Value)(l:List Int)(S n M T M2:Nat)(w:World)(hv:Dq 0 w v l)(hl:l.length<=1000)(hR:P9 (cz l) S n M T)(hT:T<=36000)(hS:S<=36000)(hM:M+(n+(n - 1)+2)*(M+1)+M+1<=M2)(hM2:2+(2*(n+(n - 1))+4)*(2*M2+4)<=274877906944) :
  Be 53 #[v] w (fun r w'=>AC 0 w' r (y0 (pp (cz l)))):=by
 have hg:=BK.pp hR.z hR.f hR.n0;have hpg:pl (pp (cz l))=pl (cz l):=Ef hR.z hR.f;have hsg:∀ i,qsz (pp (cz l) i)<=S:=Fh hR.z hR.f hR.s;have hp:=hR.p;have hn:=hR.n9;have hpr:=EE v l w hv (fun i=>by have:=hR.s i;omega) Aa;have hde:∀ W u,AC 0 W u (pp (cz l))->Be 69 #[u] W (fun r w'=>AC 0 w' r (pd (pp (cz l)))):=fun W u hu=>by
  obtain⟨m,g1,g2,-,g4⟩:=hu.hz (fun i=>by have:=hsg i;omega);have hsm:∀ i,qsz (cz m i)<=S:=by rw[g4];exact hsg
  rw[<-g4];exact Ag.imp (JK _ m S W g1 hsm Aa Aa) fun _ _ h=>h.base_le (Nat.zero_le _)
 have hpd:pl (pd (pp (cz l)))<=n - 1:=by rw[LU hg.f];omega
 have hg1:∀ W u z,AC 0 W u (pp (cz l))->AC 0 W z (pd (pp (cz l)))->Be 91 #[u,z] W (fun r w'=>AC 0 w' r (yc (pp (cz l)))):=fun W u z hu hz=>by
  have e:2^(pl (pp (cz l))+pl (pd (pp (cz l))))<=2^(n+(n - 1)):=Nat.pow_le_pow_right Ab Aa;have e2:(S+1)*2^(pl (pp (cz l))+pl (pd (pp (cz l))))<=(S+1)*2^(n+(n - 1)):=Nat.mul_le_mul_left _ e;have e3:(pl (pp (cz l))+pl (pd (pp (cz l)))+2)*(M+1)<=(n+(n - 1)+2)*(M+1):=Nat.mul_le_mul_right _ Aa;have e4:(2*(pl (pp (cz l))+pl (pd (pp (cz l))))+4)*(2*M2+4)<=(2*(n+(n - 1))+4)*(2*M2+4):=Nat.mul_le_mul_right _ Aa
  have:=hR.m;exact eH u z _ _ S M M2 W hu hz hsg hR.d Aa Aa Aa Aa Aa
 obtain⟨hC,hW,eg,dC,-⟩:=EQ hg;have hcl:pl (yc (pp (cz l)))<=pl (pp (cz l)):=Dv.le hC.f hg.f hg.n (Lt dC);have hd1:∀ W u z,AC 0 W u (pp (cz l))->AC 0 W z (yc (pp (cz l)))->Be 105 #[u,z] W (fun r w'=>∃ q,r = .tuple #[q,.bool true]/\AC 0 w' q (y0 (pp (cz l)))):=fun W u z hu hz =>
  Vk u z _ _ W hu hz (fun i=>by have:=hsg i;omega) (fun i=>by have:=hR.t i;omega) Aa Aa hC.n dC
 obtain⟨A0,c0,rfl⟩:=hv.len;have HC:=Ad (Ai hpr (Ai hde (Ai hg1 hd1)));clear hpr hde hg1 hd1 hv hR hg hpg hsg hp hn hpd hC hW eg dC hcl hM hM2
 go_enter Tryz.func53,Tryz.ntmps53
 go_wp2_with fail
 refine AB HC.out.1 ?_;rintro r1 w1 hr1 hx1;replace hr1:=hr1.base_le (b:=0) (Nat.zero_le _)
 go_wp2_with fail
 refine AB (HC.out.2.1 _ _ hr1) ?_;rintro r2 w2 hr2 hx2;replace hr1:=hr1.ext hx2;replace hx1:=hx1.trans hx2
 go_wp2_with fail
 refine AB (HC.out.2.2.1 _ _ _ hr1 hr2) ?_;rintro r3 w3 hr3 hx3;replace hr1:=hr1.ext hx3;replace hx1:=hx1.trans hx3
 go_wp2_with fail
 refine AB (HC.out.2.2.2 _ _ _ hr1 hr3) ?_;rintro r4 w4 ⟨q,rfl,hq⟩ hx4;go_wp2
 go_ret
 exact Ag.mk hq (hx1.trans hx4)
set_option maxRecDepth 20000 in
theorem XV(v u:Value)(l:List Int)(W:Nat->Rat)(p q:Rat)(S n M T M2 S2 D M3 K t:Nat)(w:World)(hv:Dq 0 w v l)(hu:KU w u p q)(hR:kM l W S n M T M2 S2 D M3 K)(hp:qsz p<=t)(hq:qsz q<=t)
  (ht:1+D*(M3+t+1)+M3+t+1<=100000000000) :
  Be 18 #[v,u] w (fun r _=>r = .int .i64 (if q<=p then 0 else rts W K p q)):=by
 have hC:=hR.c;have hK:=hR.k;have hl:(EN W (pd W) K).length=K:=CP _ _ _;obtain⟨K0,q1,q2⟩:=G9 hC.f (C9 hC.f) hC.z (Ex hC.z) hC.s hC.d;obtain rfl:=q1.uniq hK;have hK9:K0<=1000:=by have:=hC.e;have:=hC.D9;omega
 have hfr:=fun X (x:Ext w X)=>aJ v l S n M T M2 X (hv.ext x) hR.len hR.sim hR.t9 hR.s9 hR.m2 hR.m3;simp only[<-hR.w]at hfr;have hch:∀ X a,AC 0 X a W->Be 28 #[a] X (fun r w'=>∃ us,GX X.heap.size 0 22 w' r us (EN W (pd W) K0)):=fun X a ha=>by
  obtain⟨m,h1,h2,-,h4⟩:=ha.hz fun i=>by have:=hC.s i;have:=hC.SM;have:=hC.b;omega
  have hW0:W≠pz:=by rw[hR.w];exact(EQ (BK.pp hR.sim.z hR.sim.f hR.sim.n0)).2.1.n
  have:=Yo a m S2 D M3 X h1 (by rw[h4];exact hW0) (by have:=hC.e;have:=hC.D9;omega) (by rw[h4];exact hC.s) (by rw[h4];exact hC.d) (by rw[h4];exact hC.e) hC.m hC.b hC.D9;rw[h4]at this;exact Ag.imp this fun r w' ⟨us,K',k1,_,k3⟩=>⟨us,by rw[hK.uniq k1];exact k3⟩
 have hcg:∀ X b us c r,GX b 0 22 X c us (EN W (pd W) K0)->∀ a,BF X a r->qsz r<=t->Be 54 #[c,a] X (fun o _=>o = .int .i64 (V (EN W (pd W) K0) r:Nat)):=fun X b us c r hc a ha hr =>
  Sj c a us _ r b M3 t D X hc ha (hC.mem hK) hr Aa (by have:=hC.D9;omega) (by rw[hl];omega)
 have b1:=WH (EN W (pd W) K0) p;have b2:=WH (EN W (pd W) K0) q;rw[hl]at b1 b2;have hcm:∀ X a b,BF X a p->BF X b q->Be 20 #[a,b] X (fun o _=>o = .int .i64 (IU (p - q))):=fun X a b ha hb=>Tz a b p q X ha hb Aa;obtain⟨res,hres⟩:∃ res,res=(if q<=p then 0 else rts W K0 p q):=⟨_,rfl⟩
 rw[<-hres];have Hres:=Ad hres;clear hres;obtain⟨d1,A1,n1,c1,d2,A2,n2,c2,d3,A3,n3,c3,d4,A4,n4,c4,rfl,hu1,hu2⟩:=hu;obtain⟨A0,c0,rfl⟩:=hv.len;have HC:=Ad (Ai hfr (Ai hch (Ai hcg (Ai hcm (Ai hu1 (Ai hu2 (Ai hp hq)))))));clear hfr hch hcg hcm hu1 hu2 hp hq hv hR hC hK q1 q2 ht;have ea:=Bg.new w 30 #[.bool d1,.slice A1 n1 c1,.bool d2,.slice A2 n2 c2,.bool d3,.slice A3 n3 c3,.bool d4,.slice A4 n4 c4] (by simp[Ae])
 have hx:=(Ext.refl w).alloc (.cells #[.bool d1,.slice A1 n1 c1,.bool d2,.slice A2 n2 c2,.bool d3,.slice A3 n3 c3,.bool d4,.slice A4 n4 c4] 30)
 go_enter Tryz.func18,Tryz.ntmps18
 go_upto_region 1 with(fail)
 generalize w.alloc (.cells #[.bool d1,.slice A1 n1 c1,.bool d2,.slice A2 n2 c2,.bool d3,.slice A3 n3 c3,.bool d4,.slice A4 n4 c4] 30)=W0 at *;have cea:=ea.cells8;have fea:=ea.frozen
 go_wp2_with fail
 refine AB (HC.out.2.2.2.1 _ _ _ (HC.out.2.2.2.2.1.ext hx) (HC.out.2.2.2.2.2.1.ext hx)) ?_;rintro r1 w1 rfl hx1;clear cea fea;replace ea:=ea.ext hx1;replace hx:=hx.trans hx1;clear hx1;by_cases hpq:q<=p
 ·have hs:decide (0<=IU (p - q))=true:=by
   rw[I7];unfold BI;have:¬ p - q < 0:=by grind
   rw[if_neg this]
   split<;>rfl
  have HR:=Ad (show res=0 by rw[Hres.out,if_pos hpq]);clear hpq;go_wp2
  go_ret
  exact Ag.mk (by rw[HR.out];rfl) hx
 ·have hs:decide (0<=IU (p - q))=false:=by
   rw[I7];unfold BI;rw[if_neg Ah,if_pos Ah];rfl
  have HR:=Ad (show res=rts W K0 p q by rw[Hres.out,if_neg hpq]);clear hpq
  go_wp2_with fail
  refine AB (HC.out.1 _ hx) ?_;rintro r2 w2 hr2 hx2;replace ea:=ea.ext hx2;replace hx:=hx.trans hx2
  go_wp2_with fail
  refine AB (HC.out.2.1 _ _ hr2) ?_;rintro r3 w3 ⟨us,hP⟩ hx3;obtain⟨A5,c5,rfl⟩:=hP.shape;replace ea:=ea.ext hx3;replace hx:=hx.trans hx3;have HP:=Ad hP;clear hP hr2 hx2 hx3;obtain⟨Vp,hVp⟩:∃ n,n=V (EN W (pd W) K0) p:=⟨_,rfl⟩
  obtain⟨Vq,hVq⟩:∃ n,n=V (EN W (pd W) K0) q:=⟨_,rfl⟩
  have hc1:∀ X (x:Ext w3 X),Be 54 #[.slice A5 (EN W (pd W) K0).length c5,.agg #[.bool d1,.slice A1 n1 c1,.bool d2,.slice A2 n2 c2]] X (fun o _=>o = .int .i64 (Vp:Nat)):=fun X x=>by
   rw[hVp];exact HC.out.2.2.1 X _ us _ p (HP.out.ext x) _ (HC.out.2.2.2.2.1.ext (hx.trans x)) HC.out.2.2.2.2.2.2.1
  have hc2:∀ X (x:Ext w3 X),Be 54 #[.slice A5 (EN W (pd W) K0).length c5,.agg #[.bool d3,.slice A3 n3 c3,.bool d4,.slice A4 n4 c4]] X (fun o _=>o = .int .i64 (Vq:Nat)):=fun X x=>by
   rw[hVq];exact HC.out.2.2.1 X _ us _ q (HP.out.ext x) _ (HC.out.2.2.2.2.2.1.ext (hx.trans x)) HC.out.2.2.2.2.2.2.2
  have HQ:=Ad (Ai hc1 hc2);clear hc1 hc2;rw[<-hVp]at b1;rw[<-hVq]at b2;have HF:=Ad (show res=(Vp:Int) - (Vq:Int) by rw[HR.out,hVp,hVq];rfl);rw[hl]at HQ ⊢;clear hVp hVq hl HP;have cea:=ea.cells8;have fea:=ea.frozen
  go_wp2_with fail
  refine Cu 8 [15,16,17,18,19,20,21,22] [5,3] [_,_] [(kv ?_),(kv ?_),(kv ?_),(kv (.int .i64 (Vp:Nat))),(kv ?_),(kv ?_),(kv ?_),(kv (.int .i64 (Vq:Nat)))] (fun γ w'=>[True,True,True,True,True,True,True,True]) ?s1 ?_
  case s1 =>
   iterate 8 refine⟨?_,?_⟩
   trivial
   iterate 3 focus
    refine AX fun _ w' he R hR=>?_;have hc:=he.cells;have cq0:=(ea.ext he).cells8;go_simp;exact Bo hR
   ·refine AX fun _ w' he R hR=>?_
    go_simp;exact Ku (HQ.out.1 w' he) hR
   iterate 3 focus
    refine AX fun _ w' he R hR=>?_;have hc:=he.cells;have cq0:=(ea.ext he).cells8;go_simp;exact Bo hR
   ·refine AX fun _ w' he R hR=>?_
    go_simp;exact Ku (HQ.out.2 w' he) hR
  intro γ w4 hx4 hF;clear hF;simp only[Bf,Nat.reduceAdd];clear γ;go_wp2
  go_ret
  exact Ag.mk (by rw[HF.out];rfl) (hx.trans hx4)
set_option maxRecDepth 20000 in
theorem RA(v:Value)(p q:Rat)(t:Nat)(w:World)(hv:KU w v p q)(hp:qsz p<=t)(hq:qsz q<=t)(ht:t<=100000000000) :
  Be 112 #[v] w (fun r w'=>Br w' r ((p+q) / 2)):=by
 have hsum:qsz (p+q)<=274877906944:=by have:=Ei p q;omega
 obtain⟨d1,A1,n1,c1,d2,A2,n2,c2,d3,A3,n3,c3,d4,A4,n4,c4,rfl,hu1,hu2⟩:=hv;have HC:=Ad (Ai hu1 (Ai hu2 hsum));clear hu1 hu2 hsum hp hq ht
 go_enter Tryz.func112,Tryz.ntmps112
 have ea:=(Bg.new w 30 #[.bool d1,.slice A1 n1 c1,.bool d2,.slice A2 n2 c2,.bool d3,.slice A3 n3 c3,.bool d4,.slice A4 n4 c4] (by simp[Ae])).alloc (.cells #[.bool false,.slice none 0 0,.bool false,.slice none 0 0] 28);have ez:=Bg.new (w.alloc (.cells #[.bool d1,.slice A1 n1 c1,.bool d2,.slice A2 n2 c2,.bool d3,.slice A3 n3 c3,.bool d4,.slice A4 n4 c4] 30)) 28 #[.bool false,.slice none 0 0,.bool false,.slice none 0 0] (by simp[Ae])
 rw[World.size_alloc]at ez;have hx:=((Ext.refl w).alloc (.cells #[.bool d1,.slice A1 n1 c1,.bool d2,.slice A2 n2 c2,.bool d3,.slice A3 n3 c3,.bool d4,.slice A4 n4 c4] 30)).alloc (.cells #[.bool false,.slice none 0 0,.bool false,.slice none 0 0] 28)
 go_upto_region 1 with(fail)
 generalize (w.alloc (.cells #[.bool d1,.slice A1 n1 c1,.bool d2,.slice A2 n2 c2,.bool d3,.slice A3 n3 c3,.bool d4,.slice A4 n4 c4] 30)).alloc (.cells #[.bool false,.slice none 0 0,.bool false,.slice none 0 0] 28)=W0 at *;have cea:=ea.cells8;have fea:=ea.frozen
 go_wp2_with fail
 refine AB (UI _ _ p q _ (HC.out.1.ext hx) (HC.out.2.1.ext hx)) ?_;rintro r1 w1 hr1 hx1;clear cea fea ea;replace ez:=ez.ext hx1;replace hx:=hx.trans hx1
 go_wp2_with fail
 refine AB (XX 2 _ Aa Aa) ?_;rintro r2 w2 hr2 hx2;replace ez:=ez.ext hx2;replace hx:=hx.trans hx2;have H2:=Ad (Ai (hr1.ext hx2) hr2);clear hr1 hr2 hx1 hx2
 go_wp2_with fail
 refine AB (Y7 _ _ (p+q) ((2:Int):Rat) _ (H2.out.1.has HC.out.2.2) (H2.out.2.has Ab) Ab) ?_;rintro r3 w3 ⟨q3,rfl,hq3⟩ hx3;obtain⟨b5,B5,m5,e5,b6,B6,m6,e6,rfl⟩:=hq3.cells;replace ez:=ez.ext hx3;replace hx:=hx.trans hx3;obtain⟨W4,eW,e4,x4⟩:=Bg.made w3 28 #[.bool b5,.slice B5 m5 e5,.bool b6,.slice B6 m6 e6] (by simp[Ae]);have hr:=hq3.ext x4;have hltz:=ez.lt;replace ez:=ez.ext x4;replace hx:=hx.trans x4
 clear hq3 hx3 x4 H2
 go_upto_region 2 with(fail)
 rw[<-eW];clear eW;generalize w3.heap.size=gc at *;have cez:=ez.cells4;have fez:=ez.frozen;have ce4:=e4.cells4;have fe4:=e4.frozen;go_wp2;obtain⟨W5,eW,ez',U⟩:=ez.put4 (.bool b5) (.slice B5 m5 e5) (.bool b6) (.slice B6 m6 e6);rw[<-eW];clear eW ez;replace hr:=hr.kd U.kd;replace hx:=U.from_ hx Aj;have ez:=ez';clear U ez';clear cez fez;have cez:=ez.cells4;have fez:=ez.frozen;refine bodyPost_ret (v := .agg #[.bool b5,.slice B5 m5 e5,.bool b6,.slice B6 m6 e6]) (by simp[results,Tryz.results112,go_sem,cez]) rfl ?_
 exact Ag.mk hr hx
set_option maxRecDepth 20000 in
theorem jE(v u:Value)(W:Nat->Rat)(p q:Rat)(base S D M t K:Nat)(w:World)(hv:Nk base 23 w v W)(hu:KU w u p q)(hC:KR W S D M)(hK:Mt W (pd W) K)(hp:qsz p<=t)(hq:qsz q<=t)
  (ht:1+D*(M+t+1)+M+t+1<=100000000000) :
  Be 80 #[v,u] w (fun r _=>r = .bool (decide (p < q)&&(rts W K p q==1))):=by
 have hin:∀ X (x:Ext w X) a b,BF X a p->BF X b q->Be 51 #[v,a,b] X (fun r _=>r = .int .i64 (rts W K p q)):=fun X x a b ha hb =>
  Zv v a b W p q base S D M t K X (hv.ext x) ha hb hC hK hp hq Aa
 have hcm:∀ X a b,BF X a p->BF X b q->Be 49 #[a,b] X (fun o _=>o = .int .i64 (IU (p - q))):=fun X a b ha hb=>Um a b p q X ha hb Aa;obtain⟨A0,n0,c0,rfl⟩:=hv.cell;obtain⟨d1,A1,n1,c1,d2,A2,n2,c2,d3,A3,n3,c3,d4,A4,n4,c4,rfl,hu1,hu2⟩:=hu;obtain⟨R,hR⟩:∃ R,R=rts W K p q:=⟨_,rfl⟩
 simp only[<-hR]at hin ⊢;have HC:=Ad (Ai hin (Ai hcm (Ai hu1 hu2)));clear hin hcm hu1 hu2 hv hC hK hp hq ht hR;have hsd:=Rv (p:=p) (q:=q);obtain⟨res,hres⟩:∃ res,res=(decide (p < q)&&(R==1)):=⟨_,rfl⟩
 rw[<-hres];have Hres:=Ad hres;clear hres
 go_enter Tryz.func80,Tryz.ntmps80
 have ec:=(Bg.new w 92 #[.slice A0 n0 c0] (by simp[Ae])).alloc (.cells #[.bool d1,.slice A1 n1 c1,.bool d2,.slice A2 n2 c2,.bool d3,.slice A3 n3 c3,.bool d4,.slice A4 n4 c4] 30);have ea:=Bg.new (w.alloc (.cells #[.slice A0 n0 c0] 92)) 30 #[.bool d1,.slice A1 n1 c1,.bool d2,.slice A2 n2 c2,.bool d3,.slice A3 n3 c3,.bool d4,.slice A4 n4 c4] (by simp[Ae]);rw[World.size_alloc]at ea;have hx:=((Ext.refl w).alloc (.cells #[.slice A0 n0 c0] 92)).alloc (.cells #[.bool d1,.slice A1 n1 c1,.bool d2,.slice A2 n2 c2,.bool d3,.slice A3 n3 c3,.bool d4,.slice A4 n4 c4] 30)
 go_upto_region 1 with(fail)
 generalize (w.alloc (.cells #[.slice A0 n0 c0] 92)).alloc (.cells #[.bool d1,.slice A1 n1 c1,.bool d2,.slice A2 n2 c2,.bool d3,.slice A3 n3 c3,.bool d4,.slice A4 n4 c4] 30)=W0 at *;have cea:=ea.cells8;have fea:=ea.frozen;have cec0:=ec.cells1;by_cases hpq:p < q
 ·have hd:decide (p < q)=true:=decide_eq_true hpq
  rw[hd]at hsd;have HF:=Ad (show res=(R==1) by rw[Hres.out,hd];rfl);clear hpq hd
  go_wp2_with fail
  refine AB (HC.out.2.1 _ _ _ (HC.out.2.2.1.ext hx) (HC.out.2.2.2.ext hx)) ?_;rintro r1 w1 rfl hx1;clear cea fea cec0;replace ea:=ea.ext hx1;replace ec:=ec.ext hx1;replace hx:=hx.trans hx1;clear hx1;have cea:=ea.cells8;have fea:=ea.frozen;have cec0:=ec.cells1
  go_wp2_with fail
  refine AB (HC.out.1 _ hx _ _ (HC.out.2.2.1.ext hx) (HC.out.2.2.2.ext hx)) ?_;rintro r2 w2 rfl hx2;go_wp2
  go_ret
  exact Ag.mk (by rw[HF.out];rfl) (hx.trans hx2)
 ·have hd:decide (p < q)=false:=decide_eq_false hpq
  rw[hd]at hsd;have HF:=Ad (show res=false by rw[Hres.out,hd];rfl);clear hpq hd
  go_wp2_with fail
  refine AB (HC.out.2.1 _ _ _ (HC.out.2.2.1.ext hx) (HC.out.2.2.2.ext hx)) ?_;rintro r1 w1 rfl hx1;go_wp2
  go_ret
  exact Ag.mk (by rw[HF.out];rfl) (hx.trans hx1)
set_option maxRecDepth 20000 in
theorem iG(v u:Value)(W:Nat->Rat)(p q:Rat)(base S D M t K:Nat)(w:World)(hv:Nk base 23 w v W)(hu:KU w u p q)(hC:KR W S D M)(hK:Mt W (pd W) K)(hp:qsz p<=t)(hq:qsz q<=t)(hm:qsz ((p+q) / 2)<=t)
  (ht:1+D*(M+t+1)+M+t+1<=100000000000) :
  Be 81 #[v,u] w (fun r w'=>if rts W K p ((p+q) / 2)=1 then KU w' r p ((p+q) / 2)else KU w' r ((p+q) / 2) q):=by
 obtain⟨m,hmm⟩:∃ m,m=(p+q) / 2:=⟨_,rfl⟩
 have hin:∀ X (x:Ext w X) a b,BF X a p->BF X b m->Be 51 #[v,a,b] X (fun r _=>r = .int .i64 (rts W K p m)):=fun X x a b ha hb =>
  Zv v a b W p m base S D M t K X (hv.ext x) ha hb hC hK hp (by rw[hmm];exact hm) Aa
 have hmid:=fun X (x:Ext w X)=>RA u p q t X (hu.ext x) hp hq Aa;simp only[<-hmm]at hmid hm ⊢;have hm9:qsz m<=274877906944:=by omega
 obtain⟨A0,n0,c0,rfl⟩:=hv.cell;obtain⟨d1,A1,n1,c1,d2,A2,n2,c2,d3,A3,n3,c3,d4,A4,n4,c4,rfl,hu1,hu2⟩:=hu;obtain⟨R,hR⟩:∃ R,R=rts W K p m:=⟨_,rfl⟩
 simp only[<-hR]at hin ⊢;have HC:=Ad (Ai hin (Ai hmid (Ai hu1 (Ai hu2 hm9))));clear hin hmid hu1 hu2 hv hC hK hp hq ht hR hm hm9 hmm
 go_enter Tryz.func81,Tryz.ntmps81
 obtain⟨W1,eW1,ec,y1⟩:=Bg.made w 92 #[.slice A0 n0 c0] (by simp[Ae]);obtain⟨W2,eW2,ea,y2⟩:=Bg.made W1 30 #[.bool d1,.slice A1 n1 c1,.bool d2,.slice A2 n2 c2,.bool d3,.slice A3 n3 c3,.bool d4,.slice A4 n4 c4] (by simp[Ae]);obtain⟨W3,eW3,ez,y3⟩:=Bg.made W2 30 #[.bool false,.slice none 0 0,.bool false,.slice none 0 0,.bool false,.slice none 0 0,.bool false,.slice none 0 0] (by simp[Ae]);have s1:W1.heap.size=w.heap.size+1:=by rw[eW1,World.size_alloc]
 have s2:W2.heap.size=w.heap.size+1+1:=by rw[eW2,World.size_alloc,s1]
 rw[s1]at ea;rw[s2]at ez;have hx:=(y1.trans y2).trans y3;replace ec:=ec.ext (y2.trans y3);replace ea:=ea.ext y3
 go_upto_region 1 with(fail)
 rw[<-eW1,<-eW2,<-eW3];clear eW1 eW2 eW3 y1 y2 y3 s1 s2;have cea:=ea.cells8;have fea:=ea.frozen
 go_wp2_with fail
 refine AB (HC.out.2.1 _ hx) ?_;rintro r4 w4 hr4 hx4;obtain⟨b5,B5,m5,e5,b6,B6,m6,e6,rfl⟩:=hr4.cells;obtain⟨W5,eW,e4,x4⟩:=Bg.made w4 28 #[.bool b5,.slice B5 m5 e5,.bool b6,.slice B6 m6 e6] (by simp[Ae]);have Hr:=Ad ((hr4.ext x4).has HC.out.2.2.2.2);clear cea fea hr4;have x45:=hx4.trans x4;replace ea:=ea.ext x45;replace ez:=ez.ext x45;replace ec:=ec.ext x45;replace hx:=hx.trans x45;clear x45;clear hx4 x4
 go_upto_region 2 with(fail)
 rw[<-eW];clear eW;generalize w4.heap.size=gc at *;have cea:=ea.cells8;have fea:=ea.frozen;have ce4:=e4.cells4;have fe4:=e4.frozen;have cec0:=ec.cells1
 go_wp2_with fail
 refine AB (HC.out.1 _ hx _ _ (HC.out.2.2.1.ext hx) Hr.out) ?_;rintro r6 w6 rfl hx6;have Hr6:=Ad (Hr.out.ext hx6);clear cea fea ce4 fe4 cec0 Hr;replace ea:=ea.ext hx6;replace ez:=ez.ext hx6;replace ec:=ec.ext hx6;replace e4:=e4.ext hx6;replace hx:=hx.trans hx6;clear hx6;have cea:=ea.cells8;have fea:=ea.frozen;have ce4:=e4.cells4;have fe4:=e4.frozen;have cez:=ez.cells8;have fez:=ez.frozen;by_cases h1:R=1
 ·have hb:(R==1)=true:=by simpa using h1
  have H1:=Ad h1;clear h1;have Q1:=HC.out.2.2.1.ext hx;have Q2:=Hr6.out;have HQ:=Ad (Ai Q1 Q2);clear Q1 Q2;go_wp2;obtain⟨W6,eW6,ez',U⟩:=ez.put8 (.bool d1) (.slice A1 n1 c1) (.bool d2) (.slice A2 n2 c2) (.bool b5) (.slice B5 m5 e5) (.bool b6) (.slice B6 m6 e6) rfl rfl rfl rfl rfl rfl rfl rfl;rw[<-eW6];have hr1:=BF.kd HQ.out.1 U.kd;have hr2:=BF.kd HQ.out.2 U.kd;replace hx:=U.from_ hx CR;clear eW6 ez cez fez
  have ez:=ez';have cez:=ez.cells8;have fez:=ez.frozen;refine bodyPost_ret (v := .agg #[.bool d1,.slice A1 n1 c1,.bool d2,.slice A2 n2 c2,.bool b5,.slice B5 m5 e5,.bool b6,.slice B6 m6 e6]) (by simp[results,Tryz.results81,go_sem,cez]) rfl ?_;exact Ag.mk (by first | exact⟨_,_,_,_,_,_,_,_,_,_,_,_,_,_,_,_,rfl,hr1,hr2⟩ | (rw[(if_pos H1.out)];exact⟨_,_,_,_,_,_,_,_,_,_,_,_,_,_,_,_,rfl,hr1,hr2⟩)) hx
 ·have hb:(R==1)=false:=by simpa using h1
  have H1:=Ad h1;clear h1;have Q1:=Hr6.out;have Q2:=HC.out.2.2.2.1.ext hx;have HQ:=Ad (Ai Q1 Q2);clear Q1 Q2;go_wp2;obtain⟨W6,eW6,ez',U⟩:=ez.put8 (.bool b5) (.slice B5 m5 e5) (.bool b6) (.slice B6 m6 e6) (.bool d3) (.slice A3 n3 c3) (.bool d4) (.slice A4 n4 c4) rfl rfl rfl rfl rfl rfl rfl rfl;rw[<-eW6];have hr1:=BF.kd HQ.out.1 U.kd;have hr2:=BF.kd HQ.out.2 U.kd;replace hx:=U.from_ hx CR;clear eW6 ez cez fez
  have ez:=ez';have cez:=ez.cells8;have fez:=ez.frozen;refine bodyPost_ret (v := .agg #[.bool b5,.slice B5 m5 e5,.bool b6,.slice B6 m6 e6,.bool d3,.slice A3 n3 c3,.bool d4,.slice A4 n4 c4]) (by simp[results,Tryz.results81,go_sem,cez]) rfl ?_;exact Ag.mk (by first | exact⟨_,_,_,_,_,_,_,_,_,_,_,_,_,_,_,_,rfl,hr1,hr2⟩ | (rw[(if_neg H1.out)];exact⟨_,_,_,_,_,_,_,_,_,_,_,_,_,_,_,_,rfl,hr1,hr2⟩)) hx
set_option maxRecDepth 20000 in
theorem V9(u:Value)(up:Bool)(p q:Rat)(t:Nat)(w:World)(hu:KU w u p q)(hp:qsz p<=t)(hq:qsz q<=t)(ht:t<=100000000000) :
  Be 78 #[u,.bool up] w (fun r w'=>Es w' r (if up=true then(p+q) / 2 else p) (if up=true then q else(p+q) / 2)):=by
 have hsum:qsz (p+q)<=274877906944:=by have:=Ei p q;omega
 have hpq:qsz p+qsz q < 549755813888:=by omega
 obtain⟨d1,A1,n1,c1,d2,A2,n2,c2,d3,A3,n3,c3,d4,A4,n4,c4,rfl,hu1,hu2⟩:=hu;have HC:=Ad (Ai hu1 (Ai hu2 (Ai hsum hpq)));clear hu1 hu2 hsum hpq hp hq ht
 go_enter Tryz.func78,Tryz.ntmps78
 obtain⟨W2,eW2,ea,y2⟩:=Bg.made w 30 #[.bool d1,.slice A1 n1 c1,.bool d2,.slice A2 n2 c2,.bool d3,.slice A3 n3 c3,.bool d4,.slice A4 n4 c4] (by simp[Ae]);obtain⟨W3,eW3,ez,y3⟩:=Bg.made W2 30 #[.bool false,.slice none 0 0,.bool false,.slice none 0 0,.bool false,.slice none 0 0,.bool false,.slice none 0 0] (by simp[Ae]);have s2:W2.heap.size=w.heap.size+1:=by rw[eW2,World.size_alloc]
 rw[s2]at ez;have hx:=y2.trans y3;replace ea:=ea.ext y3
 go_upto_region 1 with(fail)
 rw[<-eW2,<-eW3];clear eW2 eW3 y2 y3 s2;have cea:=ea.cells8;have fea:=ea.frozen
 go_wp2_with fail
 refine AB (Q0 _ _ p q _ (HC.out.1.ext hx) (HC.out.2.1.ext hx) HC.out.2.2.2) ?_;rintro r4 w4 hr4 hx4;clear cea fea;replace ea:=ea.ext hx4;replace ez:=ez.ext hx4;replace hx:=hx.trans hx4;clear hx4
 go_wp2_with fail
 refine AB (M8 2 _ Aa Aa) ?_;rintro r5 w5 hr5 hx5;have H5:=Ad (Ai (hr4.ext hx5) hr5);replace ea:=ea.ext hx5;replace ez:=ez.ext hx5;replace hx:=hx.trans hx5;clear hx5;clear hr4 hr5
 go_wp2_with fail
 refine AB (MM _ _ (p+q) ((2:Int):Rat) _ (H5.out.1.has HC.out.2.2.1) (H5.out.2.has Ab)) ?_;rintro r6 w6 hr6 hx6;obtain⟨b5,B5,m5,e5,b6,B6,m6,e6,rfl⟩:=hr6.cells;replace ea:=ea.ext hx6;replace ez:=ez.ext hx6;replace hx:=hx.trans hx6;clear hx6;obtain⟨W7,eW,e4,x4⟩:=Bg.made w6 28 #[.bool b5,.slice B5 m5 e5,.bool b6,.slice B6 m6 e6] (by simp[Ae]);have Hr:=Ad (show Br W7 (.agg #[.bool b5,.slice B5 m5 e5,.bool b6,.slice B6 m6 e6]) ((p+q) / 2)from hr6.ext x4)
 replace ea:=ea.ext x4;replace ez:=ez.ext x4;replace hx:=hx.trans x4;clear x4;clear hr6 H5
 go_upto_region 2 with(fail)
 rw[<-eW];clear eW;generalize w6.heap.size=gc at *;have cea:=ea.cells8;have fea:=ea.frozen;have ce4:=e4.cells4;have fe4:=e4.frozen;cases up
 ·go_wp2_with fail
  refine Cu 4 [19,20,21,22] [2,5] [_,_] [(kv ?_),(kv ?_),(fun γ=>γ 2),(kv ?_)] (fun γ w'=>[True,True,Br w' (γ 2) p,True]) ?s1 ?_
  case s1 =>
   iterate 4 refine⟨?_,?_⟩
   trivial
   iterate 2 focus
    refine AX fun _ w' he R hR=>?_;have hc:=he.cells;have cq0:=(ea.ext he).cells8;have cq1:=(e4.ext he).cells4;go_simp;exact Bo hR
   ·refine AX fun _ w' he R hR=>?_
    go_simp;exact Ba (Dr _ p w' (HC.out.1.ext (hx.trans he))) hR
   iterate 1 focus
    refine AX fun _ w' he R hR=>?_;have hc:=he.cells;have cq0:=(ea.ext he).cells8;have cq1:=(e4.ext he).cells4;go_simp;exact Bo hR
  intro γ w8 hx8 hF;have p2:Br w8 (γ 2) p:=Ak.get hF 2 Ab;clear hF;simp only[Bf,Nat.reduceAdd];generalize γ 2=g2 at *;clear γ;have hm8:=Hr.out.ext hx8;obtain⟨b7,A7,n7,c7,b8,A8,n8,c8,rfl⟩:=p2.cells;have HQ:=Ad (Ai p2 hm8);have hx9:=hx.trans hx8;replace ez:=ez.ext hx8;clear p2 cea fea ce4 fe4;have cez:=ez.cells8;have fez:=ez.frozen;go_wp2;obtain⟨W6,eW6,ez',U⟩:=ez.put8 (.bool b7) (.slice A7 n7 c7) (.bool b8) (.slice A8 n8 c8) (.bool b5) (.slice B5 m5 e5) (.bool b6) (.slice B6 m6 e6) rfl rfl rfl rfl rfl rfl rfl rfl
  rw[<-eW6];have hr1:=Br.kd HQ.out.1 U.kd;have hr2:=Br.kd HQ.out.2 U.kd;replace hx9:=U.from_ hx9 Aj;clear eW6 ez cez fez;have ez:=ez';have cez:=ez.cells8;have fez:=ez.frozen;refine bodyPost_ret (v := .agg #[.bool b7,.slice A7 n7 c7,.bool b8,.slice A8 n8 c8,.bool b5,.slice B5 m5 e5,.bool b6,.slice B6 m6 e6]) (by simp[results,Tryz.results78,go_sem,cez]) rfl ?_;exact Ag.mk ⟨_,_,_,_,_,_,_,_,_,_,_,_,_,_,_,_,rfl,hr1,hr2⟩ hx9
 ·go_wp2_with fail
  refine Cu 4 [14,15,16,17] [5,2] [_,_] [(kv ?_),(kv ?_),(kv ?_),(fun γ=>γ 3)] (fun γ w'=>[True,True,True,Br w' (γ 3) q]) ?s2 ?_
  case s2 =>
   iterate 4 refine⟨?_,?_⟩
   trivial
   iterate 3 focus
    refine AX fun _ w' he R hR=>?_;have hc:=he.cells;have cq0:=(ea.ext he).cells8;have cq1:=(e4.ext he).cells4;go_simp;exact Bo hR
   ·refine AX fun _ w' he R hR=>?_
    go_simp;exact Ba (Dr _ q w' (HC.out.2.1.ext (hx.trans he))) hR
  intro γ w8 hx8 hF;have p3:Br w8 (γ 3) q:=Ak.get hF 3 Ab;clear hF;simp only[Bf,Nat.reduceAdd];generalize γ 3=g3 at *;clear γ;have hm8:=Hr.out.ext hx8;obtain⟨b7,A7,n7,c7,b8,A8,n8,c8,rfl⟩:=p3.cells;have HQ:=Ad (Ai hm8 p3);have hx9:=hx.trans hx8;replace ez:=ez.ext hx8;clear p3 cea fea ce4 fe4;have cez:=ez.cells8;have fez:=ez.frozen;go_wp2;obtain⟨W6,eW6,ez',U⟩:=ez.put8 (.bool b5) (.slice B5 m5 e5) (.bool b6) (.slice B6 m6 e6) (.bool b7) (.slice A7 n7 c7) (.bool b8) (.slice A8 n8 c8) rfl rfl rfl rfl rfl rfl rfl rfl
  rw[<-eW6];have hr1:=Br.kd HQ.out.1 U.kd;have hr2:=Br.kd HQ.out.2 U.kd;replace hx9:=U.from_ hx9 Aj;clear eW6 ez cez fez;have ez:=ez';have cez:=ez.cells8;have fez:=ez.frozen;refine bodyPost_ret (v := .agg #[.bool b5,.slice B5 m5 e5,.bool b6,.slice B6 m6 e6,.bool b7,.slice A7 n7 c7,.bool b8,.slice A8 n8 c8]) (by simp[results,Tryz.results78,go_sem,cez]) rfl ?_;exact Ag.mk ⟨_,_,_,_,_,_,_,_,_,_,_,_,_,_,_,_,rfl,hr1,hr2⟩ hx9
set_option maxRecDepth 20000 in
theorem Ry(v u:Value)(p q:Rat)(w:World)(hv:BF w v p)(hu:BF w u q) :
  Be 82 #[v,u] w (fun r w'=>Es w' r p q):=by
 have HC:=Ad (Ai hv hu);obtain⟨b,B,m1,e1,b',B',m1',e1',x0,y0,rfl,-⟩:=hv.form;obtain⟨d,E,m2,e2,d',E',m2',e2',x1,y1,rfl,-⟩:=hu.form;clear hv hu
 go_enter Tryz.func82,Tryz.ntmps82
 obtain⟨W1,eW1,ea,y1⟩:=Bg.made w 28 #[.bool b,.slice B m1 e1,.bool b',.slice B' m1' e1'] (by simp[Ae]);obtain⟨W2,eW2,ec,y2⟩:=Bg.made W1 28 #[.bool d,.slice E m2 e2,.bool d',.slice E' m2' e2'] (by simp[Ae]);obtain⟨W3,eW3,ez,y3⟩:=Bg.made W2 30 #[.bool false,.slice none 0 0,.bool false,.slice none 0 0,.bool false,.slice none 0 0,.bool false,.slice none 0 0] (by simp[Ae]);have s1:W1.heap.size=w.heap.size+1:=by rw[eW1,World.size_alloc]
 have s2:W2.heap.size=w.heap.size+1+1:=by rw[eW2,World.size_alloc,s1]
 rw[s1]at ec;rw[s2]at ez;have hx:=(y1.trans y2).trans y3;replace ea:=ea.ext (y2.trans y3);replace ec:=ec.ext y3
 go_upto_region 1 with(fail)
 rw[<-eW1,<-eW2,<-eW3];clear eW1 eW2 eW3 y1 y2 y3 s1 s2;have cea:=ea.cells4;have fea:=ea.frozen;have cec:=ec.cells4;have fec:=ec.frozen
 go_wp2_with fail
 refine Cu 4 [5,6,7,8] [2,3] [_,_] [(kv ?_),(fun γ=>γ 1),(kv ?_),(fun γ=>γ 3)] (fun γ w'=>[True,Br w' (γ 1) p,True,Br w' (γ 3) q]) ?s1 ?_
 case s1 =>
  iterate 4 refine⟨?_,?_⟩
  trivial
  iterate 1 focus
   refine AX fun _ w' he R hR=>?_;have hc:=he.cells;have cq0:=(ea.ext he).cells4;have cq1:=(ec.ext he).cells4;go_simp;exact Bo hR
  ·refine AX fun _ w' he R hR=>?_
   go_simp;exact Ba (GI _ p w' (HC.out.1.ext (hx.trans he))) hR
  iterate 1 focus
   refine AX fun _ w' he R hR=>?_;have hc:=he.cells;have cq0:=(ea.ext he).cells4;have cq1:=(ec.ext he).cells4;go_simp;exact Bo hR
  ·refine AX fun _ w' he R hR=>?_
   go_simp;exact Ba (GI _ q w' (HC.out.2.ext (hx.trans he))) hR
 intro γ w8 hx8 hF;have p1:Br w8 (γ 1) p:=Ak.get hF 1 Ab;have p3:Br w8 (γ 3) q:=Ak.get hF 3 Ab;clear hF;simp only[Bf,Nat.reduceAdd];generalize γ 1=g1 at *;generalize γ 3=g3 at *;clear γ;obtain⟨b5,A5,n5,c5,b6,A6,n6,c6,rfl⟩:=p1.cells;obtain⟨b7,A7,n7,c7,b8,A8,n8,c8,rfl⟩:=p3.cells;have HQ:=Ad (Ai p1 p3);replace hx:=hx.trans hx8;replace ez:=ez.ext hx8;clear p1 p3 cea cec fea fec;have cez:=ez.cells8;have fez:=ez.frozen
 go_wp2;obtain⟨W6,eW6,ez',U⟩:=ez.put8 (.bool b5) (.slice A5 n5 c5) (.bool b6) (.slice A6 n6 c6) (.bool b7) (.slice A7 n7 c7) (.bool b8) (.slice A8 n8 c8) rfl rfl rfl rfl rfl rfl rfl rfl;rw[<-eW6];have hr1:=Br.kd HQ.out.1 U.kd;have hr2:=Br.kd HQ.out.2 U.kd;replace hx:=U.from_ hx Aj;clear eW6 ez cez fez;have ez:=ez';have cez:=ez.cells8;have fez:=ez.frozen;refine bodyPost_ret (v := .agg #[.bool b5,.slice A5 n5 c5,.bool b6,.slice A6 n6 c6,.bool b7,.slice A7 n7 c7,.bool b8,.slice A8 n8 c8]) (by simp[results,Tryz.results82,go_sem,cez]) rfl ?_
 exact Ag.mk ⟨_,_,_,_,_,_,_,_,_,_,_,_,_,_,_,_,rfl,hr1,hr2⟩ hx
theorem Yp:(Tryz.prog.info? 30).map (fun i=>(i.zero,i.size,i.bytes))=some (some (.agg #[.bool false,.slice none 0 0,.bool false,.slice none 0 0,.bool false,.slice none 0 0,.bool false,.slice none 0 0]),8,128):=by kernel_rfl
theorem Wt(W:World)(base ty g:Nat)(v:Value)(l:List (Rat×Rat))(p q:Rat){b1 b2 b3 b4:Bool}{A1 A2 A3 A4:Option Addr}{n1 n2 n3 n4 c1 c2 c3 c4:Nat}(h:Cv base 30 W v l)
  (hq:Es W (.agg #[.bool b1,.slice A1 n1 c1,.bool b2,.slice A2 n2 c2,.bool b3,.slice A3 n3 c3,.bool b4,.slice A4 n4 c4]) p q) (hn:l.length<=1000000) (hb:base<=W.heap.size) (hg:g=W.heap.size) :
  ∃ v' w',(Builtin.append_ #[51,51] ty #[v,.slice (some ⟨g,0,none⟩) 1 1]).run Tryz.prog (W.alloc (.cells #[.bool b1,.slice A1 n1 c1,.bool b2,.slice A2 n2 c2,.bool b3,.slice A3 n3 c3,.bool b4,.slice A4 n4 c4] 30)) = .ok v' w' /\
   (Cv base 30 w' v' (l ++ [(p,q)])/\Ch (blk v) W w'/\∀ g∈blk v',g∈blk v\/W.heap.size<=g):=by
 subst hg;obtain⟨i0,hi,hz0,hz1,hz2⟩:=info_parts Yp;have hB:=Bg.new W 30 #[.bool b1,.slice A1 n1 c1,.bool b2,.slice A2 n2 c2,.bool b3,.slice A3 n3 c3,.bool b4,.slice A4 n4 c4] (by simp[Ae]);have hx:=(Ext.refl W).alloc (.cells #[.bool b1,.slice A1 n1 c1,.bool b2,.slice A2 n2 c2,.bool b3,.slice A3 n3 c3,.bool b4,.slice A4 n4 c4] 30);obtain⟨v',w',a,b,c,d⟩:=BA.append_at (P:=Tryz.prog) (x:=(p,q)) (Cv.ext h hx) 51 ty i0 _ 128 Tryz.underlying51 hi hz0 hz1 hz2 rfl (by simp[nodig,Ae,Value.cells]) Ab ⟨W.heap.size,0,none⟩ 1
  #[.bool b1,.slice A1 n1 c1,.bool b2,.slice A2 n2 c2,.bool b3,.slice A3 n3 c3,.bool b4,.slice A4 n4 c4] rfl (hq.ext hx) hB.news (by simp[Value.oneCell']) (by simp[nodig,Ae]) (by simp only[maxLen];omega) Aa (Nat.le_trans hb hx.size) (fun _ _ _ k hq=>Es.kd hq k)
 refine⟨v',w',a,b,(Ch.of_ext hx).trans c,fun g hg=>?_⟩;rcases d g hg with q | q
 ·exact .inl q
 ·right;have:=hx.size;omega
set_option maxRecDepth 20000 in
theorem Vu(a:World)(v:Value)(W:Nat->Rat)(P Q:Rat)(base S D M K N aP:Nat)(hv:Nk base 23 a v W)(hC:KR W S D M)(hK:Mt W (pd W) K)(hPQ:P < Q)(hP:qsz P<=aP)(hQ:qsz Q<=aP)
  (hdeep:∀ d p q,Hp.Node P Q d p q->N<=d->rc W p q<=1) (h0:∀ d p q,Hp.Node P Q d p q->0<=rc W p q) (ht:1+D*(M+(3*aP+N+4)+1)+M+(3*aP+N+4)+1<=100000000000) :
  ∀(n d:Nat) (p q:Rat) (u o:Value) (l:List (Rat×Rat)) (w:World),Hp.Node P Q d p q->N<=n+d->d<=N->Ext a w->KU w u p q->Cv a.heap.size 30 w o l->l.length+(iso (rc W) n p q).length<=1000 ->
   Calls Tryz.prog 64 #[v,o,u] w (Tg a.heap.size 30 w o (l ++ iso (rc W) n p q)):=by
 intro nn;induction nn using Nat.strongRecOn with
 | _ nn ih =>
  intro d p q u o l w hn hN hd hx hu ho hl;obtain⟨hp,hq⟩:=hn.qsz hP hQ;have hin:∀ X (x:Ext w X) y z,BF X y p->BF X z q->Be 51 #[v,y,z] X (fun r _=>r = .int .i64 (rc W p q)):=fun X x y z hy hz=>by
   have:=Zv v y z W p q base S D M (3*aP+N+4) K X (hv.ext (hx.trans x)) hy hz hC hK Aa Aa Aa;have e:((V (EN W (pd W) K) p:Nat):Int) - (V (EN W (pd W) K) q:Nat)=rc W p q:=Jb hK p q;rw[e]at this;exact this
  obtain⟨A0,n0,c0,rfl⟩:=hv.cell;have hu':=hu;obtain⟨d1,A1,n1,c1,d2,A2,n2,c2,d3,A3,n3,c3,d4,A4,n4,c4,rfl,hu1,hu2⟩:=hu;obtain⟨Ao,co,rfl⟩:=ho.len;obtain⟨R,hR⟩:∃ R,R=rc W p q:=⟨_,rfl⟩
  have hR0:=h0 d p q hn;have hRd:=hdeep d p q hn;rw[<-hR]at hin hR0 hRd;have HC:=Ad (Ai hin (Ai hu1 (Ai hu2 (Ai hR (Ai ho (Ai hu' hx))))));clear hin hu1 hu2 hR ho hu' hx
  go_enter Tryz.func64,Tryz.ntmps64
  obtain⟨W1,eW1,ec,y1⟩:=Bg.made w 92 #[.slice A0 n0 c0] (by simp[Ae]);obtain⟨W2,eW2,ea,y2⟩:=Bg.made W1 30 #[.bool d1,.slice A1 n1 c1,.bool d2,.slice A2 n2 c2,.bool d3,.slice A3 n3 c3,.bool d4,.slice A4 n4 c4] (by simp[Ae]);have s1:W1.heap.size=w.heap.size+1:=by rw[eW1,World.size_alloc]
  rw[s1]at ea;have hx:=y1.trans y2;replace ec:=ec.ext y2
  go_upto_region 1 with(fail)
  rw[<-eW1,<-eW2];clear eW1 eW2 y1 y2 s1;obtain⟨cea0,cea1,cea2,cea3,cea4,cea5,cea6,cea7⟩:=ea.cells8;have fea:=ea.frozen;have cec0:=ec.cells1
  go_wp2_with fail
  refine AB (HC.out.1 _ hx _ _ (HC.out.2.1.ext hx) (HC.out.2.2.1.ext hx)) ?_;rintro r4 w4 rfl hx4;clear cea0 cea1 cea2 cea3 cea4 cea5 cea6 cea7 fea cec0;replace ea:=ea.ext hx4;replace ec:=ec.ext hx4;replace hx:=hx.trans hx4;clear hx4;have fin0:R=0->Tg a.heap.size 30 w (.slice Ao l.length co) (l ++ iso (rc W) nn p q) (.returned (.slice Ao l.length co)) w4:=fun h=>by
   rw[Kn (by rw[<-HC.out.2.2.2.1];exact h),List.append_nil];exact⟨_,rfl,HC.out.2.2.2.2.1.ext hx,Ch.of_ext hx,fun g hg => .inl hg⟩
  have H0:=Ad fin0;clear fin0;by_cases hz:R=0
  ·have hb:(R==0)=true:=by simpa using hz
   have HF:=Ad (H0.out hz);clear hz;go_wp2
   go_ret
   exact HF.out
  clear H0;have hb0:(R==0)=false:=by simpa using hz
  by_cases hone:R=1
  ·have hb1:(R==1)=true:=by simpa using hone
   have H1:=Ad hone;have hl9:l.length<=1000000:=by omega
   clear hone hz hl;have hsz4:=hx.size;have has:=HC.out.2.2.2.2.2.2.size;obtain⟨cea0,cea1,cea2,cea3,cea4,cea5,cea6,cea7⟩:=ea.cells8;have fea:=ea.frozen
   go_wp2_with fail
   refine AB (Ry _ _ p q _ (HC.out.2.1.ext hx) (HC.out.2.2.1.ext hx)) ?_;rintro r5 w5 hr5 hx5;have hx6:=hx.trans hx5;clear cea0 cea1 cea2 cea3 cea4 cea5 cea6 cea7 fea ea ec hx5 hx;obtain⟨e1,B1,m1,k1,e2,B2,m2,k2,e3,B3,m3,k3,e4,B4,m4,k4,rfl⟩:=hr5.cells;have H5:=Ad hr5;clear hr5;have hsz5:=hx6.size
   go_wp2_with (at_builtin;refine Av rfl _ _ 51 rfl (.slice Ao l.length co) (.slice (some ⟨w5.heap.size,0,none⟩) 1 1) rfl rfl (Wt w5 a.heap.size _ _ _ l p q (HC.out.2.2.2.2.1.ext hx6) H5.out hl9 Aa rfl) ?_)
   intro v' w7 hown U hat;have HF:Tg a.heap.size 30 w (.slice Ao l.length co) (l ++ iso (rc W) nn p q) (.returned v') w7:=by
    rw[JA (by rw[<-HC.out.2.2.2.1];exact H1.out)];exact⟨_,rfl,hown,(Ch.of_ext hx6).trans U,fun g hg=>(hat g hg).imp id fun q=>Aa⟩
   have HF:=Ad HF;clear hown U hat;go_wp2
   go_ret
   exact HF.out
  ·have hb1:(R==1)=false:=by simpa using hone
   have hR2:2<=R:=by omega
   have hdN:d < N:=by
    rcases Nat.lt_or_ge d N with q | q
    ·exact q
    ·have:=hRd q;omega
   obtain⟨n,rfl⟩:∃ n,nn=n+1:=⟨nn - 1,Aa⟩
   replace ih:=ih n Aa;obtain⟨m,hm⟩:∃ m,m=(p+q) / 2:=⟨_,rfl⟩
   have hiso:iso (rc W) (n+1) p q=iso (rc W) n p m ++ iso (rc W) n m q:=by
    rw[hm];exact KS (by rw[<-HC.out.2.2.2.1];exact hz) (by rw[<-HC.out.2.2.2.1];exact hone)
   obtain⟨n1',n2'⟩:=hn.half;rw[<-hm]at n1' n2';obtain⟨hmq,-⟩:=n2'.qsz hP hQ;have hmid:∀ X (x:Ext w X),Be 112 #[.agg #[.bool d1,.slice A1 n1 c1,.bool d2,.slice A2 n2 c2,.bool d3,.slice A3 n3 c3,.bool d4,.slice A4 n4 c4]] X (fun r w'=>Br w' r m):=fun X x=>by
    have:=RA _ p q (3*aP+N+4) X (HC.out.2.2.2.2.2.1.ext x) Aa Aa Aa;rw[<-hm]at this;exact this
   have HM:=Ad (Ai hmid (Ai hiso (Ai n1' (Ai n2' (show qsz m<=274877906944 by omega)))));clear hmid hiso n1' n2' hmq hm;have HL:=Ad hl;clear hR0 hRd hz hone hl hp hq hn hR2;obtain⟨cea0,cea1,cea2,cea3,cea4,cea5,cea6,cea7⟩:=ea.cells8;have fea:=ea.frozen
   go_wp2_with fail
   refine AB (HM.out.1 _ hx) ?_;rintro r5 w5 hr5 hx5;obtain⟨e1,B1,m1,k1,e2,B2,m2,k2,rfl⟩:=hr5.cells;clear cea0 cea1 cea2 cea3 cea4 cea5 cea6 cea7 fea;replace ea:=ea.ext hx5;replace ec:=ec.ext hx5;replace hx:=hx.trans hx5;clear hx5;obtain⟨W6,eW6,em,y6⟩:=Bg.made w5 28 #[.bool e1,.slice B1 m1 k1,.bool e2,.slice B2 m2 k2] (by simp[Ae]);have hmm:=(hr5.ext y6).has HM.out.2.2.2.2;have hgm:=ea.lt;replace ea:=ea.ext y6
   replace ec:=ec.ext y6;replace hx:=hx.trans y6;clear y6
   go_upto_region 7 with(fail)
   rw[<-eW6];clear eW6 hr5;generalize w5.heap.size=gm at *;have HX:=Ad (Ai hmm hx);clear hmm;have hos:∀ g∈blk (.slice Ao l.length co),g < w.heap.size:=fun g hg=>(BA.blk_ge HC.out.2.2.2.2.1 g hg).2;have HO:=Ad hos;clear hos;have hsz6:=hx.size;have ha6:=HC.out.2.2.2.2.2.2.size;have hlen:(iso (rc W) n p m).length+(iso (rc W) n m q).length+l.length<=1000:=by
    have h1:=HL.out;rw[HM.out.2.1,List.length_append]at h1;omega
   have HLn:=Ad hlen;clear hlen;have hcall1:∀ X,Ext W6 X->Calls Tryz.prog 64 #[.agg #[.slice A0 n0 c0],.slice Ao l.length co,.agg #[.bool d1,.slice A1 n1 c1,.bool d2,.slice A2 n2 c2,.bool e1,.slice B1 m1 k1,.bool e2,.slice B2 m2 k2]] X
     (Tg a.heap.size 30 X (.slice Ao l.length co) (l ++ iso (rc W) n p m)):=fun X x =>
    ih (d+1) p m _ _ l X HM.out.2.2.1 Aa Aa (HC.out.2.2.2.2.2.2.trans (HX.out.2.trans x)) ⟨_,_,_,_,_,_,_,_,_,_,_,_,_,_,_,_,rfl,HC.out.2.1.ext (HX.out.2.trans x),HX.out.1.ext x⟩ (HC.out.2.2.2.2.1.ext (HX.out.2.trans x)) (by have:=HLn.out;omega)
   have hcall2:∀ X r,KD W6 X->Ext a X->Cv a.heap.size 30 X r (l ++ iso (rc W) n p m)->Calls Tryz.prog 64 #[.agg #[.slice A0 n0 c0],r,.agg #[.bool e1,.slice B1 m1 k1,.bool e2,.slice B2 m2 k2,.bool d3,.slice A3 n3 c3,.bool d4,.slice A4 n4 c4]] X
     (Tg a.heap.size 30 X r (l ++ iso (rc W) n p m ++ iso (rc W) n m q)):=fun X r k x hr =>
    ih (d+1) m q _ _ _ X HM.out.2.2.2.1 Aa Aa x ⟨_,_,_,_,_,_,_,_,_,_,_,_,_,_,_,_,rfl,HX.out.1.kd k,(HC.out.2.2.1.ext HX.out.2).kd k⟩ hr (by have:=HLn.out;rw[List.length_append];omega)
   have HK:=Ad (Ai hcall1 hcall2);clear hcall1 hcall2;obtain⟨cea0,cea1,cea2,cea3,cea4,cea5,cea6,cea7⟩:=ea.cells8;have fea:=ea.frozen;obtain⟨cem0,cem1,cem2,cem3⟩:=em.cells4;have fem:=em.frozen;have cec0:=ec.cells1;have hkeep:∀(G:List Nat) (X Y:World),Ch G X Y->(∀ g∈G,g < w.heap.size\/W6.heap.size<=g)->(X.cell? ⟨w.heap.size+1,0,none⟩=some (.bool d1)/\X.cell? ⟨w.heap.size+1,1,none⟩=some (.slice A1 n1 c1)/\X.cell? ⟨w.heap.size+1,2,none⟩=some (.bool d2)/\X.cell? ⟨w.heap.size+1,3,none⟩=some (.slice A2 n2 c2)/\X.cell? ⟨w.heap.size+1,4,none⟩=some (.bool d3)/\X.cell? ⟨w.heap.size+1,5,none⟩=some (.slice A3 n3 c3)/\X.cell? ⟨w.heap.size+1,6,none⟩=some (.bool d4)/\X.cell? ⟨w.heap.size+1,7,none⟩=some (.slice A4 n4 c4)/\X.cell? ⟨gm,0,none⟩=some (.bool e1)/\X.cell? ⟨gm,1,none⟩=some (.slice B1 m1 k1)/\X.cell? ⟨gm,2,none⟩=some (.bool e2)/\X.cell? ⟨gm,3,none⟩=some (.slice B2 m2 k2)/\X.cell? ⟨w.heap.size,0,none⟩=some (.slice A0 n0 c0))->(Y.cell? ⟨w.heap.size+1,0,none⟩=some (.bool d1)/\Y.cell? ⟨w.heap.size+1,1,none⟩=some (.slice A1 n1 c1)/\Y.cell? ⟨w.heap.size+1,2,none⟩=some (.bool d2)/\Y.cell? ⟨w.heap.size+1,3,none⟩=some (.slice A2 n2 c2)/\Y.cell? ⟨w.heap.size+1,4,none⟩=some (.bool d3)/\Y.cell? ⟨w.heap.size+1,5,none⟩=some (.slice A3 n3 c3)/\Y.cell? ⟨w.heap.size+1,6,none⟩=some (.bool d4)/\Y.cell? ⟨w.heap.size+1,7,none⟩=some (.slice A4 n4 c4)/\Y.cell? ⟨gm,0,none⟩=some (.bool e1)/\Y.cell? ⟨gm,1,none⟩=some (.slice B1 m1 k1)/\Y.cell? ⟨gm,2,none⟩=some (.bool e2)/\Y.cell? ⟨gm,3,none⟩=some (.slice B2 m2 k2)/\Y.cell? ⟨w.heap.size,0,none⟩=some (.slice A0 n0 c0)):=fun G X Y U hG ⟨a0,a1,a2,a3,a4,a5,a6,a7,b0,b1,b2,b3,c0⟩=>by
    have gl1:=ea.lt;have gl2:=em.lt;have gl3:=ec.lt;have q:∀ g i x,(w.heap.size<=g/\g < W6.heap.size)->X.cell? ⟨g,i,none⟩=some x->Y.cell? ⟨g,i,none⟩=some x:=fun g i x hg hc=>Vr U (fun hm=>by rcases hG g hm with z | z<;>omega) hc;exact⟨q _ _ _ Aa a0,q _ _ _ Aa a1,q _ _ _ Aa a2,q _ _ _ Aa a3,q _ _ _ Aa a4,q _ _ _ Aa a5,q _ _ _ Aa a6,q _ _ _ Aa a7,q _ _ _ Aa b0,q _ _ _ Aa b1,q _ _ _ Aa b2,q _ _ _ Aa b3,q _ _ _ Aa c0⟩
   have HE:=Ad hkeep;clear hkeep;have hS0:W6.cell? ⟨w.heap.size+1,0,none⟩=some (.bool d1)/\W6.cell? ⟨w.heap.size+1,1,none⟩=some (.slice A1 n1 c1)/\W6.cell? ⟨w.heap.size+1,2,none⟩=some (.bool d2)/\W6.cell? ⟨w.heap.size+1,3,none⟩=some (.slice A2 n2 c2)/\W6.cell? ⟨w.heap.size+1,4,none⟩=some (.bool d3)/\W6.cell? ⟨w.heap.size+1,5,none⟩=some (.slice A3 n3 c3)/\W6.cell? ⟨w.heap.size+1,6,none⟩=some (.bool d4)/\W6.cell? ⟨w.heap.size+1,7,none⟩=some (.slice A4 n4 c4)/\W6.cell? ⟨gm,0,none⟩=some (.bool e1)/\W6.cell? ⟨gm,1,none⟩=some (.slice B1 m1 k1)/\W6.cell? ⟨gm,2,none⟩=some (.bool e2)/\W6.cell? ⟨gm,3,none⟩=some (.slice B2 m2 k2)/\W6.cell? ⟨w.heap.size,0,none⟩=some (.slice A0 n0 c0):=⟨cea0,cea1,cea2,cea3,cea4,cea5,cea6,cea7,cem0,cem1,cem2,cem3,cec0⟩
   have hS1:W6.drew.cell? ⟨w.heap.size+1,0,none⟩=some (.bool d1)/\W6.drew.cell? ⟨w.heap.size+1,1,none⟩=some (.slice A1 n1 c1)/\W6.drew.cell? ⟨w.heap.size+1,2,none⟩=some (.bool d2)/\W6.drew.cell? ⟨w.heap.size+1,3,none⟩=some (.slice A2 n2 c2)/\W6.drew.cell? ⟨w.heap.size+1,4,none⟩=some (.bool d3)/\W6.drew.cell? ⟨w.heap.size+1,5,none⟩=some (.slice A3 n3 c3)/\W6.drew.cell? ⟨w.heap.size+1,6,none⟩=some (.bool d4)/\W6.drew.cell? ⟨w.heap.size+1,7,none⟩=some (.slice A4 n4 c4)/\W6.drew.cell? ⟨gm,0,none⟩=some (.bool e1)/\W6.drew.cell? ⟨gm,1,none⟩=some (.slice B1 m1 k1)/\W6.drew.cell? ⟨gm,2,none⟩=some (.bool e2)/\W6.drew.cell? ⟨gm,3,none⟩=some (.slice B2 m2 k2)/\W6.drew.cell? ⟨w.heap.size,0,none⟩=some (.slice A0 n0 c0):=HE.out [] W6 W6.drew (Ch.of_ext (Ext.refl W6).drew) (fun g hg=>by cases hg) hS0
   clear hS0 cea0 cea1 cea2 cea3 cea4 cea5 cea6 cea7 cem0 cem1 cem2 cem3 cec0 fea fem;clear ih hC hK hPQ hP hQ hdeep h0 ht hN hd hdN hv
   go_region_held3 (fun w'=>w'.cell? ⟨w.heap.size+1,0,none⟩=some (.bool d1)/\w'.cell? ⟨w.heap.size+1,1,none⟩=some (.slice A1 n1 c1)/\w'.cell? ⟨w.heap.size+1,2,none⟩=some (.bool d2)/\w'.cell? ⟨w.heap.size+1,3,none⟩=some (.slice A2 n2 c2)/\w'.cell? ⟨w.heap.size+1,4,none⟩=some (.bool d3)/\w'.cell? ⟨w.heap.size+1,5,none⟩=some (.slice A3 n3 c3)/\w'.cell? ⟨w.heap.size+1,6,none⟩=some (.bool d4)/\w'.cell? ⟨w.heap.size+1,7,none⟩=some (.slice A4 n4 c4)/\w'.cell? ⟨gm,0,none⟩=some (.bool e1)/\w'.cell? ⟨gm,1,none⟩=some (.slice B1 m1 k1)/\w'.cell? ⟨gm,2,none⟩=some (.bool e2)/\w'.cell? ⟨gm,3,none⟩=some (.slice B2 m2 k2)/\w'.cell? ⟨w.heap.size,0,none⟩=some (.slice A0 n0 c0))
    (first | (exact HE.out _ _ _ U2 hG2 (by assumption)) | (exact HE.out _ _ _ U1 hG1 (by assumption)) | (exact hS1))
    ((first
     | (have hU1:=U1;clear hU1;go_at_call 64;refine Calls.mono (HK.out.2 _ _ (((KD.refl W6).drew).trans U1.kd) (U1.from_ (HC.out.2.2.2.2.2.2.trans hx).drew fun g hg=>(BA.blk_ge HC.out.2.2.2.2.1 g hg).1) hown1) ?_;rintro e w2 ⟨r2,rfl,hown2,U2,hat2⟩;have hG2:∀ g∈blk r1,g < w.heap.size\/W6.heap.size<=g:=fun g hg=>(hat1 g hg).imp (HO.out g) id)
     | (go_at_call 64;refine Calls.mono (HK.out.1 W6.drew (Ext.refl W6).drew) ?_;rintro e w1 ⟨r1,rfl,hown1,U1,hat1⟩;have hG1:∀ g∈blk (.slice Ao l.length co),g < w.heap.size\/W6.heap.size<=g:=fun g hg=>Or.inl (HO.out g hg))))
   have hgm1:w1.heap.size > gm:=by
    have hne:gm∉blk (.slice Ao l.length co):=fun hm=>by have:=HO.out _ hm;omega
    exact(Array.getElem?_eq_some_iff.1 (U1.1 gm _ hne em.1)).1
   have UA:Ch (blk (.slice Ao l.length co)) w w1:=(Ch.of_ext hx.drew).trans U1;have HF:Tg a.heap.size 30 w (.slice Ao l.length co) (l ++ iso (rc W) (n+1) p q) (.returned r2) w2:=by
    rw[HM.out.2.1,<-List.append_assoc];refine⟨r2,rfl,hown2,UA.new_trans U2 fun g hg=>(hat1 g hg).imp id fun z=>Nat.le_trans hsz6 z,fun g hg=>?_⟩;rcases hat2 g hg with z | z
    ·exact(hat1 g z).imp id fun z=>Nat.le_trans hsz6 z
    ·right;omega
   have HFF:=Ad HF;clear HF UA hown1 hown2 U1 U2 hat1 hat2 hG1 hG2;go_wp2
   go_ret
   exact HFF.out
set_option maxRecDepth 20000 in
theorem bI(v:Value)(q:Rat)(w:World)(hv:BF w v q)(hs:qsz q<=274877906944):Be 121 #[v] w (fun r w'=>Br w' r (ab q)):=by
 have HV:=Ad hv;obtain⟨b,B,m1,e1,b',B',m1',e1',x0,y0,rfl,-⟩:=hv.form;clear hv;have hsn:sz q.num.natAbs<=274877906944:=by have:=ET q;omega
 have HS:=Ad hsn;clear hs hsn
 go_enter Tryz.func121,Tryz.ntmps121
 obtain⟨W1,eW1,ea,y1⟩:=Bg.made w 28 #[.bool b,.slice B m1 e1,.bool b',.slice B' m1' e1'] (by simp[Ae]);obtain⟨W2,eW2,ez,y2⟩:=Bg.made W1 28 #[.bool false,.slice none 0 0,.bool false,.slice none 0 0] (by simp[Ae]);have s1:W1.heap.size=w.heap.size+1:=by rw[eW1,World.size_alloc]
 rw[s1]at ez;have hx:=y1.trans y2;replace ea:=ea.ext y2
 go_upto_region 1 with(fail)
 rw[<-eW1,<-eW2];clear eW1 eW2 y1 y2 s1;have cea:=ea.cells4;have fea:=ea.frozen
 go_wp2_with fail
 refine AB (GI _ q _ (HV.out.ext hx)) ?_;rintro r3 w3 hr3 hx3;obtain⟨b5,A5,n5,c5,b6,A6,n6,c6,rfl⟩:=hr3.cells;clear cea fea;replace ea:=ea.ext hx3;replace ez:=ez.ext hx3;replace hx:=hx.trans hx3;clear hx3;have cea:=ea.cells4;have fea:=ea.frozen
 go_upto_region 2 with(fail)
 obtain⟨W4,eW,ea',U⟩:=ea.put4 (.bool b5) (.slice A5 n5 c5) (.bool b6) (.slice A6 n6 c6);rw[<-eW];clear eW ea;replace hr3:=hr3.kd U.kd;replace ez:=ez.upd U Aj;replace hx:=U.from_ hx Aj;have ea:=ea';clear U ea';have hnd:AJ W4 (.agg #[.bool b5,.slice A5 n5 c5]) q.num/\AJ W4 (.agg #[.bool b6,.slice A6 n6 c6]) (q.den:Nat):=by
  obtain⟨_,_,_,_,_,_,_,_,e,h1,h2⟩:=hr3;cases e;exact⟨h1,h2⟩
 have HN:=Ad hnd;clear hnd hr3;clear cea fea;have cea:=ea.cells4;have fea:=ea.frozen
 go_wp2_with fail
 refine AB (j6 _ q.num _ (HN.out.1.has (by have:=HS.out;omega))) ?_;rintro r5 w5 hr5 hx5;obtain⟨b7,A7,n7,c7,rfl⟩:=hr5.cells;have HD:=Ad (Ai hr5 (HN.out.2.ext hx5));clear cea fea HN hr5;replace ea:=ea.ext hx5;replace ez:=ez.ext hx5;replace hx:=hx.trans hx5;clear hx5;have cea:=ea.cells4;have fea:=ea.frozen
 go_upto_region 3 with(fail)
 obtain⟨W6,eW6,ea',U⟩:=ea.put42 (.bool b7) (.slice A7 n7 c7) rfl rfl;rw[<-eW6];have HE:=Ad (Ai (HD.out.1.kd U.kd) (HD.out.2.kd U.kd));replace ez:=ez.upd U Ac;replace hx:=U.from_ hx Ac;clear eW6 ea cea fea HD U;have ea:=ea';clear ea';have cea:=ea.cells4;have fea:=ea.frozen;have cez:=ez.cells4;have fez:=ez.frozen;have hq:Br W6 (.agg #[.bool b7,.slice A7 n7 c7,.bool b6,.slice A6 n6 c6]) (ab q):=by
  obtain⟨h1,h2⟩:=fK q;exact⟨_,_,_,_,_,_,_,_,rfl,by rw[h1];exact HE.out.1,by rw[h2];exact HE.out.2⟩
 have Hq:=Ad hq;clear hq HE;go_wp2;have hr:=Hq.out;obtain⟨W8,eW,ez',U⟩:=ez.put4 (.bool b7) (.slice A7 n7 c7) (.bool b6) (.slice A6 n6 c6);rw[<-eW];clear eW ez;replace hr:=hr.kd U.kd;replace hx:=U.from_ hx Aj;have ez:=ez';clear U ez';clear cez fez;have cez:=ez.cells4;have fez:=ez.frozen;refine bodyPost_ret (v := .agg #[.bool b7,.slice A7 n7 c7,.bool b6,.slice A6 n6 c6]) (by simp[results,Tryz.results121,go_sem,cez]) rfl ?_
 exact Ag.mk hr hx
theorem dO(v:Value)(q:Rat)(w:World)(hv:BF w v q):Be 76 #[v] w (fun r w'=>Br w' r (ab q)):=by
 obtain⟨b,A,n,c,b',A',n',c',x,y,rfl,hx,hy,sx,sy,hq⟩:=hv.form;have HX:=Ad hx;have HY:=Ad hy;clear hx hy hv;have hab:ab q=Rat.divInt (x.natAbs:Nat) (y.natAbs:Nat):=by rw[hq];exact VS x y
 rw[hab];clear hq hab
 go_enter Tryz.func76,Tryz.ntmps76
 go_wp2_with fail
 refine Cu 6 [3,4,5,6,7,8] [1] [_] [(kv ?_),(kv ?_),(fun γ=>γ 2),(kv ?_),(kv ?_),(fun γ=>γ 5)] (fun γ w'=>[True,True,AJ w' (γ 2) (x.natAbs:Nat),True,True,AJ w' (γ 5) (y.natAbs:Nat)]) ?s1 ?_
 case s1 =>
  iterate 6 refine⟨?_,?_⟩
  trivial
  iterate 2 focus
   refine AX fun _ w' he R hR=>?_;have hc:=he.cells;go_simp;exact Bo hR
  ·refine AX fun _ w' he R hR=>?_
   go_simp;exact Ba (RG _ x w' (HX.out.ext he.a2)) hR
  iterate 2 focus
   refine AX fun _ w' he R hR=>?_;have hc:=he.cells;go_simp;exact Bo hR
  ·refine AX fun _ w' he R hR=>?_
   go_simp;exact Ba (RG _ y w' (HY.out.ext he.a2)) hR
 intro γ w1 hx1 hF;have p2:AJ w1 (γ 2) (x.natAbs:Nat):=Ak.get hF 2 Ab;have p5:AJ w1 (γ 5) (y.natAbs:Nat):=Ak.get hF 5 Ab;clear hF;simp only[Bf,Nat.reduceAdd];generalize γ 2=g2 at *;generalize γ 5=g5 at *;clear γ
 go_wp2_with fail
 refine AB (I9 _ _ _ _ _ (p2.has CR) (p5.has CR) CR CR) ?_;rintro r w2 hr hx2;replace hx1:=hx1.trans hx2;clear hx2 p2 p5;obtain⟨b5,A5,n5,c5,b6,A6,n6,c6,rfl⟩:=hr.cells;have hc1:=hx1.cells;have hf1:=hx1.frozens;have Hfin:=Ad (Cy hr hx1.a2 (AU.at_ hx1 (g:=w.heap.size+1) Ac (by simp[Ae])) Aa);clear hr;go_wp2;refine bodyPost_ret (v := .agg #[.bool b5,.slice A5 n5 c5,.bool b6,.slice A6 n6 c6]) (by simp[results,Tryz.results76,go_sem,hc1]) rfl ?_
 exact Hfin.out
set_option maxRecDepth 20000 in
theorem ZQ(v:Value)(F:Nat->Rat)(s:Nat)(w:World)(hv:AC 0 w v F)(zF:ZI F)(fF:Af F)(h0:F≠pz)(hs:∀ i,qsz (F i)<=s)(hs9:s<=1000000)(hn:pl F<=1000) :
  Be 67 #[v] w (fun r w'=>∃ j,P2 (EL F (pl F - 1)+1) j/\AJ w' r (2^j)):=by
 have hp:=Bb fF h0;obtain⟨A,c,l,rfl,k1,k2,hA,k3,k4,k5⟩:=hv.form;have HA:=Ad (Ai hA (Ai k3 k5));clear hA k3 k4 k5 hv
 go_enter Tryz.func67,Tryz.ntmps67
 obtain⟨W1,eW1,ez,y1⟩:=Bg.made w 26 #[.bool false,.slice none 0 0] (by simp[Ae])
 go_upto_region 1 with(fail)
 rw[<-eW1];clear eW1;have hx:=y1
 go_wp2_with fail
 refine AB (XX 1 _ Aa Aa) ?_;rintro r2 w2 hr2 hx2;obtain⟨b5,A5,n5,c5,b6,A6,n6,c6,rfl⟩:=hr2.cells;replace ez:=ez.ext hx2;replace hx:=hx.trans hx2;clear hx2;obtain⟨W3,eW3,el,y3⟩:=Bg.made w2 28 #[.bool b5,.slice A5 n5 c5,.bool b6,.slice A6 n6 c6] (by simp[Ae]);have hl:=CQ.mk el (hr2.ext y3);have hgl:=ez.lt;replace ez:=ez.ext y3;replace hx:=hx.trans y3;clear y3;clear hr2 el
 go_upto_region 2 with(fail)
 rw[<-eW3];clear eW3;generalize w2.heap.size=gl at *;have hld:ld F=(l[pl F - 1]'(by have:=HA.out.2.1;omega):Rat):=by rw[<-Cg,HA.out.2.2];rfl
 have hls:=hs (pl F - 1);obtain⟨g,o,b,A2,n2,c2,rfl,h64,q0,q1,hq⟩:=HA.out.1.at_ (j:=pl F - 1) (by have:=HA.out.2.1;omega);have hqh:Bp w (.agg #[.bool b,.slice A2 n2 c2]) (l[pl F - 1]'(by have:=HA.out.2.1;omega)):=hq.has (by
  have h1:F (pl F - 1)=(l[pl F - 1]'(by have:=HA.out.2.1;omega):Rat):=hld;rw[h1,Bh]at hls;omega)
 have hqq:qsz ((l[pl F - 1]'(by have:=HA.out.2.1;omega):Rat))<=274877906944:=by
  have h1:F (pl F - 1)=(l[pl F - 1]'(by have:=HA.out.2.1;omega):Rat):=hld;rw[h1]at hls;omega
 obtain⟨y,hy⟩:∃ y,y=(l[pl F - 1]'(by have:=HA.out.2.1;omega)):=⟨_,rfl⟩
 rw[<-hy]at hld hqh hqq;have HQ:=Ad (Ai hqh (Ai hqq hld));clear hqh hqq hld hy hq hls;replace q0:=hx.cell q0;replace q1:=hx.cell q1
 go_wp2_with fail
 refine AB (Ij _ y _ (HQ.out.1.ext hx)) ?_;rintro r4 w4 hr4 hx4;clear q0 q1;replace ez:=ez.ext hx4;replace hl:=hl.ext hx4;replace hx:=hx.trans hx4;clear hx4
 go_wp2_with fail
 refine AB (bI _ _ _ (hr4.has HQ.out.2.1) HQ.out.2.1) ?_;rintro r5 w5 hr5 hx5;obtain⟨b7,A7,n7,c7,b8,A8,n8,c8,rfl⟩:=hr5.cells;replace ez:=ez.ext hx5;replace hl:=hl.ext hx5;replace hx:=hx.trans hx5;clear hx5;obtain⟨W6,eW6,ed,y6⟩:=Bg.made w5 28 #[.bool b7,.slice A7 n7 c7,.bool b8,.slice A8 n8 c8] (by simp[Ae]);have hd:=CQ.mk ed (hr5.ext y6);rw[<-HQ.out.2.2]at hd;have hgd:=hl.lt;replace ez:=ez.ext y6;replace hl:=hl.ext y6
 replace hx:=hx.trans y6;clear y6;clear hr4 hr5 ed
 go_upto_region 3 with(fail)
 rw[<-eW6];clear eW6;generalize w5.heap.size=gd at *;obtain⟨N,hN⟩:∃ N,pl F=N+1:=⟨pl F - 1,Aa⟩
 have e1:EL F 0+1=((1:Int):Rat):=by show(0:Rat)+1=1;grind
 rw[<-e1]at hl;have HN:=Ad hN;rw[hN]at hn k1 ⊢;rw[Nat.add_sub_cancel,show(((N+1:Nat):Int))=(N:Int)+1 from Aa,show((N:Int)+1 - 1)=(N:Int)from by omega];clear hN hp e1;go_wp2
 go_loopw [25] (fun iv wr=>∃ i:Nat,i<=N/\iv = .int .i64 (i:Nat)/\CQ wr gl 28 (EL F i+1)/\CQ wr gd 28 (ab (ld F))/\Bg wr w.heap.size 26 #[.bool false,.slice none 0 0]/\Ext w wr) (fun iv _=>N - (intOf iv).toNat)
 case atStart=>exact⟨0,Aa,rfl,hl,hd,ez,hx⟩
 case round =>
  clear hl hd ez hx;obtain⟨i,hi,rfl,hl,hd,ez,hx⟩:=hrel;by_cases hiN:i < N
  ·have hls:=hs i
   have hlt:i < l.length:=by have:=HA.out.2.1;have:=HN.out;omega
   have hli:F i=(l[i]:Rat):=by rw[<-Cg hlt,HA.out.2.2]
   obtain⟨g',o',b3,A3,n3,c3,e3,-,q0,q1,hq⟩:=HA.out.1.at_ hlt;cases e3;have hqh:Bp w (.agg #[.bool b3,.slice A3 n3 c3]) l[i]:=hq.has (by rw[hli,Bh]at hls;omega);have hqq:qsz (l[i]:Rat)<=s:=by rw[hli]at hls;exact hls
   obtain⟨yi,hy⟩:∃ y,y=l[i]:=⟨_,rfl⟩
   rw[<-hy]at hli hqh hqq;have HI:=Ad (Ai hqh (Ai hqq hli));clear hqh hqq hli hy hq hls hlt;replace q0:=hx.cell q0;replace q1:=hx.cell q1;obtain⟨W7,eW7,e6,y7⟩:=Bg.made wr 26 #[.bool b3,.slice A3 n3 c3] (by simp[Ae])
   go_upto_region 6 with(fail)
   rw[<-eW7];clear eW7 q0 q1;have hg6:=ez.lt;replace ez:=ez.ext y7;replace hl:=hl.ext y7;replace hd:=hd.ext y7;replace hx:=hx.trans y7;clear y7;generalize wr.heap.size=g6 at *;have HDq:=Ad hd;obtain⟨b9,A9,n9,c9,b10,A10,n10,c10,ed,hdq⟩:=hd;have hqa:qsz (ab (ld F))<=274877906944:=by rw[Ls];have:qsz (ld F)<=s:=hs _;omega
   have hqi:qsz (ab (yi:Rat))<=274877906944:=by rw[Ls];have:=HI.out.2.1;omega
   have hne:ab (ld F)≠0:=fun e=>De fF h0 (TY.1 e);have HB:=Ad (Ai (hdq.has hqa) (Ai hqi hne));clear hqa hqi hne;have hgd2:=ed.lt;have ce6:=e6.cells2;have fe6:=e6.frozen;have ced:=ed.cells4;have fed:=ed.frozen
   go_cut [7,8] (fun pv ev wx=>∃ gc,pv = .pointer (some ⟨gc,0,none⟩)/\ev = .int .i64 0/\CQ wx gc 28 (ab (yi:Rat) / ab (ld F))/\W7.heap.size<=gc/\Ext W7 wx)
   case first =>
    refine Bt 9 [7] (fun x=>10) [30,31,32,33,34,29,35,36,7] [[],[0],[0,1],[],[0,1,2,3],[0,1,2,3,4],[0,1,2,3,4,5],[0,1,2,3,4,5],[],[0,1,2,3,4,5,6,8],[0,1,2,3,4,5,6,7,8,9]] [6,4] [_,_] [(kv ?_),(fun γ=>γ 1),(fun γ=>γ 2),(kv ?_),(fun γ=>γ 4),(fun γ=>γ 4),(fun γ=>γ 6),(kv ?_),(fun γ=>γ 8)] (fun γ w'=>[True,Br w' (γ 1) (yi:Rat),Br w' (γ 2) (ab (yi:Rat)),True,JU w' (γ 4) (ab (yi:Rat) / ab (ld F)),True,Br w' (γ 6) (ab (yi:Rat) / ab (ld F)),True,AZ w' (γ 8) W7.heap.size #[.bool false,.slice none 0 0,.bool false,.slice none 0 0] 28]) K4 BO BO BO BO BO Lm BO JV ?m1 ?s1 ?_ ?l1
    case s1 =>
     iterate 9 refine⟨?_,?_⟩
     trivial
     iterate 1 focus
      refine AX fun _ w' he R hR=>?_;have hc:=he.cells;have cq0:=(e6.ext he).cells2;have cq1:=(ed.ext he).cells4;go_simp;exact Bo hR
     ·refine AX fun _ w' he R hR=>?_
      go_simp;exact Ba (Ij _ yi w' (HI.out.1.ext (hx.trans he))) hR
     ·refine El fun γ w' he hf R hR=>?_;have f1:Br w' (γ 1) (yi:Rat):=hf 1 Ab;clear hf
      go_simp;exact Ba (bI _ _ w' (f1.has (by have:=HI.out.2.1;omega)) (by have:=HI.out.2.1;omega)) hR
     iterate 1 focus
      refine AX fun _ w' he R hR=>?_;have hc:=he.cells;have cq0:=(e6.ext he).cells2;have cq1:=(ed.ext he).cells4;go_simp;exact Bo hR
     ·refine El fun γ w' he hf R hR=>?_;have f2:Br w' (γ 2) (ab (yi:Rat)):=hf 2 Ab;clear hf
      go_simp;exact Ba (Y7 _ _ _ _ w' (f2.has HB.out.2.1) (HB.out.1.ext he) HB.out.2.2) hR
     ·refine AX fun _ w' he R hR=>?_
      have hc:=he.cells;go_simp
      (try go_ints);(try(rw[if_neg Aa]));(try(rw[if_pos Aa]));(try go_simp);(try go_ints)
      exact Bo hR
     ·refine El fun γ w' he hf R hR=>?_;have f4:JU w' (γ 4) (ab (yi:Rat) / ab (ld F)):=hf 4 Ab;clear hf
      obtain⟨a,e,ha⟩:=f4;go_simp;exact hR _ _ (Ext.refl _) rfl ha
     ·refine El fun γ w' he hf R hR=>?_;have f4:JU w' (γ 4) (ab (yi:Rat) / ab (ld F)):=hf 4 Ab;clear hf
      obtain⟨a,e,ha⟩:=f4;have hc:=he.cells;go_simp
      (try go_ints);(try(rw[if_neg Aa]));(try(rw[if_pos Aa]));(try go_simp);(try go_ints)
      exact Bo hR
     ·refine AX fun _ w' he R hR=>?_
      go_simp;exact hR _ _ ((Ext.refl _).alloc _) rfl (AZ.mk (Nat.le_trans Ac he.size) (by simp[Ae]))
    case m1 =>
     exact⟨⟨⟨⟨⟨⟨⟨⟨⟨trivial,(fun γ wA w' e h=>h)⟩,(fun γ wA w' e h=>(show Br wA (γ 1) (yi:Rat)from h).ext e)⟩,(fun γ wA w' e h=>(show Br wA (γ 2) (ab (yi:Rat))from h).ext e)⟩,(fun γ wA w' e h=>h)⟩,(fun γ wA w' e h=>(show JU wA (γ 4) (ab (yi:Rat) / ab (ld F))from h).ext e)⟩,(fun γ wA w' e h=>h)⟩,(fun γ w w' e h=>Br.ext h e)⟩,(fun γ wA w' e h=>h)⟩,(fun γ wA w' e h=>(show AZ wA (γ 8) W7.heap.size #[.bool false,.slice none 0 0,.bool false,.slice none 0 0] 28 from h).ext e)⟩
    case l1 =>
     intro Pn hPs hPn;obtain rfl:=Gp hPs hPn;clear hPs hPn
     ·intro γ w8 hx8 hF hA
      clear hA;have p1:Br w8 (γ 1) (yi:Rat):=(Ak.get hF 1 Ab).resolve_left Ab;have p2:Br w8 (γ 2) (ab (yi:Rat)):=(Ak.get hF 2 Ab).resolve_left Ab;have p4:JU w8 (γ 4) (ab (yi:Rat) / ab (ld F)):=(Ak.get hF 4 Ab).resolve_left Ab;have p6:Br w8 (γ 6) (ab (yi:Rat) / ab (ld F)):=(Ak.get hF 6 Ab).resolve_left Ab;have p8:AZ w8 (γ 8) W7.heap.size #[.bool false,.slice none 0 0,.bool false,.slice none 0 0] 28:=(Ak.get hF 8 Ab).resolve_left Ab
      clear hF;show AV _ _ _ _ 3 [7] 9 _ _;simp only[Bf,Nat.reduceAdd,Ck,Tu];generalize γ 1=g1 at *;generalize γ 2=g2 at *;generalize γ 4=g4 at *;generalize γ 6=g6 at *;generalize γ 8=g8 at *;clear γ;obtain⟨a4,rfl,-⟩:=p4;obtain⟨gc,rfl,hgc,ec⟩:=p8;obtain⟨bx,Ax,nx',cx,by',Ay,ny,cy,rfl⟩:=p6.cells;clear ce6 ced p1 p2;have cec:=ec.cells4;have fec:=ec.frozen
      repeat' first
       | (refine AV.nil ?_;simp only[Gb];go_wp2;done)
       | (refine AV.nil ?_;(try simp only[Gb]);go_wp2)
       | (refine AV.mk _ ⟨?_,trivial⟩ (fun h=>?_)<;>first | exact absurd h Ab | ((try clear h);simp only[CS,Gb];go_wp2;first | show AV _ _ _ _ _ [7] _ _ _ | show AV _ _ _ _ _ [] _ _ _))
      all_goals
       skip;obtain⟨W9,eW,ec',U⟩:=ec.put4 (.bool bx) (.slice Ax nx' cx) (.bool by') (.slice Ay ny cy);rw[<-eW];clear eW ec;replace p6:=p6.kd U.kd;replace hx8:=U.from_ hx8 Aj;have ec:=ec';clear U ec'
       go_meet
       case rel=>exact⟨gc,rfl,rfl,CQ.mk ec p6,hgc,hx8⟩
    intro γ w8 hx8 hF hA;clear hA;have p1:Br w8 (γ 1) (yi:Rat):=Ak.get hF 1 Ab;have p2:Br w8 (γ 2) (ab (yi:Rat)):=Ak.get hF 2 Ab;have p4:JU w8 (γ 4) (ab (yi:Rat) / ab (ld F)):=Ak.get hF 4 Ab;have p6:Br w8 (γ 6) (ab (yi:Rat) / ab (ld F)):=Ak.get hF 6 Ab;have p8:AZ w8 (γ 8) W7.heap.size #[.bool false,.slice none 0 0,.bool false,.slice none 0 0] 28:=Ak.get hF 8 Ab;clear hF;simp only[Bf,Nat.reduceAdd]
    generalize γ 1=g1 at *;generalize γ 2=g2 at *;generalize γ 4=g4 at *;generalize γ 6=g6 at *;generalize γ 8=g8 at *;clear γ;obtain⟨a4,rfl,-⟩:=p4;obtain⟨gc,rfl,hgc,ec⟩:=p8;obtain⟨bx,Ax,nx',cx,by',Ay,ny,cy,rfl⟩:=p6.cells;clear ce6 ced p1 p2;have cec:=ec.cells4;have fec:=ec.frozen;go_wp2;skip;obtain⟨W9,eW,ec',U⟩:=ec.put4 (.bool bx) (.slice Ax nx' cx) (.bool by') (.slice Ay ny cy);rw[<-eW];clear eW ec
    replace p6:=p6.kd U.kd;replace hx8:=U.from_ hx8 Aj;have ec:=ec';clear U ec'
    go_meet
    case rel=>exact⟨gc,rfl,rfl,CQ.mk ec p6,hgc,hx8⟩
   case rest =>
   clear ce6 ced fe6 fed e6 ed hdq;obtain⟨gc,rfl,rfl,hcq,hgc,hx8⟩:=hcut;have hd:CQ W7 gd 28 (ab (ld F)):=HDq.out;have hgl7:=hl.lt;have hgd7:=hd.lt;have hez7:=ez.lt;replace ez:=ez.ext hx8;replace hl:=hl.ext hx8;replace hd:=hd.ext hx8;replace hx:=hx.trans hx8;clear hx8;obtain⟨bx,Ax,nx',cx,by',Ay,ny,cy,ec,hcz⟩:=hcq;have hqq:qsz (ab (yi:Rat) / ab (ld F))<=4*s+4:=by
    have h1:=Fv (ab (yi:Rat)) (ab (ld F));have h2:qsz (ld F)<=s:=hs _;rw[Ls,Ls]at h1;have:=HI.out.2.1;omega
   have HZ:=Ad (Ai (hcz.has Aa) hqq);clear hcz hqq;have cec:=ec.cells4;have fec:=ec.frozen
   go_upto_region 7 with(fail)
   refine Cu 2 [37,38] [7] [_] [(kv ?_),(fun γ=>γ 1)] (fun γ w'=>[True,Br w' (γ 1) ((1:Int):Rat)]) ?s2 ?_
   case s2 =>
    iterate 2 refine⟨?_,?_⟩
    trivial
    iterate 1 focus
     refine AX fun _ w' he R hR=>?_;have hc:=he.cells;have cq0:=(ec.ext he).cells4;go_simp;exact Bo hR
    ·refine AX fun _ w' he R hR=>?_
     go_simp;exact Ba (XX 1 w' Aa Aa) hR
   intro γ w10 hx10 hF;have p1:Br w10 (γ 1) ((1:Int):Rat):=Ak.get hF 1 Ab;clear hF;simp only[Bf,Nat.reduceAdd];generalize γ 1=g1 at *;clear γ
   go_wp2_with fail
   refine AB (UI _ _ (ab (yi:Rat) / ab (ld F)) ((1:Int):Rat) _ (HZ.out.1.ext hx10) (p1.has Ab)) ?_;rintro r11 w11 hr11 hx11;obtain⟨bz,Az,nz,cz',bw,Aw,nw,cw,rfl⟩:=hr11.cells;have x1011:=hx10.trans hx11;clear p1 cec fec;replace ez:=ez.ext x1011;replace hl:=hl.ext x1011;replace hd:=hd.ext x1011;replace ec:=ec.ext x1011;replace hx:=hx.trans x1011;clear x1011;clear hx10 hx11;have cec:=ec.cells4;have fec:=ec.frozen
   go_upto_region 8 with(fail)
   obtain⟨W12,eW,ec',U⟩:=ec.put4 (.bool bz) (.slice Az nz cz') (.bool bw) (.slice Aw nw cw);rw[<-eW];clear eW ec;replace hr11:=hr11.kd U.kd;replace ez:=ez.upd U Aj;replace hl:=hl.upd U Aj;replace hd:=hd.upd U Aj;replace hx:=U.from_ hx Aj;have ec:=ec';clear U ec';obtain⟨bl,Al,nl,cl,bl',Al',nl',cl',el,hlz⟩:=hl;have hqx:qsz (ab (yi:Rat) / ab (ld F)+((1:Int):Rat))<=4*s+8:=by
    have h1:=Ei (ab (yi:Rat) / ab (ld F)) ((1:Int):Rat);have h2:qsz (((1:Int):Rat))=1:=by decide
    have h3:=HZ.out.2;omega
   have hql:qsz (EL F i+1)<=2*s+8:=by
    have h1:=Ei (EL F i) 1;have h2:qsz (1:Rat)=1:=by decide
    have h3:=Js hs (Nat.le_trans (Cf (F 0)) (hs 0)) i;omega
   have HX:=Ad (Ai (hr11.has Aa) (Ai (hlz.has Aa) (show qsz (ab (yi:Rat) / ab (ld F)+((1:Int):Rat))+qsz (EL F i+1) < 274877906944 by omega)));clear hqx hql;have HR:=Ad (Ai hr11 hlz);clear hr11 hlz;have cec:=ec.cells4;have fec:=ec.frozen;have cel:=el.cells4;have fel:=el.frozen
   go_wp2_with fail
   refine AB (Um _ _ _ _ _ HX.out.1 HX.out.2.1 HX.out.2.2) ?_;rintro r13 w13 rfl hx13;clear HX cec fec cel fel;have e13:ab (yi:Rat) / ab (ld F)+((1:Int):Rat) - (EL F i+1)=ab (F i / ld F) - EL F i:=by
    rw[X8,HI.out.2.2];show _+(1:Rat) - _=_;grind
   rw[e13];have hnext:EL F (i+1)=if EL F i < ab (F i / ld F)then ab (F i / ld F)else EL F i:=rfl;replace HR:=Ad (Ai (HR.out.1.ext hx13) (HR.out.2.ext hx13));replace ez:=ez.ext hx13;replace hd:=hd.ext hx13;replace ec:=ec.ext hx13;replace el:=el.ext hx13;replace hx:=hx.trans hx13;clear hx13;by_cases hgt:EL F i < ab (F i / ld F)
   ·have hdec:decide (IU (ab (F i / ld F) - EL F i) > 0)=true:=by rw[Ff,decide_eq_true hgt]
    rw[if_pos hgt]at hnext;have cec:=ec.cells4;have fec:=ec.frozen;have cel:=el.cells4;have fel:=el.frozen
    go_upto_region 10 with(fail)
    have hr13:=HR.out.1;obtain⟨W14,eW,el',U⟩:=el.put4 (.bool bz) (.slice Az nz cz') (.bool bw) (.slice Aw nw cw);rw[<-eW];clear eW el;replace hr13:=hr13.kd U.kd;replace ez:=ez.upd U Aj;replace hd:=hd.upd U Aj;replace hx:=U.from_ hx Aj;have el:=el';clear U el';have hl:=CQ.mk el hr13;rw[show ab (yi:Rat) / ab (ld F)+((1:Int):Rat)=EL F (i+1)+1 from by rw[hnext,X8,HI.out.2.2];rfl]at hl;clear hdec hnext HR HZ e13 hr13
    go_wp2
    go_roundw
    case rel=>exact⟨i+1,Aa,by go_num,hl,hd,ez,hx⟩
    case measure=>simp[intOf];omega
   ·have hdec:decide (IU (ab (F i / ld F) - EL F i) > 0)=false:=by rw[Ff,decide_eq_false hgt]
    rw[if_neg hgt]at hnext;have hl:=CQ.mk el HR.out.2;rw[<-hnext]at hl;clear hnext HR HZ e13;go_wp2
    go_roundw
    case rel=>exact⟨i+1,Aa,by go_num,hl,hd,ez,hx⟩
    case measure=>simp[intOf];omega
  ·obtain rfl:i=N:=by omega
   have ez11:=ez.lt;have hql:qsz (EL F i+1)<=2*s+8:=by
    have h1:=Ei (EL F i) 1;have h2:qsz (1:Rat)=1:=by decide
    have h3:=Js hs (Nat.le_trans (Cf (F 0)) (hs 0)) i;omega
   obtain⟨J,hJ,hJ9⟩:∃ J,P2 (EL F i+1) J/\J<=32*(2*s+8)+1:=P2.qsz (by have:=IB F i;grind) hql;have HJ:=Ad (Ai hJ (show qsz (EL F i+1)<=3000000 by omega));clear hJ hql;have hJ8:J<=100000000:=by omega
   clear hJ9;obtain⟨rr,hrr⟩:∃ r,r=EL F i+1:=⟨_,rfl⟩
   rw[<-hrr]at HJ hl;have Hrr:=Ad hrr;clear hrr hi hiN h0 hs hs9 zF fF hd HQ HA
   go_wp2_with fail
   refine AB (JI 1 _ Aa Aa) ?_;rintro r14 w14 hr14 hx14;obtain⟨b11,A11,n11,c11,rfl⟩:=hr14.cells;replace ez:=ez.ext hx14;replace hl:=hl.ext hx14;replace hx:=hx.trans hx14;clear hx14;obtain⟨W15,eW15,eo,y15⟩:=Bg.made w14 26 #[.bool b11,.slice A11 n11 c11] (by simp[Ae]);have ho:=Bj.mk eo (hr14.kd y15.kd);have hgo:=hl.lt;replace ez:=ez.ext y15;replace hl:=hl.ext y15;replace hx:=hx.trans y15;clear y15;clear eo hr14
   go_wp2;rw[<-eW15];clear eW15;generalize w14.heap.size=go at *
   go_loopw [47] (fun _ wr=>∃ j:Nat,j<=J/\Bj wr go 26 (2^j)/\CQ wr gl 28 rr/\Bg wr w.heap.size 26 #[.bool false,.slice none 0 0]/\Ext w wr) (fun _ wr=>2^(J+1) - kH wr go 26)
   case atStart=>exact⟨0,Aa,ho,hl,ez,hx⟩
   case round =>
    clear ho hl ez hx;obtain⟨j,hj,⟨b7,A7,n7,c7,eo,hoz⟩,⟨bl,Al,nl,cl,bl',Al',nl',cl',el,hlz⟩,ez,hx⟩:=hrel;have Hoz:=Ad (Ai hoz (Ai eo hlz));clear hoz hlz;have hgl3:=el.lt;have hgo3:=eo.lt;have hjz:sz ((2:Int)^j).natAbs<=1+j:=Gg j;have Hjz:=Ad hjz;have hjq:qsz (((2:Int)^j:Int):Rat)<=1+j:=by rw[Bh];omega
    have HS:=Ad (Ai (show sz ((2:Int)^j).natAbs<=1099511627776 by omega) (Ai (show qsz (((2:Int)^j:Int):Rat)<=274877906944 by omega) (show qsz (((2:Int)^j:Int):Rat)+qsz rr < 274877906944 by have:=HJ.out.2;omega)));clear hjz hjq;have ceo:=eo.cells2;have feo:=eo.frozen;have cel:=el.cells4;have fel:=el.frozen
    go_upto_region 12 with(fail)
    refine Cu 3 [47,48,49] [9,3] [_,_] [(kv ?_),(fun γ=>γ 1),(kv ?_)] (fun γ w'=>[True,Br w' (γ 1) (((2:Int)^j:Int):Rat),True]) ?s3 ?_
    case s3 =>
     iterate 3 refine⟨?_,?_⟩
     trivial
     iterate 1 focus
      refine AX fun _ w' he R hR=>?_;have hc:=he.cells;have cq0:=(eo.ext he).cells2;have cq1:=(el.ext he).cells4;go_simp;exact Bo hR
     ·refine AX fun _ w' he R hR=>?_
      go_simp;exact Ba (Ij _ _ w' ((Hoz.out.1.has HS.out.1).ext he)) hR
     iterate 1 focus
      refine AX fun _ w' he R hR=>?_;have hc:=he.cells;have cq0:=(eo.ext he).cells2;have cq1:=(el.ext he).cells4;go_simp;exact Bo hR
    intro γ w16 hx16 hF;have p1:Br w16 (γ 1) (((2:Int)^j:Int):Rat):=Ak.get hF 1 Ab;clear hF;simp only[Bf,Nat.reduceAdd];generalize γ 1=g1 at *;clear γ
    go_wp2_with fail
    refine AB (Um _ _ _ rr _ (p1.has HS.out.2.1) ((Hoz.out.2.2.has (by have:=HJ.out.2;omega)).ext hx16) HS.out.2.2) ?_;rintro r17 w17 rfl hx17;generalize hm:IU ((((2:Int)^j:Int):Rat) - rr)=m;have hm1:=MH (p:=(((2:Int)^j:Int):Rat)) (q:=rr);rw[hm]at hm1;clear hm;have x1617:=hx16.trans hx17;have HO:=Ad (Ai (Hoz.out.1.ext x1617) (Hoz.out.2.2.ext x1617));clear p1 ceo feo cel fel;replace ez:=ez.ext x1617
    replace eo:=eo.ext x1617;replace el:=el.ext x1617;replace hx:=hx.trans x1617;clear x1617;clear hx16 hx17;have hl:=CQ.mk el HO.out.2;by_cases hjJ:j < J
    ·rw[decide_eq_true (show(((2:Int)^j:Int):Rat)<=rr by have:=HJ.out.1.2 j hjJ;rw[G5];exact this)]at hm1
     have ceo:=eo.cells2;have feo:=eo.frozen
     go_wp2_with fail
     refine AB (MG _ _ _ _ _ (HO.out.1.has HS.out.1) (HO.out.1.has HS.out.1)) ?_;rintro r18 w18 hr18 hx18;obtain⟨b8,A8,n8,c8,rfl⟩:=hr18.cells;clear ceo feo el;replace ez:=ez.ext hx18;replace eo:=eo.ext hx18;replace hl:=hl.ext hx18;replace hx:=hx.trans hx18;clear hx18;have ceo:=eo.cells2;have feo:=eo.frozen;go_wp2;obtain⟨W19,eW,eo',U⟩:=eo.put2 (.bool b8) (.slice A8 n8 c8);rw[<-eW];clear eW eo;replace hr18:=hr18.kd U.kd
     replace ez:=ez.upd U Aj;replace hl:=hl.upd U Aj;replace hx:=U.from_ hx Aj;have eo:=eo';clear U eo';rw[show(2:Int)^j+2^j=2^(j+1) by rw[Int.pow_succ];omega]at hr18;have ho:=Bj.mk eo hr18;have hb1:=Lr ho;have hb2:=Lr (Bj.mk Hoz.out.2.1 Hoz.out.1);have hpw:2^(j+1)<=2^J:=Nat.pow_le_pow_right Ab hjJ
     go_roundw
     case rel=>exact⟨j+1,hjJ,ho,hl,ez,hx⟩
     case measure =>
      rw[hb1,hb2];rw[Int.natAbs_pow,Int.natAbs_pow];show 2^(J+1) - 2^(j+1) < 2^(J+1) - 2^j;have h1:2^(J+1)=2*2^J:=Nat.pow_succ';have h2:2^(j+1)=2*2^j:=Nat.pow_succ';have h3:=Nat.two_pow_pos j;omega
    ·obtain rfl:j=J:=by omega
     rw[decide_eq_false (show ¬ (((2:Int)^j:Int):Rat)<=rr by have:=HJ.out.1.1;rw[G5];grind)]at hm1;have ceo:=eo.cells2;have feo:=eo.frozen;have cez:=ez.cells2;have fez:=ez.frozen
     go_upto_region 14 with(fail)
     have hr:=HO.out.1;go_wp2;obtain⟨W3,eW,ez',U⟩:=ez.put2 (.bool b7) (.slice A7 n7 c7);rw[<-eW];clear eW ez;replace hr:=hr.kd U.kd;replace hx:=U.from_ hx Aj;have ez:=ez';clear U ez';clear ceo feo cez fez;have cez:=ez.cells2;have fez:=ez.frozen;refine bodyPost_ret (v := .agg #[.bool b7,.slice A7 n7 c7]) (by simp[results,Tryz.results67,go_sem,cez]) rfl ?_;have hfin:=HJ.out.1;rw[Hrr.out]at hfin;exact Ag.mk ⟨j,by rw[HN.out];exact hfin,hr⟩ hx
theorem NM(v:Value)(F:Nat->Rat)(D M:Nat)(w:World)(hv:AC 0 w v F)(hR:Pg F D M):Be 50 #[v] w (fun r w'=>Nk w.heap.size 23 w' r (Bw F)):=by
 obtain⟨S,n,M1,T,h1⟩:=hR.sim;obtain⟨S2,h2⟩:=hR.chn;exact aG v F (Bw F) S n M1 T S2 D M w hv h1 rfl h2
theorem YO(v:Value)(F:Nat->Rat)(D M:Nat)(w:World)(hv:AC 0 w v F)(hR:Pg F D M):Be 67 #[v] w (fun r w'=>AJ w' r (2^bx F)):=
 Ag.imp (ZQ v F 1000 w hv hR.z hR.f hR.n0 hR.q Aa hR.pln) fun _ _ ⟨j,h1,h2⟩=>by rw[<-h1.bx];exact h2
theorem Xe(v:Value)(F:Nat->Rat)(D M:Nat)(w:World)(hv:AC 0 w v F)(hR:Pg F D M):Be 52 #[v] w (fun r w'=>Es w' r (-(2:Rat)^bx F) ((2:Rat)^bx F)):=by
 have hb:=fun X (x:Ext w X)=>YO v F D M X (hv.ext x) hR;have hbx:=OC hR.q;obtain⟨j,hj⟩:∃ j,j=bx F:=⟨_,rfl⟩
 rw[<-hj]at hb hbx ⊢;have hz:=Gg j;have hq:=(MW j).1;obtain⟨A0,c0,rfl,-⟩:=hv.shape;have HC:=Ad (Ai hb (Ai (show sz ((2:Int)^j).natAbs<=1099511627776 by omega) (show qsz ((2:Rat)^j)<=274877906944 by omega)));clear hb hbx hj hz hq hv hR
 go_enter Tryz.func52,Tryz.ntmps52
 obtain⟨W1,eW1,ez,y1⟩:=Bg.made w 30 #[.bool false,.slice none 0 0,.bool false,.slice none 0 0,.bool false,.slice none 0 0,.bool false,.slice none 0 0] (by simp[Ae])
 go_upto_region 1 with(fail)
 rw[<-eW1];clear eW1;have hx:=y1;clear y1
 go_wp2_with fail
 refine AB (HC.out.1 _ hx) ?_;rintro r2 w2 hr2 hx2;obtain⟨b5,A5,n5,c5,rfl⟩:=hr2.cells;have H2:=Ad (hr2.has HC.out.2.1);clear hr2;replace ez:=ez.ext hx2;replace hx:=hx.trans hx2;clear hx2
 go_wp2_with fail
 refine AB (Ij _ _ _ H2.out) ?_;rintro r3 w3 hr3 hx3;rw[G5]at hr3;obtain⟨b6,A6,n6,c6,b7,A7,n7,c7,rfl⟩:=hr3.cells;replace ez:=ez.ext hx3;replace hx:=hx.trans hx3;clear hx3;obtain⟨W4,eW4,eb,y4⟩:=Bg.made w3 28 #[.bool b6,.slice A6 n6 c6,.bool b7,.slice A7 n7 c7] (by simp[Ae]);have hb4:=hr3.ext y4;have hgb:=ez.lt;replace ez:=ez.ext y4;replace hx:=hx.trans y4;clear y4;clear hr3 H2
 go_upto_region 2 with(fail)
 rw[<-eW4];clear eW4;generalize w3.heap.size=gb at *;have HB:=Ad (Ai hb4 (hb4.has HC.out.2.2));clear hb4;have ceb:=eb.cells4;have feb:=eb.frozen;refine Cu 3 [7,8,9] [3] [_] [(kv ?_),(fun γ=>γ 1),(kv ?_)] (fun γ w'=>[True,Br w' (γ 1) (-(2:Rat)^j),True]) ?s1 ?_
 case s1 =>
  iterate 3 refine⟨?_,?_⟩
  trivial
  iterate 1 focus
   refine AX fun _ w' he R hR=>?_;have hc:=he.cells;have cq0:=(eb.ext he).cells4;go_simp;exact Bo hR
  ·refine AX fun _ w' he R hR=>?_
   go_simp;exact Ba (bT _ _ w' (HB.out.2.ext he)) hR
  iterate 1 focus
   refine AX fun _ w' he R hR=>?_;have hc:=he.cells;have cq0:=(eb.ext he).cells4;go_simp;exact Bo hR
 intro γ w5 hx5 hF;have p1:Br w5 (γ 1) (-(2:Rat)^j):=Ak.get hF 1 Ab;clear hF;simp only[Bf,Nat.reduceAdd];generalize γ 1=g1 at *;clear γ;obtain⟨b8,A8,n8,c8,b9,A9,n9,c9,rfl⟩:=p1.cells;have HF:=Ad (Ai p1 (HB.out.1.ext hx5));clear ceb feb p1;replace ez:=ez.ext hx5;replace hx:=hx.trans hx5;clear hx5;have p1:=HF.out.1;have p2:=HF.out.2;clear HF;have cez:=ez.cells8;have fez:=ez.frozen;go_wp2;obtain⟨W6,eW,ez',U⟩:=ez.put8 (.bool b8) (.slice A8 n8 c8) (.bool b9) (.slice A9 n9 c9) (.bool b6) (.slice A6 n6 c6) (.bool b7) (.slice A7 n7 c7)
 rw[<-eW];clear eW ez;replace p1:=p1.kd U.kd;replace p2:=p2.kd U.kd;replace hx:=U.from_ hx Aj;have ez:=ez';clear U ez';clear cez fez;have cez:=ez.cells8;have fez:=ez.frozen;refine bodyPost_ret (v := .agg #[.bool b8,.slice A8 n8 c8,.bool b9,.slice A9 n9 c9,.bool b6,.slice A6 n6 c6,.bool b7,.slice A7 n7 c7]) (by simp[results,Tryz.results52,go_sem,cez]) rfl ?_;exact Ag.mk ⟨_,_,_,_,_,_,_,_,_,_,_,_,_,_,_,_,rfl,p1,p2⟩ hx
theorem XH(v u0:Value)(l:List Int)(p q:Rat)(D M t:Nat)(w:World)(hv:Dq 0 w v l)(hu0:KU w u0 p q)(hn:l.length<=1000000)(hR:Dn (cz l)=0->Pg (cz l) D M)(hp:qsz p<=t)(hq:qsz q<=t)(ht:t<=10000000) :
  Be 16 #[v,u0] w (fun r _=>K9 (cz l) p q r):=by
 have HV:=Ad (Ai hv (Ai hR (Ai hp hq)));obtain⟨A,c,rfl⟩:=hv.len;obtain⟨b1,B1,m1,k1,b2,B2,m2,k2,b3,B3,m3,k3,b4,B4,m4,k4,rfl,hi1,hi2⟩:=hu0;have hsg:=Ff (p:=p) (q:=q);have HI:=Ad (Ai hi1 (Ai hi2 (show qsz p+qsz q < 274877906944 by omega)));clear hv hR hi1 hi2;obtain⟨X0,hX0⟩:∃ X,X=rc (Bw (cz l)) p q:=⟨_,rfl⟩
 have HX0:=Ad hX0;clear hX0
 go_enter Tryz.func16,Tryz.ntmps16
 obtain⟨W1,eW1,eb,y1⟩:=Bg.made w 30 #[.bool b1,.slice B1 m1 k1,.bool b2,.slice B2 m2 k2,.bool b3,.slice B3 m3 k3,.bool b4,.slice B4 m4 k4] (by simp[Ae])
 go_upto_region 1 with(fail)
 rw[<-eW1];clear eW1;have hx:=y1;clear y1
 go_wp2_with fail
 refine AB (Tj _ l _ (HV.out.1.ext hx) hn) ?_;rintro r2 w2 ⟨u,rfl,hu1,hu2⟩ hx2;replace eb:=eb.ext hx2;replace hx:=hx.trans hx2;clear hx2;obtain⟨E,hE⟩:∃ E,E=Dn (cz l):=⟨_,rfl⟩
 have hc:=FJ (cz l);rw[<-hE]at hu1 hu2 hc ⊢;have HE:=Ad hE;clear hE;have fin:E≠0->∀ {W:World},Ext w W->Ag w (fun r _=>K9 (cz l) p q r) (.returned (.tuple #[.int .i64 0,.int .i64 E])) W:=fun hne W h=>Ag.mk (by unfold K9;rw[<-HE.out,if_neg (fun z=>hne z.1),if_neg hne]) h;have Hfin:=Ad fin;clear fin;rcases hc with⟨-,hc⟩ | ⟨-,hc⟩ | ⟨h0,hpl,-,hc⟩
 ·subst hc
  clear hu1 hu2;go_wp2;refine bodyPost_ret (v := .tuple #[.int .i64 0,.int .i64 5]) (by simp[results,Tryz.results16,go_sem]) rfl ?_;exact Hfin.out Ab hx
 ·subst hc
  clear hu1 hu2;go_wp2;refine bodyPost_ret (v := .tuple #[.int .i64 0,.int .i64 7]) (by simp[results,Tryz.results16,go_sem]) rfl ?_;exact Hfin.out Ab hx
 subst hc;have hR:=HV.out.2.1 HE.out.symm;have hu:=hu1 rfl;obtain⟨A1,c1,rfl,-⟩:=hu.shape;have HU:=Ad (Ai hu hR);clear hu1 hu2 hR h0 hu;have h22:=Ext.refl w2;have ceb:=eb.cells8;have feb:=eb.frozen
 go_wp2_with fail
 refine AB (Um _ _ p q _ (HI.out.1.ext hx) (HI.out.2.1.ext hx) HI.out.2.2) ?_;rintro r3 w3 rfl hx3;clear ceb feb;replace eb:=eb.ext hx3;replace hx:=hx.trans hx3;replace h22:=h22.trans hx3;clear hx3;generalize IU (p - q)=m at *;by_cases hqp:q < p
 ·rw[decide_eq_true hqp]at hsg
  have HF:=Ad (show K9 (cz l) p q (.tuple #[.int .i64 0,.int .i64 2]) by unfold K9;rw[<-HE.out,if_neg (fun z=>by have:=z.2;grind),if_pos rfl,if_neg Ah]);go_wp2;refine bodyPost_ret (v := .tuple #[.int .i64 0,.int .i64 2]) (by simp[results,Tryz.results16,go_sem]) rfl ?_;exact Ag.mk HF.out hx
 rw[decide_eq_false hqp]at hsg;have HW:=Ad (HU.out.1.ext h22);have ceb:=eb.cells8;have feb:=eb.frozen
 go_upto_region 6 with(fail)
 refine Cu 6 [21,22,23,24,25,26] [0,3] [_,_] [(kv ?_),(fun γ=>γ 1),(kv ?_),(kv ?_),(kv ?_),(kv ?_)] (fun γ w'=>[True,Nk 0 23 w' (γ 1) (Bw (cz l)),True,True,True,True]) ?s1 ?_
 case s1 =>
  iterate 6 refine⟨?_,?_⟩
  trivial
  iterate 1 focus
   refine AX fun _ w' he R hR=>?_;have hc:=he.cells;go_simp;exact Bo hR
  ·refine AX fun _ w' he R hR=>?_
   go_simp;exact Ba (F:=fun r w''=>Nk 0 23 w'' (r) (Bw (cz l))) (Ag.imp (NM _ (cz l) D M w' (HW.out.ext he) HU.out.2) fun _ _ h=>h.lower (Nat.zero_le _)) hR
  iterate 4 focus
   refine AX fun _ w' he R hR=>?_;have hc:=he.cells;have cq0:=(eb.ext he).cells8;go_simp;exact Bo hR
 intro γ w5 hx5 hF;have p1:Nk 0 23 w5 (γ 1) (Bw (cz l)):=Ak.get hF 1 Ab;clear hF;simp only[Bf,Nat.reduceAdd];generalize γ 1=g1 at *;clear γ;have HP1:=Ad p1;obtain⟨cA,cn,cc,rfl⟩:=p1.cell;have hlim:=HU.out.2.lim;have hin:Be 51 #[.agg #[.slice cA cn cc],.agg #[.bool b1,.slice B1 m1 k1,.bool b2,.slice B2 m2 k2],.agg #[.bool b3,.slice B3 m3 k3,.bool b4,.slice B4 m4 k4]] w5 (fun r _=>r = .int .i64 X0):=by
  obtain⟨S,hC⟩:=HU.out.2.chn;have h9:D*(M+t+1)<=900*(M+t+1):=Nat.mul_le_mul_right _ hlim.2;have:=Zv _ _ _ (Bw (cz l)) p q 0 S D M t (kn (Bw (cz l))) w5 HP1.out (HI.out.1.ext (hx.trans hx5)) (HI.out.2.1.ext (hx.trans hx5)) hC HU.out.2.k HV.out.2.2.1 HV.out.2.2.2 Aa;have e:((V (EN (Bw (cz l)) (pd (Bw (cz l))) (kn (Bw (cz l)))) p:Nat):Int) - (V (EN (Bw (cz l)) (pd (Bw (cz l))) (kn (Bw (cz l)))) q:Nat)=X0:=by
   rw[HX0.out];exact Jb HU.out.2.k _ _
  rw[e]at this;exact this
 have HIN:=Ad hin;clear hin p1
 go_wp2_with fail
 refine AB HIN.out ?_;rintro r6 w6 rfl hx6;have hx7:=(hx.trans hx5).trans hx6;clear hx5 hx6;have HF:=Ad (show K9 (cz l) p q (.tuple #[.int .i64 X0,.int .i64 0]) by unfold K9;rw[<-HE.out,if_pos ⟨rfl,Ah⟩,if_pos rfl,if_pos Ah,HX0.out]);go_wp2;refine bodyPost_ret (v := .tuple #[.int .i64 X0,.int .i64 0]) (by simp[results,Tryz.results16,go_sem]) rfl ?_;exact Ag.mk HF.out hx7
theorem NA(v:Value)(l:List Int)(D M N:Nat)(w:World)(hv:Dq 0 w v l)(hn:l.length<=1000000)(hR:Dn (cz l)=0->Pg (cz l) D M)
  (hdeep:Dn (cz l)=0->∀ d p q,Hp.Node (-(2:Rat)^bx (cz l)) ((2:Rat)^bx (cz l)) d p q->N<=d->rc (Bw (cz l)) p q<=1) (hN:N<=1000000000) (hD:D<=30) :
  Be 25 #[v] w (fun r w'=>X6 w.heap.size 30 (cz l) N r w'):=by
 have HV:=Ad (Ai hv (Ai hR hdeep));obtain⟨A,c,rfl⟩:=hv.len;clear hv hR hdeep
 go_enter Tryz.func25,Tryz.ntmps25
 go_wp2_with fail
 refine AB (Tj _ l _ HV.out.1 hn) ?_;rintro r2 w2 ⟨u,rfl,hu1,hu2⟩ hx;obtain⟨E,hE⟩:∃ E,E=Dn (cz l):=⟨_,rfl⟩
 have hc:=FJ (cz l);rw[<-hE]at hu1 hu2 hc ⊢;have HE:=Ad hE;clear hE;have fin:E≠0->∀ {W:World},Ext w W->Ag w (fun r w'=>X6 w.heap.size 30 (cz l) N r w') (.returned (.tuple #[.slice none 0 0,.int .i64 E])) W:=fun hne W h=>Ag.mk ⟨_,by rw[<-HE.out],fun e=>absurd (HE.out.trans e) hne,fun _=>rfl⟩ h;have Hfin:=Ad fin;clear fin;rcases hc with⟨-,hc⟩ | ⟨-,hc⟩ | ⟨h0,hpl,-,hc⟩
 ·subst hc
  clear hu1 hu2;go_wp2;refine bodyPost_ret (v := .tuple #[.slice none 0 0,.int .i64 5]) (by simp[results,Tryz.results25,go_sem]) rfl ?_;exact Hfin.out Ab hx
 ·subst hc
  clear hu1 hu2;go_wp2;refine bodyPost_ret (v := .tuple #[.slice none 0 0,.int .i64 7]) (by simp[results,Tryz.results25,go_sem]) rfl ?_;exact Hfin.out Ab hx
 subst hc;have hR:=HV.out.2.1 HE.out.symm;have hu:=hu1 rfl;obtain⟨A1,c1,rfl,-⟩:=hu.shape;have HU:=Ad (Ai hu hR);clear hu1 hu2 hR h0 hu
 go_wp2_with fail
 refine AB (NM _ (cz l) D M _ HU.out.1 HU.out.2) ?_;rintro r3 w3 hr3 hx3;have hsz3:=hx3.size;have hszx:=hx.size;obtain⟨cA,cn,cc,rfl⟩:=hr3.cell;have HU3:=Ad (HU.out.1.ext hx3);have HC:=Ad hr3;replace hx:=hx.trans hx3;clear hx3;clear hr3
 go_wp2_with fail
 refine AB (Xe _ (cz l) D M _ HU3.out HU.out.2) ?_;rintro r4 w4 hr4 hx4;have hsz4:=hx4.size;obtain⟨b1,B1,m1,k1,b2,B2,m2,k2,b3,B3,m3,k3,b4,B4,m4,k4,rfl⟩:=hr4.cells;have HI:=Ad hr4;have HX4:=Ad (hx.trans hx4);clear hr4;have hcall:Calls Tryz.prog 64 #[.agg #[.slice cA cn cc],.slice none 0 0,.agg #[.bool b1,.slice B1 m1 k1,.bool b2,.slice B2 m2 k2,.bool b3,.slice B3 m3 k3,.bool b4,.slice B4 m4 k4]] w4
   (Tg w3.heap.size 30 w4 (.slice none 0 0) ([] ++ iso (rc (Bw (cz l))) N (-(2:Rat)^bx (cz l)) ((2:Rat)^bx (cz l)))):=by
  obtain⟨S,hC⟩:=HU.out.2.chn;have hbx:=OC HU.out.2.q;have hqj:=MW (bx (cz l));have hM:=HU.out.2.lim.1;have hpos:=Ca (bx (cz l));have hPQ : -(2:Rat)^bx (cz l) < (2:Rat)^bx (cz l):=by grind
  have hsf:=HU.out.2.sf;have h9:D*(M+(3*100000+N+4)+1)<=30*(M+(3*100000+N+4)+1):=Nat.mul_le_mul_right _ hD;have hdp:=HV.out.2.2 HE.out.symm;have hnodes:=OG hsf hPQ hdp N 0 _ _ (Hp.Node.root _ _) Aa;have hlen:(iso (rc (Bw (cz l))) N (-(2:Rat)^bx (cz l)) ((2:Rat)^bx (cz l))).length<=1000:=by
   have h1:=hnodes.2.1;have h2:rc (Bw (cz l)) (-(2:Rat)^bx (cz l)) ((2:Rat)^bx (cz l))<=1000:=by
    rw[<-Jb HU.out.2.k];unfold rts;have h3:=WH (EN (Bw (cz l)) (pd (Bw (cz l))) (kn (Bw (cz l)))) (-(2:Rat)^bx (cz l));rw[CP]at h3;obtain⟨K0,q1,q2⟩:=G9 hC.f (C9 hC.f) hC.z (Ex hC.z) hC.s hC.d;rw[q1.uniq HU.out.2.k]at q2;have:=hC.e;omega
   omega
  exact Vu w3 _ (Bw (cz l)) _ _ _ S D M (kn (Bw (cz l))) N 100000 HC.out hC HU.out.2.k hPQ Aa Aa hdp (fun d p q hn=>hsf.nonneg (Std.le_of_lt (hn.within hPQ).2.1)) Aa
   N 0 _ _ _ _ [] w4 (Hp.Node.root _ _) Aa Aa hx4 (HI.out.has Aa Aa) (Cv.nil _ _ _) (by simpa using hlen)
 have HK:=Ad hcall;clear hcall
 go_wp2_with fail
 refine Calls.mono HK.out ?_;rintro e w5 ⟨r5,rfl,hown,U,-⟩;have hx5:Ext w w5:=U.from_ HX4.out (fun g hg=>by simp[blk,Value.ownBlock]at hg);have HF:=Ad (show X6 w.heap.size 30 (cz l) N (.tuple #[r5,.int .i64 0]) w5 from⟨r5,by rw[<-HE.out],fun _=>Cv.lower hown Aa,fun e=>absurd HE.out.symm e⟩);clear hown U hx hx4;go_wp2;refine bodyPost_ret (v := .tuple #[r5,.int .i64 0]) (by simp[results,Tryz.results25,go_sem]) rfl ?_
 exact Ag.mk HF.out hx5
theorem WY(v u:Value)(F:Nat->Rat)(p q:Rat)(D M t k base:Nat)(w:World)(hR:Pg F D M)(hD:D<=20)(hp:qsz p<=t)(hq:qsz q<=t)(ht:3*t+k<=4500000000)(hv:Nk base 23 w v (Bw F))(hu:KU w u (Fz (rc (Bw F)) p q k).1 (Fz (rc (Bw F)) p q k).2) :
  Be 81 #[v,u] w (fun r w'=>KU w' r (Fz (rc (Bw F)) p q (k+1)).1 (Fz (rc (Bw F)) p q (k+1)).2):=by
 obtain⟨S,hC⟩:=hR.chn;have hM:=hR.lim.1;obtain⟨z1,z2,z3⟩:=UR (R:=rc (Bw F)) hp hq k;have hm:D*(M+(3*t+k+5)+1)<=20*(M+(3*t+k+5)+1):=Nat.mul_le_mul_right _ hD;refine Ag.imp (iG v u (Bw F) _ _ base S D M (3*t+k+5) (kn (Bw F)) w hv hu hC hR.k Aa Aa z3 Aa) fun r w' h=>?_;rw[Jb hR.k]at h;show KU w' r (hfp _ _).1 (hfp _ _).2;unfold hfp
 split at h
 ·rename_i h1;rw[if_pos h1];exact h
 ·rename_i h1;rw[if_neg h1];exact h
theorem gK(v u:Value)(F:Nat->Rat)(p q:Rat)(D M t base:Nat)(w:World)(hR:Pg F D M)(hD:D<=20)(hp:qsz p<=t)(hq:qsz q<=t)(ht:t<=4500000000)(hv:Nk base 23 w v (Bw F))(hu:KU w u p q) :
  Be 80 #[v,u] w (fun r _=>r = .bool (decide (p < q/\rc (Bw F) p q=1))):=by
 obtain⟨S,hC⟩:=hR.chn;have hM:=hR.lim.1;have hm:D*(M+t+1)<=20*(M+t+1):=Nat.mul_le_mul_right _ hD;refine Ag.imp (jE v u (Bw F) p q base S D M t (kn (Bw F)) w hv hu hC hR.k hp hq Aa) fun r w' h=>?_;rw[h,Jb hR.k];congr 1;by_cases h1:p < q<;>by_cases h2:rc (Bw F) p q=1<;>simp[h1,h2]
set_option maxRecDepth 20000 in
theorem VI(v u0:Value)(l:List Int)(p q:Rat)(n:Int)(D M t:Nat)(w:World)(hv:Dq 0 w v l)(hu0:KU w u0 p q)(hn:l.length<=1000000)(hR:Dn (cz l)=0->Pg (cz l) D M)(hD:D<=20)(hp:qsz p<=t)(hq:qsz q<=t)(ht:t<=1000000000) :
  Be 34 #[v,u0,.int .i64 n] w (fun r w'=>UG (cz l) p q n r w'):=by
 have HV:=Ad (Ai hv (Ai hR (Ai hp hq)));obtain⟨A,c,rfl⟩:=hv.len;obtain⟨b1,B1,m1,k1,b2,B2,m2,k2,b3,B3,m3,k3,b4,B4,m4,k4,rfl,hi1,hi2⟩:=hu0;have HI:=Ad (Ai hi1 hi2);clear hv hR hi1 hi2 hp hq
 go_enter Tryz.func34,Tryz.ntmps34
 obtain⟨W1,eW1,eb,y1⟩:=Bg.made w 30 #[.bool b1,.slice B1 m1 k1,.bool b2,.slice B2 m2 k2,.bool b3,.slice B3 m3 k3,.bool b4,.slice B4 m4 k4] (by simp[Ae]);obtain⟨W2,eW2,ez,y2⟩:=Bg.made W1 30 #[.bool false,.slice none 0 0,.bool false,.slice none 0 0,.bool false,.slice none 0 0,.bool false,.slice none 0 0] (by simp[Ae]);have hs1:W1.heap.size=w.heap.size+1:=by rw[eW1];simp
 rw[hs1]at ez;replace eb:=eb.ext y2;have hx:=y1.trans y2
 go_upto_region 1 with(fail)
 rw[<-eW1,<-eW2];clear y1 y2 eW1 eW2 hs1
 go_wp2_with fail
 refine AB (Tj _ l _ (HV.out.1.ext hx) hn) ?_;rintro r2 w2 ⟨u,rfl,hu1,hu2⟩ hx2;replace eb:=eb.ext hx2;replace ez:=ez.ext hx2;replace hx:=hx.trans hx2;clear hx2;have hgb:=eb.lt;have hgz:=ez.lt;obtain⟨E,hE⟩:∃ E,E=Dn (cz l):=⟨_,rfl⟩
 have hc:=FJ (cz l);rw[<-hE]at hu1 hu2 hc ⊢;have HE:=Ad hE;clear hE;rcases hc with⟨-,hc⟩ | ⟨-,hc⟩ | ⟨h0,hpl,-,hc⟩
 ·subst hc
  clear hu1 hu2;have cez:=ez.cells8;have fez:=ez.frozen;go_wp2;obtain⟨W9,eW,ez',U⟩:=ez.put8 (.bool false) (.slice none 0 0) (.bool false) (.slice none 0 0) (.bool false) (.slice none 0 0) (.bool false) (.slice none 0 0);rw[<-eW];clear eW ez;replace hx:=U.from_ hx Aj;have ez:=ez';clear U ez';clear cez fez;have cez:=ez.cells8;have fez:=ez.frozen;refine bodyPost_ret (v := .tuple #[.agg #[.bool false,.slice none 0 0,.bool false,.slice none 0 0,.bool false,.slice none 0 0,.bool false,.slice none 0 0],.int .i64 5]) (by simp[results,Tryz.results34,go_sem,cez]) rfl ?_
  exact Ag.mk ⟨_,5,rfl,fun e=>absurd e Ab,fun _=>rfl,by rw[<-HE.out];rw[if_pos Ab]⟩ hx
 ·subst hc
  clear hu1 hu2;have cez:=ez.cells8;have fez:=ez.frozen;go_wp2;obtain⟨W9,eW,ez',U⟩:=ez.put8 (.bool false) (.slice none 0 0) (.bool false) (.slice none 0 0) (.bool false) (.slice none 0 0) (.bool false) (.slice none 0 0);rw[<-eW];clear eW ez;replace hx:=U.from_ hx Aj;have ez:=ez';clear U ez';clear cez fez;have cez:=ez.cells8;have fez:=ez.frozen;refine bodyPost_ret (v := .tuple #[.agg #[.bool false,.slice none 0 0,.bool false,.slice none 0 0,.bool false,.slice none 0 0,.bool false,.slice none 0 0],.int .i64 7]) (by simp[results,Tryz.results34,go_sem,cez]) rfl ?_
  exact Ag.mk ⟨_,7,rfl,fun e=>absurd e Ab,fun _=>rfl,by rw[<-HE.out];rw[if_pos Ab]⟩ hx
 subst hc;have hR:=HV.out.2.1 HE.out.symm;have hu:=hu1 rfl;obtain⟨A1,c1,rfl,-⟩:=hu.shape;have HU:=Ad (Ai hu hR);clear hu1 hu2 hR h0 hu;by_cases hn0:n < 0
 ·skip
  have cez:=ez.cells8;have fez:=ez.frozen;go_wp2;obtain⟨W9,eW,ez',U⟩:=ez.put8 (.bool false) (.slice none 0 0) (.bool false) (.slice none 0 0) (.bool false) (.slice none 0 0) (.bool false) (.slice none 0 0);rw[<-eW];clear eW ez;replace hx:=U.from_ hx Aj;have ez:=ez';clear U ez';clear cez fez;have cez:=ez.cells8;have fez:=ez.frozen;refine bodyPost_ret (v := .tuple #[.agg #[.bool false,.slice none 0 0,.bool false,.slice none 0 0,.bool false,.slice none 0 0,.bool false,.slice none 0 0],.int .i64 2]) (by simp[results,Tryz.results34,go_sem,cez]) rfl ?_
  exact Ag.mk ⟨_,2,rfl,fun e=>absurd e Ab,fun _=>rfl,by rw[<-HE.out];rw[if_neg Ab,if_pos (.inl hn0)]⟩ hx
 by_cases hn1:1000 < n
 ·skip
  have cez:=ez.cells8;have fez:=ez.frozen;go_wp2;obtain⟨W9,eW,ez',U⟩:=ez.put8 (.bool false) (.slice none 0 0) (.bool false) (.slice none 0 0) (.bool false) (.slice none 0 0) (.bool false) (.slice none 0 0);rw[<-eW];clear eW ez;replace hx:=U.from_ hx Aj;have ez:=ez';clear U ez';clear cez fez;have cez:=ez.cells8;have fez:=ez.frozen;refine bodyPost_ret (v := .tuple #[.agg #[.bool false,.slice none 0 0,.bool false,.slice none 0 0,.bool false,.slice none 0 0,.bool false,.slice none 0 0],.int .i64 2]) (by simp[results,Tryz.results34,go_sem,cez]) rfl ?_
  exact Ag.mk ⟨_,2,rfl,fun e=>absurd e Ab,fun _=>rfl,by rw[<-HE.out];rw[if_neg Ab,if_pos (.inr hn1)]⟩ hx
 obtain⟨N,rfl⟩:∃ N:Nat,n=N:=⟨n.toNat,Aa⟩
 have hN:N<=1000:=by omega
 have HNN:=Ad (show ¬ ((N:Int) < 0\/1000 < (N:Int))from Aa)
 go_wp2_with fail
 refine AB (NM _ (cz l) D M _ HU.out.1 HU.out.2) ?_;rintro r3 w3 hr3 hx3;obtain⟨cA,cn,cc,rfl⟩:=hr3.cell;obtain⟨W4,eW4,ec,y4⟩:=Bg.made w3 92 #[.slice cA cn cc] (by simp[Ae]);have hcn:=hr3.ext y4;have hx34:=hx3.trans y4;have hgc:w2.heap.size<=w3.heap.size:=hx3.size;replace eb:=eb.ext hx34;replace ez:=ez.ext hx34;replace hx:=hx.trans hx34;clear hx34;clear hr3 hx3 y4
 go_upto_region 7 with(fail)
 rw[<-eW4];clear eW4;generalize w3.heap.size=gc at *;have ceb:=eb.cells8;have feb:=eb.frozen;have cec0:=ec.cells1;have HC:=Ad hcn;clear hcn
 go_wp2_with fail
 refine AB (gK _ _ (cz l) p q D M t _ _ HU.out.2 hD HV.out.2.2.1 HV.out.2.2.2 Aa HC.out ⟨_,_,_,_,_,_,_,_,_,_,_,_,_,_,_,_,rfl,HI.out.1.ext hx,HI.out.2.ext hx⟩) ?_;rintro r5 w5 rfl hx5;have hcn:=HC.out.ext hx5;clear ceb feb cec0 HC;replace eb:=eb.ext hx5;replace ez:=ez.ext hx5;replace ec:=ec.ext hx5;replace hx:=hx.trans hx5;clear hx5;by_cases hone:p < q/\rc (Bw (cz l)) p q=1
 case neg =>
  rw[decide_eq_false hone];clear hcn;have cez:=ez.cells8;have fez:=ez.frozen;go_wp2;obtain⟨W9,eW,ez',U⟩:=ez.put8 (.bool false) (.slice none 0 0) (.bool false) (.slice none 0 0) (.bool false) (.slice none 0 0) (.bool false) (.slice none 0 0);rw[<-eW];clear eW ez;replace hx:=U.from_ hx Aj;have ez:=ez';clear U ez';clear cez fez;have cez:=ez.cells8;have fez:=ez.frozen;refine bodyPost_ret (v := .tuple #[.agg #[.bool false,.slice none 0 0,.bool false,.slice none 0 0,.bool false,.slice none 0 0,.bool false,.slice none 0 0],.int .i64 12]) (by simp[results,Tryz.results34,go_sem,cez]) rfl ?_
  exact Ag.mk ⟨_,12,rfl,fun e=>absurd e Ab,fun _=>rfl,by rw[<-HE.out];rw[if_neg Ab,if_neg HNN.out,if_neg hone]⟩ hx
 rw[decide_eq_true hone];have HO:=Ad hone;clear hone;have hbx:Xt w5 w.heap.size 30 (Fz (rc (Bw (cz l))) p q 0).1 (Fz (rc (Bw (cz l))) p q 0).2:=⟨_,_,_,_,_,_,_,_,_,_,_,_,_,_,_,_,eb,HI.out.1.ext hx,HI.out.2.ext hx⟩
 clear eb HI;go_wp2
 go_loopw [34] (fun iv wr=>∃ k:Nat,k<=N/\iv = .int .i64 (k:Nat)/\Xt wr w.heap.size 30 (Fz (rc (Bw (cz l))) p q k).1 (Fz (rc (Bw (cz l))) p q k).2/\Bg wr (w.heap.size+1) 30 #[.bool false,.slice none 0 0,.bool false,.slice none 0 0,.bool false,.slice none 0 0,.bool false,.slice none 0 0]/\Bg wr gc 92 #[.slice cA cn cc]/\Nk w2.heap.size 23 wr (.agg #[.slice cA cn cc]) (Bw (cz l))/\Ext w wr) (fun iv _=>N - (intOf iv).toNat)
 case atStart=>exact⟨0,Aa,rfl,hbx,ez,ec,hcn,hx⟩
 case round =>
  clear hbx ez ec hcn hx;obtain⟨k,hk,rfl,⟨d1,D1,e1,f1,d2,D2,e2,f2,d3,D3,e3,f3,d4,D4,e4,f4,eb,j1,j2⟩,ez,ec,hcn,hx⟩:=hrel;by_cases hkN:k < N
  ·have HC:=Ad (Ai hcn (Ai j1 j2));clear hcn j1 j2
   have ceb:=eb.cells8;have feb:=eb.frozen;have cec0:=ec.cells1
   go_wp2_with fail
   refine AB (WY _ _ (cz l) p q D M t k _ _ HU.out.2 hD HV.out.2.2.1 HV.out.2.2.2 Aa HC.out.1 ⟨_,_,_,_,_,_,_,_,_,_,_,_,_,_,_,_,rfl,HC.out.2.1,HC.out.2.2⟩) ?_;rintro r6 w6 ⟨g1,G1,e5,f5,g2,G2,e6,f6,g3,G3,e7,f7,g4,G4,e8,f8,rfl,j1,j2⟩ hx6;have hcn:=HC.out.1.ext hx6;clear ceb feb cec0 HC;replace eb:=eb.ext hx6;replace ez:=ez.ext hx6;replace ec:=ec.ext hx6;replace hx:=hx.trans hx6;clear hx6;have ceb:=eb.cells8
   have feb:=eb.frozen;go_wp2;obtain⟨W9,eW,eb',U⟩:=eb.put8 (.bool g1) (.slice G1 e5 f5) (.bool g2) (.slice G2 e6 f6) (.bool g3) (.slice G3 e7 f7) (.bool g4) (.slice G4 e8 f8);rw[<-eW];clear eW eb;replace j1:=j1.kd U.kd;replace j2:=j2.kd U.kd;replace ez:=ez.upd U Aj;replace ec:=ec.upd U Aj;replace hcn:=hcn.upd U Aj;replace hx:=U.from_ hx Aj;have eb:=eb';clear U eb';clear ceb feb
   go_roundw
   case rel=>exact⟨k+1,Aa,by go_num,⟨_,_,_,_,_,_,_,_,_,_,_,_,_,_,_,_,eb,j1,j2⟩,ez,ec,hcn,hx⟩
   case measure=>simp[intOf];omega
  ·obtain rfl:k=N:=by omega
   clear hcn;have HC:=Ad (Ai j1 j2);clear j1 j2;have ceb:=eb.cells8;have feb:=eb.frozen
   go_wp2_with fail
   refine AB (Ry _ _ _ _ _ HC.out.1 HC.out.2) ?_;rintro r6 w6 ⟨g1,G1,e5,f5,g2,G2,e6,f6,g3,G3,e7,f7,g4,G4,e8,f8,rfl,j1,j2⟩ hx6;clear ceb feb eb ec;replace ez:=ez.ext hx6;replace hx:=hx.trans hx6;clear hx6;have cez:=ez.cells8;have fez:=ez.frozen;go_wp2;obtain⟨W9,eW,ez',U⟩:=ez.put8 (.bool g1) (.slice G1 e5 f5) (.bool g2) (.slice G2 e6 f6) (.bool g3) (.slice G3 e7 f7) (.bool g4) (.slice G4 e8 f8);rw[<-eW]
   clear eW ez;replace j1:=j1.kd U.kd;replace j2:=j2.kd U.kd;replace hx:=U.from_ hx Aj;have ez:=ez';clear U ez';clear cez fez;have cez:=ez.cells8;have fez:=ez.frozen;refine bodyPost_ret (v := .tuple #[.agg #[.bool g1,.slice G1 e5 f5,.bool g2,.slice G2 e6 f6,.bool g3,.slice G3 e7 f7,.bool g4,.slice G4 e8 f8],.int .i64 0]) (by simp[results,Tryz.results34,go_sem,cez]) rfl ?_;exact Ag.mk ⟨_,0,rfl,fun _=>⟨_,_,_,_,_,_,_,_,_,_,_,_,_,_,_,_,rfl,j1,j2⟩,fun e=>absurd rfl e,by rw[<-HE.out,if_neg Ab,if_neg HNN.out,if_pos HO.out]⟩ hx
set_option maxRecDepth 20000 in
theorem kP(v:Value)(ns:List Int)(w:World)(hv:U0 w v ns)(hn:ns.length<=1000)(hs:∀ n∈ns,-4294967296 < n/\n < 4294967296):Be 21 #[v] w (fun r w'=>LQ w.heap.size w' r ns):=by
 obtain⟨g,c,rfl,h1,h2,h3⟩:=hv;have H3:=Ad (Ai h3 hs);clear h3 hs
 go_enter Tryz.func21,Tryz.ntmps21
 go_wp2
 go_loopw [3,4] (fun ov iv wr=>∃ (k:Nat),k<=ns.length/\iv = .int .i64 k/\CE w.heap.size 26 wr ov (ns.take k)/\Ext w wr) (fun _ iv _=>ns.length - (intOf iv).toNat)
 case atStart=>exact⟨0,Nat.zero_le _,rfl,BA.nil _ _ _ _ _,Ext.refl _⟩
 case round =>
  obtain⟨k,hk,rfl,hown,hx⟩:=hrel;have Hown0:=Ad hown;clear hown;by_cases hkl:k < ns.length
  ·have q0:=hx.cell (H3.out.1 k hkl)
   obtain⟨m,hm⟩:∃ m,m=ns[k]:=⟨_,rfl⟩
   rw[<-hm]at q0;have hb:=H3.out.2 ns[k] (List.getElem_mem hkl);rw[<-hm]at hb;have Hm:=Ad hm;clear hm
   go_wp2_with fail
   refine AB (kZ m _ hb.1 hb.2) ?_;rintro r w2 hr hx2;obtain⟨b5,A5,n5,c5,rfl⟩:=hr.cells;have Hr:=Ad hr;clear hr;have hown:=Hown0.out.ext hx2;have Hown:=Ad hown;clear hown;replace hx:=hx.trans hx2;have hsz:=hx.size;have hlk:(ns.take k).length<=1000:=Nat.le_trans (List.length_take_le _ _) Aa;clear hx2 q0 Hown0
   go_wp2_with (at_builtin;refine Av rfl _ _ 22 rfl u3 (.slice (some ⟨w2.heap.size,0,none⟩) 1 1) rfl rfl (FH w2 w.heap.size _ _ _ _ _ Hown.out Hr.out (by first | (rw[AY];omega) | omega) hsz rfl) ?_)
   first | intro v' w5 hown U | rintro v' w5 ⟨hown,U⟩
   replace hx:=(Hown.out.ext ((Ext.refl w2).alloc _)).from_ U (hx.alloc _) (Nat.le_refl _);have Hown':=Ad hown;clear hown U;go_wp2
   go_roundw
   case rel=>exact⟨k+1,Aa,by go_num,by
    rw[List.take_succ_eq_append_getElem hkl,<-Hm.out];exact Hown'.out,hx⟩
   case measure=>simp[intOf]<;>omega
  ·obtain rfl:k=ns.length:=by omega
   have hq:=CE.row Hown0.out;rw[List.take_of_length_le (Nat.le_refl _)]at hq;have Hq:=Ad hq;clear hq Hown0;go_wp2
   go_ret
   exact Ag.mk Hq.out hx
theorem SY(x y:Int)(w:World)(h1 : -4294967296 < x/\x < 4294967296)(h2 : -4294967296 < y/\y < 4294967296):Be 45 #[.int .i64 x,.int .i64 y] w (fun r w'=>Es w' r (x:Rat) (y:Rat)):=by
 go_enter Tryz.func45,Tryz.ntmps45
 obtain⟨W1,eW1,ez,y1⟩:=Bg.made w 30 #[.bool false,.slice none 0 0,.bool false,.slice none 0 0,.bool false,.slice none 0 0,.bool false,.slice none 0 0] (by simp[Ae])
 go_upto_region 1 with(fail)
 rw[<-eW1];clear eW1;have hx:=y1;clear y1
 go_wp2_with fail
 refine AB (lI x _ Aa Aa) ?_;rintro r2 w2 hr2 hx2;obtain⟨b5,A5,n5,c5,b6,A6,n6,c6,rfl⟩:=hr2.cells;have H2:=Ad hr2;clear hr2;have hgz:=ez.lt;replace ez:=ez.ext hx2;replace hx:=hx.trans hx2;clear hx2
 go_wp2_with fail
 refine AB (lI y _ Aa Aa) ?_;rintro r3 w3 hr3 hx3;obtain⟨b7,A7,n7,c7,b8,A8,n8,c8,rfl⟩:=hr3.cells;have p1:=H2.out.ext hx3;replace ez:=ez.ext hx3;replace hx:=hx.trans hx3;clear hx3;have cez:=ez.cells8;have fez:=ez.frozen;go_wp2;obtain⟨W6,eW,ez',U⟩:=ez.put8 (.bool b5) (.slice A5 n5 c5) (.bool b6) (.slice A6 n6 c6) (.bool b7) (.slice A7 n7 c7) (.bool b8) (.slice A8 n8 c8);rw[<-eW];clear eW ez;replace p1:=p1.kd U.kd
 replace hr3:=hr3.kd U.kd;replace hx:=U.from_ hx Aj;have ez:=ez';clear U ez';clear cez fez;have cez:=ez.cells8;have fez:=ez.frozen;refine bodyPost_ret (v := .agg #[.bool b5,.slice A5 n5 c5,.bool b6,.slice A6 n6 c6,.bool b7,.slice A7 n7 c7,.bool b8,.slice A8 n8 c8]) (by simp[results,Tryz.results45,go_sem,cez]) rfl ?_;exact Ag.mk ⟨_,_,_,_,_,_,_,_,_,_,_,_,_,_,_,_,rfl,p1,hr3⟩ hx
theorem Ml(v u:Value)(p q p' q':Rat)(w:World)(hv:Es w v p q)(hu:Es w u p' q'):Be 33 #[v,u] w (fun r _=>r = .bool (decide (p=p'/\q=q'))):=by
 obtain⟨b1,A1,n1,c1,b2,A2,n2,c2,b3,A3,n3,c3,b4,A4,n4,c4,rfl,i1,i2⟩:=hv;obtain⟨d1,B1,m1,k1,d2,B2,m2,k2,d3,B3,m3,k3,d4,B4,m4,k4,rfl,j1,j2⟩:=hu;have H:=Ad (Ai i1 (Ai i2 (Ai j1 j2)));clear i1 i2 j1 j2
 go_enter Tryz.func33,Tryz.ntmps33
 obtain⟨W1,eW1,ea,y1⟩:=Bg.made w 30 #[.bool b1,.slice A1 n1 c1,.bool b2,.slice A2 n2 c2,.bool b3,.slice A3 n3 c3,.bool b4,.slice A4 n4 c4] (by simp[Ae]);obtain⟨W2,eW2,eb,y2⟩:=Bg.made W1 30 #[.bool d1,.slice B1 m1 k1,.bool d2,.slice B2 m2 k2,.bool d3,.slice B3 m3 k3,.bool d4,.slice B4 m4 k4] (by simp[Ae]);have s1:W1.heap.size=w.heap.size+1:=by rw[eW1,World.size_alloc]
 rw[s1]at eb;have hx:=y1.trans y2;replace ea:=ea.ext y2
 go_upto_region 1 with(fail)
 rw[<-eW1,<-eW2];clear eW1 eW2 y1 y2 s1;have cea:=ea.cells8;have fea:=ea.frozen;have ceb:=eb.cells8;have feb:=eb.frozen
 go_wp2_with fail
 refine AB (UL _ _ p p' _ (H.out.1.ext hx) (H.out.2.2.1.ext hx)) ?_;rintro r3 w3 rfl hx3;clear cea fea ceb feb;replace ea:=ea.ext hx3;replace eb:=eb.ext hx3;replace hx:=hx.trans hx3;clear hx3;by_cases hp:p=p'
 ·have hd:decide (p=p')=true:=decide_eq_true hp
  have hq:decide (p=p'/\q=q')=decide (q=q'):=by simp[hp]
  have HQ:=Ad hq;clear hq;rw[hd];have HP:=Ad hp;clear hp;have cea:=ea.cells8;have fea:=ea.frozen;have ceb:=eb.cells8;have feb:=eb.frozen
  go_wp2_with fail
  refine AB (UL _ _ q q' _ (H.out.2.1.ext hx) (H.out.2.2.2.ext hx)) ?_;rintro r4 w4 rfl hx4;generalize decide (q=q')=bb at *;go_wp2
  go_ret
  exact Ag.mk (show Value.bool bb = .bool (decide (p=p'/\q=q'))from by rw[HQ.out]) (hx.trans hx4)
 ·have hd:decide (p=p')=false:=decide_eq_false hp
  have hq:decide (p=p'/\q=q')=false:=decide_eq_false fun z=>hp z.1;have HQ:=Ad hq;clear hq;rw[hd];clear hp;go_wp2
  go_ret
  exact Ag.mk (show Value.bool false = .bool (decide (p=p'/\q=q'))from by rw[HQ.out]) hx
set_option maxRecDepth 20000 in
theorem XE(w:World):Be 12 #[] w (fun r _=>r = .bool true):=by
 have K1:=Ad (show ∀ x∈([-2,0,1]:List Int),sz x.natAbs<=1 by decide +kernel);have hcnt:∀ X v u,Dq 0 X v [-2,0,1]->KU X u 0 2->Be 16 #[v,u] X (fun r _=>r = .tuple #[.int .i64 1,.int .i64 0]):=fun X v u hv hu=>by
  refine Ag.imp (XH v u [-2,0,1] 0 2 _ 32768 10 X hv hu Ab (fun _=>Gn.pg) (by decide +kernel) (by decide +kernel) Ab) fun r _ h=>?_;rw[h,Gn.err,Xb,bO.1,if_pos ⟨rfl,by decide +kernel⟩,if_pos rfl,if_pos (by decide +kernel)]
 have hiso:∀ X v,Dq 0 X v [-2,0,1]->Be 25 #[v] X (fun r w'=>∃ c,r = .tuple #[c,.int .i64 0]/\Cv 0 30 w' c [(-4,0),(0,4)]):=fun X v hv=>by
  obtain⟨N,h1,h2⟩:∃ N,700000000<=N+1/\N+1<=1000000000:=⟨800000000,Aa,Aa⟩
  refine Ag.imp (NA v [-2,0,1] _ 32768 (N+1) X hv Ab (fun _=>Gn.pg) (fun _ d p q hn hd=>Gn.deep d p q hn Aa) h2 (by have:=Gn.chn.2;omega)) fun r w' ⟨c,e1,e2,_⟩=>?_;rw[Gn.err]at e1;have:=e2 Gn.err;rw[eG]at this;exact⟨c,e1,this.lower (Nat.zero_le _)⟩
 have HC:=Ad (Ai hcnt hiso);clear hcnt hiso
 go_enter Tryz.func12,Tryz.ntmps12
 go_wp2_with fail
 refine AB (kP _ [-2,0,1] _ (U0.new w _ [-2,0,1] Ab) Ab Ab) ?_;rintro r1 w1 h1 hx;have H1:=Ad (h1.has (fun x hx=>by have:=K1.out x hx;omega));clear h1;replace hx:=hx.a1
 go_wp2_with fail
 refine AB (SY 0 2 _ Aa Aa) ?_;rintro r2 w2 hr2 hx2;have H2:=Ad (Ai (H1.out.ext hx2) (show KU w2 r2 0 2 from hr2.has (by decide +kernel) (by decide +kernel)));clear hr2 H1;replace hx:=hx.trans hx2;clear hx2
 go_wp2_with fail
 refine AB (HC.out.1 _ _ _ H2.out.1 H2.out.2) ?_;rintro r3 w3 rfl hx3;have H3:=Ad (H2.out.1.ext hx3);clear H2;replace hx:=hx.trans hx3;clear hx3
 go_wp2_with fail
 refine AB (HC.out.2 _ _ H3.out) ?_;rintro r4 w4 ⟨c4,rfl,hown⟩ hx4;replace hx:=hx.trans hx4;clear hx4;obtain⟨A,c,rfl⟩:=hown.len;obtain⟨g,o,b1,A1,n1,c1,b2,A2,n2,c2,b3,A3,n3,c3,b4,A4,n4,c4,rfl,q0,q1,q2,q3,q4,q5,q6,q7,hi0⟩:=hown.at_ (j:=0) Ab;obtain⟨g',o',d1,B1,m1,k1,d2,B2,m2,k2,d3,B3,m3,k3,d4,B4,m4,k4,e1,s0,s1,s2,s3,s4,s5,s6,s7,hi1⟩:=hown.at_ (j:=1) Ab;cases e1;have HI:=Ad (Ai (show Es w4 _ (-4) 0 from hi0) (show Es w4 _ 0 4 from hi1));clear hi0 hi1 hown H3
 rw[Nat.zero_mul,Nat.add_zero]at q0 q1 q2 q3 q4 q5 q6 q7;rw[Nat.one_mul]at s0 s1 s2 s3 s4 s5 s6 s7;have hl2:([(-4,0),(0,4)]:List (Rat×Rat)).length=2:=rfl;rw[hl2];clear hl2
 go_upto_region 4 with(fail)
 refine Cu 27 [19,20,21,22,23,24,25,26,27,28,29,30,31,32,33,34,35,36,37,38,39,40,41,42,43,44,45] [3,2,5,4] [_,_,_,_] [(kv ?_),(kv ?_),(kv ?_),(kv ?_),(kv ?_),(kv ?_),(kv ?_),(kv ?_),(kv ?_),(kv ?_),(kv ?_),(kv ?_),(kv ?_),(kv ?_),(kv ?_),(kv ?_),(kv ?_),(kv ?_),(kv ?_),(fun γ=>γ 19),(kv (.bool true)),(kv ?_),(kv ?_),(kv ?_),(kv ?_),(kv ?_),(fun γ=>γ 26)] (fun γ w'=>[True,True,True,True,True,True,True,True,True,True,True,True,True,True,True,True,True,True,True,Es w' (γ 19) (-4) 0,True,True,True,True,True,True,Es w' (γ 26) 0 4]) ?s1 ?_
 case s1 =>
  iterate 27 refine⟨?_,?_⟩
  trivial
  iterate 3 focus
   refine AX fun _ w' he R hR=>?_;have hc:=he.cells;go_simp;(try go_ints);(try(rw[if_neg Aa]));(try(rw[if_pos Aa]));(try go_simp);(try go_ints)
   exact Bo hR
  iterate 2 focus
   intro γ w' he hf;clear hf;refine⟨by trivial,?_⟩;intro R hR;have hc:=he.cells;go_simp;(try go_ints);(try(rw[if_neg Aa]));(try(rw[if_pos Aa]));(try go_simp);(try go_ints)
   exact Bo hR
  iterate 2 focus
   refine AX fun _ w' he R hR=>?_;have hc:=he.cells;go_simp;(try go_ints);(try(rw[if_neg Aa]));(try(rw[if_pos Aa]));(try go_simp);(try go_ints)
   exact Bo hR
  iterate 2 focus
   intro γ w' he hf;clear hf;refine⟨by trivial,?_⟩;intro R hR;have hc:=he.cells;go_simp;(try go_ints);(try(rw[if_neg Aa]));(try(rw[if_pos Aa]));(try go_simp);(try go_ints)
   exact Bo hR
  iterate 2 focus
   refine AX fun _ w' he R hR=>?_;have hc:=he.cells;go_simp;(try go_ints);(try(rw[if_neg Aa]));(try(rw[if_pos Aa]));(try go_simp);(try go_ints)
   exact Bo hR
  iterate 3 focus
   intro γ w' he hf;clear hf;refine⟨by trivial,?_⟩;intro R hR;have hc:=he.cells;go_simp;(try go_ints);(try(rw[if_neg Aa]));(try(rw[if_pos Aa]));(try go_simp);(try go_ints)
   exact Bo hR
  iterate 2 focus
   refine AX fun _ w' he R hR=>?_;have hc:=he.cells;go_simp;(try go_ints);(try(rw[if_neg Aa]));(try(rw[if_pos Aa]));(try go_simp);(try go_ints)
   exact Bo hR
  iterate 3 focus
   intro γ w' he hf;clear hf;refine⟨by trivial,?_⟩;intro R hR;have hc:=he.cells;have cq0:=he.cell q0;have cq1:=he.cell q1;have cq2:=he.cell q2;have cq3:=he.cell q3;have cq4:=he.cell q4;have cq5:=he.cell q5;have cq6:=he.cell q6;have cq7:=he.cell q7;have cq8:=he.cell s0;have cq9:=he.cell s1;have cq10:=he.cell s2;have cq11:=he.cell s3;have cq12:=he.cell s4;have cq13:=he.cell s5;have cq14:=he.cell s6;have cq15:=he.cell s7
   go_simp;(try go_ints);(try(rw[if_neg Aa]));(try(rw[if_pos Aa]));(try go_simp);(try go_ints)
   exact Bo hR
  ·intro γ w' he hf;clear hf;refine⟨rfl,?_⟩;intro R hR
   go_simp;exact Ba (SY (-4) 0 w' Aa Aa) hR
  ·intro γ w' he hf;have f19:Es w' (γ 19) (-4) 0:=hf 19 Ab;clear hf;refine⟨rfl,?_⟩;intro R hR
   go_simp;exact Ku (Ag.imp (Ml _ _ (-4) 0 (-4) 0 w' (HI.out.1.ext he) f19) fun _ _ h=>h) hR
  iterate 2 focus
   refine AX fun _ w' he R hR=>?_;have hc:=he.cells;go_simp;(try go_ints);(try(rw[if_neg Aa]));(try(rw[if_pos Aa]));(try go_simp);(try go_ints)
   exact Bo hR
  iterate 3 focus
   intro γ w' he hf;clear hf;refine⟨by trivial,?_⟩;intro R hR;have hc:=he.cells;have cq0:=he.cell q0;have cq1:=he.cell q1;have cq2:=he.cell q2;have cq3:=he.cell q3;have cq4:=he.cell q4;have cq5:=he.cell q5;have cq6:=he.cell q6;have cq7:=he.cell q7;have cq8:=he.cell s0;have cq9:=he.cell s1;have cq10:=he.cell s2;have cq11:=he.cell s3;have cq12:=he.cell s4;have cq13:=he.cell s5;have cq14:=he.cell s6;have cq15:=he.cell s7
   go_simp;(try go_ints);(try(rw[if_neg Aa]));(try(rw[if_pos Aa]));(try go_simp);(try go_ints)
   exact Bo hR
  ·intro γ w' he hf;clear hf;refine⟨rfl,?_⟩;intro R hR
   go_simp;exact Ba (SY 0 4 w' Aa Aa) hR
 intro γ w5 hx5 hF;have p19:Es w5 (γ 19) (-4) 0:=Ak.get hF 19 Ab;have p26:Es w5 (γ 26) 0 4:=Ak.get hF 26 Ab;clear hF;simp only[Bf,Nat.reduceAdd];generalize γ 19=g19 at *;generalize γ 26=g26 at *;clear γ;have H5:=Ad (Ai (HI.out.2.ext hx5) p26);clear p19 p26 q0 q1 q2 q3 q4 q5 q6 q7 s0 s1 s2 s3 s4 s5 s6 s7
 go_wp2_with fail
 refine AB (Ml _ _ 0 4 0 4 _ H5.out.1 H5.out.2) ?_;rintro r6 w6 rfl hx6;have hx7:=(hx.trans hx5).trans hx6;have hd:decide ((0:Rat)=0/\(4:Rat)=4)=true:=decide_eq_true ⟨rfl,rfl⟩;rw[hd];clear hx hx5 hx6 hd;go_wp2
 go_ret
 exact Ag.mk rfl hx7
set_option maxRecDepth 20000 in
theorem Zp(g c:Nat)(vs:List (Value×List Int))(w:World)(hn:vs.length<=1000)(hc:vs.length<=c)(hv:N9 w g vs) :
  Be 13 #[.slice (some ⟨g,0,none⟩) vs.length c] w (fun r _=>dB vs r):=by
 have HV:=Ad hv;clear hv
 go_enter Tryz.func13,Tryz.ntmps13
 go_wp2
 go_loopw [3] (fun iv wr=>∃ i:Nat,i<=vs.length/\iv = .int .i64 (i:Nat)/\(∀ j (h:j < vs.length),j < i->PL vs[j].2)/\Ext w wr) (fun iv _=>vs.length - (intOf iv).toNat)
 case atStart=>exact⟨0,Nat.zero_le _,rfl,fun j h h'=>Aa,Ext.refl _⟩
 case round =>
  obtain⟨i,hi,rfl,hst,hx⟩:=hrel;have Hst:=Ad hst;clear hst;by_cases hil:i < vs.length
  ·obtain⟨q0,hp⟩:=HV.out i hil
   obtain⟨A1,c1,e1⟩:=hp.len;rw[e1]at q0 hp;obtain⟨l,hl⟩:∃ l,l=vs[i].2:=⟨_,rfl⟩
   rw[<-hl]at q0 hp;have Hl:=Ad (Ai hl hp);clear hl hp e1;have q:=hx.cell q0;by_cases hlong:12 < l.length
   ·skip
    go_wp2
    go_ret
    exact Ag.mk ⟨false,rfl,fun h=>by cases h⟩ hx
   ·have hd:∀ X,Ext w X->Be 15 #[.slice A1 l.length c1] X (fun r _=>r = .int .i64 ((pl (cz l):Int) - 1)):=fun X x=>FC _ l X (Hl.out.2.ext x) Aa
    have HD:=Ad hd;clear hd;have hpl:pl (cz l)<=l.length:=Bl (BJ l)
    go_wp2_with fail
    refine AB (HD.out _ hx) ?_;rintro r2 w2 rfl hx2;replace hx:=hx.trans hx2;have q:=hx.cell q0;clear hx2;by_cases hdeg:7 < pl (cz l)
    ·skip
     go_wp2
     go_ret
     exact Ag.mk ⟨false,rfl,fun h=>by cases h⟩ hx
    ·go_wp2
     go_loopw [4] (fun kv wk=>∃ k:Nat,k<=l.length/\kv = .int .i64 (k:Nat)/\(∀ j,j < k->(cz l j).num.natAbs<=4095)/\Ext w wk) (fun kv _=>l.length - (intOf kv).toNat)
     case atStart=>exact⟨0,Nat.zero_le _,rfl,fun j h=>Aa,hx⟩
     case round =>
      clear hx q;obtain⟨k,hk,rfl,hsm,hx⟩:=hrel;have Hsm:=Ad hsm;clear hsm;have q:=hx.cell q0;by_cases hkl:k < l.length
      ·obtain⟨g',o',b1,B1,m1,d1,e3,-,r0,r1,hz⟩:=(Hl.out.2.ext hx).at_ hkl
       cases e3;obtain⟨y,hy⟩:∃ y,y=l[k]:=⟨_,rfl⟩
       rw[<-hy]at hz;have Hy:=Ad (Ai hz (show cz l k=(y:Rat) by rw[Cg hkl,hy]));clear hz hy
       go_wp2_with fail
       refine AB (YW _ y _ Hy.out.1) ?_;rintro r3 w3 ⟨b,rfl,hbl⟩ hx3;have HB:=Ad hbl;clear hbl r0 r1 q;replace hx:=hx.trans hx3;have q:=hx.cell q0;clear hx3;by_cases hb:12 < b
       ·skip
        go_wp2
        go_ret
        exact Ag.mk ⟨false,rfl,fun h=>by cases h⟩ hx
       ·go_wp2
        go_roundw
        case rel=>exact⟨k+1,Aa,by go_num,fun j h1=>by
         rcases Nat.lt_or_ge j k with h | h
         ·exact Hsm.out j h
         ·obtain rfl:j=k:=by omega
          rw[Hy.out.2];have h2:=HB.out.1;have h3:2^b<=2^12:=Nat.pow_le_pow_right Ab Aa;show y.natAbs<=4095;omega,hx⟩
        case measure=>simp[intOf]<;>omega
      ·obtain rfl:k=l.length:=by omega
       go_wp2
       go_roundw
       case rel=>exact⟨i+1,Aa,by go_num,fun j h1 h2=>by
        rcases Nat.lt_or_ge j i with h | h
        ·exact Hst.out j h1 h
        ·obtain rfl:j=i:=by omega
         rw[<-Hl.out.1];exact⟨Aa,Aa,fun i=>by
          rcases Nat.lt_or_ge i l.length with h | h
          ·exact Hsm.out i h
          ·rw[IG h];decide⟩,hx⟩
       case measure=>simp[intOf]<;>omega
  ·obtain rfl:i=vs.length:=by omega
   go_wp2
   go_ret
   exact Ag.mk ⟨true,rfl,fun _ p hp=>by
    obtain⟨j,hj,rfl⟩:=List.getElem_of_mem hp;exact Hst.out j hj hj⟩ hx
set_option maxRecDepth 20000 in
theorem WX(v:Value)(l:List Int)(s:Nat)(w:World)(hv:Dq 0 w v l)(h0:cz l≠pz)(hs:∀ i,qsz (cz l i)<=s)(hs9:s<=1000000)(hn:l.length<=1000) :
  Be 30 #[v] w (fun r w'=>∃ j,P2 (EL (cz l) (pl (cz l) - 1)+1) j/\AJ w' r (2^j)):=by
 have fF:Af (cz l):=⟨_,BJ l⟩
 have hp:=Bb fF h0;have hpl:pl (cz l)<=l.length:=Bl (BJ l);have hld:ld (cz l)=((ld (cz l)).num:Rat):=Su (ZI.cz l);have hls:qsz (ld (cz l))<=s:=hs _;have HV:=Ad hv;have HA0:=Ad (Ai hpl (Ai hld (Ai hls (Ai hs h0))));obtain⟨A,c,rfl⟩:=hv.len;clear hv
 go_enter Tryz.func30,Tryz.ntmps30
 obtain⟨W1,eW1,ez,y1⟩:=Bg.made w 26 #[.bool false,.slice none 0 0] (by simp[Ae])
 go_upto_region 1 with(fail)
 rw[<-eW1];clear eW1;have hx:=y1
 go_wp2_with fail
 refine AB (Kz _ l _ (HV.out.ext hx) Aa) ?_;rintro r2 w2 hr2 hx2;obtain⟨b5,A5,n5,c5,rfl⟩:=hr2.cells;replace ez:=ez.ext hx2;replace hx:=hx.trans hx2;clear hx2;obtain⟨W3,eW3,ed,y3⟩:=Bg.made w2 26 #[.bool b5,.slice A5 n5 c5] (by simp[Ae]);have hd:=Bj.mk ed (hr2.ext_ y3);have hgd:=ez.lt;replace ez:=ez.ext y3;replace hx:=hx.trans y3;clear y3;clear hr2 ed
 go_upto_region 2 with(fail)
 rw[<-eW3];clear eW3;generalize w2.heap.size=gd at *
 go_wp2_with fail
 refine AB (M8 0 _ Aa Aa) ?_;rintro r4 w4 hr4 hx4;obtain⟨b7,A7,n7,c7,b8,A8,n8,c8,rfl⟩:=hr4.cells;replace ez:=ez.ext hx4;replace hd:=hd.ext hx4;replace hx:=hx.trans hx4;clear hx4;obtain⟨W6,eW6,el,y6⟩:=Bg.made w4 28 #[.bool b7,.slice A7 n7 c7,.bool b8,.slice A8 n8 c8] (by simp[Ae]);have hl:=CQ.mk el (hr4.ext y6);have hgl:=hd.lt;replace ez:=ez.ext y6;replace hd:=hd.ext y6;replace hx:=hx.trans y6;clear y6
 clear hr4 el
 go_upto_region 3 with(fail)
 rw[<-eW6];clear eW6;generalize w4.heap.size=gl at *;obtain⟨N,hN⟩:∃ N,pl (cz l)=N+1:=⟨pl (cz l) - 1,Aa⟩
 have e1:EL (cz l) 0=((0:Int):Rat):=rfl;rw[<-e1]at hl;have HN:=Ad hN;have hN9:N < 1000:=by omega
 clear hN hp e1 hpl hld hls hs h0;have hdeg:∀ W (x:Ext w W),Be 15 #[.slice A l.length c] W (fun r _=>r = .int .i64 (N:Nat)):=fun W x=>by
  refine Ag.imp (FC _ l W (HV.out.ext x) Aa) fun r _ h=>?_;rw[h,HN.out];congr 1;omega
 have HD:=Ad hdeg;clear hdeg;go_wp2
 go_loopw [5] (fun iv wr=>∃ i:Nat,i<=N/\iv = .int .i64 (i:Nat)/\CQ wr gl 28 (EL (cz l) i)/\Bj wr gd 26 (ld (cz l)).num/\Bg wr w.heap.size 26 #[.bool false,.slice none 0 0]/\Ext w wr) (fun iv _=>N - (intOf iv).toNat)
 case atStart=>exact⟨0,Aa,rfl,hl,hd,ez,hx⟩
 case round =>
  clear hl hd ez hx;obtain⟨i,hi,rfl,hl,hd,ez,hx⟩:=hrel
  go_wp2_with fail
  refine AB (HD.out _ hx) ?_;rintro r7 w7 rfl hx7;replace ez:=ez.ext hx7;replace hl:=hl.ext hx7;replace hd:=hd.ext hx7;replace hx:=hx.trans hx7;clear hx7;by_cases hiN:i < N
  ·have hlt:i < l.length:=by have:=HA0.out.1;have:=HN.out;omega
   have hli:cz l i=(l[i]:Rat):=Cg hlt;have hsi:=HA0.out.2.2.2.1 i;rw[hli]at hsi;obtain⟨g',o',b3,A3,n3,c3,e3,-,q0,q1,hq⟩:=HV.out.at_ hlt;cases e3;obtain⟨yi,hy⟩:∃ y,y=l[i]:=⟨_,rfl⟩
   rw[<-hy]at hli hsi hq;have HI:=Ad (Ai hq (Ai hsi hli));clear hsi hli hy hq;replace q0:=hx.cell q0;replace q1:=hx.cell q1;obtain⟨b9,A9,n9,c9,ed,hdz⟩:=hd;have HDz:=Ad hdz;clear hdz;have hez7:=ez.lt;have hgl7:=hl.lt;have hgd7:=ed.lt;have ced:=ed.cells2;have fed:=ed.frozen
   go_upto_region 6 with(fail)
   go_cut [6] (fun pv wx=>∃ gc,pv = .pointer (some ⟨gc,0,none⟩)/\CQ wx gc 28 (ab (cz l i / ld (cz l)))/\w7.heap.size<=gc/\Ext w7 wx)
   case first =>
    refine Cu 8 [17,18,19,20,21,22,23,6] [0,5,3] [_,_,_] [(kv ?_),(kv ?_),(kv ?_),(kv ?_),(kv ?_),(fun γ=>γ 5),(fun γ=>γ 6),(fun γ=>γ 7)] (fun γ w'=>[True,True,True,True,True,Br w' (γ 5) (Rat.divInt yi (ld (cz l)).num),Br w' (γ 6) (ab (Rat.divInt yi (ld (cz l)).num)),AZ w' (γ 7) w7.heap.size #[.bool false,.slice none 0 0,.bool false,.slice none 0 0] 28]) ?s1 ?_
    case s1 =>
     iterate 8 refine⟨?_,?_⟩
     trivial
     iterate 5 focus
      refine AX fun _ w' he R hR=>?_;have hc:=he.cells;have cq0:=he.cell q0;have cq1:=he.cell q1;have cq2:=(ed.ext he).cells2;go_simp;(try go_ints);(try(rw[if_neg Aa]));(try(rw[if_pos Aa]));(try go_simp);(try go_ints)
      exact Bo hR
     ·refine AX fun _ w' he R hR=>?_
      go_simp;exact Ba (I9 _ _ yi (ld (cz l)).num w' (HI.out.1.ext (hx.trans he)) ((HDz.out.ext_ he).has (by have h1:=HA0.out.2.2.1;rw[HA0.out.2.1,Bh]at h1;omega)) (by have h1:=HI.out.2.1;rw[Bh]at h1;omega) (by have h1:=HA0.out.2.2.1;rw[HA0.out.2.1,Bh]at h1;omega)) hR
     ·refine El fun γ w' he hf R hR=>?_;have f5:Br w' (γ 5) (Rat.divInt yi (ld (cz l)).num):=hf 5 Ab;clear hf
      go_simp;exact Ba (dO _ _ w' (f5.has (by
     have h1:=HA0.out.2.2.1;have h2:=Fv (yi:Rat) (((ld (cz l)).num:Int):Rat);have h3:=HI.out.2.1;rw[HA0.out.2.1]at h1;rw[Rat.divInt_eq_div];omega))) hR
     ·refine AX fun _ w' he R hR=>?_
      go_simp;exact hR _ _ ((Ext.refl _).alloc _) rfl (AZ.mk (Nat.le_trans Ac he.size) (by simp[Ae]))
    intro γ w8 hx8 hF;have p5:Br w8 (γ 5) (Rat.divInt yi (ld (cz l)).num):=Ak.get hF 5 Ab;have p6:Br w8 (γ 6) (ab (Rat.divInt yi (ld (cz l)).num)):=Ak.get hF 6 Ab;have p7:AZ w8 (γ 7) w7.heap.size #[.bool false,.slice none 0 0,.bool false,.slice none 0 0] 28:=Ak.get hF 7 Ab;clear hF;simp only[Bf,Nat.reduceAdd];generalize γ 5=g5 at *;generalize γ 6=g6 at *;generalize γ 7=g7 at *;clear γ;obtain⟨gc,rfl,hgc,ec⟩:=p7
    obtain⟨bx,Ax,nx',cx,by',Ay,ny,cy,rfl⟩:=p6.cells;clear ced p5 q0 q1;have cec:=ec.cells4;have fec:=ec.frozen;go_wp2;obtain⟨W9,eW,ec',U⟩:=ec.put4 (.bool bx) (.slice Ax nx' cx) (.bool by') (.slice Ay ny cy);rw[<-eW];clear eW ec;replace p6:=p6.kd U.kd;replace hx8:=U.from_ hx8 Aj;have ec:=ec';clear U ec';have e6:Rat.divInt yi (ld (cz l)).num=cz l i / ld (cz l):=by rw[Rat.divInt_eq_div,HI.out.2.2];congr 1;exact HA0.out.2.1.symm
    rw[e6]at p6
    go_meet
    case rel=>exact⟨gc,rfl,CQ.mk ec p6,hgc,hx8⟩
   case rest =>
   obtain⟨gc,rfl,hcq,hgc,hx8⟩:=hcut;have hd:=Bj.mk ed HDz.out;clear ced fed q0 q1 ed HDz;replace ez:=ez.ext hx8;replace hl:=hl.ext hx8;replace hd:=hd.ext hx8;replace hx:=hx.trans hx8;clear hx8;obtain⟨bx,Ax,nx',cx,by',Ay,ny,cy,ec,hcz⟩:=hcq;obtain⟨bl,Al,nl,cl,bl',Al',nl',cl',el,hlz⟩:=hl;have hqx:qsz (ab (cz l i / ld (cz l)))<=4*s+8:=by
    rw[Ls];have h1:=Fv (cz l i) (ld (cz l));have h2:=HA0.out.2.2.1;have h3:=HA0.out.2.2.2.1 i;omega
   have hql:qsz (EL (cz l) i)<=2*s:=Js HA0.out.2.2.2.1 (Nat.le_trans (Cf _) HA0.out.2.2.1) i;have HX:=Ad (Ai (hcz.has Aa) (Ai (hlz.has Aa) (show qsz (ab (cz l i / ld (cz l)))+qsz (EL (cz l) i) < 274877906944 by omega)));clear hqx hql;have HR:=Ad (Ai hcz hlz);clear hcz hlz;have cec:=ec.cells4;have fec:=ec.frozen;have cel:=el.cells4;have fel:=el.frozen
   go_wp2_with fail
   refine AB (Tz _ _ _ _ _ HX.out.1 HX.out.2.1 HX.out.2.2) ?_;rintro r13 w13 rfl hx13;clear HX cec fec cel fel;have hnext:EL (cz l) (i+1)=if EL (cz l) i < ab (cz l i / ld (cz l))then ab (cz l i / ld (cz l))else EL (cz l) i:=rfl;replace HR:=Ad (Ai (HR.out.1.ext hx13) (HR.out.2.ext hx13));replace ez:=ez.ext hx13;replace hd:=hd.ext hx13;replace ec:=ec.ext hx13;replace el:=el.ext hx13;replace hx:=hx.trans hx13
   clear hx13;by_cases hgt:EL (cz l) i < ab (cz l i / ld (cz l))
   ·have hdec:decide (IU (ab (cz l i / ld (cz l)) - EL (cz l) i) > 0)=true:=by rw[Ff,decide_eq_true hgt]
    rw[if_pos hgt]at hnext;have cec:=ec.cells4;have fec:=ec.frozen;have cel:=el.cells4;have fel:=el.frozen
    go_upto_region 5 with(fail)
    have hr13:=HR.out.1;obtain⟨W14,eW,el',U⟩:=el.put4 (.bool bx) (.slice Ax nx' cx) (.bool by') (.slice Ay ny cy);rw[<-eW];clear eW el;replace hr13:=hr13.kd U.kd;replace ez:=ez.upd U Aj;replace hd:=hd.upd U Aj;replace hx:=U.from_ hx Aj;have el:=el';clear U el';have hl:=CQ.mk el hr13;rw[<-hnext]at hl;clear hdec hnext HR hr13;go_wp2
    go_roundw
    case rel=>exact⟨i+1,Aa,by go_num,hl,hd,ez,hx⟩
    case measure=>simp[intOf];omega
   ·have hdec:decide (IU (ab (cz l i / ld (cz l)) - EL (cz l) i) > 0)=false:=by rw[Ff,decide_eq_false hgt]
    rw[if_neg hgt]at hnext;have hl:=CQ.mk el HR.out.2;rw[<-hnext]at hl;clear hnext HR;go_wp2
    go_roundw
    case rel=>exact⟨i+1,Aa,by go_num,hl,hd,ez,hx⟩
    case measure=>simp[intOf];omega
  ·obtain rfl:i=N:=by omega
   have ez11:=ez.lt;have hgl8:=hl.lt;obtain⟨bl,Al,nl,cl,bl',Al',nl',cl',el,hlz⟩:=hl;have hqm:qsz (EL (cz l) i)<=2*s:=Js HA0.out.2.2.2.1 (Nat.le_trans (Cf _) HA0.out.2.2.1) i;have hql:qsz (EL (cz l) i+1)<=2*s+8:=by
    have h1:=Ei (EL (cz l) i) 1;have h2:qsz (1:Rat)=1:=by decide
    omega
   obtain⟨J,hJ,hJ9⟩:∃ J,P2 (EL (cz l) i+1) J/\J<=32*(2*s+8)+1:=P2.qsz (by have:=IB (cz l) i;grind) hql;have HJ:=Ad (Ai hJ (show qsz (EL (cz l) i+1)<=3000000 by omega));clear hJ hql;have hJ8:J<=100000000:=by omega
   have hq1:qsz ((1:Int):Rat)=1:=by decide
   have HZ:=Ad (Ai (hlz.has Aa) (show qsz (EL (cz l) i)+qsz ((1:Int):Rat) < 549755813888 by omega));clear hlz hqm hJ9 hq1;clear hd;have cel:=el.cells4;have fel:=el.frozen
   go_upto_region 9 with(fail)
   refine Cu 2 [29,30] [4] [_] [(kv ?_),(fun γ=>γ 1)] (fun γ w'=>[True,Br w' (γ 1) ((1:Int):Rat)]) ?s2 ?_
   case s2 =>
    iterate 2 refine⟨?_,?_⟩
    trivial
    iterate 1 focus
     refine AX fun _ w' he R hR=>?_;have hc:=he.cells;have cq0:=(el.ext he).cells4;go_simp;exact Bo hR
    ·refine AX fun _ w' he R hR=>?_
     go_simp;exact Ba (M8 1 w' Aa Aa) hR
   intro γ w10 hx10 hF;have p1:Br w10 (γ 1) ((1:Int):Rat):=Ak.get hF 1 Ab;clear hF;simp only[Bf,Nat.reduceAdd];generalize γ 1=g1 at *;clear γ
   go_wp2_with fail
   refine AB (Q0 _ _ (EL (cz l) i) ((1:Int):Rat) _ (HZ.out.1.ext hx10) (p1.has Ab) HZ.out.2) ?_;rintro r11 w11 hr11 hx11;obtain⟨bz,Az,nz,cz',bw,Aw,nw,cw,rfl⟩:=hr11.cells;have x1011:=hx10.trans hx11;clear p1 cel fel;replace ez:=ez.ext x1011;replace el:=el.ext x1011;replace hx:=hx.trans x1011;clear x1011;clear hx10 hx11 HZ;have cel:=el.cells4;have fel:=el.frozen
   go_upto_region 10 with(fail)
   obtain⟨W12,eW,el',U⟩:=el.put4 (.bool bz) (.slice Az nz cz') (.bool bw) (.slice Aw nw cw);rw[<-eW];clear eW el;replace hr11:=hr11.kd U.kd;replace ez:=ez.upd U Aj;replace hx:=U.from_ hx Aj;have el:=el';clear U el';have hl:=CQ.mk el hr11;rw[show EL (cz l) i+((1:Int):Rat)=EL (cz l) i+1 from rfl]at hl;obtain⟨rr,hrr⟩:∃ r,r=EL (cz l) i+1:=⟨_,rfl⟩
   rw[<-hrr]at HJ hl;have Hrr:=Ad hrr;clear hrr hi hiN hs9 hr11 el cel fel HD
   go_wp2_with fail
   refine AB (JE 1 _ Aa Aa) ?_;rintro r14 w14 hr14 hx14;obtain⟨b11,A11,n11,c11,rfl⟩:=hr14.cells;replace ez:=ez.ext hx14;replace hl:=hl.ext hx14;replace hx:=hx.trans hx14;clear hx14;obtain⟨W15,eW15,eo,y15⟩:=Bg.made w14 26 #[.bool b11,.slice A11 n11 c11] (by simp[Ae]);have ho:=Bj.mk eo (hr14.kd y15.kd);have hgo:=hl.lt;replace ez:=ez.ext y15;replace hl:=hl.ext y15;replace hx:=hx.trans y15;clear y15;clear eo hr14
   go_wp2;rw[<-eW15];clear eW15;generalize w14.heap.size=go at *
   go_loopw [33] (fun _ wr=>∃ j:Nat,j<=J/\Bj wr go 26 (2^j)/\CQ wr gl 28 rr/\Bg wr w.heap.size 26 #[.bool false,.slice none 0 0]/\Ext w wr) (fun _ wr=>2^(J+1) - kH wr go 26)
   case atStart=>exact⟨0,Aa,ho,hl,ez,hx⟩
   case round =>
    clear ho hl ez hx;obtain⟨j,hj,⟨b7,A7,n7,c7,eo,hoz⟩,⟨bl,Al,nl,cl,bl',Al',nl',cl',el,hlz⟩,ez,hx⟩:=hrel;have Hoz:=Ad (Ai hoz (Ai eo hlz));clear hoz hlz;have hgl3:=el.lt;have hgo3:=eo.lt;have hjz:sz ((2:Int)^j).natAbs<=1+j:=Gg j;have hjq:qsz (((2:Int)^j:Int):Rat)<=1+j:=by rw[Bh];omega
    have HS:=Ad (Ai (show sz ((2:Int)^j).natAbs<=549755813888 by omega) (Ai (show qsz (((2:Int)^j:Int):Rat)<=274877906944 by omega) (show qsz (((2:Int)^j:Int):Rat)+qsz rr < 274877906944 by have:=HJ.out.2;omega)));clear hjz hjq;have ceo:=eo.cells2;have feo:=eo.frozen;have cel:=el.cells4;have fel:=el.frozen
    go_upto_region 11 with(fail)
    refine Cu 3 [33,34,35] [7,4] [_,_] [(kv ?_),(fun γ=>γ 1),(kv ?_)] (fun γ w'=>[True,Br w' (γ 1) (((2:Int)^j:Int):Rat),True]) ?s3 ?_
    case s3 =>
     iterate 3 refine⟨?_,?_⟩
     trivial
     iterate 1 focus
      refine AX fun _ w' he R hR=>?_;have hc:=he.cells;have cq0:=(eo.ext he).cells2;have cq1:=(el.ext he).cells4;go_simp;exact Bo hR
     ·refine AX fun _ w' he R hR=>?_
      go_simp;exact Ba (Jc _ _ w' ((Hoz.out.1.has (by have:=HS.out.1;omega)).ext he)) hR
     iterate 1 focus
      refine AX fun _ w' he R hR=>?_;have hc:=he.cells;have cq0:=(eo.ext he).cells2;have cq1:=(el.ext he).cells4;go_simp;exact Bo hR
    intro γ w16 hx16 hF;have p1:Br w16 (γ 1) (((2:Int)^j:Int):Rat):=Ak.get hF 1 Ab;clear hF;simp only[Bf,Nat.reduceAdd];generalize γ 1=g1 at *;clear γ
    go_wp2_with fail
    refine AB (Tz _ _ _ rr _ (p1.has HS.out.2.1) ((Hoz.out.2.2.has (by have:=HJ.out.2;omega)).ext hx16) HS.out.2.2) ?_;rintro r17 w17 rfl hx17;generalize hm:IU ((((2:Int)^j:Int):Rat) - rr)=m;have hm1:=MH (p:=(((2:Int)^j:Int):Rat)) (q:=rr);rw[hm]at hm1;clear hm;have x1617:=hx16.trans hx17;have HO:=Ad (Ai (Hoz.out.1.ext_ x1617) (Hoz.out.2.2.ext x1617));clear p1 ceo feo cel fel;replace ez:=ez.ext x1617
    replace eo:=eo.ext x1617;replace el:=el.ext x1617;replace hx:=hx.trans x1617;clear x1617;clear hx16 hx17;have hl:=CQ.mk el HO.out.2;by_cases hjJ:j < J
    ·rw[decide_eq_true (show(((2:Int)^j:Int):Rat)<=rr by have:=HJ.out.1.2 j hjJ;rw[G5];exact this)]at hm1
     have ceo:=eo.cells2;have feo:=eo.frozen
     go_wp2_with fail
     refine AB (OO _ _ _ _ _ (HO.out.1.has (by have:=HS.out.1;omega)) (HO.out.1.has (by have:=HS.out.1;omega)) HS.out.1 HS.out.1) ?_;rintro r18 w18 hr18 hx18;obtain⟨b8,A8,n8,c8,rfl⟩:=hr18.cells;clear ceo feo el;replace ez:=ez.ext hx18;replace eo:=eo.ext hx18;replace hl:=hl.ext hx18;replace hx:=hx.trans hx18;clear hx18;have ceo:=eo.cells2;have feo:=eo.frozen;go_wp2;obtain⟨W19,eW,eo',U⟩:=eo.put2 (.bool b8) (.slice A8 n8 c8)
     rw[<-eW];clear eW eo;replace hr18:=hr18.kd U.kd;replace ez:=ez.upd U Aj;replace hl:=hl.upd U Aj;replace hx:=U.from_ hx Aj;have eo:=eo';clear U eo';rw[show(2:Int)^j+2^j=2^(j+1) by rw[Int.pow_succ];omega]at hr18;have ho:=Bj.mk eo hr18;have hb1:=Lr ho;have hb2:=Lr (Bj.mk Hoz.out.2.1 Hoz.out.1);have hpw:2^(j+1)<=2^J:=Nat.pow_le_pow_right Ab hjJ
     go_roundw
     case rel=>exact⟨j+1,hjJ,ho,hl,ez,hx⟩
     case measure =>
      rw[hb1,hb2];rw[Int.natAbs_pow,Int.natAbs_pow];show 2^(J+1) - 2^(j+1) < 2^(J+1) - 2^j;have h1:2^(J+1)=2*2^J:=Nat.pow_succ';have h2:2^(j+1)=2*2^j:=Nat.pow_succ';have h3:=Nat.two_pow_pos j;omega
    ·obtain rfl:j=J:=by omega
     rw[decide_eq_false (show ¬ (((2:Int)^j:Int):Rat)<=rr by have:=HJ.out.1.1;rw[G5];grind)]at hm1;have ceo:=eo.cells2;have feo:=eo.frozen;have cez:=ez.cells2;have fez:=ez.frozen
     go_upto_region 13 with(fail)
     have hr:=HO.out.1;go_wp2;obtain⟨W3,eW,ez',U⟩:=ez.put2 (.bool b7) (.slice A7 n7 c7);rw[<-eW];clear eW ez;replace hr:=hr.kd U.kd;replace hx:=U.from_ hx Aj;have ez:=ez';clear U ez';clear ceo feo cez fez;have cez:=ez.cells2;have fez:=ez.frozen;refine bodyPost_ret (v := .agg #[.bool b7,.slice A7 n7 c7]) (by simp[results,Tryz.results30,go_sem,cez]) rfl ?_;have hfin:=HJ.out.1;rw[Hrr.out]at hfin;exact Ag.mk ⟨j,by rw[HN.out];exact hfin,hr⟩ hx
open Go.Deep Go.ChangeShapes Go.ChangeAt
theorem WV{H:Type}(d:DataW H):1<=Rows.uptoBulk d:=by
 cases d with
 | lit l=>cases l<;>simp[Rows.uptoBulk]
 | nil=>simp[Rows.uptoBulk]
 | ptr d=>simp[Rows.uptoBulk]
 | slice elems spare=>simp[Rows.uptoBulk]
 | agg parts=>simp[Rows.uptoBulk]
 | iface t d=>simp[Rows.uptoBulk]
 | map entries=>simp[Rows.uptoBulk]
 | held h=>simp[Rows.uptoBulk]
theorem Lp{H:Type}{d:DataW H}{l:List (DataW H)}(h:d∈l):Rows.uptoBulk d<=Rows.uptoBulkAll l:=by
 induction l with
 | nil=>cases h
 | cons x r ih =>
  simp only[Rows.uptoBulkAll];cases List.mem_cons.1 h with
  | inl e=>subst e;omega
  | inr e=>have:=ih e;omega
theorem Rp{H:Type}(l:List (DataW H)):l.length<=Rows.uptoBulkAll l:=by
 induction l with
 | nil=>simp[Rows.uptoBulkAll]
 | cons x r ih=>have:=WV x;simp only[Rows.uptoBulkAll,List.length_cons];omega
section
variable{H:Type}{enc:TypeId×Value->H}{w:World}{spare:Nat->Bool}{held:Bool}
theorem TQ{fuel:Nat}{cs:List Value}{x:DataW H×List MemPlace}(h:DataW.trod enc Tryz.prog w 0 spare held fuel 24 cs=some x):∃ A n c,cs=[.slice A n c]/\n<=Rows.uptoBulk x.1:=by
 rcases open_ints Tryz.underlying24 Tryz.underlying113 G8 h with⟨rfl,_⟩ | ⟨a,n,c,zs,rfl,_,hl,hm,hz,rfl,hcell,hwz⟩
 ·exact⟨none,0,0,rfl,Aa⟩
 ·have hzl:n<=zs.length:=by rw[hz];split<;>omega
  refine⟨some a,n,c,rfl,?_⟩;have h1:=Rp (H:=H) (lits .u32 (zs.take n));have h2:(lits (H:=H) .u32 (zs.take n)).length=n:=by simp[lits];omega
  simp only[Rows.uptoBulk];omega
set_option maxRecDepth 100000 in
theorem Te{fuel:Nat}{cs:List Value}{x:DataW H×List MemPlace}(h:DataW.trod enc Tryz.prog w 0 spare held fuel 26 cs=some x):∃ b A n c,cs=[b,.slice A n c]/\n<=Rows.uptoBulk x.1:=by
 obtain⟨y0,y1,n,rfl,hl,h0,h1⟩:=trod_struct2 Tryz.underlying26 h;rw[show Tryz.prog.cellsOf 26=2 from by kernel_rfl]at hl
 match cs,hl with
 | [c0,c1],_ =>
  rw[show Tryz.prog.cellsOf 24=1 from by kernel_rfl]at h1;obtain⟨A,m,c,e1,hd⟩:=TQ h1;simp at e1;subst e1;refine⟨c0,A,m,c,rfl,?_⟩;have:=Lp (d:=y1.1) (l:=[y0.1,y1.1]) Ac;simp only[Rows.uptoBulk];omega
set_option maxRecDepth 100000 in
theorem VM{T fuel:Nat}{v:Value}{x:DataW H×List MemPlace}(hT:Tryz.prog.underlying T=some (.slice 26))(h:DataW.trod enc Tryz.prog w 0 spare held fuel T v.cells.toList=some x)(hv:∃ a n c,v = .slice a n c){l:List K5}(hp:En w v l)(hb:Rows.uptoBulk x.1<=1048576):Tp l:=by
 obtain⟨a0,n0,c0,rfl⟩:=hv;obtain⟨A,cc,e1,g2,g3,g4⟩:=hp;rcases open_slice hT h with⟨hcs,_⟩ | ⟨a,n,c,m,k,D,Pl,hcs,_,hl,hm,hmm,rfl,hel⟩
 ·simp[Value.cells]at hcs
  obtain⟨rfl,rfl,rfl⟩:=hcs;have hl0:l=[]:=by injection e1 with _ h2 _;exact List.eq_nil_of_length_eq_zero h2.symm
  subst hl0;exact⟨Ac,fun x hx=>by simp at hx⟩
 ·simp[Value.cells]at hcs
  obtain⟨rfl,rfl,rfl⟩:=hcs;have hnl:n0=l.length:=by injection e1
  have hAa:A=some a:=by injection e1 with h1;exact h1.symm
  have hnm:n0<=m:=by rw[hmm];split<;>omega
  rw[show Tryz.prog.cellsOf 26=2 from by kernel_rfl]at hel;simp only[Rows.uptoBulk]at hb;have hlen:=Rp (H:=H) ((List.range n0).map D);simp only[List.length_map,List.length_range]at hlen;refine⟨Aa,fun r hr=>?_⟩;obtain⟨j,hj,rfl⟩:=List.getElem_of_mem hr;obtain⟨g,o,hA2,_,hc⟩:=g4 Aa;obtain⟨cs,q1,q2,q3⟩:=hc j hj;obtain⟨cs',h1,h2⟩:=hel j Aa;obtain⟨_,h5,h6⟩:=World.cells?_some h1;rw[hAa]at hA2;injection hA2 with hA2
  subst hA2;have hD:=Lp (d:=D j) (l:=(List.range n0).map D) (List.mem_map.2 ⟨j,List.mem_range.2 Aa,rfl⟩);obtain⟨b,A1,m1,c1,rfl,k1⟩:=Te h2;obtain⟨s,eq,B1,d1,e2,dv⟩:=q3;subst e2;obtain rfl:=Sq eq;have t1:=q2 1 Aa;have u1:=h6 1 Aa;rw[Le,Le]at u1;rw[t1]at u1;simp at u1;have k1':m1<=Rows.uptoBulk (D j):=k1;omega
end
theorem gY(v:Value)(l:List Int)(s:Nat)(w:World)(hv:Dq 0 w v l)(h0:cz l≠pz)(hs:∀ i,qsz (cz l i)<=s)(hs9:s<=1000000)(hn:l.length<=1000) :
  Be 19 #[v] w (fun r w'=>Es w' r (-(2:Rat)^bx (cz l)) ((2:Rat)^bx (cz l))):=by
 have hb:∀ X,Ext w X->Be 30 #[v] X (fun r w'=>AJ w' r (2^bx (cz l))):=fun X x =>
  Ag.imp (WX v l s X (hv.ext x) h0 hs hs9 hn) fun _ _ ⟨j,h1,h2⟩=>by rw[<-h1.bx];exact h2
 have hbx:=OC hs;obtain⟨j,hj⟩:∃ j,j=bx (cz l):=⟨_,rfl⟩
 rw[<-hj]at hb hbx ⊢;have hz:=Gg j;have hq:=(MW j).1;obtain⟨A0,c0,rfl⟩:=hv.len;have HC:=Ad (Ai hb (Ai (show sz ((2:Int)^j).natAbs<=1099511627776 by omega) (show qsz ((2:Rat)^j)<=274877906944 by omega)));clear hb hbx hj hz hq hv h0 hs
 go_enter Tryz.func19,Tryz.ntmps19
 obtain⟨W1,eW1,ez,y1⟩:=Bg.made w 30 #[.bool false,.slice none 0 0,.bool false,.slice none 0 0,.bool false,.slice none 0 0,.bool false,.slice none 0 0] (by simp[Ae])
 go_upto_region 1 with(fail)
 rw[<-eW1];clear eW1;have hx:=y1;clear y1
 go_wp2_with fail
 refine AB (HC.out.1 _ hx) ?_;rintro r2 w2 hr2 hx2;obtain⟨b5,A5,n5,c5,rfl⟩:=hr2.cells;have H2:=Ad (hr2.has HC.out.2.1);clear hr2;replace ez:=ez.ext hx2;replace hx:=hx.trans hx2;clear hx2
 go_wp2_with fail
 refine AB (Jc _ _ _ H2.out) ?_;rintro r3 w3 hr3 hx3;rw[G5]at hr3;obtain⟨b6,A6,n6,c6,b7,A7,n7,c7,rfl⟩:=hr3.cells;replace ez:=ez.ext hx3;replace hx:=hx.trans hx3;clear hx3;obtain⟨W4,eW4,eb,y4⟩:=Bg.made w3 28 #[.bool b6,.slice A6 n6 c6,.bool b7,.slice A7 n7 c7] (by simp[Ae]);have hb4:=hr3.ext y4;have hgb:=ez.lt;replace ez:=ez.ext y4;replace hx:=hx.trans y4;clear y4;clear hr3 H2
 go_upto_region 2 with(fail)
 rw[<-eW4];clear eW4;generalize w3.heap.size=gb at *;have HB:=Ad (Ai hb4 (hb4.has HC.out.2.2));clear hb4;have ceb:=eb.cells4;have feb:=eb.frozen;refine Cu 3 [7,8,9] [3] [_] [(kv ?_),(fun γ=>γ 1),(kv ?_)] (fun γ w'=>[True,Br w' (γ 1) (-(2:Rat)^j),True]) ?s2 ?_
 case s2 =>
  iterate 3 refine⟨?_,?_⟩
  trivial
  iterate 1 focus
   refine AX fun _ w' he R hR=>?_;have hc:=he.cells;have cq0:=(eb.ext he).cells4;go_simp;exact Bo hR
  ·refine AX fun _ w' he R hR=>?_
   go_simp;exact Ba (Y3 _ _ w' (HB.out.2.ext he)) hR
  iterate 1 focus
   refine AX fun _ w' he R hR=>?_;have hc:=he.cells;have cq0:=(eb.ext he).cells4;go_simp;exact Bo hR
 intro γ w5 hx5 hF;have p1:Br w5 (γ 1) (-(2:Rat)^j):=Ak.get hF 1 Ab;clear hF;simp only[Bf,Nat.reduceAdd];generalize γ 1=g1 at *;clear γ;obtain⟨b8,A8,n8,c8,b9,A9,n9,c9,rfl⟩:=p1.cells;have HF:=Ad (Ai p1 (HB.out.1.ext hx5));clear ceb feb p1;replace ez:=ez.ext hx5;replace hx:=hx.trans hx5;clear hx5;have p1:=HF.out.1;have p2:=HF.out.2;clear HF;have cez:=ez.cells8;have fez:=ez.frozen;go_wp2;obtain⟨W6,eW,ez',U⟩:=ez.put8 (.bool b8) (.slice A8 n8 c8) (.bool b9) (.slice A9 n9 c9) (.bool b6) (.slice A6 n6 c6) (.bool b7) (.slice A7 n7 c7)
 rw[<-eW];clear eW ez;replace p1:=p1.kd U.kd;replace p2:=p2.kd U.kd;replace hx:=U.from_ hx Aj;have ez:=ez';clear U ez';clear cez fez;have cez:=ez.cells8;have fez:=ez.frozen;refine bodyPost_ret (v := .agg #[.bool b8,.slice A8 n8 c8,.bool b9,.slice A9 n9 c9,.bool b6,.slice A6 n6 c6,.bool b7,.slice A7 n7 c7]) (by simp[results,Tryz.results19,go_sem,cez]) rfl ?_;exact Ag.mk ⟨_,_,_,_,_,_,_,_,_,_,_,_,_,_,_,_,rfl,p1,p2⟩ hx
variable{H:Type}{enc:TypeId×Value->H}{w:World}{spare:Nat->Bool}{held:Bool}
end Go.Proofs.YtmhgnigpmompmaaGreat
namespace Go.Proofs.YtmhgnigpmompmaaGreat
open Go.RowKit Go.Hp
set_option maxRecDepth 20000 in
theorem Vg(u z:Value)(l:List Int)(p q:Rat)(n T:Nat)(w:World)(hu:Dq 0 w u l)(hz:KU w z p q)(hS:SF (Bw (cz l)))(hpq:p < q)(h1:rc (Bw (cz l)) p q=1)(hs:∀ k,k<=n->qsz (Fz (rc (Bw (cz l))) p q k).1<=T/\qsz (Fz (rc (Bw (cz l))) p q k).2<=T/\qsz (((Fz (rc (Bw (cz l))) p q k).1+(Fz (rc (Bw (cz l))) p q k).2) / 2)<=T)(hT:T<=100000000000)(hn9:n<=1000000)
  (hcf:∀ X,Ext w X->∀ z P Q,KU X z P Q->qsz P<=T->qsz Q<=T->Be 18 #[u,z] X (fun r _=>r = .int .i64 (if Q<=P then 0 else rc (Bw (cz l)) P Q))) :
  Be 35 #[u,z,.int .i64 (n:Nat)] w (fun r w'=>Es w' r (Fz (rc (Bw (cz l))) p q n).1 (Fz (rc (Bw (cz l))) p q n).2):=by
 obtain⟨A,c,rfl⟩:=hu.len;obtain⟨b1,B1,m1,k1,b2,B2,m2,k2,b3,B3,m3,k3,b4,B4,m4,k4,rfl,hi1,hi2⟩:=hz;have HI:=Ad (Ai hi1 (Ai hi2 (Ai hcf (Ai hS (Ai hpq (Ai h1 hs))))));clear hu hi1 hi2 hcf hS hpq h1 hs
 go_enter Tryz.func35,Tryz.ntmps35
 obtain⟨W1,eW1,eb,y1⟩:=Bg.made w 30 #[.bool b1,.slice B1 m1 k1,.bool b2,.slice B2 m2 k2,.bool b3,.slice B3 m3 k3,.bool b4,.slice B4 m4 k4] (by simp[Ae]);obtain⟨W2,eW2,ez,y2⟩:=Bg.made W1 30 #[.bool false,.slice none 0 0,.bool false,.slice none 0 0,.bool false,.slice none 0 0,.bool false,.slice none 0 0] (by simp[Ae]);have hs1:W1.heap.size=w.heap.size+1:=by rw[eW1];simp
 rw[hs1]at ez;replace eb:=eb.ext y2;have hx:=y1.trans y2
 go_upto_region 1 with(fail)
 rw[<-eW1,<-eW2];clear y1 y2 eW1 eW2 hs1;have ceb:=eb.cells8;have feb:=eb.frozen;have hgz:=ez.lt
 go_wp2_with fail
 refine Cu 8 [9,10,11,12,13,14,15,7] [4] [_] [(kv ?_),(kv ?_),(fun γ=>γ 2),(kv ?_),(kv ?_),(fun γ=>γ 5),(fun γ=>γ 6),(fun γ=>γ 7)] (fun γ w'=>[True,True,Br w' (γ 2) p,True,True,Br w' (γ 5) q,Es w' (γ 6) p q,AZ w' (γ 7) W2.heap.size #[.bool false,.slice none 0 0,.bool false,.slice none 0 0,.bool false,.slice none 0 0,.bool false,.slice none 0 0] 30]) ?s1 ?_
 case s1 =>
  iterate 8 refine⟨?_,?_⟩
  trivial
  iterate 2 focus
   refine AX fun _ w' he R hR=>?_;have hc:=he.cells;have cq0:=(eb.ext he).cells8;go_simp;exact Bo hR
  ·refine AX fun _ w' he R hR=>?_
   go_simp;exact Ba (Dr _ p w' (HI.out.1.ext (hx.trans he))) hR
  iterate 2 focus
   refine AX fun _ w' he R hR=>?_;have hc:=he.cells;have cq0:=(eb.ext he).cells8;go_simp;exact Bo hR
  ·refine AX fun _ w' he R hR=>?_
   go_simp;exact Ba (Dr _ q w' (HI.out.2.1.ext (hx.trans he))) hR
  ·refine El fun γ w' he hf R hR=>?_;have f2:Br w' (γ 2) p:=hf 2 Ab;have f5:Br w' (γ 5) q:=hf 5 Ab;clear hf
   obtain⟨d1,D1,e1,g1,d2,D2,e2,g2,h2⟩:=f2.cells;obtain⟨d3,D3,e3,g3,d4,D4,e4,g4,h5⟩:=f5.cells;go_simp;exact hR _ _ (Ext.refl _) rfl ⟨_,_,_,_,_,_,_,_,_,_,_,_,_,_,_,_,rfl,h2▸f2,h5▸f5⟩
  ·refine AX fun _ w' he R hR=>?_
   go_simp;exact hR _ _ ((Ext.refl _).alloc _) rfl (AZ.mk (Nat.le_trans Ac he.size) (by simp[Ae]))
 intro γ w3 hx3 hF;have p2:Br w3 (γ 2) p:=Ak.get hF 2 Ab;have p5:Br w3 (γ 5) q:=Ak.get hF 5 Ab;have p6:Es w3 (γ 6) p q:=Ak.get hF 6 Ab;have p7:AZ w3 (γ 7) W2.heap.size #[.bool false,.slice none 0 0,.bool false,.slice none 0 0,.bool false,.slice none 0 0,.bool false,.slice none 0 0] 30:=Ak.get hF 7 Ab;clear hF;simp only[Bf,Nat.reduceAdd];generalize γ 2=g2 at *;generalize γ 5=g5 at *;generalize γ 6=g6 at *
 generalize γ 7=g7 at *;clear γ;obtain⟨g1,G1,e5,f5,g2,G2,e6,f6,g3,G3,e7,f7,g4,G4,e8,f8,rfl,j1,j2⟩:=p6;obtain⟨g9,rfl,hg9,e9⟩:=p7;clear ceb feb p2 p5 eb;replace ez:=ez.ext hx3;replace hx:=hx.trans hx3;clear hx3;have ce9:=e9.cells8;have fe9:=e9.frozen;go_wp2;obtain⟨W4,eW,e9',U⟩:=e9.put8 (.bool g1) (.slice G1 e5 f5) (.bool g2) (.slice G2 e6 f6) (.bool g3) (.slice G3 e7 f7) (.bool g4) (.slice G4 e8 f8)
 rw[<-eW];clear eW e9;replace j1:=j1.kd U.kd;replace j2:=j2.kd U.kd;replace ez:=ez.upd U Aj;replace hx:=U.from_ hx Aj;have e9:=e9';clear U e9';clear ce9 fe9;have hbx:iR W4 g9 30 (Fz (rc (Bw (cz l))) p q 0).1 (Fz (rc (Bw (cz l))) p q 0).2:=⟨_,_,_,_,_,_,_,_,_,_,_,_,_,_,_,_,e9,j1,j2⟩
 clear e9 j1 j2;go_wp2
 go_loopw [8] (fun iv wr=>∃ k:Nat,k<=n/\iv = .int .i64 (k:Nat)/\iR wr g9 30 (Fz (rc (Bw (cz l))) p q k).1 (Fz (rc (Bw (cz l))) p q k).2/\Bg wr (w.heap.size+1) 30 #[.bool false,.slice none 0 0,.bool false,.slice none 0 0,.bool false,.slice none 0 0,.bool false,.slice none 0 0]/\Ext w wr) (fun iv _=>n - (intOf iv).toNat)
 case atStart=>exact⟨0,Aa,rfl,hbx,ez,hx⟩
 case round =>
  clear hbx ez hx;obtain⟨k,hk,rfl,⟨d1,D1,e1,f1,d2,D2,e2,f2,d3,D3,e3,f3,d4,D4,e4,f4,e9,j1,j2⟩,ez,hx⟩:=hrel;by_cases hkn:k < n
  ·have z1:=HI.out.2.2.2.2.2.2 k hk
   have hw:=((GH (rc (Bw (cz l))) p q k).within HI.out.2.2.2.2.1).2.1;have hone:=Qk HI.out.2.2.2.1 HI.out.2.2.2.2.1 HI.out.2.2.2.2.2.1 k;obtain⟨P2,hP2⟩:∃ P,P=Fz (rc (Bw (cz l))) p q (k+1):=⟨_,rfl⟩
   obtain⟨P,hP⟩:∃ P,P=Fz (rc (Bw (cz l))) p q k:=⟨_,rfl⟩
   have hPP:P2=hfp (rc (Bw (cz l))) P:=by rw[hP2,hP];rfl
   rw[<-hP]at j1 j2 z1 hw hone;have hlow:=YK HI.out.2.2.2.1 hw hone;obtain⟨m,hm⟩:∃ m,m=(P.1+P.2) / 2:=⟨_,rfl⟩
   have hml:¬ m<=P.1:=by rw[hm];grind
   rw[<-hm]at hlow z1;obtain⟨X,hX⟩:∃ X,X=rc (Bw (cz l)) P.1 m:=⟨_,rfl⟩
   rw[<-hX]at hlow;have hhalf:∀ Y,Ext wr Y->∀ up,Be 78 #[.agg #[.bool d1,.slice D1 e1 f1,.bool d2,.slice D2 e2 f2,.bool d3,.slice D3 e3 f3,.bool d4,.slice D4 e4 f4],.bool up] Y (fun r w'=>Es w' r (if up=true then m else P.1) (if up=true then P.2 else m)):=fun Y y up=>by
    rw[hm];exact V9 _ up P.1 P.2 T Y ⟨_,_,_,_,_,_,_,_,_,_,_,_,_,_,_,_,rfl,(j1.ext y).has Aa,(j2.ext y).has Aa⟩ Aa Aa Aa
   have hcnt:∀ Y,Ext wr Y->∀ v,Es Y v P.1 m->Be 18 #[.slice A l.length c,v] Y (fun r _=>r = .int .i64 X):=fun Y y v hv=>by
    have:=HI.out.2.2.1 Y (hx.trans y) v P.1 m (hv.has Aa Aa) Aa Aa;rw[if_neg hml,<-hX]at this;exact this
   have HC:=Ad (Ai hhalf (Ai hcnt (Ai hPP (Ai hP2 (Ai hm hX)))));clear hhalf hcnt hPP hP2 hm hX z1 hw hone hml j1 j2 hP;have ce9:=e9.cells8;have fe9:=e9.frozen
   go_wp2_with fail
   refine Cu 6 [21,22,23,24,25,26] [7,0] [_,_] [(kv ?_),(kv ?_),(kv ?_),(fun γ=>γ 3),(kv (.int .i64 X)),(kv ?_)] (fun γ w'=>[True,True,True,Es w' (γ 3) P.1 m,True,True]) ?s2 ?_
   case s2 =>
    iterate 6 refine⟨?_,?_⟩
    trivial
    iterate 3 focus
     refine AX fun _ w' he R hR=>?_;have hc:=he.cells;have cq0:=(e9.ext he).cells8;go_simp;exact Bo hR
    ·refine AX fun _ w' he R hR=>?_
     have h9:=HC.out.1 w' he false;go_simp;refine AB h9 ?_;rintro v w2 hv hx;exact⟨v,rfl,hR v w2 hx rfl hv⟩
    ·refine El fun γ w' he hf R hR=>?_;have f3:Es w' (γ 3) P.1 m:=hf 3 Ab;clear hf
     go_simp;exact Ku (HC.out.2.1 w' he _ f3) hR
    iterate 1 focus
     refine AX fun _ w' he R hR=>?_;have hc:=he.cells;go_simp;(try go_ints);(try(rw[if_neg Aa]));(try(rw[if_pos Aa]));(try go_simp);(try go_ints)
     exact Bo hR
   intro γ w6 hx6 hF;have p3:Es w6 (γ 3) P.1 m:=Ak.get hF 3 Ab;clear hF;simp only[Bf,Nat.reduceAdd];generalize γ 3=g3 at *;clear γ;clear p3 ce9 fe9;have hnext:∃ up:Bool,(X==0)=up/\(if up=true then m else P.1)=P2.1/\(if up=true then P.2 else m)=P2.2:=by
    rw[HC.out.2.2.1];unfold hfp;rw[<-HC.out.2.2.2.2.1,<-HC.out.2.2.2.2.2];rcases hlow with e | e
    ·rw[e];exact⟨true,rfl,rfl,rfl⟩
    ·rw[e];exact⟨false,rfl,rfl,rfl⟩
   obtain⟨up,hup,hn1,hn2⟩:=hnext;have hh:=HC.out.1 _ hx6 up;rw[hn1,hn2]at hh;have HH:=Ad hh;clear hh hn1 hn2 hlow;rw[hup]
   go_wp2_with fail
   refine AB HH.out ?_;rintro r7 w7 ⟨g1,G1,e5,f5,g2,G2,e6,f6,g3,G3,e7,f7,g4,G4,e8,f8,rfl,j1,j2⟩ hx7;have hx67:=hx6.trans hx7;clear hx6 hx7 hup;replace e9:=e9.ext hx67;replace ez:=ez.ext hx67;replace hx:=hx.trans hx67;clear hx67;have ce9:=e9.cells8;have fe9:=e9.frozen;go_wp2;obtain⟨W8,eW,e9',U⟩:=e9.put8 (.bool g1) (.slice G1 e5 f5) (.bool g2) (.slice G2 e6 f6) (.bool g3) (.slice G3 e7 f7) (.bool g4) (.slice G4 e8 f8)
   rw[<-eW];clear eW e9;replace j1:=j1.kd U.kd;replace j2:=j2.kd U.kd;replace ez:=ez.upd U Aj;replace hx:=U.from_ hx Aj;have e9:=e9';clear U e9';clear ce9 fe9
   go_roundw
   case rel=>exact⟨k+1,Aa,by go_num,by rw[<-HC.out.2.2.2.1];exact⟨_,_,_,_,_,_,_,_,_,_,_,_,_,_,_,_,e9,j1,j2⟩,ez,hx⟩
   case measure=>simp[intOf];omega
  ·obtain rfl:k=n:=by omega
   have ce9:=e9.cells8;have fe9:=e9.frozen;have cez:=ez.cells8;have fez:=ez.frozen;go_wp2;obtain⟨W9,eW,ez',U⟩:=ez.put8 (.bool d1) (.slice D1 e1 f1) (.bool d2) (.slice D2 e2 f2) (.bool d3) (.slice D3 e3 f3) (.bool d4) (.slice D4 e4 f4);rw[<-eW];clear eW ez;replace j1:=j1.kd U.kd;replace j2:=j2.kd U.kd;replace hx:=U.from_ hx Aj;have ez:=ez';clear U ez';clear cez fez;have cez:=ez.cells8;have fez:=ez.frozen
   refine bodyPost_ret (v := .agg #[.bool d1,.slice D1 e1 f1,.bool d2,.slice D2 e2 f2,.bool d3,.slice D3 e3 f3,.bool d4,.slice D4 e4 f4]) (by simp[results,Tryz.results35,go_sem,cez]) rfl ?_;exact Ag.mk ⟨_,_,_,_,_,_,_,_,_,_,_,_,_,_,_,_,rfl,j1,j2⟩ hx
end Go.Proofs.YtmhgnigpmompmaaGreat
