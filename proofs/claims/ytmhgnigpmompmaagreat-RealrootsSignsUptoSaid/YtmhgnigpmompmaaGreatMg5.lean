/- Lemmas. -/
import Derived.Test.YtmhgnigpmompmaaGreatMg1
import Derived.Test.YtmhgnigpmompmaaGreatMg2
import Derived.Test.YtmhgnigpmompmaaGreatMg3
import Derived.Test.YtmhgnigpmompmaaGreatMg4
import Derived.Deep.RegionHeld3
import Derived.Test.YtmhgnigpmompmaaGreatRows
import Derived.WalkKit
import Derived.ProofKit
import Derived.OpenShut
import Derived.ShutString
import Derived.ChangeOld
import Derived.Below
import Derived.JoinedCond
set_option linter.unusedVariables false
set_option linter.unusedSimpArgs false
set_option maxHeartbeats 16000000
namespace Go.Hp
open Go.RowKit
structure Nh(F G:Nat->Rat)(n s t j:Nat)(Q R:Nat->Rat):Prop where
 eq:psc (ld G^j) F=pad (cv Q G) R
 zQ:ZI Q
 zR:ZI R
 fQ:BA n Q
 fR:Ae R
 deg:pl R+j<=pl F
 qQ:∀ i,qsz (Q i)<=s+j*(t+1)
 qR:∀ i,qsz (R i)<=s+j*(t+1)
theorem Nh.start{F G:Nat->Rat}{n s t:Nat}(hF:Ae F)(hz:ZI F)(hs:∀ i,qsz (F i)<=s):Nh F G n s t 0 pz F where
 eq:=by rw[Rat.pow_zero,Cq,Cx];funext m;simp only[pad,pz];grind
 zQ:=ZI.pz
 zR:=hz
 fQ:=BA.pz n
 fR:=hF
 deg:=Nat.le_refl _
 qQ:=fun i=>by have h1:=Cz (F 0);have h2:=hs 0;show qsz 0<=_;have:qsz (0:Rat)=1:=Ab;omega
 qR:=fun i=>by have:=hs i;omega
theorem Nh.step{F G:Nat->Rat}{n s t j:Nat}{Q R:Nat->Rat}(h:Nh F G n s t j Q R)(hn:n=pl F+1 - pl G)(fG:Ae G)(h0:G≠pz)(zG:ZI G)(ht:∀ i,qsz (G i)<=t)(hl:pl G<=pl R){k:Nat}(hk:k=pl R - pl G){x:Int}(hx:(x:Rat)=R (pl R - 1)) :
  Nh F G n s t (j+1) (pad (psc (ld G) Q) (mono k (x:Rat))) (psb (psc (ld G) R) (cv (mono k (x:Rat)) G))/\pl (psb (psc (ld G) R) (cv (mono k (x:Rat)) G)) < pl R:=by
 have hp:=AZ fG h0;have hld:=Dh fG h0;have zl:∃ y:Int,ld G=(y:Rat):=zG _;obtain⟨y,hy⟩:=zl;have hsup:BA (k+pl G) (psc (ld G) R):=((AJ h.fR).mono Aa).psc _;have e1:(x:Rat)=psc (ld G) R (k+pl G - 1) / ld G:=by
  show _=ld G*R (k+pl G - 1) / ld G;rw[show k+pl G - 1=pl R - 1 from Aa,<-hx];grind
 have hs2:BA (k+pl G - 1) (psb (psc (ld G) R) (cv (mono k (x:Rat)) G)):=by
  rw[e1];exact Fs fG h0 hsup
 have hle:=Bj hs2;have hxq:qsz (x:Rat)<=s+j*(t+1):=by rw[hx];exact h.qR _
 have hlq:qsz (ld G)<=t:=ht _;have hj:(j+1)*(t+1)=j*(t+1)+(t+1):=Nat.succ_mul _ _;have o1:qsz (0:Rat)=1:=by decide
 have zsR:ZI (psc (ld G) R):=by rw[hy];exact h.zR.psc y
 have zsQ:ZI (psc (ld G) Q):=by rw[hy];exact h.zQ.psc y
 refine⟨⟨?_,zsQ.pad (ZI.mono k x),zsR.psb ((ZI.mono k x).cv zG),(h.fQ.psc _).pad ((Dc k _).mono (by have:=h.deg;omega)),⟨_,hs2⟩,by have:=h.deg;omega,fun i=>?_,fun i=>?_⟩,Aa⟩
 ·have e2:psc (ld G^(j+1)) F=psc (ld G) (psc (ld G^j) F):=by
   rw[Ci,Rat.pow_succ,Rat.mul_comm]
  rw[e2,h.eq,Dw,Df]
  funext m;simp only[psc,pad,psb];grind
 ·have a1:=SG zsQ (ZI.mono k x) i i
  have a2:qsz (psc (ld G) Q i)<=qsz (ld G)+qsz (Q i):=BS _ _;have a3:=h.qQ i;have a4:qsz (mono k (x:Rat) i)<=s+j*(t+1):=by
   unfold mono;split
   ·exact hxq
   ·have:=Cz (x:Rat);omega
  show qsz (psc (ld G) Q i+mono k (x:Rat) i)<=_;omega
 ·have a1:=NT zsR ((ZI.mono k x).cv zG) i i
  have a2:qsz (psc (ld G) R i)<=qsz (ld G)+qsz (R i):=BS _ _;have a3:=h.qR i;have a4:qsz (cv (mono k (x:Rat)) G i)<=qsz (x:Rat)+t:=by
   rw[Fg];show qsz ((x:Rat)*sh k G i)<=_;have b1:=BS (x:Rat) (sh k G i);have b2:qsz (sh k G i)<=t:=by
    unfold sh;split
    ·have:=Cz (ld G);omega
    ·exact ht _
   omega
  show qsz (psc (ld G) R i - cv (mono k (x:Rat)) G i)<=_;omega
theorem Ro(a:Rat)(m:Nat):∀ n:Nat,a^(m+n)=a^m*a^n
 | 0=>by rw[Nat.add_zero,Rat.pow_zero,Rat.mul_one]
 | n+1=>by rw[<-Nat.add_assoc,Rat.pow_succ,Ro a m n,Rat.pow_succ,Rat.mul_assoc]
theorem Nh.end_{F G:Nat->Rat}{n s t j:Nat}{Q R:Nat->Rat}(h:Nh F G n s t j Q R)(hn:n=pl F+1 - pl G)(fF:Ae F)(fG:Ae G)(h0:G≠pz)(hl:pl R < pl G)(hj:j<=n) :
  psc (ld G^(n - j)) Q=Gl F G n/\psc (ld G^(n - j)) R=Dj F G n:=by
 have hp:=AZ fG h0;have e1:psc (ld G^n) F=pad (cv (psc (ld G^(n - j)) Q) G) (psc (ld G^(n - j)) R):=by
  have e2:ld G^n=ld G^(n - j)*ld G^j:=by rw[<-Ro];congr 1;omega
  rw[e2,<-Ci,h.eq,Df]
  funext m;simp only[psc,pad];grind
 have e3:psc (ld G^n) F=pad (cv (psc (ld G^n) (pq F G)) G) (psc (ld G^n) (pr F G)):=by
  rw[Df];have h1:=Lb F G
  funext m
  have h2:=congrFun h1 m;simp only[psc,pad]at h2 ⊢;rw[h2];grind
 have h1:=Nb fG (Ae.psc _ ⟨n,h.fQ⟩) ((Ea F G).psc _) h0 e1 e3 (((AJ h.fR).mono Aa).psc _) ((Eo fF fG h0).psc _);have h2:=Jv fF fG h0;rw[<-hn]at h2;exact⟨h1.1.trans h2.1.symm,h1.2.trans h2.2.symm⟩
def dP(F G:Nat->Rat)(r:Value)(w:World):Prop:=∃ q m,r = .tuple #[q,m]/\AC 0 w q F/\AC 0 w m G
def Jb(w:World)(v:Value)(p q:Rat):Prop:=∃ b1 A1 n1 c1 b2 A2 n2 c2 b3 A3 n3 c3 b4 A4 n4 c4,v = .agg #[.bool b1,.slice A1 n1 c1,.bool b2,.slice A2 n2 c2,.bool b3,.slice A3 n3 c3,.bool b4,.slice A4 n4 c4]/\BC w (.agg #[.bool b1,.slice A1 n1 c1,.bool b2,.slice A2 n2 c2]) p/\BC w (.agg #[.bool b3,.slice A3 n3 c3,.bool b4,.slice A4 n4 c4]) q
theorem Jb.ext{w w':World}{v:Value}{p q:Rat}(h:Jb w v p q)(e:Ext w w'):Jb w' v p q:=by
 obtain⟨b1,A1,n1,c1,b2,A2,n2,c2,b3,A3,n3,c3,b4,A4,n4,c4,h1,h2,h3⟩:=h;exact⟨b1,A1,n1,c1,b2,A2,n2,c2,b3,A3,n3,c3,b4,A4,n4,c4,h1,h2.ext e,h3.ext e⟩
theorem Bh.cells8{w:World}{g:Nat}{t:TypeId}{x0 x1 x2 x3 x4 x5 x6 x7:Value}(h:Bh w g t #[x0,x1,x2,x3,x4,x5,x6,x7]) :
  w.cell? ⟨g,0,none⟩=some x0/\w.cell? ⟨g,1,none⟩=some x1/\w.cell? ⟨g,2,none⟩=some x2/\w.cell? ⟨g,3,none⟩=some x3/\w.cell? ⟨g,4,none⟩=some x4/\w.cell? ⟨g,5,none⟩=some x5/\w.cell? ⟨g,6,none⟩=some x6/\w.cell? ⟨g,7,none⟩=some x7:=
 ⟨h.cell rfl,h.cell rfl,h.cell rfl,h.cell rfl,h.cell rfl,h.cell rfl,h.cell rfl,h.cell rfl⟩
noncomputable def rts(W:Nat->Rat)(K:Nat)(p q:Rat):Int:=(V (EH W (pd W) K) p:Nat) - (V (EH W (pd W) K) q:Nat)
structure mR(l:List Int)(W:Nat->Rat)(S n M T M2 S2 D M3 K:Nat):Prop where
 len:l.length<=1000
 sim:OQ (cz l) S n M T
 t9:T<=36000
 s9:S<=36000
 m2:M+(n+(n - 1)+2)*(M+1)+M+1<=M2
 m3:2+(2*(n+(n - 1))+4)*(2*M2+4)<=274877906944
 w:W=y0 (pp (cz l))
 c:Gf W S2 D M3
 k:MM W (pd W) K
theorem Lu.cell{base:Nat}{t:TypeId}{w:World}{v:Value}{W:Nat->Rat}(h:Lu base t w v W):∃ A n c,v = .agg #[.slice A n c]:=by
 obtain⟨c,us,K,rfl,h2,h3,h4⟩:=h;obtain⟨A,c,rfl⟩:=h4.shape;exact⟨_,_,_,rfl⟩
theorem Bh.put8{w:World}{g:Nat}{t:TypeId}{a b c d a' b' c' d':Value}(h:Bh w g t #[a,b,c,d,a',b',c',d'])(x0 x1 x2 x3 x4 x5 x6 x7:Value)(h0:Af x0=false:=by rfl)(h1:Af x1=false:=by rfl)(h2:Af x2=false:=by rfl)(h3:Af x3=false:=by rfl)(h4:Af x4=false:=by rfl)(h5:Af x5=false:=by rfl)(h6:Af x6=false:=by rfl)(h7:Af x7=false:=by rfl) :
  ∃ W,W=(((((((w.setCell ⟨g,0,none⟩ x0).setCell ⟨g,1,none⟩ x1).setCell ⟨g,2,none⟩ x2).setCell ⟨g,3,none⟩ x3).setCell ⟨g,4,none⟩ x4).setCell ⟨g,5,none⟩ x5).setCell ⟨g,6,none⟩ x6).setCell ⟨g,7,none⟩ x7/\Bh W g t #[x0,x1,x2,x3,x4,x5,x6,x7]/\Cu [g] w W:=by
 have k0:Bh (w.setCell ⟨g,0,none⟩ x0) g t #[x0,b,c,d,a',b',c',d']:=h.set_ 0 h0;have k1:Bh ((w.setCell ⟨g,0,none⟩ x0).setCell ⟨g,1,none⟩ x1) g t #[x0,x1,c,d,a',b',c',d']:=k0.set_ 1 h1;have k2:Bh (((w.setCell ⟨g,0,none⟩ x0).setCell ⟨g,1,none⟩ x1).setCell ⟨g,2,none⟩ x2) g t #[x0,x1,x2,d,a',b',c',d']:=k1.set_ 2 h2;have k3:Bh ((((w.setCell ⟨g,0,none⟩ x0).setCell ⟨g,1,none⟩ x1).setCell ⟨g,2,none⟩ x2).setCell ⟨g,3,none⟩ x3) g t #[x0,x1,x2,x3,a',b',c',d']:=k2.set_ 3 h3
 have k4:Bh (((((w.setCell ⟨g,0,none⟩ x0).setCell ⟨g,1,none⟩ x1).setCell ⟨g,2,none⟩ x2).setCell ⟨g,3,none⟩ x3).setCell ⟨g,4,none⟩ x4) g t #[x0,x1,x2,x3,x4,b',c',d']:=k3.set_ 4 h4;have k5:Bh ((((((w.setCell ⟨g,0,none⟩ x0).setCell ⟨g,1,none⟩ x1).setCell ⟨g,2,none⟩ x2).setCell ⟨g,3,none⟩ x3).setCell ⟨g,4,none⟩ x4).setCell ⟨g,5,none⟩ x5) g t #[x0,x1,x2,x3,x4,x5,c',d']:=k4.set_ 5 h5;have k6:Bh (((((((w.setCell ⟨g,0,none⟩ x0).setCell ⟨g,1,none⟩ x1).setCell ⟨g,2,none⟩ x2).setCell ⟨g,3,none⟩ x3).setCell ⟨g,4,none⟩ x4).setCell ⟨g,5,none⟩ x5).setCell ⟨g,6,none⟩ x6) g t #[x0,x1,x2,x3,x4,x5,x6,d']:=k5.set_ 6 h6
 have k7:Bh ((((((((w.setCell ⟨g,0,none⟩ x0).setCell ⟨g,1,none⟩ x1).setCell ⟨g,2,none⟩ x2).setCell ⟨g,3,none⟩ x3).setCell ⟨g,4,none⟩ x4).setCell ⟨g,5,none⟩ x5).setCell ⟨g,6,none⟩ x6).setCell ⟨g,7,none⟩ x7) g t #[x0,x1,x2,x3,x4,x5,x6,x7]:=k6.set_ 7 h7;exact⟨_,rfl,k7,(((((((Cu.set_ h.nodig 0 x0).trans (Cu.set_ k0.nodig 1 x1)).trans (Cu.set_ k1.nodig 2 x2)).trans (Cu.set_ k2.nodig 3 x3)).trans (Cu.set_ k3.nodig 4 x4)).trans (Cu.set_ k4.nodig 5 x5)).trans (Cu.set_ k5.nodig 6 x6)).trans (Cu.set_ k6.nodig 7 x7)⟩
theorem SC{p q:Rat}:decide (GJ (p - q) < 0)=decide (p < q):=by
 rw[Eg];unfold BK;by_cases h:p < q
 ·rw[if_neg Ah,if_pos Ah,decide_eq_true h];rfl
 ·rw[decide_eq_false h]
  split
  ·rfl
  ·rw[if_neg Ah];rfl
def Ic(w:World)(v:Value)(p q:Rat):Prop:=∃ b1 A1 n1 c1 b2 A2 n2 c2 b3 A3 n3 c3 b4 A4 n4 c4,v = .agg #[.bool b1,.slice A1 n1 c1,.bool b2,.slice A2 n2 c2,.bool b3,.slice A3 n3 c3,.bool b4,.slice A4 n4 c4]/\Bz w (.agg #[.bool b1,.slice A1 n1 c1,.bool b2,.slice A2 n2 c2]) p/\Bz w (.agg #[.bool b3,.slice A3 n3 c3,.bool b4,.slice A4 n4 c4]) q
theorem Ic.ext{w w':World}{v:Value}{p q:Rat}(h:Ic w v p q)(e:Ext w w'):Ic w' v p q:=by
 obtain⟨b1,A1,n1,c1,b2,A2,n2,c2,b3,A3,n3,c3,b4,A4,n4,c4,h1,h2,h3⟩:=h;exact⟨b1,A1,n1,c1,b2,A2,n2,c2,b3,A3,n3,c3,b4,A4,n4,c4,h1,h2.ext e,h3.ext e⟩
theorem Ic.has{w:World}{v:Value}{p q:Rat}(h:Ic w v p q)(hp:qsz p<=274877906944)(hq:qsz q<=274877906944):Jb w v p q:=by
 obtain⟨b1,A1,n1,c1,b2,A2,n2,c2,b3,A3,n3,c3,b4,A4,n4,c4,h1,h2,h3⟩:=h;exact⟨b1,A1,n1,c1,b2,A2,n2,c2,b3,A3,n3,c3,b4,A4,n4,c4,h1,h2.has hp,h3.has hq⟩
/-! ### bounds of values -/
theorem JO(B:Rat)(hB:0<=B):∀(n:Nat) (F:Nat->Rat),∃ M,0<=M/\∀ x,ab x<=B->ab (CZ n F x)<=M
 | 0,F=>⟨0,Ab,fun x _=>by show ab 0<=0;decide⟩
 | n+1,F=>by
  obtain⟨M,h0,h⟩:=JO B hB n (tl F);refine⟨ab (F 0)+B*M,by have:=Au (F 0);have:=Rat.mul_nonneg hB h0;grind,fun x hx=>?_⟩;rw[En];have h1:=Gb (F 0) (x*CZ n (tl F) x);have h2:ab (x*CZ n (tl F) x)<=B*M:=by rw[Cs];exact Ff hx (h x hx) (Au _) hB
  grind
theorem Vd(B:Rat)(hB:0<=B):∀(n:Nat) (F:Nat->Rat),∃ L,0<=L/\∀ x y,ab x<=B->ab y<=B->ab (CZ n F x - CZ n F y)<=L*ab (x - y)
 | 0,F=>⟨0,Ab,fun x y _ _=>by show ab (0 - 0)<=0*_;rw[Rat.zero_mul,show(0:Rat) - 0=0 by grind];decide⟩
 | n+1,F=>by
  obtain⟨L,h0,h⟩:=Vd B hB n (tl F);obtain⟨M,m0,hM⟩:=JO B hB n (tl F);refine⟨M+B*L,by have:=Rat.mul_nonneg hB h0;grind,fun x y hx hy=>?_⟩;rw[En,En];have e:F 0+x*CZ n (tl F) x - (F 0+y*CZ n (tl F) y)=(x - y)*CZ n (tl F) x+y*(CZ n (tl F) x - CZ n (tl F) y):=by grind
  rw[e];have h1:=Gb ((x - y)*CZ n (tl F) x) (y*(CZ n (tl F) x - CZ n (tl F) y));have h2:ab ((x - y)*CZ n (tl F) x)<=M*ab (x - y):=by
   rw[Cs];have:=Ff (Std.le_refl (ab (x - y))) (hM x hx) (Au _) (Au _);grind
  have h3:ab (y*(CZ n (tl F) x - CZ n (tl F) y))<=B*(L*ab (x - y)):=by rw[Cs];exact Ff hy (h x y hx hy) (Au _) hB
  grind
theorem lL(F:Nat->Rat):pd F=pad (tl F) (cs 0 (pd (tl F))):=by
 funext i
 match i with
 | 0=>show((0+1:Nat):Rat)*F 1=F 1+0;have:((0+1:Nat):Rat)=1:=rfl;rw[this];grind
 | i+1 =>
  show((i+1+1:Nat):Rat)*F (i+1+1)=F (i+1+1)+((i+1:Nat):Rat)*F (i+1+1);have:((i+1+1:Nat):Rat)=((i+1:Nat):Rat)+1:=by push_cast;rfl
  rw[this];grind
theorem XJ(n:Nat){F:Nat->Rat}(x:Rat):CZ (n+1) (pd F) x=CZ (n+1) (tl F) x+x*CZ n (pd (tl F)) x:=by
 conv=>lhs;rw[lL F,UK]
 congr 1;rw[En];show 0+x*CZ n (pd (tl F)) x=_;grind
theorem Uy(B:Rat)(hB:0<=B):∀(n:Nat) (F:Nat->Rat),BA n F->∃ R,0<=R/\∀ x y,ab x<=B->ab y<=B->∃ r,ab r<=R/\CZ n F y - CZ n F x=(y - x)*(CZ n (pd F) x+(y - x)*r)
 | 0,F,_=>⟨0,Ab,fun x y _ _=>⟨0,Ab,by show(0:Rat) - 0=_*(0+_*0);grind⟩⟩
 | n+1,F,hs=>by
  obtain⟨R,h0,h⟩:=Uy B hB n (tl F) hs.tl;obtain⟨M,m0,hM⟩:=JO B hB n (pd (tl F));refine⟨M+B*R,by have:=Rat.mul_nonneg hB h0;grind,fun x y hx hy=>?_⟩;obtain⟨r,hr,e⟩:=h x y hx hy;refine⟨CZ n (pd (tl F)) x+y*r,?_,?_⟩
  ·have h1:=Gb (CZ n (pd (tl F)) x) (y*r)
   have h2:ab (y*r)<=B*R:=by rw[Cs];exact Ff hy hr (Au _) hB
   have h3:=hM x hx;grind
  ·have e1:CZ (n+1) (pd F) x=CZ n (tl F) x+x*CZ n (pd (tl F)) x:=by
    rw[XJ];congr 1;exact MJ hs.tl (Nat.le_succ n) x
   rw[e1,En,En];grind
theorem GR{F:Nat->Rat}(h:Ae F){B:Rat}(hB:0<=B):∃ M,0<=M/\∀ x,ab x<=B->ab (ev F x)<=M:=JO B hB (pl F) F
theorem PP{F:Nat->Rat}(h:Ae F){B:Rat}(hB:0<=B):∃ L,0<=L/\∀ x y,ab x<=B->ab y<=B->ab (ev F x - ev F y)<=L*ab (x - y):=Vd B hB (pl F) F
theorem iA{F:Nat->Rat}(h:Ae F){B:Rat}(hB:0<=B):∃ R,0<=R/\∀ x y,ab x<=B->ab y<=B->∃ r,ab r<=R/\ev F y - ev F x=(y - x)*(ev (pd F) x+(y - x)*r):=by
 obtain⟨R,h0,k⟩:=Uy B hB (pl F) F (AJ h);refine⟨R,h0,fun x y hx hy=>?_⟩;obtain⟨r,hr,e⟩:=k x y hx hy;refine⟨r,hr,?_⟩;have e1:ev (pd F) x=CZ (pl F) (pd F) x:=F4 (Qg ((AJ h).mono (Nat.le_succ _))) x;rw[e1];exact e
theorem Vh(P:Nat->Rat->Prop)(mono:∀ i s t,P i s->s<=t->P i t):∀ m,(∀ i,i < m->∃ T,P i T)->∃ T,1<=T/\∀ i,i < m->P i T
 | 0,_=>⟨1,Ab,fun i hi=>Aa⟩
 | m+1,h=>by
  obtain⟨T,h1,h2⟩:=Vh P mono m fun i hi=>h i Aa;obtain⟨S,hS⟩:=h m Aa;refine⟨T+ab S,by have:=Au S;grind,fun i hi=>?_⟩;by_cases e:i=m
  ·subst e;exact mono _ _ _ hS (by have:=Uv S;grind)
  ·exact mono _ _ _ (h2 i Aa) (by have:=Au S;grind)
/-! ### the chain -/
theorem Ql{F:Nat->Rat}(zF:ZI F)(fF:Ae F)(h0:F≠pz):∃ c:Rat,0 < c/\rd F=psc c F:=by
 have h1:=IW zF fF h0;have h2:(0:Rat) < ((cn F:Nat):Rat):=by
  have:0 < cn F:=Nat.pos_of_ne_zero h1;exact_mod_cast this
 refine⟨1 / ((cn F:Nat):Rat),?_,rfl⟩;have h3:((cn F:Nat):Rat)*(1 / ((cn F:Nat):Rat))=1:=by grind
 rcases Std.lt_trichotomy 0 (1 / ((cn F:Nat):Rat))with a | a | a
 ·exact a
 ·rw[<-a,Rat.mul_zero]at h3;exact absurd h3 Ab
 ·exfalso
  have:=Kb h2 a;grind
theorem lK{A B:Nat->Rat}(fA:Ae A)(fB:Ae B)(h0:B≠pz):nx A B=pz↔pr A B=pz:=by
 constructor
 ·intro h
  have:=(Km fA fB h0).2.2.1;rw[h,BH]at this;exact(Bt (ES fA fB)).1 this.symm
 ·exact I9
theorem Fx.dv{F0 G0 A B:Nat->Rat}{D S:Nat}(h:Fx F0 G0 D S A B){E:Nat->Rat}(hE:Ae E):(Dv E A/\Dv E B)↔(Dv E F0/\Dv E G0):=by
 obtain⟨A',B',e,d,h,rfl,rfl,he,hd⟩:=h;rw[Ga (F3 he),Ga (F3 hd)];exact h.dv E hE
theorem M4{F G E:Nat->Rat}(c:DR F G)(hE:Ae E)(h1:Dv E F)(h2:Dv E G):pl E=1:=DR.self hE ((c.dv h1).symm.dv h2)
theorem Fx.cop{F0 G0 A B:Nat->Rat}{D S:Nat}(h:Fx F0 G0 D S A B)(c:DR F0 G0):DR A B:=by
 obtain⟨fA,fB,-⟩:=h.facts;obtain⟨U,V,E,fU,fV,hg,e⟩:=Zo (pl B) fA fB (Nat.le_refl _);obtain⟨d1,d2⟩:=(h.dv hg.1).1 ⟨hg.2.2.1,hg.2.2.2.1⟩;have h1:=M4 c hg.1 d1 d2;have hne:E≠pz:=fun q=>by rw[q,BH]at h1;omega
 have hl:=hg.2.1 hne;have hE:E=pone:=by
  funext i
  match i with
  | 0 =>
   have:ld E=E 0:=by unfold ld;rw[h1]
   rw[<-this,hl];rfl
  | i+1=>exact(AJ hg.1) (i+1) Aa
 exact⟨U,V,fU,fV,by rw[e,hE]⟩
noncomputable def vx(F:Nat->Rat)(K:Nat)(x:Rat):Nat:=VH (fun i=>ev (Ca F (pd F) i) x) K
noncomputable def J6(F:Nat->Rat)(x y:Rat):Nat:=open Classical in if ev F x≠0/\BK (ev F y)≠BK (ev F x)then 1 else 0
theorem Gy{c q:Rat}(h:0 < c):BK (c*q)=BK q:=by
 unfold BK;rcases Std.lt_trichotomy q 0 with a | a | a
 ·have:=Kb h a
  rw[if_neg (show ¬ 0 < c*q by grind),if_pos this,if_neg (show ¬ 0 < q by grind),if_pos a]
 ·rw[a,Rat.mul_zero]
 ·have:=Rat.mul_pos h a
  rw[if_pos this,if_pos a]
section
variable{F:Nat->Rat}{K:Nat}
structure EJ(F:Nat->Rat)(K:Nat):Prop where
 z:ZI F
 f:Ae F
 n:F≠pz
 c:DR F (pd F)
 k:MM F (pd F) K
theorem EJ.st(h:EJ F K){S:Nat}(hS:∀ i,qsz (F i)<=S)(hS2:∀ i,qsz (pd F i)<=S)(i:Nat)(hi:i < K):Fx F (pd F) (pl F+pl (pd F)) S (Ca F (pd F) i) (Ca F (pd F) (i+1)):=
 IG h.f (BR h.f) h.z (Dn h.z) hS hS2 i fun j a b=>h.k.2.2 j a Aa
theorem EJ.room(h:EJ F K):∃ S,(∀ i,qsz (F i)<=S)/\∀ i,qsz (pd F i)<=S:=by
 obtain⟨S,hS⟩:=DJ h.f;obtain⟨T,hT⟩:=DJ (BR h.f);exact⟨max S T,fun i=>Nat.le_trans (hS i) (Nat.le_max_left _ _),fun i=>Nat.le_trans (hT i) (Nat.le_max_right _ _)⟩
theorem EJ.ne0(h:EJ F K):Ca F (pd F) 0≠pz:=by
 obtain⟨c,hc,e⟩:=Ql h.z h.f h.n;intro q;have e2:Ca F (pd F) 0=rd F:=rfl;rw[e2,e]at q;have:=CV (show c≠0 by grind) h.f;rw[q,BH]at this;exact h.n ((Bt h.f).1 this.symm)
theorem EJ.ne(h:EJ F K){i:Nat}(hi:i < K):Ca F (pd F) i≠pz:=by
 match i with
 | 0=>exact h.ne0
 | i+1=>exact h.k.2.2 (i+1) Aa hi
theorem EJ.fin(h:EJ F K){i:Nat}(hi:i < K):Ae (Ca F (pd F) i):=by
 obtain⟨S,a,b⟩:=h.room;exact(h.st a b i hi).facts.1
theorem EJ.last(h:EJ F K):pl (Ca F (pd F) (K - 1))=1:=by
 obtain⟨S,a,b⟩:=h.room;have hK:=h.k.1;have h1:=h.st a b (K - 1) Aa;have e:K - 1+1=K:=by omega
 rw[e,h.k.2.1]at h1;obtain⟨fA,-⟩:=h1.facts;exact M4 h.c fA ((h1.dv fA).1 ⟨Dv.refl _,Dv.zero _⟩).1 ((h1.dv fA).1 ⟨Dv.refl _,Dv.zero _⟩).2
theorem EJ.recr(h:EJ F K){i:Nat}(hi:i+2 < K):∃ q c,Ae q/\0 < c/\∀ x,ev (Ca F (pd F) i) x=ev q x*ev (Ca F (pd F) (i+1)) x - c*ev (Ca F (pd F) (i+2)) x:=by
 have f0:=h.fin (show i < K by omega);have f1:=h.fin (show i+1 < K by omega);have n1:=h.ne (show i+1 < K by omega);have n2:=h.ne hi;have hp:pr (Ca F (pd F) i) (Ca F (pd F) (i+1))≠pz:=fun q=>n2 ((lK f0 f1 n1).2 q);obtain⟨-,fx,-,-,hc⟩:=Km f0 f1 n1;obtain⟨c,hc0,e⟩:=hc hp;refine⟨pq (Ca F (pd F) i) (Ca F (pd F) (i+1)),c,Ea _ _,hc0,fun x=>?_⟩;have e2:=Lb (Ca F (pd F) i) (Ca F (pd F) (i+1));have e3:ev (Ca F (pd F) i) x=ev (pad (cv (pq (Ca F (pd F) i) (Ca F (pd F) (i+1))) (Ca F (pd F) (i+1))) (pr (Ca F (pd F) i) (Ca F (pd F) (i+1)))) x:=by rw[<-e2]
 rw[e3,Kz ((Ea _ _).cv f1) (ES f0 f1),EN (Ea _ _) f1,e,FX _ fx];show _ + -c*ev (nx (Ca F (pd F) i) (Ca F (pd F) (i+1))) x=_ - c*ev (Ca F (pd F) (i+2)) x;rw[Ji];grind
theorem IZ{c:Rat}(h:0 < c):0 < 1 / c/\1 / c*c=1:=by
 have e:1 / c*c=1:=by grind
 refine⟨?_,e⟩;rcases Std.lt_trichotomy 0 (1 / c)with p | p | p
 ·exact p
 ·rw[<-p,Rat.zero_mul]at e;exact absurd e Ab
 ·have:=Kb h p;grind
theorem QQ{p q t s:Rat}(h1:p<=t*q)(h2:0<=q)(h3:t<=s):p<=s*q:=Std.le_trans h1 (Rat.mul_le_mul_of_nonneg_right h3 h2)
theorem ZF{a b c d:Rat}(ha:1<=a)(hb:1<=b)(hc:1<=c):a<=a+b+c+ab d/\b<=a+b+c+ab d/\c<=a+b+c+ab d/\d<=a+b+c+ab d/\1<=a+b+c+ab d:=by
 have h1:=Au d;have h2:=Uv d;refine⟨?_,?_,?_,?_,?_⟩<;>grind
theorem EX{a b c:Rat}(h:a<=b)(hc:0<=c):a<=b+c:=by grind
theorem DX{a b c:Rat}(h:a<=c)(hb:0<=b):a<=b+c:=by grind
theorem EJ.lipT(h:EJ F K){B:Rat}(hB:0<=B):∃ T,1<=T/\∀ i,i < K->∀ x y,ab x<=B->ab y<=B->ab (ev (Ca F (pd F) i) x - ev (Ca F (pd F) i) y)<=T*ab (x - y):=
 Vh (fun i T=>∀ x y,ab x<=B->ab y<=B->ab (ev (Ca F (pd F) i) x - ev (Ca F (pd F) i) y)<=T*ab (x - y)) (fun i s t p q x y hx hy=>QQ (p x y hx hy) (Au _) q) K fun i hi=>by
  obtain⟨L,-,hL⟩:=PP (h.fin hi) hB;exact⟨L,hL⟩
theorem EJ.bezT(h:EJ F K){B:Rat}(hB:0<=B):∃ T,1<=T/\∀ i,i < K->∃ U W,Ae U/\Ae W/\pad (cv U (Ca F (pd F) i)) (cv W (Ca F (pd F) (i+1)))=pone/\∀ x,ab x<=B->ab (ev U x)<=T/\ab (ev W x)<=T:=by
 obtain⟨S,a,b⟩:=h.room;refine Vh (fun i T=>∃ U W,Ae U/\Ae W/\pad (cv U (Ca F (pd F) i)) (cv W (Ca F (pd F) (i+1)))=pone/\∀ x,ab x<=B->ab (ev U x)<=T/\ab (ev W x)<=T) (fun i s t p q=>?_) K fun i hi=>?_
 ·obtain⟨U,W,c1,c2,c3,c4⟩:=p
  exact⟨U,W,c1,c2,c3,fun x hx=>⟨Std.le_trans (c4 x hx).1 q,Std.le_trans (c4 x hx).2 q⟩⟩
 ·obtain⟨U,W,c1,c2,c3⟩:=(h.st a b i hi).cop h.c
  obtain⟨M,m0,hM⟩:=GR c1 hB;obtain⟨N,n0,hN⟩:=GR c2 hB;exact⟨M+N,U,W,c1,c2,c3,fun x hx=>⟨EX (hM x hx) n0,DX (hN x hx) m0⟩⟩
theorem EJ.recT(h:EJ F K){B:Rat}(hB:0<=B):∃ T,1<=T/\∀ i,i < K->i+2 < K->∃ q c,Ae q/\0 < c/\(∀ x,ev (Ca F (pd F) i) x=ev q x*ev (Ca F (pd F) (i+1)) x - c*ev (Ca F (pd F) (i+2)) x)/\(∀ x,ab x<=B->ab (ev q x)<=T)/\1<=T*c:=by
 refine Vh (fun i T=>i+2 < K->∃ q c,Ae q/\0 < c/\(∀ x,ev (Ca F (pd F) i) x=ev q x*ev (Ca F (pd F) (i+1)) x - c*ev (Ca F (pd F) (i+2)) x)/\(∀ x,ab x<=B->ab (ev q x)<=T)/\1<=T*c) (fun i s t p q hi=>?_) K fun i hi=>?_
 ·obtain⟨u,c,c1,c2,c3,c4,c5⟩:=p hi
  exact⟨u,c,c1,c2,c3,fun x hx=>Std.le_trans (c4 x hx) q,QQ c5 (Std.le_of_lt c2) q⟩
 ·by_cases hi2:i+2 < K
  ·obtain⟨q,c,c1,c2,c3⟩:=h.recr hi2
   obtain⟨M,m0,hM⟩:=GR c1 hB;obtain⟨hp,e⟩:=IZ c2;refine⟨M+1 / c,fun _=>⟨q,c,c1,c2,c3,fun x hx=>EX (hM x hx) (Std.le_of_lt hp),?_⟩⟩;have h1:=Rat.mul_nonneg m0 (Std.le_of_lt c2);rw[Rat.add_mul,e];exact DX (Std.le_refl _) h1
  ·exact⟨0,fun q=>absurd q hi2⟩
theorem EJ.topT(h:EJ F K){B:Rat}(hB:0<=B)(hK1:1 < K):∃ k T4:Rat,0 < k/\1<=T4*k/\∀ x y,ab x<=B->ab y<=B->∃ r,ab r<=T4/\ev (Ca F (pd F) 0) y - ev (Ca F (pd F) 0) x=(y - x)*(k*ev (Ca F (pd F) 1) x+(y - x)*r):=by
 obtain⟨c0,hc0,e0⟩:=Ql h.z h.f h.n;obtain⟨R,hR0,hR⟩:=iA h.f hB;have e00:Ca F (pd F) 0=rd F:=rfl;have e01:Ca F (pd F) 1=rd (pd F):=rfl;have n1:pd F≠pz:=fun q=>h.ne hK1 (by rw[e01,q,Vs]);obtain⟨c1,hc1,e1⟩:=Ql (Dn h.z) (BR h.f) n1;obtain⟨hp1,i1⟩:=IZ hc1;have hk:0 < c0*(1 / c1):=Rat.mul_pos hc0 hp1;obtain⟨hp2,i2⟩:=IZ hk;have hcR:=Rat.mul_nonneg (Std.le_of_lt hc0) hR0;obtain⟨k,hkd⟩:∃ k,k=c0*(1 / c1):=⟨_,rfl⟩
 rw[<-hkd]at hk hp2 i2;refine⟨k,1 / k+c0*R,hk,?_,fun x y hx hy=>?_⟩
 ·rw[Rat.add_mul,i2]
  exact EX (Std.le_refl _) (Rat.mul_nonneg hcR (Std.le_of_lt hk))
 ·obtain⟨r,hr,e⟩:=hR x y hx hy
  refine⟨c0*r,?_,?_⟩
  ·rw[Cs,Ei (Std.le_of_lt hc0)]
   exact DX (Rat.mul_le_mul_of_nonneg_left hr (Std.le_of_lt hc0)) (Std.le_of_lt hp2)
  ·rw[e00,e01,e0,e1,FX _ h.f,FX _ h.f,FX _ (BR h.f)]
   obtain⟨P,hP⟩:∃ P,P=ev (pd F) x:=⟨_,rfl⟩
   rw[<-hP]at e ⊢;have e6:c0*ev F y - c0*ev F x=c0*(ev F y - ev F x):=by rw[Rat.sub_eq_add_neg,Rat.sub_eq_add_neg,Rat.mul_add,Rat.mul_neg]
   rw[e6,e,hkd];clear hR hr e hx hy hcR h hk hp2 i2 e6;have e7:c0*(1 / c1)*(c1*P)=c0*P*(1 / c1*c1):=by grind
   rw[e7,i1];grind
theorem EJ.cells(h:EJ F K){B:Rat}(hB:0<=B):∃ T,1<=T/\∀ x y,ab x<=B->ab y<=B->x < y->4*(T*(T*(T*(T*(y - x))))) < 1->KY (K - 1) (fun i=>ev (Ca F (pd F) i) x) (fun i=>ev (Ca F (pd F) i) y) T (y - x):=by
 have hK:=h.k.1;obtain⟨T1,t1,h1⟩:=h.lipT hB;obtain⟨T2,t2,h2⟩:=h.bezT hB;obtain⟨T3,t3,h3⟩:=h.recT hB;obtain⟨k,T4,h4⟩:∃ k T4:Rat,1 < K->0 < k/\1<=T4*k/\∀ x y,ab x<=B->ab y<=B->∃ r,ab r<=T4/\ev (Ca F (pd F) 0) y - ev (Ca F (pd F) 0) x=(y - x)*(k*ev (Ca F (pd F) 1) x+(y - x)*r):=by
  by_cases hK1:1 < K
  ·obtain⟨k,T4,q⟩:=h.topT hB hK1;exact⟨k,T4,fun _=>q⟩
  ·exact⟨0,0,fun q=>absurd q hK1⟩
 obtain⟨l1,l2,l3,l4,l5⟩:=ZF (d:=T4) t1 t2 t3;obtain⟨T,hT⟩:∃ T,T=T1+T2+T3+ab T4:=⟨_,rfl⟩
 rw[<-hT]at l1 l2 l3 l4 l5;refine⟨T,l5,fun x y hx hy hxy hsm=>?_⟩;have hlast:=h.last;have hcl:∀ z,ev (Ca F (pd F) (K - 1)) z=Ca F (pd F) (K - 1) 0:=fun z=>by
  unfold ev;rw[hlast,En];show _+z*0=_;rw[Rat.mul_zero,Rat.add_zero]
 have hd0:0 < y - x:=by clear hsm h1 h2 h3 h4 hcl;grind
 have hdxy:ab (x - y)=y - x:=by
  clear hsm h1 h2 h3 h4 hcl;unfold ab;rw[if_pos Ah];grind
 have hfin:∀ i,i < K->Ae (Ca F (pd F) i):=fun i hi=>h.fin hi;have hne:=Dh (hfin (K - 1) Aa) (h.ne (show K - 1 < K by omega));have hbz:∀ z,ab z<=B->∀ i,i+1 < K->∃ U W,U*ev (Ca F (pd F) i) z+W*ev (Ca F (pd F) (i+1)) z=1/\ab U<=T/\ab W<=T:=fun z hz i hi=>by
  obtain⟨U,W,c1,c2,c3,c4⟩:=h2 i Aa;refine⟨ev U z,ev W z,?_,Std.le_trans (c4 z hz).1 l2,Std.le_trans (c4 z hz).2 l2⟩;rw[<-EN c1 (hfin i Aa),<-EN c2 (hfin (i+1) hi),<-Kz (c1.cv (hfin i Aa)) (c2.cv (hfin (i+1) hi)),c3,MP]
 have hrc:∀ z,ab z<=B->∀ i,i+2 < K->∃ q c,ev (Ca F (pd F) i) z=q*ev (Ca F (pd F) (i+1)) z - c*ev (Ca F (pd F) (i+2)) z/\ab q<=T/\0 < c/\1<=T*c:=fun z hz i hi=>by
  obtain⟨q,c,c1,c2,c3,c4,c5⟩:=h3 i Aa hi;exact⟨ev q z,c,c3 z,Std.le_trans (c4 z hz) l3,c2,QQ c5 (Std.le_of_lt c2) l3⟩
 refine⟨l5,hd0,hsm,fun i hi=>?_,fun i hi=>hbz x hx i Aa,fun i hi=>hbz y hy i Aa,fun i hi=>hrc x hx i Aa,fun i hi=>hrc y hy i Aa,⟨by rw[hcl,hcl],?_⟩,fun hm=>?_⟩
 ·have:=h1 i Aa x y hx hy
  rw[hdxy]at this;exact QQ this (Std.le_of_lt hd0) l1
 ·show ev (Ca F (pd F) (K - 1)) x≠0
  rw[hcl];unfold ld at hne;rw[hlast]at hne;exact hne
 ·obtain⟨g1,g2,g3⟩:=h4 Aa
  obtain⟨r,hr,e⟩:=g3 x y hx hy;exact⟨k,r,e,g1,QQ g2 (Std.le_of_lt g1) l4,Std.le_trans hr l4⟩
theorem Tg{T:Rat}(hT:1<=T):∃ δ:Rat,0 < δ/\∀ d,d<=δ->4*(T*(T*(T*(T*d)))) < 1:=by
 have hT0:0 < T:=by grind
 have p2:=Rat.mul_pos hT0 hT0;have p3:=Rat.mul_pos hT0 p2;have p4:=Rat.mul_pos hT0 p3;obtain⟨P,hP⟩:∃ P,P=T*(T*(T*T)):=⟨_,rfl⟩
 rw[<-hP]at p4;obtain⟨hδ,hi⟩:=IZ (show 0 < 8*P by grind);refine⟨1 / (8*P),hδ,fun d hd=>?_⟩;have e:T*(T*(T*(T*d)))=P*d:=by rw[hP];grind
 rw[e];have h1:=Rat.mul_le_mul_of_nonneg_left hd (show 0<=P by grind);obtain⟨X,hX⟩:∃ X,X=1 / (8*P):=⟨_,rfl⟩
 rw[<-hX]at h1 hi;have h2:X*(8*P)=8*(P*X):=by grind
 rw[h2]at hi;clear h2 hX e hP p2 p3 hδ;grind
theorem EJ.local_(h:EJ F K){B:Rat}(hB:0<=B):∃ δ:Rat,0 < δ/\∀ x y,ab x<=B->ab y<=B->x < y->y - x<=δ->vx F K x=vx F K y+J6 F x y:=by
 obtain⟨T,hT,hc⟩:=h.cells hB;obtain⟨δ,hδ,hs⟩:=Tg hT;refine⟨δ,hδ,fun x y hx hy hxy hd=>?_⟩;have hs:=(hc x y hx hy hxy (hs _ hd)).sturm;have hK:=h.k.1;rw[show K - 1+1=K by omega]at hs;obtain⟨c0,hc0,e0⟩:=Ql h.z h.f h.n;have e00:∀ z,ev (Ca F (pd F) 0) z=c0*ev F z:=fun z=>by
  show ev (rd F) z=_;rw[e0,FX _ h.f]
 have e2:(if BK (ev (Ca F (pd F) 0) x)≠0/\BK (ev (Ca F (pd F) 0) y)≠BK (ev (Ca F (pd F) 0) x)then 1 else 0)=J6 F x y:=by
  rw[e00,e00,Gy hc0,Gy hc0];unfold J6;have hz:BK (ev F x)≠0↔ev F x≠0:=by rw[Ne,Eb]
  by_cases c:ev F x≠0/\BK (ev F y)≠BK (ev F x)
  ·rw[if_pos ⟨hz.2 c.1,c.2⟩,if_pos c]
  ·rw[if_neg (fun q=>c ⟨hz.1 q.1,q.2⟩),if_neg c]
 rw[e2]at hs;exact hs
end
theorem mQ(q:Rat):∃ n:Nat,0 < n/\q<=(n:Rat):=by
 refine⟨q.num.natAbs+1,Aa,?_⟩;have h1:(0:Rat)<=((q.num.natAbs:Nat):Rat):=by exact_mod_cast Nat.zero_le _
 have h2:(((q.num.natAbs+1:Nat)):Rat)=((q.num.natAbs:Nat):Rat)+1:=by push_cast;rfl
 rw[h2];rcases Std.lt_trichotomy 0 q with a | a | a
 ·have hd:(1:Rat)<=((q.den:Nat):Rat):=by
   have:=q.den_pos;exact_mod_cast this
  have e:q*((q.den:Nat):Rat)=((q.num:Int):Rat):=by
   have h3:=K9 q;have hd0:((q.den:Nat):Rat)≠0:=JV q.den_pos
   conv=>lhs;rw[h3]
   grind
  have h4:q*1<=q*((q.den:Nat):Rat):=Rat.mul_le_mul_of_nonneg_left hd (Std.le_of_lt a);have h5:((q.num:Int):Rat)<=((q.num.natAbs:Nat):Rat):=by
   have h6:q.num<=((q.num.natAbs:Nat):Int):=by omega
   have h7:((q.num:Int):Rat)<=((((q.num.natAbs:Nat):Int)):Rat):=by exact_mod_cast h6
   exact h7
  grind
 ·rw[<-a];grind
 ·grind
theorem Fj{a b z B:Rat}(ha:ab a<=B)(hb:ab b<=B)(h1:a<=z)(h2:z<=b):ab z<=B:=by
 rw[Fy]at *;exact⟨Std.le_trans ha.1 h1,Std.le_trans h2 hb.2⟩
noncomputable def VZ(F:Nat->Rat)(a s:Rat):Nat->Nat
 | 0=>0
 | n+1=>VZ F a s n+J6 F (a+((n:Nat):Rat)*s) (a+((n+1:Nat):Rat)*s)
section
variable{F:Nat->Rat}{K:Nat}
theorem CY(n:Nat):((n+1:Nat):Rat)=((n:Nat):Rat)+1:=by push_cast;rfl
theorem EG(n:Nat):(0:Rat)<=((n:Nat):Rat):=by exact_mod_cast Nat.zero_le n
theorem YO{V:Rat->Nat}{B δ:Rat}(hl:∀ x y,ab x<=B->ab y<=B->x < y->y - x<=δ->V x=V y+J6 F x y){a s:Rat}(hs:0 < s)(hsδ:s<=δ):∀ n,(∀ j,j<=n->ab (a+((j:Nat):Rat)*s)<=B)->V a=V (a+((n:Nat):Rat)*s)+VZ F a s n
 | 0,_=>by
  have e:a+((0:Nat):Rat)*s=a:=by show a+0*s=a;rw[Rat.zero_mul,Rat.add_zero]
  rw[e];rfl
 | n+1,hj=>by
  have h1:=YO hl hs hsδ n fun j h=>hj j Aa;have e:a+((n+1:Nat):Rat)*s=a+((n:Nat):Rat)*s+s:=by rw[CY];grind
  have h2:=hl (a+((n:Nat):Rat)*s) (a+((n+1:Nat):Rat)*s) (hj n Aa) (hj (n+1) (Nat.le_refl _)) (by rw[e];grind) (by rw[e];grind);rw[h1,h2];show _=_+(VZ F a s n+J6 F _ _);omega
theorem cut{a b δ:Rat}(hab:a < b)(hδ:0 < δ):∃ n s,0 < n/\0 < s/\s<=δ/\a+((n:Nat):Rat)*s=b/\∀ j,j<=n->a<=a+((j:Nat):Rat)*s/\a+((j:Nat):Rat)*s<=b:=by
 obtain⟨hi,ei⟩:=IZ hδ;obtain⟨n,hn,hq⟩:=mQ ((b - a)*(1 / δ));have hn0:(0:Rat) < ((n:Nat):Rat):=by exact_mod_cast hn
 obtain⟨hm,em⟩:=IZ hn0;have hba:0 < b - a:=by grind
 obtain⟨s,hs⟩:∃ s,s=(b - a)*(1 / ((n:Nat):Rat)):=⟨_,rfl⟩
 have hs0:0 < s:=by rw[hs];exact Rat.mul_pos hba hm
 have ens:((n:Nat):Rat)*s=b - a:=by rw[hs];grind
 refine⟨n,s,hn,hs0,?_,by rw[ens];grind,fun j hj=>?_⟩
 ·-- b - a<=n δ
  have h1:=Rat.mul_le_mul_of_nonneg_right hq (show 0<=δ by grind);have e1:(b - a)*(1 / δ)*δ=b - a:=by grind
  rw[e1,<-ens]at h1;rcases Std.lt_trichotomy s δ with c | c | c
  ·exact Std.le_of_lt c
  ·rw[c];exact Std.le_refl _
  ·exfalso
   have:=Rat.mul_lt_mul_of_pos_left c hn0;grind
 ·have h0:=Rat.mul_nonneg (EG j) (Std.le_of_lt hs0)
  have hjn:((j:Nat):Rat)<=((n:Nat):Rat):=by exact_mod_cast hj
  have h1:=Rat.mul_le_mul_of_nonneg_right hjn (Std.le_of_lt hs0);rw[ens]at h1;refine⟨Ah,Ah⟩
theorem EJ.sums(h:EJ F K){a b:Rat}(hab:a < b){ε:Rat}(hε:0 < ε):∃ n s,0 < n/\0 < s/\s<=ε/\a+((n:Nat):Rat)*s=b/\(∀ j,j<=n->a<=a+((j:Nat):Rat)*s/\a+((j:Nat):Rat)*s<=b)/\vx F K a=vx F K b+VZ F a s n:=by
 have hB:0<=ab a+ab b:=by have:=Au a;have:=Au b;grind
 obtain⟨δ,hδ,hl⟩:=h.local_ hB;have hm:∃ μ:Rat,0 < μ/\μ<=δ/\μ<=ε:=by
  rcases Std.lt_trichotomy δ ε with c | c | c
  ·exact⟨δ,hδ,Std.le_refl _,Std.le_of_lt c⟩
  ·exact⟨δ,hδ,Std.le_refl _,by rw[c];exact Std.le_refl _⟩
  ·exact⟨ε,hε,Std.le_of_lt c,Std.le_refl _⟩
 obtain⟨μ,hμ,h1,h2⟩:=hm;obtain⟨n,s,hn,hs,hsμ,e,hj⟩:=cut hab hμ;refine⟨n,s,hn,hs,Std.le_trans hsμ h2,e,hj,?_⟩;have:=YO hl hs (Std.le_trans hsμ h1) n fun j hjn=>Fj (EX (Std.le_refl _) (Au b)) (DX (Std.le_refl _) (Au a)) (hj j hjn).1 (hj j hjn).2;rw[e]at this;exact this
theorem EJ.mono(h:EJ F K){a b:Rat}(hab:a<=b):vx F K b<=vx F K a:=by
 rcases Std.lt_trichotomy a b with c | c | c
 ·obtain⟨n,s,-,-,-,-,-,e⟩:=h.sums c (ε:=1) Ab
  omega
 ·rw[c];exact Nat.le_refl _
 ·exfalso;grind
theorem Pj{a s:Rat}:∀ n,(∀ j,j < n->J6 F (a+((j:Nat):Rat)*s) (a+((j+1:Nat):Rat)*s)=0)->VZ F a s n=0
 | 0,_=>rfl
 | n+1,hj=>by
  show VZ F a s n+J6 F _ _=0;rw[Pj n fun j h=>hj j Aa,hj n Aa]
theorem EJ.flat(h:EJ F K){a b ε:Rat}(hab:a<=b)(hε:0 < ε)(hf:∀ z,a<=z->z<=b->ε<=ab (ev F z)):vx F K a=vx F K b:=by
 rcases Std.lt_trichotomy a b with c | c | c
 ·have hB:0<=ab a+ab b:=by have:=Au a;have:=Au b;grind
  obtain⟨L,hL0,hL⟩:=PP h.f hB;obtain⟨hi,ei⟩:=IZ (show 0 < L+1 by grind);have hμ:0 < ε*(1 / (L+1))*(1 / 2):=Rat.mul_pos (Rat.mul_pos hε hi) Ah;obtain⟨n,s,hn,hs,hsμ,e,hj,hv⟩:=h.sums c hμ;have hLs:L*s < ε:=by
   have h1:=Rat.mul_le_mul_of_nonneg_left hsμ (show 0<=L+1 by grind);have e1:(L+1)*(ε*(1 / (L+1))*(1 / 2))=ε*(1 / 2):=by grind
   rw[e1]at h1;grind
  have hz:=Pj (F:=F) (a:=a) (s:=s) n fun j hjn=>by
   unfold J6;refine if_neg fun q=>?_;obtain⟨x1,x2⟩:=hj j Aa;obtain⟨y1,y2⟩:=hj (j+1) Aa;have bx:=Fj (EX (Std.le_refl (ab a)) (Au b)) (DX (Std.le_refl _) (Au a)) x1 x2;have by_:=Fj (EX (Std.le_refl (ab a)) (Au b)) (DX (Std.le_refl _) (Au a)) y1 y2;have hl:=hL _ _ bx by_;have ed:ab (a+((j:Nat):Rat)*s - (a+((j+1:Nat):Rat)*s))=s:=by
    have:a+((j:Nat):Rat)*s - (a+((j+1:Nat):Rat)*s) = - s:=by rw[CY];grind
    rw[this,Nu,Ei (Std.le_of_lt hs)]
   rw[ed]at hl;have:=(Gn hl (fun t=>q.2 t.1.symm)).1;have h3:=hf _ x1 x2;grind
  rw[hz]at hv;exact hv
 ·rw[c]
 ·exfalso;grind
theorem iV{f:Nat->Rat}(hf:Ae f)(h0:f≠pz){B z:Rat}(hB:1<=B)(hc:∀ i,i < pl f - 1->ab (f i)<=ab (ld f)*(B - 1))(hz:B<=ab z):ab (ld f)<=ab (ev f z):=by
 have hp:=AZ hf h0;have hl:=Au (ld f);have key:∀ k,k < pl f->ab (ld f)<=ab (hor f z (pl f) (pl f - 1 - k)):=by
  intro k;induction k with
  | zero =>
   intro _;have e:=Lf f z (show pl f - 1 < pl f by omega);rw[show pl f - 1+1=pl f by omega,PH,Rat.zero_mul,Rat.zero_add]at e;rw[Nat.sub_zero,e];exact Std.le_refl _
  | succ k ih =>
   intro hk;have h1:=ih Aa;have e:=Lf f z (show pl f - 1 - (k+1) < pl f by omega);rw[show pl f - 1 - (k+1)+1=pl f - 1 - k by omega]at e;have h2:=hc (pl f - 1 - (k+1)) Aa;have h3:ab (ld f)*ab z<=ab (hor f z (pl f) (pl f - 1 - k)*z):=by rw[Cs];exact Rat.mul_le_mul_of_nonneg_right h1 (Au _)
   have h4:ab (hor f z (pl f) (pl f - 1 - k)*z)<=ab (hor f z (pl f) (pl f - 1 - (k+1)))+ab (f (pl f - 1 - (k+1))):=by
    have:=XR (hor f z (pl f) (pl f - 1 - (k+1))) (f (pl f - 1 - (k+1)));have e2:hor f z (pl f) (pl f - 1 - (k+1)) - f (pl f - 1 - (k+1))=hor f z (pl f) (pl f - 1 - k)*z:=by rw[e];grind
    rw[e2]at this;exact this
   have h5:ab (ld f)*B<=ab (ld f)*ab z:=Rat.mul_le_mul_of_nonneg_left hz hl;have h6:ab (ld f)*(B - 1)=ab (ld f)*B - ab (ld f):=by grind
   rw[h6]at h2;clear hc ih e h0 hf;grind
 have:=key (pl f - 1) Aa;rw[show pl f - 1 - (pl f - 1)=0 by omega,Ol]at this;exact this
theorem EJ.beyond(h:EJ F K){f q:Nat->Rat}(hf:Ae f)(h0:f≠pz)(fq:Ae q)(e:f=cv q F){B:Rat}(hB:1<=B)(hc:∀ i,i < pl f - 1->ab (f i)<=ab (ld f)*(B - 1)){a b:Rat}(hab:a<=b)(hout:∀ z,a<=z->z<=b->B<=ab z):vx F K a=vx F K b:=by
 have hBn:0<=ab a+ab b:=by have:=Au a;have:=Au b;grind
 obtain⟨M,hM0,hM⟩:=GR fq hBn;obtain⟨hi,ei⟩:=IZ (show 0 < M+1 by grind);have hl:0 < ab (ld f):=Yo.2 (Dh hf h0);refine h.flat hab (Rat.mul_pos hl hi) fun z h1 h2=>?_;have hc1:=iV hf h0 hB hc (hout z h1 h2);have hb:=hM z (Fj (EX (Std.le_refl (ab a)) (Au b)) (DX (Std.le_refl _) (Au a)) h1 h2);rw[e,EN fq h.f,Cs,<-e]at hc1;have hz:=Au (ev F z);have h3:ab (ev q z)*ab (ev F z)<=(M+1)*ab (ev F z):=Rat.mul_le_mul_of_nonneg_right Ah hz
 have h4:=Std.le_trans hc1 h3;have h5:=Rat.mul_le_mul_of_nonneg_right h4 (Std.le_of_lt hi);have e2:(M+1)*ab (ev F z)*(1 / (M+1))=ab (ev F z):=by grind
 rw[e2]at h5;exact h5
end
theorem N7{P:Rat->Rat->Prop}{a b δ:Rat}(hδ:0 < δ)(hab:a < b)(hc:∀ x y,a<=x->x < y->y<=b->y - x<=δ->P x y)
  (ht:∀ x y z,a<=x->x < y->y < z->z<=b->P x y->P y z->P x z):P a b:=by
 obtain⟨n,s,hn,hs,hsδ,e,hj⟩:=cut hab hδ;have key:∀ k,k < n->P a (a+((k+1:Nat):Rat)*s):=by
  intro k;induction k with
  | zero =>
   intro h;have e1:a+((0+1:Nat):Rat)*s=a+s:=by rw[CY];show a+(0+1)*s=_;grind
   have:=(hj 1 Aa).2;rw[show((1:Nat):Rat)=((0+1:Nat):Rat)from rfl]at this;rw[e1]at this ⊢;exact hc a (a+s) (Std.le_refl _) Ah this Ah
  | succ k ih =>
   intro h;have e1:a+((k+1+1:Nat):Rat)*s=a+((k+1:Nat):Rat)*s+s:=by rw[CY];grind
   have h1:=hj (k+1) Aa;have h2:=hj (k+1+1) Aa;have h3:a < a+((k+1:Nat):Rat)*s:=by
    have:=Rat.mul_nonneg (EG k) (Std.le_of_lt hs);rw[CY];grind
   refine ht a (a+((k+1:Nat):Rat)*s) _ (Std.le_refl _) h3 (by rw[e1];grind) h2.2 (ih Aa) ?_;exact hc _ _ h1.1 (by rw[e1];grind) h2.2 (by rw[e1];grind)
 have:=key (n - 1) Aa;rw[show n - 1+1=n by omega,e]at this;exact this
noncomputable def rt(F:Nat->Rat)(K:Nat)(p q:Rat):Int:=(vx F K p:Int) - (vx F K q:Int)
section
variable{F:Nat->Rat}{K:Nat}
theorem Jd(F:Nat->Rat)(K:Nat)(p q r:Rat):rt F K p q+rt F K q r=rt F K p r:=by unfold rt;omega
theorem Q6(F:Nat->Rat)(K:Nat)(p:Rat):rt F K p p=0:=by unfold rt;omega
theorem EJ.rt_nonneg(h:EJ F K){p q:Rat}(hpq:p<=q):0<=rt F K p q:=by have:=h.mono hpq;unfold rt;omega
theorem EJ.rt_sub(h:EJ F K){p x y q:Rat}(h1:p<=x)(h2:x<=y)(h3:y<=q):rt F K x y<=rt F K p q:=by
 have:=h.rt_nonneg h1;have:=h.rt_nonneg h3;have:=Jd F K p x y;have:=Jd F K p y q;omega
theorem EJ.loc(h:EJ F K)(a b:Rat):∃ δ:Rat,0 < δ/\∀ x y,a<=x->x < y->y<=b->y - x<=δ->rt F K x y=J6 F x y:=by
 have hB:0<=ab a+ab b:=by have:=Au a;have:=Au b;grind
 obtain⟨δ,hδ,hl⟩:=h.local_ hB;refine⟨δ,hδ,fun x y h1 h2 h3 h4=>?_⟩;have:=hl x y (Fj (EX (Std.le_refl (ab a)) (Au b)) (DX (Std.le_refl _) (Au a)) h1 Ah)
  (Fj (EX (Std.le_refl (ab a)) (Au b)) (DX (Std.le_refl _) (Au a)) Ah h3) h2 h4
 unfold rt;omega
theorem Jo{q:Rat}(h:BK q≠0):q≠0:=fun e=>h (Eb.2 e)
theorem NJ{q:Rat}(h:q≠0):BK q≠0:=fun e=>h (Eb.1 e)
theorem YD{x y:Rat}(h:(J6 F x y:Int)=0)(hx:ev F x≠0):BK (ev F y)=BK (ev F x):=by
 unfold J6 at h
 split at h
 ·omega
 ·rename_i c
  exact Classical.byContradiction fun e=>c ⟨hx,e⟩
theorem ZP{x y:Rat}(hx:ev F x≠0)(h:BK (ev F y)≠BK (ev F x)):(J6 F x y:Int)=1:=by
 unfold J6;rw[if_pos ⟨hx,h⟩];rfl
theorem iX(F:Nat->Rat)(x y:Rat):0<=(J6 F x y:Int)/\(J6 F x y:Int)<=1:=by
 unfold J6;split<;>simp
theorem EJ.sg_const(h:EJ F K){p q:Rat}(hpq:p<=q)(h0:rt F K p q=0)(hp:ev F p≠0):BK (ev F q)=BK (ev F p):=by
 rcases Std.lt_trichotomy p q with c | c | c
 ·obtain⟨δ,hδ,hl⟩:=h.loc p q
  refine N7 (P:=fun x y=>rt F K x y=0->ev F x≠0->BK (ev F y)=BK (ev F x)) hδ c (fun x y a b c d e f=>?_) (fun x y z a b c d e f g k=>?_) h0 hp
  ·rw[hl x y a b c d]at e
   exact YD e f
  ·have h1:=h.rt_nonneg (Std.le_of_lt b)
   have h2:=h.rt_nonneg (Std.le_of_lt c);have h3:=Jd F K x y z;have e1:=e Aa k;have e2:=f Aa (Jo (by rw[e1];exact NJ k));rw[e2,e1]
 ·rw[c]
 ·exfalso;grind
theorem OG(hf:Ae F)(h0:F≠pz){p z δ:Rat}(hp:p < z)(hδ:0 < δ):∃ x,p < x/\x < z/\z - x<=δ/\ev F x≠0:=by
 obtain⟨μ,hμ,m1,m2⟩:∃ μ:Rat,0 < μ/\μ<=δ/\μ < z - p:=by
  rcases Std.lt_trichotomy δ (z - p)with c | c | c
  ·exact⟨δ,hδ,Std.le_refl _,c⟩
  ·exact⟨δ / 2,Ah,Ah,Ah⟩
  ·exact⟨(z - p) / 2,Ah,Ah,Ah⟩
 refine Classical.byContradiction fun hn=>?_;have hz:∀ x,z - μ<=x->x < z->ev F x=0:=fun x a b=>Classical.byContradiction fun e=>hn ⟨x,Ah,b,Ah,e⟩;have hpl:=AZ hf h0;obtain⟨n,hn'⟩:∃ n,n=pl F:=⟨_,rfl⟩
 have hn0:(0:Rat) < ((n:Nat):Rat):=by rw[hn'];exact_mod_cast hpl
 obtain⟨hi,ei⟩:=IZ hn0;obtain⟨s,hs⟩:∃ s,s=μ*(1 / ((n:Nat):Rat)):=⟨_,rfl⟩
 have hs0:0 < s:=by rw[hs];exact Rat.mul_pos hμ hi
 have ens:((n:Nat):Rat)*s=μ:=by rw[hs];grind
 have hlist:((List.range n).map fun j:Nat=>z - μ+((j:Nat):Rat)*s).Nodup:=by
  rw[List.nodup_iff_pairwise_ne,List.pairwise_map];refine List.Pairwise.imp ?_ List.pairwise_lt_range;intro i j hij e;have hij':((i:Nat):Rat)+1<=((j:Nat):Rat):=by rw[<-CY];exact_mod_cast hij
  have:=Rat.mul_le_mul_of_nonneg_right hij' (Std.le_of_lt hs0);grind
 refine h0 (IM (l:=(List.range n).map fun j:Nat=>z - μ+((j:Nat):Rat)*s) (by rw[List.length_map,List.length_range,hn'];exact AJ hf) hlist ?_);intro x hx;obtain⟨j,hj,rfl⟩:=List.mem_map.1 hx;have hj:=List.mem_range.1 hj;have h1:=Rat.mul_nonneg (EG j) (Std.le_of_lt hs0);have hij':((j:Nat):Rat)+1<=((n:Nat):Rat):=by rw[<-CY];exact_mod_cast hj
 have:=Rat.mul_le_mul_of_nonneg_right hij' (Std.le_of_lt hs0);exact hz _ Ah Ah
theorem EJ.zero_counts(h:EJ F K){p z q:Rat}(h1:p < z)(h2:z<=q)(hz:ev F z=0):1<=rt F K p q:=by
 obtain⟨δ,hδ,hl⟩:=h.loc p z;obtain⟨x,a,b,c,d⟩:=OG h.f h.n h1 hδ;have e1:=hl x z (Std.le_of_lt a) b (Std.le_refl _) c;rw[ZP d (by rw[hz,Eb.2 rfl];exact fun e=>NJ d e.symm)]at e1;have:=h.rt_sub (Std.le_of_lt a) (Std.le_of_lt b) h2;omega
theorem EJ.change_counts(h:EJ F K){p q:Rat}(hpq:p<=q)(hp:ev F p≠0)(hc:BK (ev F q)≠BK (ev F p)):1<=rt F K p q:=by
 have h1:=h.rt_nonneg hpq;rcases Int.lt_or_le 0 (rt F K p q)with a | a
 ·exact a
 ·exact absurd (h.sg_const hpq Aa hp) hc
theorem EJ.free(h:EJ F K){p q x y:Rat}(h0:rt F K p q=0)(h1:p < x)(h2:x<=y)(h3:y<=q):ev F x≠0/\BK (ev F y)=BK (ev F x):=by
 have hx:ev F x≠0:=fun e=>by
  have:=h.zero_counts h1 (Std.le_trans h2 h3) e;omega
 have:=h.rt_sub (Std.le_of_lt h1) h2 h3;have:=h.rt_nonneg h2;exact⟨hx,h.sg_const h2 Aa hx⟩
end
theorem FN(p q:Rat):BK (p*q)=BK p*BK q:=by
 rcases Std.lt_trichotomy p 0 with a | a | a
 ·rcases Std.lt_trichotomy q 0 with b | b | b
  ·have:=RO a b
   unfold BK;rw[if_pos this,if_neg Ah,if_pos a,if_neg Ah,if_pos b];rfl
  ·rw[b,Rat.mul_zero,show BK 0=0 from Eb.2 rfl];simp
  ·have:=Kb b a
   rw[Rat.mul_comm]at this;unfold BK;rw[if_neg Ah,if_pos this,if_neg Ah,if_pos a,if_pos b];rfl
 ·rw[a,Rat.zero_mul,show BK 0=0 from Eb.2 rfl];simp
 ·rw[Gy a]
  unfold BK;rw[if_pos a];simp
theorem DR.cell{A B:Nat->Rat}(fA:Ae A)(fB:Ae B)(c:DR A B)(a b:Rat):∃ δ:Rat,0 < δ/\∀ x y,a<=x->x < y->y<=b->y - x<=δ ->
  (BK (ev A y)=BK (ev A x)/\ev A x≠0)\/(BK (ev B y)=BK (ev B x)/\ev B x≠0):=by
 obtain⟨U,W,fU,fW,e⟩:=c;have hB:0<=ab a+ab b:=by have:=Au a;have:=Au b;grind
 obtain⟨M,hM0,hM⟩:=GR fU hB;obtain⟨N,hN0,hN⟩:=GR fW hB;obtain⟨L,hL0,hL⟩:=PP fA hB;obtain⟨R,hR0,hR⟩:=PP fB hB;obtain⟨T,hT⟩:∃ T,T=M*L+N*R+1:=⟨_,rfl⟩
 have hML:=Rat.mul_nonneg hM0 hL0;have hNR:=Rat.mul_nonneg hN0 hR0;obtain⟨hi,ei⟩:=IZ (show 0 < T by grind);refine⟨1 / T*(1 / 2),Ah,fun x y h1 h2 h3 h4=>?_⟩;have bx:=Fj (EX (Std.le_refl (ab a)) (Au b)) (DX (Std.le_refl _) (Au a)) h1 (show x<=b by grind);have by_:=Fj (EX (Std.le_refl (ab a)) (Au b)) (DX (Std.le_refl _) (Au a)) (show a<=y by grind) h3;have eab:ab (x - y)=y - x:=by rw[show x - y = -(y - x) by grind,Nu,Ei Ah]
 have l1:=hL x y bx by_;have l2:=hR x y bx by_;rw[eab]at l1 l2;by_cases c1:BK (ev A x)=BK (ev A y)/\BK (ev A x)≠0
 ·exact .inl ⟨c1.1.symm,Jo c1.2⟩
 by_cases c2:BK (ev B x)=BK (ev B y)/\BK (ev B x)≠0
 ·exact .inr ⟨c2.1.symm,Jo c2.2⟩
 exfalso;have s1:=(Gn l1 c1).1;have s2:=(Gn l2 c2).1;have e1:ev U x*ev A x+ev W x*ev B x=1:=by
  rw[<-EN fU fA,<-EN fW fB,<-Kz (fU.cv fA) (fW.cv fB),e];have:ev pone x=CZ 1 pone x:=F4 Ev x;rw[this];show pone 0+x*0=1;show(1:Rat)+x*0=1;grind
 have h5:ab (ev U x*ev A x)<=M*(L*(y - x)):=by rw[Cs];exact Ff (hM x bx) s1 (Au _) hM0
 have h6:ab (ev W x*ev B x)<=N*(R*(y - x)):=by rw[Cs];exact Ff (hN x bx) s2 (Au _) hN0
 have h7:=Gb (ev U x*ev A x) (ev W x*ev B x);rw[e1,show ab 1=1 from by decide]at h7;have h8:=Rat.mul_le_mul_of_nonneg_left h4 (show 0<=T by grind);have e8:T*(1 / T*(1 / 2))=1 / 2:=by grind
 rw[e8]at h8;have e9:M*(L*(y - x))+N*(R*(y - x))=T*(y - x) - (y - x):=by rw[hT];grind
 grind
theorem EJ.rt_mul{A B:Nat->Rat}{K L M:Nat}(hA:EJ A K)(hB:EJ B L)(hC:EJ (cv A B) M)(c:DR A B){p q:Rat}(hpq:p<=q):rt (cv A B) M p q=rt A K p q+rt B L p q:=by
 rcases Std.lt_trichotomy p q with hlt | heq | hgt
 ·obtain⟨d1,g1,l1⟩:=hA.loc p q
  obtain⟨d2,g2,l2⟩:=hB.loc p q;obtain⟨d3,g3,l3⟩:=hC.loc p q;obtain⟨d4,g4,l4⟩:=c.cell hA.f hB.f p q;obtain⟨d,hd,q1,q2,q3,q4⟩:∃ d:Rat,0 < d/\d<=d1/\d<=d2/\d<=d3/\d<=d4:=by
   have two:∀ u v:Rat,0 < u->0 < v->∃ w,0 < w/\w<=u/\w<=v:=fun u v hu hv=>by
    rcases Std.lt_trichotomy u v with c | c | c
    ·exact⟨u,hu,Std.le_refl _,Std.le_of_lt c⟩
    ·exact⟨u,hu,Std.le_refl _,Ah⟩
    ·exact⟨v,hv,Std.le_of_lt c,Std.le_refl _⟩
   obtain⟨u,hu,u1,u2⟩:=two d1 d2 g1 g2;obtain⟨v,hv,v1,v2⟩:=two d3 d4 g3 g4;obtain⟨w,hw,w1,w2⟩:=two u v hu hv;exact⟨w,hw,Ah,Ah,Ah,Ah⟩
  refine N7 (P:=fun x y=>rt (cv A B) M x y=rt A K x y+rt B L x y) hd hlt (fun x y a1 a2 a3 a4=>?_) (fun x y z a1 a2 a3 a4 e f=>?_)
  ·rw[l1 x y a1 a2 a3 Ah,l2 x y a1 a2 a3 Ah,l3 x y a1 a2 a3 Ah]
   have e1:=EN hA.f hB.f x;have e2:=EN hA.f hB.f y;rcases l4 x y a1 a2 a3 Ah with⟨s,n⟩ | ⟨s,n⟩
   ·have j1:J6 A x y=0:=by unfold J6;exact if_neg fun q=>q.2 s
    have j2:J6 (cv A B) x y=J6 B x y:=by
     unfold J6;rw[e1,e2,FN,FN,s];have hs:=NJ n;have:(ev A x*ev B x≠0/\BK (ev A x)*BK (ev B y)≠BK (ev A x)*BK (ev B x))↔(ev B x≠0/\BK (ev B y)≠BK (ev B x)):=by
      refine and_congr ⟨fun h e=>h (by rw[e,Rat.mul_zero]),fun h e=>?_⟩ ⟨fun h e=>h (by rw[e]),fun h e=>h (Int.eq_of_mul_eq_mul_left hs e)⟩;rcases Rat.mul_eq_zero.1 e with k | k
      ·exact n k
      ·exact h k
     simp only[this]
    omega
   ·have j1:J6 B x y=0:=by unfold J6;exact if_neg fun q=>q.2 s
    have j2:J6 (cv A B) x y=J6 A x y:=by
     unfold J6;rw[e1,e2,FN,FN,s];have hs:=NJ n;have:(ev A x*ev B x≠0/\BK (ev A y)*BK (ev B x)≠BK (ev A x)*BK (ev B x))↔(ev A x≠0/\BK (ev A y)≠BK (ev A x)):=by
      refine and_congr ⟨fun h e=>h (by rw[e,Rat.zero_mul]),fun h e=>?_⟩ ⟨fun h e=>h (by rw[e]),fun h e=>h (Int.eq_of_mul_eq_mul_right hs e)⟩;rcases Rat.mul_eq_zero.1 e with k | k
      ·exact h k
      ·exact n k
     simp only[this]
    omega
  ·have h1:=Jd (cv A B) M x y z;have h2:=Jd A K x y z;have h3:=Jd B L x y z
   omega
 ·rw[heq,Q6,Q6,Q6];rfl
 ·exfalso;grind
def JS(B:Rat)(F:Nat->Rat):Prop:=∀ i,ab (F i)<=B
theorem Dp{a b c:Rat}(h:a<=b)(hc:0<=c):a*c<=b*c:=Rat.mul_le_mul_of_nonneg_right h hc
theorem CS{a b c:Rat}(h:a<=b)(hc:0<=c):c*a<=c*b:=Rat.mul_le_mul_of_nonneg_left h hc
theorem JS.lin{F:Nat->Rat}{B R a:Rat}(h:JS B F)(ha:ab a<=R):JS (B*(1+R)) (cv F (Hp.lin a)):=by
 intro i;have hB:0<=B:=by have:=h 0;have:=Au (F 0);grind
 have e:cv F (Hp.lin a)=pad (psc (-a) F) (cs 0 F):=by rw[Bn];unfold Hp.lin;rw[Ml,D8]
 have e2:cv F (Hp.lin a) i = -a*F i+cs 0 F i:=by rw[e];rfl
 have h1:ab (cs 0 F i)<=B:=by
  cases i with
  | zero=>show ab 0<=B;rw[show ab 0=0 from by decide];exact hB
  | succ i=>exact h i
 rw[e2];have h2:=Gb (-a*F i) (cs 0 F i);have h3:ab (-a*F i)=ab a*ab (F i):=by rw[Cs,Nu]
 have h4:ab a*ab (F i)<=R*B:=by
  have:=Dp ha (Au (F i));have h0:0<=R:=by have:=Au a;grind
  have:=CS (h i) h0;grind
 grind
theorem jM:ab 1=1:=by decide
theorem DY:ab 0=0:=by decide
theorem JS.lgp{X:Nat->Rat}{R:Rat}(i:Nat)(h0:0<=R):∀ n,(∀ k,k < n->ab (X k)<=R)->JS ((1+R)^n) (lgp X i n)
 | 0,_=>fun j=>by
  rw[Rat.pow_zero];show ab (pone j)<=1;unfold pone;cases j with
  | zero=>show ab 1<=1;rw[jM];grind
  | succ j=>show ab 0<=1;rw[DY];grind
 | n+1,h=>by
  have ih:=JS.lgp i h0 n fun k hk=>h k Aa;rw[Gc,Rat.pow_succ]
  split
  ·intro j
   have h1:=ih j;have h2:0<=(1+R)^n:=by have:=ih 0;have:=Au (Hp.lgp X i n 0);grind
   have h3:(1+R)^n*0<=(1+R)^n*R:=CS h0 h2;grind
  ·exact ih.lin (h n Aa)
theorem Vi{a b:Rat}(h0:0<=a)(h:a<=b):∀ n:Nat,0<=a^n/\a^n<=b^n
 | 0=>by rw[Rat.pow_zero,Rat.pow_zero];exact⟨Ab,Ah⟩
 | n+1=>by
  have ih:=Vi h0 h n;rw[Rat.pow_succ,Rat.pow_succ];have h1:=Dp ih.2 h0;have h2:0<=b^n:=by grind
  have h3:=CS h h2;have h4:=Dp ih.1 h0;exact⟨Ah,Ah⟩
theorem JS.psc{F:Nat->Rat}{B:Rat}(h:JS B F){a A:Rat}(ha:ab a<=A):JS (A*B) (psc a F):=fun i=>by
 show ab (a*F i)<=_;rw[Cs];have h1:=Dp ha (Au (F i));have h0:0<=A:=by have:=Au a;grind
 have h2:=CS (h i) h0;grind
theorem JS.pad{F G:Nat->Rat}{A B:Rat}(h:JS A F)(k:JS B G):JS (A+B) (pad F G):=fun i=>by
 show ab (F i+G i)<=_;have:=Gb (F i) (G i);have:=h i;have:=k i;grind
theorem Qp{F:Nat->Rat}{B R x:Rat}(h:JS B F)(h0:0<=R)(hx:ab x<=R):∀ n,ab (CZ n F x)<=B*(n:Rat)*(1+R)^n
 | 0=>by
  have hB:0<=B:=by have:=h 0;have:=Au (F 0);grind
  show ab 0<=_;rw[DY,Rat.pow_zero];show(0:Rat)<=B*0*1;grind
 | n+1=>by
  have hB:0<=B:=by have:=h 0;have:=Au (F 0);grind
  have ih:=Qp (F:=tl F) (fun i=>h (i+1)) h0 hx n;rw[En,Rat.pow_succ];have h1:=Gb (F 0) (x*CZ n (tl F) x);have h2:=h 0;have h3:ab (x*CZ n (tl F) x)=ab x*ab (CZ n (tl F) x):=Cs _ _;have h4:=Dp hx (Au (CZ n (tl F) x));have h5:=CS ih h0;have hp:=Vi (a:=1) (b:=1+R) Ab Ah n;have hp2:(1:Rat)^n=1:=by
   clear ih h1 h2 h3 h4 h5 hp;induction n with
   | zero=>rfl
   | succ n ih=>rw[Rat.pow_succ,ih];grind
  rw[hp2]at hp;have hn0:(0:Rat)<=(n:Rat):=by exact_mod_cast Nat.zero_le n
  obtain⟨P,hP⟩:∃ P,P=(1+R)^n:=⟨_,rfl⟩
  rw[<-hP]at h5 hp ⊢;have hc:(((n+1:Nat):Rat))=(n:Rat)+1:=by push_cast;rfl
  rw[hc];have hBn:0<=B*(n:Rat):=by have:=CS hn0 hB;grind
  have q1:R*(B*(n:Rat)*P)<=B*(n:Rat)*P*(1+R):=by
   have:0<=B*(n:Rat)*P:=by have:=CS (show(0:Rat)<=P by grind) hBn;grind
   grind
  have q2:B*1<=B*(P*(1+R)):=CS (by
   have:=Dp hp.2 (show 0<=1+R by grind);grind) hB
  grind
theorem KC(x:Int):ab (x:Rat)=((x.natAbs:Nat):Rat):=by
 unfold ab
 split
 ·rename_i h
  have:x < 0:=by exact_mod_cast h
  have e:((x.natAbs:Nat):Int) = -x:=by omega
  rw[show((x.natAbs:Nat):Rat)=(((x.natAbs:Nat):Int):Rat)from rfl,e];simp
 ·rename_i h
  have:0<=x:=Int.not_lt.1 fun h'=>h (by exact_mod_cast h');have e:((x.natAbs:Nat):Int)=x:=by omega
  rw[show((x.natAbs:Nat):Rat)=(((x.natAbs:Nat):Int):Rat)from rfl,e]
theorem VP{y z Y:Rat}(hy:ab y<=Y)(hz:1<=ab z):ab (y / z)<=Y:=by
 have hne:z≠0:=fun e=>by rw[e,DY]at hz;exact absurd hz Ab
 have h1:ab (y / z)*ab z=ab y:=by rw[<-Cs,show y / z*z=y by grind]
 have h2:=CS hz (Au (y / z));grind
theorem ZI.lgp{X:Nat->Rat}(i:Nat):∀ n,(∀ k,k < n->∃ m:Int,X k=(m:Rat))->ZI (lgp X i n)
 | 0,_=>fun j=>by cases j with | zero=>exact⟨1,rfl⟩ | succ j=>exact⟨0,rfl⟩
 | n+1,h=>by
  have ih:=ZI.lgp i n fun k hk=>h k Aa;rw[Gc]
  split
  ·exact ih
  ·obtain⟨m,hm⟩:=h n Aa
   have e:Hp.cv (Hp.lgp X i n) (lin (X n))=Hp.pad (Hp.psc (-X n) (Hp.lgp X i n)) (cs 0 (Hp.lgp X i n)):=by rw[Bn];unfold lin;rw[Ml,D8]
   intro j;rw[e];obtain⟨a,ha⟩:=ih j;obtain⟨b,hb⟩:∃ b:Int,cs 0 (Hp.lgp X i n) j=(b:Rat):=by
    cases j with
    | zero=>exact⟨0,rfl⟩
    | succ j=>exact ih j
   refine⟨-m*a+b,?_⟩;show -X n*Hp.lgp X i n j+cs 0 (Hp.lgp X i n) j=_;rw[ha,hb,hm]
   push_cast
   rfl
theorem MN{F D:Nat->Rat}{n:Nat}{B:Rat}(zF:ZI F)(fF:Ae F)(h0:F≠pz)(zD:ZI D)(fD:Ae D)(hd:Ie F D)(hn:pl F<=n)(hB:JS B F) :
  JS ((n:Rat)*(B*(n:Rat)*(1+2*(n:Rat))^n*(1+2*(n:Rat))^n)) D:=by
 obtain⟨X,hA,hX⟩:=OY fF h0 hn;obtain⟨Q,zQ,fQ,e⟩:=hd;obtain⟨R,hR⟩:∃ R:Rat,R=2*(n:Rat):=⟨_,rfl⟩
 have hR0:0<=R:=by
  have:(0:Rat)<=(n:Rat):=by exact_mod_cast Nat.zero_le n
  grind
 rw[<-hR];have hXi:∀ k,k < n->∃ m:Int,X k=(m:Rat):=fun k hk=>by obtain⟨-,m,-,h2⟩:=hX k hk;exact⟨m,h2⟩
 have hXR:∀ k,k < n->ab (X k)<=R:=fun k hk=>by
  obtain⟨-,m,h1,h2⟩:=hX k hk;rw[h2,KC,hR];have:((((m:Nat):Int).natAbs:Nat):Rat)=((m:Nat):Rat):=by simp
  rw[this];have h3:((m:Nat):Rat)<=((2*n:Nat):Rat):=by exact_mod_cast Nat.le_of_lt h1
  have h4:((2*n:Nat):Rat)=2*(n:Rat):=by push_cast;rfl
  grind
 obtain⟨YY,hYY⟩:∃ YY,YY=B*(n:Rat)*(1+R)^n:=⟨_,rfl⟩
 rw[<-hYY];have hY:∀ k,k < n->ab (ev D (X k))<=YY:=fun k hk=>by
  obtain⟨h3,m,-,h4⟩:=hX k hk;have h1:=Qp hB hR0 (hXR k hk) n;rw[<-F4 ((AJ fF).mono hn),<-hYY]at h1;have h5:ev F (X k)=ev Q (X k)*ev D (X k):=by rw[e,EN fQ fD]
  rw[h4]at h1 h3 h5 ⊢;obtain⟨a,ha⟩:=ND zF (m:Int);obtain⟨b,hb⟩:=ND zQ (m:Int);obtain⟨c,hc⟩:=ND zD (m:Int);rw[ha]at h1 h3;rw[ha,hb,hc]at h5;rw[hc];have h6:a=b*c:=by exact_mod_cast h5
  have h7:a≠0:=fun e=>h3 (by rw[e];rfl);have h8:c.natAbs<=a.natAbs:=Nat.le_of_dvd Aa (Int.natAbs_dvd_natAbs.2 ⟨b,by rw[h6,Int.mul_comm]⟩);rw[KC]at h1 ⊢;have:((c.natAbs:Nat):Rat)<=((a.natAbs:Nat):Rat):=by exact_mod_cast h8
  grind
 have hDn:D≠pz:=fun e2=>h0 (by rw[e,e2,IR]);have hDl:pl D<=pl F:=Dv.le fD fF h0 ⟨Q,fQ,e⟩;obtain⟨Y,hYe⟩:∃ Y,Y=fun k=>ev D (X k):=⟨_,rfl⟩
 have hD:D=bB X Y n n:=KS hA ((AJ fD).mono Aa) (Q8 X Y n n (Nat.le_refl _)) fun k hk=>by
  rw[YL hA hk n (Nat.le_refl _),if_pos hk,hYe]
 have hc:∀ j,j < n->JS (YY*(1+R)^n) (iL X Y n j):=fun j hj=>by
  refine(JS.lgp (R:=R) j hR0 n hXR).psc (VP (by rw[hYe];exact hY j hj) ?_);have h1:=YJ X (i:=j) (n:=n) (x:=X j) fun k hk hne=>hA.ne hj hk hne;obtain⟨m,hm⟩:=hXi j hj;rw[hm]at h1 ⊢;obtain⟨y,hy⟩:=ND (ZI.lgp j n hXi) m;rw[hy]at h1 ⊢;rw[KC];have:y≠0:=fun e=>h1 (by rw[e];rfl);have h2:1<=y.natAbs:=by omega
  exact_mod_cast h2
 have hl:∀ m,m<=n->JS ((m:Rat)*(YY*(1+R)^n)) (bB X Y n m):=by
  intro m;induction m with
  | zero =>
   intro _ i;show ab 0<=(0:Rat)*_;rw[DY];grind
  | succ m ih =>
   intro h i;have h1:=((ih Aa).pad (hc m h)) i;have hc:(((m+1:Nat):Rat))=(m:Rat)+1:=by push_cast;rfl
   rw[hc];show ab (Hp.pad (bB X Y n m) (iL X Y n m) i)<=_;grind
 rw[hD];exact hl n (Nat.le_refl _)
noncomputable def J5(F:Nat->Rat):Nat->Rat
 | 0=>0
 | k+1=>if J5 F k < ab (F k / ld F)then ab (F k / ld F)else J5 F k
theorem Kl(F:Nat->Rat):∀ k,0<=J5 F k
 | 0=>by show(0:Rat)<=0;decide
 | k+1=>by
  rw[J5]
  split
  ·exact Au _
  ·exact Kl F k
theorem O9(q:Rat):qsz (ab q)=qsz q:=by
 unfold ab
 split
 ·exact Gu q
 ·rfl
theorem MK{F:Nat->Rat}{s:Nat}(h:∀ i,qsz (F i)<=s)(hs:1<=s):∀ k,qsz (J5 F k)<=2*s
 | 0=>by show qsz 0<=_;rw[GK];omega
 | k+1=>by
  rw[J5]
  split
  ·rw[O9]
   have h1:=IK (F k) (ld F);have h2:=h k;have h3:qsz (ld F)<=s:=h _;omega
  ·exact MK h hs k
def P2(r:Rat)(j:Nat):Prop:=r < 2^j/\∀ i,i < j->(2:Rat)^i<=r
theorem P2.uniq{r:Rat}{i j:Nat}(h:P2 r i)(k:P2 r j):i=j:=by
 rcases Nat.lt_trichotomy i j with a | a | a
 ·have:=k.2 i a;have:=h.1;grind
 ·exact a
 ·have:=h.2 j a;have:=k.1;grind
theorem BI(n:Nat):((2:Rat)^n)=((2^n:Nat):Rat):=by
 induction n with
 | zero=>rfl
 | succ n ih=>rw[Rat.pow_succ,ih,Nat.pow_succ];push_cast;rfl
theorem P2.ex{r:Rat}{N:Nat}(h:r<=(N:Rat)):∃ j,P2 r j/\j<=N:=by
 have hN:r < 2^N:=by
  have h1:N < 2^N:=Nat.lt_two_pow_self;have h2:(N:Rat) < ((2^N:Nat):Rat):=by exact_mod_cast h1
  rw[BI];grind
 have key:∀ n,r < 2^n->∃ j,P2 r j/\j<=n:=by
  intro n;induction n with
  | zero=>intro h;exact⟨0,⟨h,fun i hi=>Aa⟩,Nat.le_refl _⟩
  | succ n ih =>
   intro hn;by_cases h1:r < 2^n
   ·obtain⟨j,a,b⟩:=ih h1
    exact⟨j,a,Aa⟩
   ·refine⟨n+1,⟨hn,fun i hi=>?_⟩,Nat.le_refl _⟩
    have h3:(2:Nat)^i<=2^n:=Nat.pow_le_pow_right Ab Aa;have h4:((2^i:Nat):Rat)<=((2^n:Nat):Rat):=by exact_mod_cast h3
    rw[<-BI,<-BI]at h4;grind
 exact key N hN
theorem MO{m n:Nat}(h:m<=n):((m:Nat):Rat)<=((n:Nat):Rat):=by exact_mod_cast h
theorem Ce(n:Nat):(0:Rat) < 2^n:=by rw[BI];exact_mod_cast Nat.two_pow_pos n
theorem Ob(n:Nat):(1:Rat)<=2^n:=by rw[BI];exact_mod_cast Nat.one_le_two_pow
theorem L8{m n:Nat}(h:m<=n):(2:Rat)^m<=2^n:=by rw[BI,BI];exact_mod_cast Nat.pow_le_pow_right Ab h
theorem DK(m n:Nat):(2:Rat)^(m+n)=2^m*2^n:=by rw[BI,BI,BI,Nat.pow_add];push_cast;rfl
theorem Pm(n:Nat):((n:Nat):Rat)<=2^n:=by rw[BI];exact_mod_cast Nat.le_of_lt Nat.lt_two_pow_self
theorem TA{a b c d:Rat}(h1:a<=b)(h2:c<=d)(hc:0<=c)(hb:0<=b):a*c<=b*d:=Ff h1 h2 hc hb
theorem MX{q:Rat}{s:Nat}(h:qsz q<=s):ab q<=2^(32*s)/\(q≠0->1<=ab q*2^(32*s)):=by
 have hn:q.num.natAbs<=2^(32*s):=by
  have:=F5.1 (Nat.le_trans (Ia q) h);rw[Cy]at this;omega
 have hd:q.den<=2^(32*s):=by
  have:=F5.1 (Nat.le_trans (FO q) h);rw[Cy,Int.natAbs_natCast]at this;omega
 have hd0:(0:Rat) < ((q.den:Nat):Rat):=by exact_mod_cast q.den_pos
 have hd1:(1:Rat)<=((q.den:Nat):Rat):=by exact_mod_cast q.den_pos
 have e:q*((q.den:Nat):Rat)=(q.num:Rat):=by
  have:=K9 q;have h0:((q.den:Nat):Rat)≠0:=by grind
  grind
 have e2:ab q*((q.den:Nat):Rat)=((q.num.natAbs:Nat):Rat):=by
  rw[<-KC,<-e,Cs,Ei (Std.le_of_lt hd0)]
 have hq:=Au q;rw[BI];constructor
 ·have h1:((q.num.natAbs:Nat):Rat)<=((2^(32*s):Nat):Rat):=MO hn
  have h2:=TA (Std.le_refl (ab q)) hd1 Ab hq;grind
 ·intro hq0
  have h1:(1:Rat)<=((q.num.natAbs:Nat):Rat):=by
   have:1<=q.num.natAbs:=by
    have:q.num≠0:=fun e=>hq0 (Rat.num_eq_zero.1 e);omega
   exact_mod_cast this
  have h2:=TA (Std.le_refl (ab q)) (MO hd) (Std.le_of_lt hd0) hq;grind
theorem gM{F:Nat->Rat}(z:ZI F){i:Nat}(h:F i≠0):1<=ab (F i):=by
 obtain⟨m,hm⟩:=z i;rw[hm,KC];have:m≠0:=fun e=>h (by rw[hm,e];rfl);have:1<=m.natAbs:=by omega
 exact_mod_cast this
theorem aQ{F:Nat->Rat}(h:F≠pz):∃ i,F i≠0:=Classical.byContradiction fun e=>h (funext fun i=>Classical.byContradiction fun k=>e ⟨i,k⟩)
theorem FP(m:Nat):∀ n:Nat,((m:Nat):Rat)^n=((m^n:Nat):Rat)
 | 0=>rfl
 | n+1=>by rw[Rat.pow_succ,FP m n,Nat.pow_succ];push_cast;rfl
theorem SL{F:Nat->Rat}{a b n:Nat}(h:JS (2^a) F){x:Rat}(hx:ab x<=2^b - 1):ab (CZ n F x)<=2^(a+n+b*n):=by
 have h1:=Qp h (show(0:Rat)<=2^b - 1 by have:=Ob b;grind) hx n;have e:(1:Rat)+(2^b - 1)=2^b:=by grind
 have e2:((2:Rat)^b)^n=2^(b*n):=by
  rw[BI,BI,Nat.pow_mul];exact FP (2^b) n
 rw[e,e2]at h1;rw[DK,DK];have h2:=TA (TA (Std.le_refl ((2:Rat)^a)) (Pm n) (EG n) (Std.le_of_lt (Ce a))) (Std.le_refl ((2:Rat)^(b*n))) (Std.le_of_lt (Ce _)) (Rat.mul_nonneg (Std.le_of_lt (Ce a)) (Std.le_of_lt (Ce n)));exact Std.le_trans h1 h2
theorem JS.tl{F:Nat->Rat}{B:Rat}(h:JS B F):JS B (Hp.tl F):=fun i=>h (i+1)
theorem Rc{a b:Nat}{x y:Rat}(hx:ab x<=2^b - 1)(hy:ab y<=2^b - 1):∀(n:Nat) (F:Nat->Rat),JS (2^a) F->ab (CZ n F x - CZ n F y)<=2^(a+2*n+b*n)*ab (x - y)
 | 0,F,_=>by
  show ab (0 - 0)<=_;rw[show(0:Rat) - 0=0 by grind,DY];exact Rat.mul_nonneg (Std.le_of_lt (Ce _)) (Au _)
 | n+1,F,h=>by
  have ih:=Rc hx hy n (tl F) h.tl;have hv:=SL (n:=n) h.tl hx;have hd:=Au (x - y);have e:F 0+x*CZ n (tl F) x - (F 0+y*CZ n (tl F) y)=(x - y)*CZ n (tl F) x+y*(CZ n (tl F) x - CZ n (tl F) y):=by grind
  rw[En,En,e];have h1:=Gb ((x - y)*CZ n (tl F) x) (y*(CZ n (tl F) x - CZ n (tl F) y));have h2:ab ((x - y)*CZ n (tl F) x)<=2^(a+n+b*n)*ab (x - y):=by
   rw[Cs,Rat.mul_comm];exact Dp hv hd
  have hy2:ab y<=2^b:=by grind
  have h3:ab (y*(CZ n (tl F) x - CZ n (tl F) y))<=2^b*(2^(a+2*n+b*n)*ab (x - y)):=by
   rw[Cs];exact TA hy2 ih (Au _) (Std.le_of_lt (Ce b))
  have h4:(2:Rat)^(a+n+b*n)<=2^(a+2*n+b*n+b):=L8 Aa;have h5:=Dp h4 hd;have e3:(2:Rat)^b*(2^(a+2*n+b*n)*ab (x - y))=2^(a+2*n+b*n+b)*ab (x - y):=by rw[DK _ b];grind
  have e4:(2:Rat)^(a+2*(n+1)+b*(n+1))=4*2^(a+2*n+b*n+b):=by
   rw[show a+2*(n+1)+b*(n+1)=2+(a+2*n+b*n+b) by rw[Nat.mul_succ,Nat.mul_succ];omega,DK 2];congr 1
  rw[e4];have h6:=Rat.mul_nonneg (Std.le_of_lt (Ce (a+2*n+b*n+b))) hd;grind
theorem JS.pd{F:Nat->Rat}{a n:Nat}(h:JS (2^a) F)(hs:BA (n+1) F):JS (2^(a+n)) (Hp.pd F):=fun i=>by
 show ab (((i+1:Nat):Rat)*F (i+1))<=_;by_cases hi:i+1<=n
 ·rw[Cs,Ei (EG _),DK,Rat.mul_comm ((2:Rat)^a)]
  refine TA (Std.le_trans (MO hi) (Pm n)) (h _) (Au _) (Std.le_of_lt (Ce n))
 ·rw[hs (i+1) Aa,Rat.mul_zero,DY]
  exact Std.le_of_lt (Ce _)
theorem Sj{a b:Nat}{x y:Rat}(hx:ab x<=2^b - 1)(hy:ab y<=2^b - 1):∀(n:Nat) (F:Nat->Rat),JS (2^a) F->BA n F ->
  ∃ r,ab r<=2^(a+3*n+b*n)/\CZ n F y - CZ n F x=(y - x)*(CZ n (pd F) x+(y - x)*r)
 | 0,F,_,_=>⟨0,by rw[DY];exact Std.le_of_lt (Ce _),by show(0:Rat) - 0=_*(0+_*0);grind⟩
 | n+1,F,h,hs=>by
  obtain⟨r,hr,e⟩:=Sj hx hy n (tl F) h.tl hs.tl;have hpd:JS (2^(a+n)) (pd (tl F)):=JS.pd h.tl (hs.tl.mono (Nat.le_succ n));have hv:=SL (n:=n) hpd hx;refine⟨CZ n (pd (tl F)) x+y*r,?_,?_⟩
  ·have h1:=Gb (CZ n (pd (tl F)) x) (y*r)
   have hy2:ab y<=2^b:=by grind
   have h2:ab (y*r)<=2^b*2^(a+3*n+b*n):=by rw[Cs];exact TA hy2 hr (Au _) (Std.le_of_lt (Ce b))
   have h3:(2:Rat)^(a+n+n+b*n)<=2^(a+3*n+b*n+b):=L8 Aa;have e3:(2:Rat)^b*2^(a+3*n+b*n)=2^(a+3*n+b*n+b):=by rw[DK _ b];grind
   have e4:(2:Rat)^(a+3*(n+1)+b*(n+1))=8*2^(a+3*n+b*n+b):=by
    rw[show a+3*(n+1)+b*(n+1)=3+(a+3*n+b*n+b) by rw[Nat.mul_succ,Nat.mul_succ];omega,DK 3];congr 1
   have h6:=Ce (a+3*n+b*n+b);grind
  ·have e1:CZ (n+1) (pd F) x=CZ n (tl F) x+x*CZ n (pd (tl F)) x:=by
    rw[XJ];congr 1;exact MJ hs.tl (Nat.le_succ n) x
   rw[e1,En,En];grind
/-! ### two polynomials without a common root are not small together -/
def J2(S D b:Nat):Nat:=96*(2*((S+1)*2^D)+(D+1)*((S+1)*2^D+1))+(D+1)+b*(D+1)+1
section
variable{F0 G0 A B:Nat->Rat}{D S:Nat}
theorem Fx.low1(h:Fx F0 G0 D S A B)(h0:B≠pz){b:Nat}{x e:Rat}(hx:ab x<=2^b - 1)(hA:ab (ev A x)<=e)(hB:ab (ev B x)<=e):ab (ev (nx A B) x)<=e*2^(J2 S D b):=by
 obtain⟨fA,fB,zA,zB,hd,qA,qB⟩:=h.facts;obtain⟨M,hM⟩:∃ M,M=(S+1)*2^D:=⟨_,rfl⟩
 have he0:0<=e:=Std.le_trans (Au _) hA;obtain⟨cA,cB,cR⟩:=h.clear h0 (M:=M) (by rw[hM];exact qA) (by rw[hM];exact qB);obtain⟨zN,fN,-,-,hN⟩:=Km fA fB h0;by_cases hR:pr A B=pz
 ·rw[I9 hR,R8,DY]
  exact Rat.mul_nonneg he0 (Std.le_of_lt (Ce _))
 obtain⟨c,hc,ec⟩:=hN hR;have hq:∀ i,qsz (pq A B i)<=2*M+(D+1)*(M+1):=fun i=>by
  have h1:=Oi (n:=pl A+1 - pl B) ((AJ fA).mono (by have:=AZ fB h0;omega)) fB h0 cA cB i;have h2:(pl A+1 - pl B)*(M+1)<=(D+1)*(M+1):=Nat.mul_le_mul_right _ Aa;omega
 obtain⟨X,hX⟩:∃ X,X=2*M+(D+1)*(M+1):=⟨_,rfl⟩
 rw[<-hX]at hq
 -- the factor c
 have hcl:1<=c*2^(64*X):=by
  obtain⟨i,hi⟩:=aQ hR;have e1:pr A B i = -c*nx A B i:=by rw[ec];rfl
  have hni:nx A B i≠0:=fun q=>hi (by rw[e1,q,Rat.mul_zero]);have h1:=(MX (Nat.le_trans (cR.elem i) (show _<=X by omega))).2 hi;have h2:ab (nx A B i)<=2^(32*X):=(MX (Nat.le_trans ((h.step h0).facts.2.2.2.2.2.2 i) (show _<=X by omega))).1;rw[e1,Cs,Nu,Ei (Std.le_of_lt hc)]at h1;have h3:=TA (TA (Std.le_refl c) h2 (Au _) (Std.le_of_lt hc)) (Std.le_refl ((2:Rat)^(32*X))) (Std.le_of_lt (Ce _)) (Rat.mul_nonneg (Std.le_of_lt hc) (Std.le_of_lt (Ce _)))
  rw[show 64*X=32*X+32*X by omega,DK];grind
 -- the quotient's value
 have hqv:ab (ev (pq A B) x)<=2^(32*X+(D+1)+b*(D+1)):=by
  have hsup:BA (D+1) (pq A B):=(LB (n:=pl A+1 - pl B) ((AJ fA).mono (by have:=AZ fB h0;omega)) fB h0).mono Aa;rw[F4 hsup];exact SL (fun i=>(MX (hq i)).1) hx
 have e2:c*ev (nx A B) x=ev (pq A B) x*ev B x - ev A x:=by
  have e3:ev A x=ev (pq A B) x*ev B x+ev (pr A B) x:=by
   conv=>lhs;rw[Lb A B]
   rw[Kz ((Ea A B).cv fB) (ES fA fB),EN (Ea A B) fB]
  rw[ec,FX _ fN]at e3;grind
 obtain⟨Q,hQ⟩:∃ Q:Rat,Q=2^(32*X+(D+1)+b*(D+1)):=⟨_,rfl⟩
 rw[<-hQ]at hqv;have hQ1:1<=Q:=by rw[hQ];exact Ob _
 have h5:c*ab (ev (nx A B) x)<=2*(Q*e):=by
  have h6:=XR (ev (pq A B) x*ev B x) (ev A x);rw[<-e2,Cs,Ei (Std.le_of_lt hc),Cs]at h6;have h7:=TA hqv hB (Au _) Ah;have h8:=TA hQ1 (Std.le_refl e) he0 Ah;grind
 have h9:=TA (Std.le_refl (ab (ev (nx A B) x))) hcl Ab (Au _);have h10:=Dp h5 (Std.le_of_lt (Ce (64*X)));have e11:(2:Rat)^(J2 S D b)=2*Q*2^(64*X):=by
  rw[hQ,show J2 S D b=1+(32*X+(D+1)+b*(D+1))+64*X by unfold J2;rw[<-hM,<-hX];omega,DK,DK 1];congr 1
 rw[e11];grind
theorem Fx.low(c:DR F0 G0){b:Nat}{x:Rat}(hx:ab x<=2^b - 1):∀(n:Nat) {A B:Nat->Rat} {e:Rat},Fx F0 G0 D S A B->pl B<=n->ab (ev A x)<=e->ab (ev B x)<=e->1<=e*2^(n*J2 S D b):=by
 intro n;induction n with
 | zero =>
  intro A B e h hn hA hB;obtain⟨fA,fB,zA,zB,hd,qA,qB⟩:=h.facts;have hBz:B=pz:=(Bt fB).1 Aa;have hc:=h.cop c;rw[hBz]at hc;have hA1:pl A=1:=M4 hc fA (Dv.refl A) (Dv.zero A);have e1:ev A x=A 0:=by unfold ev;rw[hA1];show A 0+x*0=A 0;grind
  have hA0:A 0≠0:=by have:=Ez fA Aa;rwa[hA1]at this
  have h1:=gM zA hA0;rw[e1]at hA;rw[Nat.zero_mul,Rat.pow_zero];grind
 | succ n ih =>
  intro A B e h hn hA hB;have hY:=Ob (J2 S D b);have he0:0<=e:=Std.le_trans (Au _) hA;have hgrow:e<=e*2^J2 S D b:=by have:=TA (Std.le_refl e) hY Ab he0;grind
  have e3:(2:Rat)^((n+1)*J2 S D b)=2^J2 S D b*2^(n*J2 S D b):=by rw[Nat.succ_mul,Nat.add_comm,DK]
  by_cases h0:B=pz
  ·have:=ih h (by rw[h0,BH];omega) hA hB
   have h2:=Dp hgrow (Std.le_of_lt (Ce (n*J2 S D b)));rw[e3];grind
  ·have hN:=h.low1 h0 hx hA hB
   obtain⟨fA,fB,zA,zB,hd,qA,qB⟩:=h.facts;have hlt:=(Km fA fB h0).2.2.2.1;have:=ih (h.step h0) Aa (Std.le_trans hB hgrow) hN;rw[e3];grind
end
theorem dQ{F:Nat->Rat}(zF:ZI F)(fF:Ae F)(x:Rat):ab (ev (rd F) x)<=ab (ev F x):=by
 unfold rd;rw[FX _ fF,Cs];have h1:ab (1 / ((cn F:Nat):Rat))<=1:=by
  rcases Nat.eq_zero_or_pos (cn F)with h | h
  ·rw[h,show(1:Rat) / ((0:Nat):Rat)=0 from by rw[Rat.div_def];show 1*(0:Rat)⁻¹ = 0;rw[Rat.inv_zero,Rat.mul_zero],DY];decide
  ·have hp:(0:Rat) < ((cn F:Nat):Rat):=by exact_mod_cast h
   have h1':(1:Rat)<=((cn F:Nat):Rat):=by exact_mod_cast h
   obtain⟨hi,ei⟩:=IZ hp;rw[Ei (Std.le_of_lt hi)];have:=TA (Std.le_refl (1 / ((cn F:Nat):Rat))) h1' Ab (Std.le_of_lt hi);grind
 have:=Dp h1 (Au (ev F x));grind
def WG(S D b:Nat):Nat:=D*J2 S D b
theorem DR.low{F G:Nat->Rat}{S D b:Nat}(c:DR F G)(fF:Ae F)(fG:Ae G)(zF:ZI F)(zG:ZI G)(qF:∀ i,qsz (F i)<=S)(qG:∀ i,qsz (G i)<=S)(hD:pl F+pl G=D)
  {x e:Rat} (hx:ab x<=2^b - 1) (h1:ab (ev F x)<=e) (h2:ab (ev G x)<=e):1<=e*2^(WG S D b):=by
 have hs:=Fx.start fF fG zF zG qF qG;rw[hD]at hs;have he0:0<=e:=Std.le_trans (Au _) h1;refine hs.low c hx D ?_ (Std.le_trans (dQ zF fF x) h1) (Std.le_trans (dQ zG fG x) h2);have:=hs.facts.2.2.2.2.1;omega
structure SF(F:Nat->Rat):Prop where
 p:BB F
 c:DR F (pd F)
theorem BB.eq_dv{F G:Nat->Rat}(h:BB F)(k:BB G)(a:Dv F G)(b:Dv G F):F=G:=by
 have e:mn F=mn G:=V9 (LC h.f) (LC k.f) (fun _=>UC h.f h.n) (fun _=>UC k.f k.n) ((IU h.f).trans (a.trans (GU G))) ((IU k.f).trans (b.trans (GU F)));have hl:=Dh h.f h.n;have kl:=Dh k.f k.n;have e1:F=psc (ld F) (mn F):=by unfold mn;rw[Ci,show ld F*(1 / ld F)=1 by grind,Cq]
 have e2:mn G=psc (1 / ld G) G:=rfl;have e3:F=psc (ld F*(1 / ld G)) G:=by
  conv=>lhs;rw[e1,e,e2,Ci]
 have e4:Hp.pp F=Hp.pp G:=Q7 h.z k.z k.f k.n (by
  intro q;have:=LX kl;rcases Rat.mul_eq_zero.1 q with x | x
  ·exact hl x
  ·exact this x) e3
 rw[h.self,k.self]at e4;exact e4
theorem kV{H A B:Nat->Rat}(h:Dv H A)(k:Dv H B):Dv (cv H H) (cv A B):=by
 obtain⟨Q1,f1,rfl⟩:=h;obtain⟨Q2,f2,rfl⟩:=k;refine⟨cv Q1 Q2,f1.cv f2,?_⟩;rw[AA,AA,<-AA H Q2 H,Bn H Q2,AA]
theorem Zm{g:Nat->Rat}(h:BB g):SF (y0 g):=by
 obtain⟨hC,hW,e,-,-⟩:=DW h;refine⟨hW,?_⟩;refine Classical.byContradiction fun hn=>?_;obtain⟨hE,hP,e2,-,-⟩:=DW hW;have h1:1 < pl (yc (y0 g)):=by
  rcases Nat.lt_or_ge 1 (pl (yc (y0 g)))with a | a
  ·exact a
  ·exact absurd (DR.of_gcd hW (Dn hW.z) (BR hW.f) a) hn
 obtain⟨N,hN⟩:=Sv hW;by_cases hc:pl (D7 (yc (y0 g)) (y0 (y0 g)))<=1
 ·have c1:=DR.of_gcd hE hP.z hP.f hc
  have c2:=(DR.pw hE.f hP.f c1 N).symm.symm;have:=DR.self hE.f (((c2.symm).dv hN));omega
 ·obtain⟨hH,-,-,d1,d2,-⟩:=hE.gcd hP.z hP.f
  have h2:Dv (cv (D7 (yc (y0 g)) (y0 (y0 g))) (D7 (yc (y0 g)) (y0 (y0 g)))) (y0 g):=by
   have:=kV d2 d1;rw[<-e2]at this;exact this
  have:=ZZ h hH h2;omega
theorem SF.stf{F:Nat->Rat}(h:SF F):∃ K,EJ F K:=by
 obtain⟨S,hS⟩:=DJ h.p.f;obtain⟨T,hT⟩:=DJ (BR h.p.f);obtain⟨K,hK,-⟩:=Fq h.p.f (BR h.p.f) h.p.z (Dn h.p.z) (S:=max S T) (fun i=>Nat.le_trans (hS i) (Nat.le_max_left _ _)) (fun i=>Nat.le_trans (hT i) (Nat.le_max_right _ _));exact⟨K,h.p.z,h.p.f,h.p.n,h.c,hK⟩
noncomputable def kn(F:Nat->Rat):Nat:=open Classical in if h:∃ K,MM F (pd F) K then Classical.choose h else 0
theorem MM.kn{F:Nat->Rat}{K:Nat}(h:MM F (pd F) K):Hp.kn F=K:=by
 have hx:∃ K,MM F (pd F) K:=⟨K,h⟩
 unfold Hp.kn;rw[dif_pos hx];exact(Classical.choose_spec hx).uniq h
theorem SF.st{F:Nat->Rat}(h:SF F):EJ F (kn F):=by
 obtain⟨K,hK⟩:=h.stf;rw[hK.k.kn];exact hK
noncomputable def rc(F:Nat->Rat)(p q:Rat):Int:=rt F (kn F) p q
theorem LK(F:Nat->Rat)(p q r:Rat):rc F p q+rc F q r=rc F p r:=Jd F _ p q r
theorem SF.nonneg{F:Nat->Rat}(h:SF F){p q:Rat}(hpq:p<=q):0<=rc F p q:=h.st.rt_nonneg hpq
theorem SF.sub{F:Nat->Rat}(h:SF F){p x y q:Rat}(h1:p<=x)(h2:x<=y)(h3:y<=q):rc F x y<=rc F p q:=h.st.rt_sub h1 h2 h3
theorem SF.free{F:Nat->Rat}(h:SF F){p q x y:Rat}(h0:rc F p q=0)(h1:p < x)(h2:x<=y)(h3:y<=q):ev F x≠0/\BK (ev F y)=BK (ev F x):=h.st.free h0 h1 h2 h3
theorem SF.mul{A B:Nat->Rat}(hA:SF A)(hB:SF B)(hC:SF (cv A B))(c:DR A B){p q:Rat}(hpq:p<=q):rc (cv A B) p q=rc A p q+rc B p q:=EJ.rt_mul hA.st hB.st hC.st c hpq
theorem SF.split{A B:Nat->Rat}(hA:BB A)(hB:BB B)(h:SF (cv A B)):SF A/\SF B/\DR A B:=by
 have half:∀ {A B:Nat->Rat},BB A->BB B->DR (cv A B) (pd (cv A B))->DR A (pd A)/\DR A B:=by
  intro A B hA hB ⟨U,V,fU,fV,e⟩;have fA':=BR hA.f;have fB':=BR hB.f;rw[Mq]at e;constructor
  ·refine⟨pad (cv U B) (cv V (pd B)),cv V B,(fU.cv hB.f).pad (fV.cv fB'),fV.cv hB.f,?_⟩
   rw[<-e,Dw,Gd];have e1:cv (cv U B) A=cv U (cv A B):=by rw[AA,Bn B A]
   have e2:cv (cv V (pd B)) A=cv V (cv A (pd B)):=by rw[AA,Bn (pd B) A]
   have e3:cv (cv V B) (pd A)=cv V (cv (pd A) B):=by rw[AA,Bn B (pd A)]
   rw[e1,e2,e3]
   funext n;simp only[pad];grind
  ·refine⟨pad (cv U B) (cv V (pd B)),cv V (pd A),(fU.cv hB.f).pad (fV.cv fB'),fV.cv fA',?_⟩
   rw[<-e,Dw,Gd];have e1:cv (cv U B) A=cv U (cv A B):=by rw[AA,Bn B A]
   have e2:cv (cv V (pd B)) A=cv V (cv A (pd B)):=by rw[AA,Bn (pd B) A]
   have e3:cv (cv V (pd A)) B=cv V (cv (pd A) B):=by rw[AA]
   rw[e1,e2,e3]
   funext n;simp only[pad];grind
 obtain⟨a1,a2⟩:=half hA hB h.c;obtain⟨b1,-⟩:=half hB hA (by rw[Bn];exact h.c);exact⟨⟨hA,a1⟩,⟨hB,b1⟩,a2⟩
theorem SF.factor{W A:Nat->Rat}(h:SF W)(hA:BB A)(hd:Ie W A):SF A/\SF (pq W A)/\DR A (pq W A)/\W=cv A (pq W A):=by
 obtain⟨q1,q2⟩:=h.p.quot hA hd;have e:W=cv A (pq W A):=by rw[Bn];exact q2
 have hs:SF (cv A (pq W A)):=by rw[<-e];exact h
 obtain⟨a,b,c⟩:=SF.split hA q1 hs;exact⟨a,b,c,e⟩
theorem BB.zdv{F D:Nat->Rat}(h:BB F)(k:BB D)(hd:Dv D F):Ie F D:=by
 obtain⟨Q,fQ,e⟩:=hd;exact⟨Q,Vb h.z h.f k.z k.f k.n fQ e (by rw[k.c];exact Nat.one_dvd _),fQ,e⟩
theorem SF.rc_le{W A:Nat->Rat}(h:SF W)(hA:BB A)(hd:Dv A W){p q:Rat}(hpq:p<=q):rc A p q<=rc W p q:=by
 obtain⟨a,b,c,e⟩:=h.factor hA (h.p.zdv hA hd);have h1:=SF.mul a b (by rw[<-e];exact h) c hpq;rw[<-e]at h1;have:=b.nonneg hpq;omega
theorem Uf{E D:Nat->Rat}(hE:SF E)(hD:BB D)(h:Dv E D):Dv E (y0 D):=by
 obtain⟨hC,hW,e,-,-⟩:=DW hD;obtain⟨N,hN⟩:=Sv hD;have h1:Dv E (pw (y0 D) (N+1)):=by
  obtain⟨Q,fQ,eQ⟩:=hN;refine h.trans ⟨Q,fQ,?_⟩;show cv (pw (y0 D) N) (y0 D)=_
  conv=>rhs;rw[e]
  rw[eQ,AA,Bn (yc D)]
 obtain⟨hH,z1,z2,d1,d2,-⟩:=hE.p.gcd hW.z hW.f;obtain⟨f1,f2,f3,f4⟩:=hE.factor hH z1
 -- the rest of E is coprime to the square-free part
 have h2:DR (pq E (D7 E (y0 D))) (y0 D):=by
  refine DR.of_gcd f2.p hW.z hW.f ?_;obtain⟨kG,-,-,g1,g2,-⟩:=f2.p.gcd hW.z hW.f;have g3:Dv (D7 (pq E (D7 E (y0 D))) (y0 D)) E:=g1.trans ⟨D7 E (y0 D),hH.f,f4⟩;have g4:Dv (D7 (pq E (D7 E (y0 D))) (y0 D)) (D7 E (y0 D)):=by
   have:=(FH hE.p.f hW.f hE.p.z hW.z).2.2.2.2.2.2.2.2 _ kG.f g3 g2;exact this.trans (IU hH.f)
  have:=DR.self kG.f ((f3.dv g4).symm.dv g1);omega
 have h3:=DR.pw f2.p.f hW.f h2 (N+1);have h4:Dv (pq E (D7 E (y0 D))) (pw (y0 D) (N+1)):=Dv.trans ⟨D7 E (y0 D),hH.f,f4⟩ h1;have h5:=f2.p.one (by have:=DR.self f2.p.f (h3.symm.dv h4);omega);rw[h5,JC]at f4;have:Dv (D7 E (y0 D)) (y0 D):=d2;rw[<-f4]at this;exact this
noncomputable def Ba(F:Nat->Rat):Nat->Rat:=y0 (pp F)
theorem BQ{F:Nat->Rat}(z:ZI F)(f:Ae F)(h0:F≠pz):SF (Ba F):=Zm (BB.pp z f h0)
theorem FC{F:Nat->Rat}(z:ZI F)(f:Ae F)(h0:F≠pz):Dv (Ba F) F:=by
 obtain⟨hC,hW,e,-,-⟩:=DW (BB.pp z f h0);have h1:Dv (Ba F) (pp F):=⟨yc (pp F),hC.f,by rw[Bn];exact e⟩
 conv=>arg 2;rw[Pk z f h0]
 exact h1.psc _
theorem IA{E F:Nat->Rat}(z:ZI F)(f:Ae F)(h0:F≠pz)(hE:SF E)(h:Dv E F):Dv E (Ba F):=
 Uf hE (BB.pp z f h0) ((Dk z f).2 h)
theorem Ma{F G:Nat->Rat}(zF:ZI F)(fF:Ae F)(zG:ZI G)(fG:Ae G)(h0:F≠pz):D7 F G≠pz:=fun e=>by
 have h:=(FH fF fG zF zG).2.2.2.2.2.2.1;rw[e,Me]at h;exact h0 (Mm h)
theorem ZQ{F G:Nat->Rat}(zF:ZI F)(fF:Ae F)(hF:F≠pz)(zG:ZI G)(fG:Ae G)(hG:G≠pz):Ba (D7 F G)=D7 (Ba F) (Ba G):=by
 have k:=FH fF fG zF zG;have n:=Ma zF fF zG fG hF;have s1:=BQ zF fF hF;have s2:=BQ zG fG hG;have s3:=BQ k.2.1 k.1 n;obtain⟨p4,z1,z2,d1,d2,-⟩:=s1.p.gcd s2.p.z s2.p.f;have s4:=(s1.factor p4 z1).1;have dF:Dv (D7 F G) F:=(GU _).trans k.2.2.2.2.2.2.1;have dG:Dv (D7 F G) G:=(GU _).trans k.2.2.2.2.2.2.2.1;have hd:=FC k.2.1 k.1 n;refine s3.p.eq_dv p4 ?_ ?_
 ·have a1:=IA zF fF hF s3 (hd.trans dF)
  have a2:=IA zG fG hG s3 (hd.trans dG);exact((FH s1.p.f s2.p.f s1.p.z s2.p.z).2.2.2.2.2.2.2.2 _ s3.p.f a1 a2).trans (IU p4.f)
 ·refine IA k.2.1 k.1 n s4 ?_
  exact(k.2.2.2.2.2.2.2.2 _ p4.f (d1.trans (FC zF fF hF)) (d2.trans (FC zG fG hG))).trans (IU k.1)
theorem SF.meet{W X:Nat->Rat}(hW:SF W)(hX:SF X):∃ U V,SF (D7 W X)/\SF U/\SF V/\W=cv (D7 W X) U/\X=cv (D7 W X) V/\DR (D7 W X) U/\DR (D7 W X) V/\DR U V/\DR U X /\
  (∀ p q:Rat,p<=q->rc W p q=rc (D7 W X) p q+rc U p q)/\(∀ p q:Rat,p<=q->rc X p q=rc (D7 W X) p q+rc V p q):=by
 obtain⟨p1,z1,z2,d1,d2,-⟩:=hW.p.gcd hX.p.z hX.p.f;obtain⟨a1,a2,a3,a4⟩:=hW.factor p1 z1;obtain⟨b1,b2,b3,b4⟩:=hX.factor p1 z2;have k:=FH hW.p.f hX.p.f hW.p.z hX.p.z;have cUV:DR (pq W (D7 W X)) (pq X (D7 W X)):=by
  refine DR.of_gcd a2.p b2.p.z b2.p.f ?_;obtain⟨kG,-,-,g1,g2,-⟩:=a2.p.gcd b2.p.z b2.p.f;have g3:=k.2.2.2.2.2.2.2.2 _ kG.f (g1.trans ⟨D7 W X,p1.f,a4⟩) (g2.trans ⟨D7 W X,p1.f,b4⟩);have:=DR.self kG.f ((a3.dv (g3.trans (IU p1.f))).symm.dv g1);omega
 refine⟨pq W (D7 W X),pq X (D7 W X),a1,a2,b2,a4,b4,a3,b3,cUV,?_,fun p q hpq=>?_,fun p q hpq=>?_⟩
 ·have:=DR.mul a2.p.f p1.f b2.p.f a3.symm cUV
  rw[<-b4]at this;exact this
 ·have h1:=SF.mul a1 a2 (by rw[<-a4];exact hW) a3 hpq
  rw[<-a4]at h1;exact h1
 ·have h1:=SF.mul b1 b2 (by rw[<-b4];exact hX) b3 hpq
  rw[<-b4]at h1;exact h1
def Qb(S D b:Nat):Nat:=32*S+(3+b)*D
def Ns(S D b:Nat):Nat:=Qb S D b+WG S D b+2
theorem Vr{F:Nat->Rat}{S:Nat}(h:∀ i,qsz (F i)<=S):JS (2^(32*S)) F:=fun i=>(MX (h i)).1
theorem Tu{F:Nat->Rat}{S D b:Nat}(qF:∀ i,qsz (F i)<=S)(hD:pl F<=D){x y:Rat}(hx:ab x<=2^b - 1)(hy:ab y<=2^b - 1):ab (ev F x - ev F y)<=2^(Qb S D b)*ab (x - y):=by
 have h:=Rc hx hy (pl F) F (Vr qF);refine Std.le_trans h (Dp (L8 ?_) (Au _));unfold Qb;have h1:b*pl F<=b*D:=Nat.mul_le_mul_left _ hD;rw[Nat.add_mul];omega
theorem iR{F:Nat->Rat}{S D b:Nat}(fF:Ae F)(qF:∀ i,qsz (F i)<=S)(hD:pl F<=D){x y:Rat}(hx:ab x<=2^b - 1)(hy:ab y<=2^b - 1):∃ r,ab r<=2^(Qb S D b)/\ev F y - ev F x=(y - x)*(ev (pd F) x+(y - x)*r):=by
 obtain⟨r,hr,e⟩:=Sj hx hy (pl F) F (Vr qF) (AJ fF);refine⟨r,Std.le_trans hr (L8 ?_),?_⟩
 ·unfold Qb
  have h1:b*pl F<=b*D:=Nat.mul_le_mul_left _ hD;rw[Nat.add_mul];omega
 ·have e1:ev (pd F) x=CZ (pl F) (pd F) x:=F4 (Qg ((AJ fF).mono (Nat.le_succ _))) x
  rw[e1];exact e
theorem EJ.small_pt{F:Nat->Rat}{K:Nat}(h:EJ F K){x y ε:Rat}(hxy:x<=y)(hε:0 < ε)(hr:1<=rt F K x y):∃ z,x<=z/\z<=y/\ab (ev F z) < ε:=by
 refine Classical.byContradiction fun hn=>?_;have:=h.flat hxy hε fun z a b=>by
  rcases Std.lt_trichotomy ε (ab (ev F z))with c | c | c
  ·exact Std.le_of_lt c
  ·rw[c];exact Std.le_refl _
  ·exact absurd ⟨z,a,b,c⟩ hn
 unfold rt at hr;omega
theorem Pv{q:Rat}(h:0 < q):BK q=1:=by unfold BK;rw[if_pos h]
theorem Pw{q:Rat}(h:q < 0):BK q = -1:=by unfold BK;rw[if_neg Ah,if_pos h]
theorem RS:BK 0=0:=by decide
theorem bQ{F:Nat->Rat}{u v w:Rat}(h:(ev F u < ev F v/\ev F v < ev F w)\/(ev F w < ev F v/\ev F v < ev F u)):J6 F u w=J6 F u v+J6 F v w:=by
 unfold J6;generalize ev F u=a at *;generalize ev F v=b at *;generalize ev F w=c at *;rcases Std.lt_trichotomy a 0 with ha | ha | ha<;>rcases Std.lt_trichotomy b 0 with hb | hb | hb<;>rcases Std.lt_trichotomy c 0 with hc | hc | hc
 all_goals first
  | (exfalso;grind)
  | skip
 all_goals(try have ea:=Pw ha);(try have ea:=Pv ha);(try have eb:=Pw hb);(try have eb:=Pv hb);(try have ec:=Pw hc);(try have ec:=Pv hc)
 all_goals(try(have na:a≠0:=by grind));(try(have nb:b≠0:=by grind));(try(have nc:c≠0:=by grind))
 all_goals(try subst ha);(try subst hb);(try subst hc);simp_all [RS]
theorem EJ.sep{F:Nat->Rat}{K S D b:Nat}(h:EJ F K)(qF:∀ i,qsz (F i)<=S)(qG:∀ i,qsz (pd F i)<=S)(hD:pl F+pl (pd F)=D){x y:Rat}(hx:ab x<=2^b - 1)(hy:ab y<=2^b - 1)(hxy:x < y)(hd:(y - x)*2^(Ns S D b)<=1):rt F K x y<=1:=by
 refine Classical.byContradiction fun hn=>?_;obtain⟨d,hdd⟩:∃ d,d=y - x:=⟨_,rfl⟩
 have hd0:0 < d:=by grind
 obtain⟨L,hL⟩:∃ L:Rat,L=2^(Qb S D b):=⟨_,rfl⟩
 have hL0:0 < L:=by rw[hL];exact Ce _
 obtain⟨E,hE⟩:∃ E:Rat,E=2^(WG S D b):=⟨_,rfl⟩
 have hE0:0 < E:=by rw[hE];exact Ce _
 have hLd:=Rat.mul_pos hL0 hd0;have hsmall:4*(L*d*E)<=1:=by
  have e:(2:Rat)^(Ns S D b)=L*E*4:=by
   unfold Ns;rw[DK,DK,<-hL,<-hE];congr 1
  rw[e,<-hdd]at hd;grind
 have hin:∀ z,x<=z->z<=y->ab z<=2^b - 1:=fun z a c=>Fj hx hy a c;have hdist:∀ z z',x<=z->z<=y->x<=z'->z'<=y->ab (z - z')<=d:=fun z z' a c a' c'=>Fy.2 ⟨Ah,Ah⟩;have lF:∀ z z',x<=z->z<=y->x<=z'->z'<=y->ab (ev F z - ev F z')<=L*d:=fun z z' a c a' c'=>by
  have:=Tu qF (show pl F<=D by omega) (hin z a c) (hin z' a' c');rw[<-hL]at this;exact Std.le_trans this (CS (hdist z z' a c a' c') (Std.le_of_lt hL0))
 have lG:∀ z z',x<=z->z<=y->x<=z'->z'<=y->ab (ev (pd F) z - ev (pd F) z')<=L*d:=fun z z' a c a' c'=>by
  have:=Tu qG (show pl (pd F)<=D by omega) (hin z a c) (hin z' a' c');rw[<-hL]at this;exact Std.le_trans this (CS (hdist z z' a c a' c') (Std.le_of_lt hL0))
 obtain⟨z0,z1,z2,z3⟩:=h.small_pt (Std.le_of_lt hxy) hLd Aa;have hall:∀ z,x<=z->z<=y->ab (ev F z)<=2*(L*d):=fun z a c=>by
  have h1:=lF z z0 a c z1 z2;have h2:=Gb (ev F z - ev F z0) (ev F z0);have e:ev F z - ev F z0+ev F z0=ev F z:=by grind
  rw[e]at h2;grind
 have hbig:∀ z,x<=z->z<=y->L*d < ab (ev (pd F) z):=fun z a c=>by
  rcases Std.lt_trichotomy (L*d) (ab (ev (pd F) z))with q | q | q
  ·exact q
  all_goals
   exfalso;have:=DR.low h.c h.f (BR h.f) h.z (Dn h.z) qF qG hD (hin z a c) (hall z a c) (show ab (ev (pd F) z)<=2*(L*d) by grind);rw[<-hE]at this;grind
 have hs0:BK (ev (pd F) x)≠0:=by
  have:=hbig x (Std.le_refl _) (Std.le_of_lt hxy);intro q;rw[Eb.1 q,DY]at this;grind
 have hmono:∀ u v,x<=u->u < v->v<=y->BK (ev F v - ev F u)=BK (ev (pd F) x):=fun u v a c a'=>by
  have hu:u<=y:=by grind
  have b1:=hbig u a hu;have s1:=Qm (p:=ev (pd F) u) (q:=ev (pd F) x) (by
   have:=lG u x a hu (Std.le_refl _) (Std.le_of_lt hxy);grind)
  obtain⟨r,hr,e⟩:=iR h.f qF (show pl F<=D by omega) (hin u a hu) (hin v Ah a');rw[e,Gy (show 0 < v - u by grind),<-s1.1];refine(Qm ?_).1.symm;have e2:ev (pd F) u - (ev (pd F) u+(v - u)*r) = -((v - u)*r):=by grind
  rw[e2,Nu,Cs];rw[<-hL]at hr;have h4:=TA (show ab (v - u)<=d from Fy.2 ⟨Ah,Ah⟩) hr (Au _) (Std.le_of_lt hd0);grind
 obtain⟨δ,hδ,hl⟩:=h.loc x y;have key:rt F K x y=J6 F x y:=by
  refine N7 (P:=fun u v=>rt F K u v=J6 F u v) hδ hxy (fun u v a1 a2 a3 a4=>hl u v a1 a2 a3 a4) (fun u v w a1 a2 a3 a4 e f=>?_);have m1:=hmono u v a1 a2 Ah;have m2:=hmono v w Ah a3 a4;have m3:=Jd F K u v w;have m4:J6 F u w=J6 F u v+J6 F v w:=by
   refine bQ ?_;rcases Std.lt_trichotomy (ev (pd F) x) 0 with c | c | c
   ·rw[Pw c]at m1 m2
    refine .inr ⟨?_,?_⟩
    ·rcases Std.lt_trichotomy (ev F w - ev F v) 0 with q | q | q
     ·grind
     ·rw[q,RS]at m2;exact absurd m2 Ab
     ·rw[Pv q]at m2;exact absurd m2 Ab
    ·rcases Std.lt_trichotomy (ev F v - ev F u) 0 with q | q | q
     ·grind
     ·rw[q,RS]at m1;exact absurd m1 Ab
     ·rw[Pv q]at m1;exact absurd m1 Ab
   ·exact absurd (Eb.2 c) hs0
   ·rw[Pv c]at m1 m2
    refine .inl ⟨?_,?_⟩
    ·rcases Std.lt_trichotomy (ev F v - ev F u) 0 with q | q | q
     ·rw[Pw q]at m1;exact absurd m1 Ab
     ·rw[q,RS]at m1;exact absurd m1 Ab
     ·grind
    ·rcases Std.lt_trichotomy (ev F w - ev F v) 0 with q | q | q
     ·rw[Pw q]at m2;exact absurd m2 Ab
     ·rw[q,RS]at m2;exact absurd m2 Ab
     ·grind
  omega
 have:=(iX F x y).2;omega
theorem DR.sep{A B:Nat->Rat}{S D b:Nat}(hA:SF A)(hB:SF B)(c:DR A B)(qA:∀ i,qsz (A i)<=S)(qB:∀ i,qsz (B i)<=S)(hD:pl A+pl B=D){x y:Rat}(hx:ab x<=2^b - 1)(hy:ab y<=2^b - 1)(hxy:x < y)(hd:(y - x)*2^(Ns S D b)<=1) :
  rc A x y=0\/rc B x y=0:=by
 refine Classical.byContradiction fun hn=>?_;have n1:=hA.nonneg (Std.le_of_lt hxy);have n2:=hB.nonneg (Std.le_of_lt hxy);obtain⟨d,hdd⟩:∃ d,d=y - x:=⟨_,rfl⟩
 have hd0:0 < d:=by grind
 obtain⟨L,hL⟩:∃ L:Rat,L=2^(Qb S D b):=⟨_,rfl⟩
 have hL0:0 < L:=by rw[hL];exact Ce _
 obtain⟨E,hE⟩:∃ E:Rat,E=2^(WG S D b):=⟨_,rfl⟩
 have hE0:0 < E:=by rw[hE];exact Ce _
 have hLd:=Rat.mul_pos hL0 hd0;have hsmall:4*(L*d*E)<=1:=by
  have e:(2:Rat)^(Ns S D b)=L*E*4:=by
   unfold Ns;rw[DK,DK,<-hL,<-hE];congr 1
  rw[e,<-hdd]at hd;grind
 have one:∀ {P:Nat->Rat},SF P->(∀ i,qsz (P i)<=S)->pl P<=D->1<=rc P x y->ab (ev P x)<=2*(L*d):=fun {P} hP qP hp h1=>by
  obtain⟨z,z1,z2,z3⟩:=hP.st.small_pt (Std.le_of_lt hxy) hLd h1;have h2:=Tu qP hp hx (Fj hx hy z1 z2);rw[<-hL]at h2;have h3:=CS (show ab (x - z)<=d from Fy.2 ⟨Ah,Ah⟩) (Std.le_of_lt hL0);have h4:=Gb (ev P x - ev P z) (ev P z);have e:ev P x - ev P z+ev P z=ev P x:=by grind
  rw[e]at h4;grind
 have a1:=one hA qA Aa Aa;have a2:=one hB qB Aa Aa;have:=DR.low c hA.p.f hB.p.f hA.p.z hB.p.z qA qB hD hx a1 a2;rw[<-hE]at this;grind
section
variable{P:Program}
theorem OM(w:World)(k base:Nat)(t ty e:TypeId)(i:TypeInfo)(z:Value)(bytes:Nat)(ht:P.underlying t=some (.slice e))(hi:P.info? e=some i)(hz:i.zero=some z)
  (hsize:i.size=k) (hby:i.bytes=bytes) (hzs:z.cells.size=k) (hzd:nodig z.cells=true) (hsz:0 < k)
  (v:Value) (n:Nat) (xs:List Value) (hown:Mv k base e w v n xs)
  (a:Addr) (c:Nat) (news:List Value) (hl:news.length=k) (hnews:∀ j u,news[j]? = some u->w.cell? (a.add j)=some u) (h1:∀ u∈news,u.oneCell'=true) (hnd:∀ u∈news,Af u=false)
  (h63:n+1<=maxLen) (hbytes:(n+1)*bytes<=140737488355328) (hbase:base<=w.heap.size) :
  ∃ v' w',(Builtin.append_ #[t,t] ty #[v,.slice (some a) 1 c]).run P w = .ok v' w'/\Mv k base e w' v' (n+1) (xs ++ news)/\Cu (blk v) w w'/\∀ g∈blk v',g∈blk v\/w.heap.size<=g:=by
 subst hsize;subst hby;have hl':news.length=1*i.size:=by rw[Nat.one_mul];exact hl
 have hlen:(xs ++ news).length=(n+1)*i.size:=by rw[List.length_append,hown.1,hl,Nat.succ_mul]
 have hsmall:n+1<=9223372036854775807:=by simp only[maxLen]at h63;omega
 have hzl:=Cb.1 hzd;have hzc:∀ m,∀ u∈(Builtin.zeroCells z.cells m).toList,Af u=false:=by
  intro m u hu;simp only[Builtin.zeroCells,Array.toList_map,Array.toList_range,List.mem_map,List.mem_range]at hu;obtain⟨j,hj,rfl⟩:=hu;have:j % z.cells.size < z.cells.size:=Nat.mod_lt _ Aa;rw[getElem!_pos z.cells _ this];exact hzl _ Ac
 have hxd:∀ u∈xs,Af u=false:=by
  rcases hown.2 with⟨_,h0⟩ | ⟨g,cap,cur,_,_,hb,_,_,_,htake⟩
  ·intro u hu
   have:xs=[]:=List.eq_nil_of_length_eq_zero (by rw[hown.1,h0,Nat.zero_mul]);rw[this]at hu;cases hu
  ·intro u hu
   rw[<-htake]at hu;exact Cb.1 hb.2 _ (List.mem_of_mem_take hu)
 have grown:∀(old:Nat),old < n+1 ->
   Mv i.size base e (w.drew.alloc (.cells (xs.toArray ++ news.toArray ++ Builtin.zeroCells z.cells (grownCap w (n+1) old e - (n+1))) e)) (.slice (some ⟨w.heap.size,0,none⟩) (n+1) (grownCap w (n+1) old e)) (n+1) (xs ++ news) /\
   ∀ G,Cu G w (w.drew.alloc (.cells (xs.toArray ++ news.toArray ++ Builtin.zeroCells z.cells (grownCap w (n+1) old e - (n+1))) e)):=by
  intro old ho;have hge:=grownCap_ge w (n+1) old e;have hcm:grownCap w (n+1) old e<=maxLen:=grownCap_le_maxLen w (n+1) old e h63;refine⟨⟨hlen,.inr ⟨w.heap.size,_,_,rfl,hbase,⟨heap_alloc_new w.drew _,?_⟩,hge,hcm,?_,?_⟩⟩,fun G=>Cu.of_ext ((Ext.refl w).drew.alloc _)⟩
  ·rw[Cb]
   intro u hu;simp only[Array.toList_append,List.mem_append]at hu;rcases hu with(hu | hu) | hu
   ·exact hxd u (by simpa using hu)
   ·exact hnd u (by simpa using hu)
   ·exact hzc _ u hu
  ·simp only[Array.size_append,List.size_toArray,size_zeroCells,hzs,hown.1,hl]
   rw[<-Nat.succ_mul,<-Nat.add_mul];congr 1;omega
  ·simp only[Array.toList_append,List.append_assoc]
   rw[<-List.append_assoc,<-hlen];exact List.take_left
 rcases hown.2 with⟨rfl,rfl⟩ | ⟨g,cap,cur,rfl,hbg,hb,hnc,hcm,hcs,htake⟩
 ·have hx:xs=[]:=List.eq_nil_of_length_eq_zero (by simpa using hown.1)
  subst hx;have hr:=run_append_nil (P:=P) w t ty e i z ht hi hz a 1 c news hl' hnews Aa Aa (by have hb:=hbytes;simp only[Nat.zero_add]at hb;omega);have hgr:=grown 0 Aa;simp only[Nat.zero_add,List.nil_append,Array.empty_append]at hgr ⊢;exact⟨_,_,hr,hgr.1,hgr.2 _,fun g' hg' => .inr (by simp[blk,Value.ownBlock]at hg';omega)⟩
 ·have hg:=hb.1
  by_cases hroom:n+1<=cap
  ·have hfit:n*i.size+news.length<=cur.size:=by rw[hl,hcs,<-Nat.succ_mul];exact Nat.mul_le_mul_right _ hroom
   have hr:=run_append_room (P:=P) w t ty e i ht hi g n cap cur hg a 1 c news hl' hnews h1 hroom hfit;have hnew:∀ u∈cur.toList.take (n*i.size) ++ news ++ cur.toList.drop (n*i.size+news.length),Af u=false:=by
    intro u hu;simp only[List.mem_append]at hu;rcases hu with(hu | hu) | hu
    ·exact Cb.1 hb.2 _ (List.mem_of_mem_take hu)
    ·exact hnd u hu
    ·exact Cb.1 hb.2 _ (List.mem_of_mem_drop hu)
   have hbx:Bh (w.setRow g (cur.toList.take (n*i.size) ++ news ++ cur.toList.drop (n*i.size+news.length)).toArray) g e _:=⟨setRow_heap w g cur _ e _ hg,Cb.2 (by simpa using hnew)⟩
   refine⟨_,_,hr,⟨hlen,.inr ⟨g,cap,_,rfl,hbg,hbx,hroom,hcm,?_,?_⟩⟩,⟨fun g' o hg' ho=>?_,Ov hb fun h hne _=>setRow_other w g h _ hne,fun a' ha hG=>?_⟩,fun g' hg' => .inl hg'⟩
   ·simp only[List.size_toArray,List.length_append,List.length_take,List.length_drop,Array.length_toList]
    omega
   ·rw[htake,<-hlen]
    exact List.take_left
   ·rw[setRow_other w g g' _ (fun e=>hg' (by simp[blk,Value.ownBlock,e]))];exact ho
   ·have hga:a'.heap.size<=g:=hG g (by simp[blk,Value.ownBlock])
    exact ha.grown (row:=some g) ⟨rfl,rfl,rfl,by simp[World.setRow],fun k _ hk=>setRow_other w g k _ (fun e=>hk (by rw[e]))⟩ (fun k hk=>by cases hk;exact hga)
  ·have holds:∀ j u,xs[j]? = some u->w.cell? ((⟨g,0,none⟩:Addr).add j)=some u:=hown.owns.cells (g:=g) rfl
   have hr:=run_append_grow (P:=P) w t ty e i z ht hi hz ⟨g,0,none⟩ n cap xs hown.1 holds a 1 c news hl' hnews Aa Aa (growslice_fits Aa hbytes);have hgr:=grown cap Aa;exact⟨_,_,hr,hgr.1,hgr.2 _,fun g' hg' => .inr (by simp[blk,Value.ownBlock]at hg';omega)⟩
end
section
variable{α:Type}{k:Nat}{rd:World->Value->α->Prop}{base:Nat}{e:TypeId}{w w':World}{v:Value}{l:List α}
theorem BJ.append_at{P:Program}(h:BJ k rd base e w v l)(t ty:TypeId)(i:TypeInfo)(z:Value)(bytes:Nat)(ht:P.underlying t=some (.slice e))(hi:P.info? e=some i)(hz:i.zero=some z)
  (hsize:i.size=k) (hby:i.bytes=bytes) (hzs:z.cells.size=k) (hzd:nodig z.cells=true) (hsz:0 < k) {x:α}
  (a:Addr) (c:Nat) (news:Array Value) (hl:news.size=k) (hx:rd w (.agg news) x) (hnews:∀ j u,news.toList[j]? = some u->w.cell? (a.add j)=some u) (h1:∀ u∈news.toList,u.oneCell'=true) (hnd:nodig news=true)
  (h63:l.length+1<=maxLen) (hbytes:(l.length+1)*bytes<=140737488355328) (hbase:base<=w.heap.size) (hr:∀ w' u y,KD w w'->rd w u y->rd w' u y) :
  ∃ v' w',(Builtin.append_ #[t,t] ty #[v,.slice (some a) 1 c]).run P w = .ok v' w'/\BJ k rd base e w' v' (l ++ [x])/\Cu (blk v) w w'/\∀ g∈blk v',g∈blk v\/w.heap.size<=g:=by
 obtain⟨ess,g1,g2,g3,g5⟩:=h;obtain⟨v',w',hrun,hown,hupd,hat⟩:=OM (P:=P) w k base t ty e i z bytes ht hi hz hsize hby hzs hzd hsz v l.length _ g3 a c news.toList (by simpa using hl) hnews h1 (Cb.1 hnd) h63 hbytes hbase;refine⟨v',w',hrun,⟨ess ++ [news],by simp[g1],?_,?_,?_⟩,hupd,hat⟩
 ·intro d hd
  rcases List.mem_append.1 hd with hd | hd
  ·exact g2 d hd
  ·simp at hd;subst hd;exact hl
 ·have e1:(ess ++ [news]).flatMap Array.toList=ess.flatMap Array.toList ++ news.toList:=by simp
  rw[e1,List.length_append];exact hown
 ·intro j hj hj'
  rcases Nat.lt_or_ge j l.length with hlt | hge
  ·rw[List.getElem_append_left hlt,List.getElem_append_left Aa]
   exact hr _ _ _ hupd.kd (g5 j hlt Aa)
  ·have:j=l.length:=by simp at hj;omega
   subst this;rw[List.getElem_append_right Aa,List.getElem_append_right Aa];simpa using hr _ _ _ hupd.kd hx
end
theorem Cu.new_trans{G G':List Nat}{w w' w'':World}(h:Cu G w w')(k:Cu G' w' w'')(hG:∀ g∈G',g∈G\/w.heap.size<=g):Cu G w w'':=by
 refine⟨fun g o hg ho=>k.1 g o (fun hm=>?_) (h.1 g o hg ho),h.kd.trans k.kd,fun a e hg=>k.2.2 a (h.2.2 a e hg) fun g hm=>?_⟩
 ·rcases hG g hm with q | q
  ·exact hg q
  ·have:=(Array.getElem?_eq_some_iff.1 ho).1;omega
 ·rcases hG g hm with q | q
  ·exact hg g q
  ·have:=e.size;omega
theorem Cu.none{w w':World}(x:Ext w w')(G:List Nat):Cu G w w':=Cu.of_ext x
theorem Ic.kd{w w':World}{v:Value}{p q:Rat}(h:Ic w v p q)(k:KD w w'):Ic w' v p q:=by
 obtain⟨b1,A1,n1,c1,b2,A2,n2,c2,b3,A3,n3,c3,b4,A4,n4,c4,h1,h2,h3⟩:=h;exact⟨b1,A1,n1,c1,b2,A2,n2,c2,b3,A3,n3,c3,b4,A4,n4,c4,h1,h2.kd k,h3.kd k⟩
theorem Jb.kd{w w':World}{v:Value}{p q:Rat}(h:Jb w v p q)(k:KD w w'):Jb w' v p q:=by
 obtain⟨b1,A1,n1,c1,b2,A2,n2,c2,b3,A3,n3,c3,b4,A4,n4,c4,h1,h2,h3⟩:=h;exact⟨b1,A1,n1,c1,b2,A2,n2,c2,b3,A3,n3,c3,b4,A4,n4,c4,h1,h2.kd k,h3.kd k⟩
def nA:World->Value->Rat×Rat->Prop:=fun w u y=>Ic w u y.1 y.2
def EY(base:Nat)(e:TypeId)(w:World)(v:Value)(l:List (Rat×Rat)):Prop:=BJ 8 nA base e w v l
theorem EY.ext{base:Nat}{e:TypeId}{w w':World}{v:Value}{l:List (Rat×Rat)}(h:EY base e w v l)(x:Ext w w'):EY base e w' v l:=BJ.ext h x fun _ _ q=>q.ext x
theorem EY.upd{base:Nat}{e:TypeId}{w w':World}{v:Value}{l:List (Rat×Rat)}{G:List Nat}(h:EY base e w v l)(U:Cu G w w')(hg:∀ g∈blk v,g∉G):EY base e w' v l:=
 BJ.upd h U hg fun _ _ q=>q.kd U.kd
theorem EY.nil(base:Nat)(e:TypeId)(w:World):EY base e w (.slice none 0 0) []:=BJ.nil 8 nA base e w
theorem EY.len{base:Nat}{e:TypeId}{w:World}{v:Value}{l:List (Rat×Rat)}(h:EY base e w v l):∃ A c,v = .slice A l.length c:=BJ.len h
theorem Ic.cells{w:World}{v:Value}{p q:Rat}(h:Ic w v p q):∃ b1 A1 n1 c1 b2 A2 n2 c2 b3 A3 n3 c3 b4 A4 n4 c4,v = .agg #[.bool b1,.slice A1 n1 c1,.bool b2,.slice A2 n2 c2,.bool b3,.slice A3 n3 c3,.bool b4,.slice A4 n4 c4]:=by
 obtain⟨b1,A1,n1,c1,b2,A2,n2,c2,b3,A3,n3,c3,b4,A4,n4,c4,h1,h2,h3⟩:=h;exact⟨b1,A1,n1,c1,b2,A2,n2,c2,b3,A3,n3,c3,b4,A4,n4,c4,h1⟩
noncomputable def iso(R:Rat->Rat->Int):Nat->Rat->Rat->List (Rat×Rat)
 | 0,p,q=>if R p q=0 then [] else [(p,q)]
 | n+1,p,q=>if R p q=0 then [] else if R p q=1 then [(p,q)] else iso R n p ((p+q) / 2) ++ iso R n ((p+q) / 2) q
theorem NG{R:Rat->Rat->Int}{p q:Rat}(h:R p q=0):∀ n,iso R n p q=[]
 | 0=>by unfold iso;rw[if_pos h]
 | n+1=>by unfold iso;rw[if_pos h]
theorem Ll{R:Rat->Rat->Int}{p q:Rat}(h:R p q=1):∀ n,iso R n p q=[(p,q)]
 | 0=>by unfold iso;rw[if_neg Aa]
 | n+1=>by unfold iso;rw[if_neg Aa,if_pos h]
theorem NE{R:Rat->Rat->Int}{p q:Rat}{n:Nat}(h0:R p q≠0)(h1:R p q≠1):iso R (n+1) p q=iso R n p ((p+q) / 2) ++ iso R n ((p+q) / 2) q:=by
 rw[iso,if_neg h0,if_neg h1]
def Node(P Q:Rat)(d:Nat)(p q:Rat):Prop:=∃ k:Nat,k < 2^d/\p=P+(Q - P)*(((k:Nat):Rat) / 2^d)/\q=P+(Q - P)*(((k+1:Nat):Rat) / 2^d)
theorem Zc{k d:Nat}(h:k<=2^d):qsz (((k:Nat):Rat) / 2^d)<=d+1:=by
 have e:((k:Nat):Rat) / 2^d=Rat.divInt ((k:Nat):Int) ((2^d:Nat):Int):=by
  rw[BI,Rat.divInt_eq_div];rfl
 rw[e];have h2:sz (2^d)<=d+1:=by
  have:=Gw 2 1 Ab d;rw[Int.natAbs_pow]at this;have e3:((2:Int).natAbs)^d=2^d:=rfl;rw[e3]at this;omega
 refine Ed ?_ ?_ Aa
 ·rw[Int.natAbs_natCast];exact Nat.le_trans (Bl h) h2
 ·rw[Int.natAbs_natCast];exact h2
theorem Node.root(P Q:Rat):Node P Q 0 P Q:=by
 refine⟨0,Ab,?_,?_⟩
 ·rw[show((0:Nat):Rat)=0 from rfl,Rat.pow_zero];grind
 ·rw[show((0+1:Nat):Rat)=1 from rfl,Rat.pow_zero];grind
theorem Node.half{P Q p q:Rat}{d:Nat}(h:Node P Q d p q):Node P Q (d+1) p ((p+q) / 2)/\Node P Q (d+1) ((p+q) / 2) q:=by
 obtain⟨k,hk,rfl,rfl⟩:=h;have h2:(2:Rat)^d≠0:=by have:=Ce d;grind
 have e1:(2:Rat)^(d+1)=2^d*2:=Rat.pow_succ _ _;have c1:((2*k:Nat):Rat)=2*((k:Nat):Rat):=by push_cast;rfl
 have c2:((2*k+1:Nat):Rat)=2*((k:Nat):Rat)+1:=by rw[CY,c1]
 have c3:((2*k+1+1:Nat):Rat)=2*((k:Nat):Rat)+2:=by rw[CY,c2];grind
 have c4:((k+1:Nat):Rat)=((k:Nat):Rat)+1:=CY k;have hkk:2*k+1 < 2^(d+1):=by rw[Nat.pow_succ];omega
 constructor
 ·refine⟨2*k,Aa,?_,?_⟩
  ·rw[e1,c1];grind
  ·rw[e1,c2,c4];grind
 ·refine⟨2*k+1,hkk,?_,?_⟩
  ·rw[e1,c2,c4];grind
  ·rw[e1,c3,c4];grind
theorem Node.width{P Q p q:Rat}{d:Nat}(h:Node P Q d p q):(q - p)*2^d=Q - P:=by
 obtain⟨k,hk,rfl,rfl⟩:=h;have h2:(2:Rat)^d≠0:=by have:=Ce d;grind
 rw[CY];grind
theorem Node.within{P Q p q:Rat}{d:Nat}(h:Node P Q d p q)(hPQ:P < Q):P<=p/\p < q/\q<=Q:=by
 obtain⟨k,hk,rfl,rfl⟩:=h;have h2:=Ce d;obtain⟨hi,ei⟩:=IZ h2;have hd:0 < Q - P:=by grind
 obtain⟨z,hz⟩:∃ z:Rat,z=1 / 2^d:=⟨_,rfl⟩
 rw[<-hz]at hi ei;have e:∀ x:Rat,x / 2^d=x*z:=fun x=>by rw[hz];grind
 rw[e,e];have k0:=EG k;have k1:((k+1:Nat):Rat)<=((2^d:Nat):Rat):=MO hk;rw[<-BI]at k1;have a0:=Rat.mul_nonneg (Std.le_of_lt hd) (Rat.mul_nonneg k0 (Std.le_of_lt hi));have a1:=Dp k1 (Std.le_of_lt hi);have a2:(2:Rat)^d*z=1:=by grind
 rw[a2]at a1;have a3:=CS a1 (Std.le_of_lt hd);have a4:=Rat.mul_pos hd hi;rw[CY]at a3 ⊢;refine⟨Ah,Ah,Ah⟩
theorem Node.qsz{P Q p q:Rat}{d a:Nat}(h:Node P Q d p q)(hP:Hp.qsz P<=a)(hQ:Hp.qsz Q<=a):Hp.qsz p<=3*a+d+4/\Hp.qsz q<=3*a+d+4:=by
 obtain⟨k,hk,rfl,rfl⟩:=h;have key:∀ m:Nat,m<=2^d->Hp.qsz (P+(Q - P)*(((m:Nat):Rat) / 2^d))<=3*a+d+4:=fun m hm=>by
  have h1:=PM Q P;have h2:=BS (Q - P) (((m:Nat):Rat) / 2^d);have h3:=Zc hm;have h4:=EL P ((Q - P)*(((m:Nat):Rat) / 2^d));omega
 exact⟨key k Aa,key (k+1) hk⟩
theorem Po{F:Nat->Rat}(hF:SF F){P Q:Rat}(hPQ:P < Q){N:Nat}(hdeep:∀ d p q,Node P Q d p q->N<=d->rc F p q<=1) :
  ∀(n d:Nat) (p q:Rat),Node P Q d p q->N<=n+d->(∀ x∈iso (rc F) n p q,rc F x.1 x.2=1/\(∃ d',d<=d'/\d'<=n+d/\Node P Q d' x.1 x.2)/\p<=x.1/\x.2<=q) /\
   ((iso (rc F) n p q).length:Int)=rc F p q/\(iso (rc F) n p q).Pairwise fun x y=>x.2<=y.1:=by
 intro n;induction n with
 | zero =>
  intro d p q hn hN;have h1:=hdeep d p q hn Aa;have hw:=hn.within hPQ;have h0:=hF.nonneg (Std.le_of_lt hw.2.1);by_cases hz:rc F p q=0
  ·rw[NG hz];exact⟨fun x hx=>by simp at hx,by simp[hz],List.Pairwise.nil⟩
  ·rw[Ll (show rc F p q=1 by omega)]
   refine⟨fun x hx=>?_,Dt,Ac⟩;have:x=(p,q):=by simpa using hx
   subst this;exact⟨show rc F p q=1 by omega,⟨d,Nat.le_refl _,Aa,hn⟩,Std.le_refl _,Std.le_refl _⟩
 | succ n ih =>
  intro d p q hn hN;have hw:=hn.within hPQ;have h0:=hF.nonneg (Std.le_of_lt hw.2.1);by_cases hz:rc F p q=0
  ·rw[NG hz];exact⟨fun x hx=>by simp at hx,by simp[hz],List.Pairwise.nil⟩
  by_cases ho:rc F p q=1
  ·rw[Ll ho]
   refine⟨fun x hx=>?_,by simp[ho],Ac⟩;have:x=(p,q):=by simpa using hx
   subst this;exact⟨ho,⟨d,Nat.le_refl _,Aa,hn⟩,Std.le_refl _,Std.le_refl _⟩
  ·rw[NE hz ho]
   obtain⟨n1,n2⟩:=hn.half;obtain⟨a1,a2,a3⟩:=ih (d+1) _ _ n1 Aa;obtain⟨b1,b2,b3⟩:=ih (d+1) _ _ n2 Aa;have w1:=(n1.within hPQ).2.1;have w2:=(n2.within hPQ).2.1;have hsum:=LK F p ((p+q) / 2) q;refine⟨fun x hx=>?_,?_,?_⟩
   ·rcases List.mem_append.1 hx with hx | hx
    ·obtain⟨c1,⟨d',c2,c3,c4⟩,c5,c6⟩:=a1 x hx
     exact⟨c1,⟨d',Aa,Aa,c4⟩,c5,Ah⟩
    ·obtain⟨c1,⟨d',c2,c3,c4⟩,c5,c6⟩:=b1 x hx
     exact⟨c1,⟨d',Aa,Aa,c4⟩,Ah,c6⟩
   ·rw[List.length_append];push_cast;omega
   ·rw[List.pairwise_append]
    refine⟨a3,b3,fun x hx y hy=>?_⟩;obtain⟨-,-,-,c6⟩:=a1 x hx;obtain⟨-,-,c5,-⟩:=b1 y hy;exact Std.le_trans c6 c5
theorem jN(W:Nat->Rat)(K:Nat)(p q:Rat):rts W K p q=rt W K p q:=by
 have e:∀ x,V (EH W (pd W) K) x=vx W K x:=fun x=>by
  unfold V vx VH EH;rw[List.map_map];rfl
 unfold rts rt;rw[e,e]
theorem GI{W:Nat->Rat}{K:Nat}(hK:MM W (pd W) K)(p q:Rat):rts W K p q=rc W p q:=by rw[jN];unfold rc;rw[hK.kn]
theorem WB{G:List Nat}{X Y:World}(U:Cu G X Y){g i:Nat}{x:Value}(hg:g∉G)(h:X.cell? ⟨g,i,none⟩=some x):Y.cell? ⟨g,i,none⟩=some x:=by
 have hb:=World.block_lt_of_cell? X _ h;have ho:X.heap[g]? = some X.heap[g]:=Array.getElem?_eq_getElem hb;have:=U.1 g _ hg ho;rw[World.cell?_of_block (this.trans ho.symm)];exact h
def TT(base:Nat)(t:TypeId)(w:World)(o:Value)(l:List (Rat×Rat))(e:Ending)(w':World):Prop:=∃ r,e = .returned r/\EY base t w' r l/\Cu (blk o) w w'/\∀ g∈blk r,g∈blk o\/w.heap.size<=g
theorem jO(q:Rat):(ab q).num=(q.num.natAbs:Nat)/\(ab q).den=q.den:=by
 unfold ab
 split
 ·rename_i h
  have h1:=Lp (q:=-q);have h2:(-q).num = -q.num:=rfl;have h3:0 < -q:=by grind
  have:=h1.2 h3;exact⟨Aa,rfl⟩
 ·rename_i h
  have:0<=q.num:=Rat.num_nonneg.2 Ah;exact⟨Aa,rfl⟩
theorem Bh.put42{w:World}{g:Nat}{t:TypeId}{a b c d:Value}(h:Bh w g t #[a,b,c,d])(u v:Value)(hu:Af u=false)(hv:Af v=false) :
  ∃ W,W=(w.setCell ⟨g,0,none⟩ u).setCell ⟨g,1,none⟩ v/\Bh W g t #[u,v,c,d]/\Cu [g] w W:=
 ⟨_,rfl,(h.set_ 0 hu).set_ 1 hv,(Cu.set_ h.nodig 0 u).trans (Cu.set_ (h.set_ 0 hu).nodig 1 v)⟩
theorem Ye(p q:Rat):ab (p / q)=ab p / ab q:=by
 by_cases h:q=0
 ·rw[h,DY,Rat.div_def,Rat.div_def,Rat.inv_zero,Rat.mul_zero,Rat.mul_zero];decide
 ·have h1:p / q*q=p:=by grind
  have h2:ab (p / q)*ab q=ab p:=by rw[<-Cs,h1]
  have h3:ab q≠0:=fun e=>h (UD.1 e);grind
theorem Tk{p q:Rat}:decide (GJ (p - q)<=0)=decide (p<=q):=by
 rw[Eg];unfold BK;by_cases h:p<=q
 ·rw[if_neg Ah,decide_eq_true h]
  split<;>rfl
 ·rw[decide_eq_false h,if_pos Ah];rfl
theorem KT(n:Nat):(((2:Int)^n:Int):Rat)=2^n:=by push_cast;rfl
theorem Jf{p q:Rat}:decide (GJ (p - q) > 0)=decide (q < p):=by
 rw[Eg];unfold BK;by_cases h:q < p
 ·rw[if_pos Ah,decide_eq_true h];rfl
 ·rw[decide_eq_false h,if_neg Ah]
  split<;>rfl
theorem P2.qsz{r:Rat}{s:Nat}(h0:0<=r)(h:Hp.qsz r<=s):∃ J,P2 r J/\J<=32*s+1:=by
 have h1:=(MX h).1;rw[Ei h0,BI]at h1;have key:∀ m,r < 2^m->∃ J,P2 r J/\J<=m:=by
  intro m;induction m with
  | zero=>intro h;exact⟨0,⟨h,fun i hi=>Aa⟩,Nat.le_refl _⟩
  | succ m ih =>
   intro h;by_cases h2:r < 2^m
   ·obtain⟨J,a,b⟩:=ih h2;exact⟨J,a,Aa⟩
   ·exact⟨m+1,⟨h,fun i hi=>by have:=L8 (show i<=m by omega);grind⟩,Nat.le_refl _⟩
 refine key (32*s+1) ?_;rw[Rat.pow_succ];have:=Ce (32*s);rw[BI]at this ⊢;grind
noncomputable def bx(F:Nat->Rat):Nat:=open Classical in if h:∃ j,P2 (J5 F (pl F - 1)+1) j then Classical.choose h else 0
theorem P2.bx{F:Nat->Rat}{j:Nat}(h:P2 (J5 F (pl F - 1)+1) j):j=Hp.bx F:=by
 have hx:∃ j,P2 (J5 F (pl F - 1)+1) j:=⟨j,h⟩
 unfold Hp.bx;rw[dif_pos hx];exact h.uniq (Classical.choose_spec hx)
theorem Uz{F:Nat->Rat}{s:Nat}(h:∀ i,qsz (F i)<=s):bx F<=32*(2*s+2)+1:=by
 have h0:0<=J5 F (pl F - 1)+1:=by have:=Kl F (pl F - 1);grind
 have h1:=EL (J5 F (pl F - 1)) 1;have h2:qsz (1:Rat)=1:=by decide
 have h3:=MK h (Nat.le_trans (Cz (F 0)) (h 0)) (pl F - 1);obtain⟨j,hj,hj2⟩:=P2.qsz h0 (show qsz (J5 F (pl F - 1)+1)<=2*s+2 by omega);rw[<-hj.bx];exact hj2
theorem TR(j:Nat):qsz ((2:Rat)^j)<=j+1/\qsz (-(2:Rat)^j)<=j+1:=by
 have h1:=JD j;have e:((2:Rat)^j)=(((2:Int)^j:Int):Rat):=(KT j).symm;have h2:qsz ((2:Rat)^j)<=j+1:=by rw[e,Bi];omega
 exact⟨h2,by rw[Gu];exact h2⟩
structure Pg(F:Nat->Rat)(D M:Nat):Prop where
 z:ZI F
 f:Ae F
 n0:F≠pz
 e:Ct F=0
 q:∀ i,qsz (F i)<=1000
 pln:pl F<=1000
 sim:∃ S n M T,OQ F S n M T
 chn:∃ S,Gf (Ba F) S D M
theorem Pg.sf{F:Nat->Rat}{D M:Nat}(h:Pg F D M):SF (Ba F):=BQ h.z h.f h.n0
theorem Pg.k{F:Nat->Rat}{D M:Nat}(h:Pg F D M):MM (Ba F) (pd (Ba F)) (kn (Ba F)):=h.sf.st.k
theorem Pg.lim{F:Nat->Rat}{D M:Nat}(h:Pg F D M):M<=1000000/\D<=900:=by
 obtain⟨S,h⟩:=h.chn;exact⟨by have:=h.b;omega,h.D9⟩
theorem Lu.lower{base b:Nat}{t:TypeId}{w:World}{v:Value}{W:Nat->Rat}(h:Lu base t w v W)(hb:b<=base):Lu b t w v W:=by
 obtain⟨c,us,K,h1,h2,h3,h4⟩:=h;exact⟨c,us,K,h1,h2,h3,(h4.base_le hb).el_le hb⟩
theorem EY.lower{base b:Nat}{e:TypeId}{w:World}{v:Value}{l:List (Rat×Rat)}(h:EY base e w v l)(hb:b<=base):EY b e w v l:=by
 obtain⟨ess,g1,g2,⟨g3,g4⟩,g5⟩:=h;refine⟨ess,g1,g2,⟨g3,?_⟩,g5⟩;rcases g4 with h4 | ⟨g,cap,cur,a,c,d⟩
 ·exact .inl h4
 ·exact .inr ⟨g,cap,cur,a,Nat.le_trans hb c,d⟩
def YM(base:Nat)(t:TypeId)(F:Nat->Rat)(N:Nat)(r:Value)(w:World):Prop:=∃ c,r = .tuple #[c,.int .i64 (Ct F)]/\(Ct F=0->EY base t w c (iso (rc (Ba F)) N (-(2:Rat)^bx F) ((2:Rat)^bx F)))/\(Ct F≠0->c = .slice none 0 0)
def K7(F:Nat->Rat)(p q:Rat)(r:Value):Prop:=r = .tuple #[.int .i64 (if Ct F=0/\p<=q then rc (Ba F) p q else 0),.int .i64 (if Ct F=0 then(if p<=q then 0 else 2)else Ct F)]
structure CG(F:Nat->Rat):Prop where
 z:ZI F
 f:Ae F
 n0:F≠pz
 p:pl F<=7
 b:∀ i,(F i).num.natAbs<=4095
theorem Cf{F:Nat->Rat}(z:ZI F){i s:Nat}(hs:1<=s)(h:(F i).num.natAbs < bp s):qsz (F i)<=s:=by
 have h3:=Cm h;rw[z.num i,Bi];omega
theorem CG.q{F:Nat->Rat}(h:CG F)(i:Nat):qsz (F i)<=1:=Cf h.z Ab (Nat.lt_of_le_of_lt (h.b i) Ab)
theorem Kr{F:Nat->Rat}(z:ZI F)(f:Ae F){n X:Nat}(hp:pl F<=n+1)(h:∀ i,(F i).num.natAbs<=X)(i:Nat):(pd F i).num.natAbs<=n*X:=by
 have e:pd F i=((((i+1:Nat):Int)*(F (i+1)).num:Int):Rat):=by
  show((i+1:Nat):Rat)*F (i+1)=_
  conv=>lhs;rw[z.num (i+1)]
  push_cast;rfl
 rw[e];show(((i+1:Nat):Int)*(F (i+1)).num).natAbs<=_;rw[Int.natAbs_mul];by_cases hi:i+1<=n
 ·exact Nat.mul_le_mul hi (h _)
 ·have:F (i+1)=0:=(AJ f) _ Aa
  rw[this];simp
theorem NQ{F:Nat->Rat}(z:ZI F)(f:Ae F)(h0:F≠pz){X:Nat}(h:∀ i,(F i).num.natAbs<=X)(i:Nat):(pp F i).num.natAbs<=X:=by
 rw[Nl z f h0];show((F i).num / pcn F).natAbs<=X;exact Nat.le_trans (Int.natAbs_ediv_le_natAbs _ _) (h i)
theorem MF{F:Nat->Rat}(z:ZI F){X:Nat}(h:∀ i,(F i).num.natAbs<=X):JS ((X:Nat):Rat) F:=fun i=>by
 rw[z.num i,KC];exact_mod_cast h i
theorem MC{F:Nat->Rat}(z:ZI F){X:Nat}(h:JS ((X:Nat):Rat) F)(i:Nat):(F i).num.natAbs<=X:=by
 have:=h i;rw[z.num i,KC]at this;exact_mod_cast this
theorem Ls(a b c d:Nat):((a:Nat):Rat)*(((b:Nat):Rat)*((c:Nat):Rat)*((d:Nat):Rat)*((d:Nat):Rat))=((a*(b*c*d*d):Nat):Rat):=by push_cast;rfl
theorem CG.w{F:Nat->Rat}(h:CG F):(∀ i,(Ba F i).num.natAbs<=7*(4095*7*15^7*15^7))/\pl (Ba F)<=7:=by
 have hP:=BB.pp h.z h.f h.n0;have hS:=BQ h.z h.f h.n0;have hpl:=Dq h.z h.f;have hd:Ie (pp F) (Ba F):=by
  obtain⟨hC,hW,e,-,-⟩:=DW hP;exact⟨yc (pp F),hC.z,hC.f,by rw[Bn];exact e⟩
 have h1:=MN hP.z hP.f hP.n hS.p.z hS.p.f hd (n:=7) (by rw[hpl];exact h.p) (MF hP.z (NQ h.z h.f h.n0 h.b));refine⟨MC hS.p.z ?_,?_⟩
 ·intro i
  have:=h1 i;refine Std.le_trans this ?_;have e:(1:Rat)+2*((7:Nat):Rat)=((15:Nat):Rat):=by exact_mod_cast(rfl:1+2*7=15)
  rw[e,FP];have:((7:Nat):Rat)*(((4095:Nat):Rat)*((7:Nat):Rat)*((15^7:Nat):Rat)*((15^7:Nat):Rat))=((7*(4095*7*15^7*15^7):Nat):Rat):=Ls 7 4095 7 _;rw[this];exact Std.le_refl _
 ·have:=Dv.le hS.p.f hP.f hP.n (LM hd)
  rw[hpl]at this;have:=h.p;omega
theorem CG.chn{F:Nat->Rat}(h:CG F):Gf (Ba F) 3 (pl (Ba F)+pl (pd (Ba F))) 32768/\pl (Ba F)+pl (pd (Ba F))<=13:=by
 obtain⟨h1,h2⟩:=h.w;have hS:=BQ h.z h.f h.n0;have h3:=IX hS.p.f;have h4:=AZ hS.p.f hS.p.n;have hD:pl (Ba F)+pl (pd (Ba F))<=13:=by omega
 have hp:2^(pl (Ba F)+pl (pd (Ba F)))<=2^13:=Nat.pow_le_pow_right Ab hD;have hm:(pl (Ba F)+pl (pd (Ba F))+1)*(32768+1)<=14*32769:=Nat.mul_le_mul_right _ Aa;refine⟨Gf.of2 hS.p.z hS.p.f (fun i=>Cf hS.p.z Ab (Nat.lt_of_le_of_lt (h1 i) (by decide +kernel))) (fun i=>Cf (Dn hS.p.z) Ab (Nat.lt_of_le_of_lt (Kr hS.p.z hS.p.f (n:=6) Aa h1 i) (by decide +kernel))) rfl Aa Aa Aa,hD⟩
theorem CG.sim{F:Nat->Rat}(h:CG F):OQ F 1 7 16384 36000:=by
 have hP:=BB.pp h.z h.f h.n0;have hpl:=Dq h.z h.f;have hpn:=NQ h.z h.f h.n0 h.b;exact⟨h.z,h.f,h.n0,h.q,fun i=>Cf (Dn hP.z) Ab (Nat.lt_of_le_of_lt (Kr hP.z hP.f (n:=6) (by rw[hpl];exact h.p) hpn i) Ab),
  fun i=>QF hP (n:=7) (s:=1) (by rw[hpl];exact h.p) Ab (fun i=>Cf hP.z Ab (Nat.lt_of_le_of_lt (hpn i) Ab)) Ab i,h.p,Ab,Ab,Ab,Ab⟩
theorem CG.err{F:Nat->Rat}(h:CG F):Ct F=0:=by
 refine Li h.n0 (by have:=h.p;omega) fun⟨i,b,h1,h2⟩=>?_;have:=h1.le (m:=12) (Nat.lt_of_le_of_lt (h.b i) Ab);omega
theorem CG.pg{F:Nat->Rat}(h:CG F):Pg F (pl (Ba F)+pl (pd (Ba F))) 32768:=
 ⟨h.z,h.f,h.n0,h.err,fun i=>Nat.le_trans (h.q i) Ab,by have:=h.p;omega,⟨1,7,16384,36000,h.sim⟩,⟨3,h.chn.1⟩⟩
theorem ZR{S D b:Nat}(hS:S<=3)(hD:D<=13)(hb:b<=400):Ns S D b<=660000000:=by
 have hp:2^D<=8192:=Nat.le_trans (Nat.pow_le_pow_right Ab hD) Ab;have h1:(S+1)*2^D<=4*8192:=Nat.mul_le_mul Aa hp;have h2:(D+1)*((S+1)*2^D+1)<=14*32769:=Nat.mul_le_mul Aa Aa;have h3:b*(D+1)<=400*14:=Nat.mul_le_mul hb Aa;have h4:(3+b)*D<=403*13:=Nat.mul_le_mul Aa hD;have h5:J2 S D b<=50338607:=by unfold J2;omega
 have h6:D*J2 S D b<=13*50338607:=Nat.mul_le_mul hD h5;unfold Ns Qb WG;omega
theorem CG.sep{F:Nat->Rat}(h:CG F){p q:Rat}{E:Nat}(hE:660000000<=E)(hp:ab p<=2^400 - 1)(hq:ab q<=2^400 - 1)(hpq:p < q)(hd:(q - p)*2^E<=1):rc (Ba F) p q<=1:=by
 obtain⟨hC,hD⟩:=h.chn;have hS:=BQ h.z h.f h.n0;have h1:=ZR (S:=3) (b:=400) Ab hD Ab;have h2:=CS (L8 (show Ns 3 (pl (Ba F)+pl (pd (Ba F))) 400<=E by omega)) (show 0<=q - p by grind);exact hS.st.sep hC.s hC.d rfl hp hq hpq (Std.le_trans h2 hd)
theorem Xr{b:Nat}(j:Nat)(h:j+1<=b):(2:Rat)^j<=2^b - 1:=by
 have h1:=L8 h;rw[Rat.pow_succ]at h1;have:=Ob j;grind
theorem CG.deep{F:Nat->Rat}(h:CG F)(d:Nat)(p q:Rat)(hn:Node (-(2:Rat)^bx F) ((2:Rat)^bx F) d p q)(hd:700000000<=d):rc (Ba F) p q<=1:=by
 have hb:=Uz h.q;have hpos:=Ce (bx F);have hPQ : -(2:Rat)^bx F < (2:Rat)^bx F:=by grind
 obtain⟨w1,w2,w3⟩:=hn.within hPQ;have hB:=Xr (b:=400) (bx F) Aa;have hap:ab p<=2^400 - 1:=Fy.2 ⟨Ah,Ah⟩;have haq:ab q<=2^400 - 1:=Fy.2 ⟨Ah,Ah⟩;obtain⟨E,hE⟩:∃ E,d=E+(bx F+1):=⟨d - (bx F+1),Aa⟩
 refine h.sep (E:=E) Aa hap haq w2 ?_;have hw:=hn.width;rw[hE,DK,Rat.pow_succ]at hw;have:(q - p)*2^E*(2^bx F*2)=1*(2^bx F*2):=by grind
 have hne:(2:Rat)^bx F*2≠0:=by grind
 have:(q - p)*2^E=1:=by grind
 rw[this];exact Std.le_refl _
theorem PO:∀ l:List Int,JU 0 l<=l.length - 1
 | []=>Nat.le_refl _
 | s::l=>by
  rw[JU]
  split
  ·have:=PO l;simp;omega
  ·rename_i h
   rw[if_neg (show ¬ (0:Int) = -s by omega)];have:=XB l s;simp;omega
theorem R3:pl (cz [-2,0,1])=3:=L6 (BG [-2,0,1]) (fun _=>by decide +kernel)
theorem eU:cz [-2,0,1]≠pz:=fun e=>by have:=R3;rw[e,BH]at this;omega
theorem Gs:CG (cz [-2,0,1]):=by
 refine⟨ZI.cz _,Ae.cz _,eU,by rw[R3];decide,fun i=>?_⟩
 match i with
 | 0=>decide +kernel
 | 1=>decide +kernel
 | 2=>decide +kernel
 | i+3=>rw[IP Ac];decide
theorem UW(x:Rat):ev (cz [-2,0,1]) x = -2+x*x:=by
 rw[F4 (BG [-2,0,1]) x];show cz [-2,0,1] 0+x*(cz [-2,0,1] 1+x*(cz [-2,0,1] 2+x*0))=_;have h0:cz [-2,0,1] 0 = -2:=by decide +kernel
 have h1:cz [-2,0,1] 1=0:=by decide +kernel
 have h2:cz [-2,0,1] 2=1:=by decide +kernel
 rw[h0,h1,h2];grind
theorem XW:ld (cz [-2,0,1])=1:=by unfold ld;rw[R3];decide +kernel
theorem eF:SF (cz [-2,0,1]):=by
 refine⟨⟨ZI.cz _,Ae.cz _,eU,by rw[XW];decide,?_⟩,?_⟩
 ·have h:=Gs
  have h1:cn (cz [-2,0,1])∣1:=by
   have h2:=Ik (F:=cz [-2,0,1]) (Ae.cz _) 2;have h3:(cz [-2,0,1] 2).num=1:=by decide +kernel
   rw[h3]at h2;exact Int.natCast_dvd_natCast.1 h2
  exact Nat.dvd_one.1 h1
 ·have e:∀ i,pd (cz [-2,0,1]) i=cs 0 (cs 2 pz) i:=fun i=>by
   match i with
   | 0=>decide +kernel
   | 1=>decide +kernel
   | i+2 =>
    show((i+2+1:Nat):Rat)*cz [-2,0,1] (i+3)=pz i;rw[IP Ac,Rat.mul_zero];rfl
  have e':pd (cz [-2,0,1])=cs 0 (cs 2 pz):=funext e;have f':cz [-2,0,1]=cs (-2) (cs 0 (cs 1 pz)):=funext fun i=>by
   match i with
   | 0=>decide +kernel
   | 1=>decide +kernel
   | 2=>decide +kernel
   | i+3=>rw[IP Ac];rfl
  refine⟨cs (-(1 / 2)) pz,cs 0 (cs (1 / 4) pz),Ae.pz.cs _,(Ae.pz.cs _).cs _,?_⟩;rw[e',f'];simp only[Ml,Cx]
  funext i
  match i with
  | 0=>simp only[pad,psc,cs,pz,pone];grind
  | 1=>simp only[pad,psc,cs,pz,pone];grind
  | 2=>simp only[pad,psc,cs,pz,pone];grind
  | 3=>simp only[pad,psc,cs,pz,pone];grind
  | i+4=>simp only[pad,psc,cs,pz,pone];grind
theorem bU{F:Nat->Rat}(h:SF F):Ba F=F:=by
 have e:pp F=F:=h.p.self;have h2:=Uf h h.p (Dv.refl F);have h3:=DW h.p;unfold Ba;rw[e];refine h3.2.1.eq_dv h.p ⟨yc F,h3.1.f,?_⟩ h2;rw[Bn];exact h3.2.2.1
theorem Yg:Ba (cz [-2,0,1])=cz [-2,0,1]:=bU eF
theorem kI:bx (cz [-2,0,1])=2:=by
 refine(P2.bx ?_).symm;rw[R3];have h0:cz [-2,0,1] 0 = -2:=by decide +kernel
 have h1:cz [-2,0,1] 1=0:=by decide +kernel
 have e1:J5 (cz [-2,0,1]) 1=2:=by
  show(if (0:Rat) < ab (cz [-2,0,1] 0 / ld (cz [-2,0,1]))then ab (cz [-2,0,1] 0 / ld (cz [-2,0,1]))else 0)=2;rw[h0,XW];decide +kernel
 have e2:J5 (cz [-2,0,1]) (3 - 1)=2:=by
  show(if J5 (cz [-2,0,1]) 1 < ab (cz [-2,0,1] 1 / ld (cz [-2,0,1]))then ab (cz [-2,0,1] 1 / ld (cz [-2,0,1]))else J5 (cz [-2,0,1]) 1)=2;rw[e1,h1,XW];decide +kernel
 rw[e2];refine⟨by decide +kernel,fun i hi=>?_⟩
 match i with
 | 0=>decide +kernel
 | 1=>decide +kernel
theorem eZ:rc (cz [-2,0,1]) 0 2=1/\rc (cz [-2,0,1]) (-4) 4=2/\rc (cz [-2,0,1]) (-4) 0=1/\rc (cz [-2,0,1]) 0 4=1:=by
 have hs:=eF;have e0:ev (cz [-2,0,1]) 0 = -2:=by rw[UW];decide +kernel
 have e2:ev (cz [-2,0,1]) 2=2:=by rw[UW];decide +kernel
 have e4:ev (cz [-2,0,1]) 4=14:=by rw[UW];decide +kernel
 have em:ev (cz [-2,0,1]) (-4)=14:=by rw[UW];decide +kernel
 have h1:1<=rc (cz [-2,0,1]) 0 2:=hs.st.change_counts (by decide +kernel) (by rw[e0];decide +kernel) (by rw[e0,e2];decide +kernel);have h2:1<=rc (cz [-2,0,1]) (-4) 0:=hs.st.change_counts (by decide +kernel) (by rw[em];decide +kernel) (by rw[e0,em];decide +kernel);have h3:=hs.sub (p:=0) (x:=0) (y:=2) (q:=4) (by decide +kernel) (by decide +kernel) (by decide +kernel);have h4:=LK (cz [-2,0,1]) (-4) 0 4
 have h5:rc (cz [-2,0,1]) (-4) 4<=2:=by
  rw[<-GI hs.st.k];unfold rts;have h6:V (EH (cz [-2,0,1]) (pd (cz [-2,0,1])) (kn (cz [-2,0,1]))) (-4)<=kn (cz [-2,0,1]) - 1:=by
   have:=PO ((EH (cz [-2,0,1]) (pd (cz [-2,0,1])) (kn (cz [-2,0,1]))).map fun F=>BK (ev F (-4)));rw[List.length_map,CL]at this;exact this
  obtain⟨S,hS⟩:=DJ hs.p.f;obtain⟨T,hT⟩:=DJ (BR hs.p.f);obtain⟨K,q1,q2⟩:=Fq hs.p.f (BR hs.p.f) hs.p.z (Dn hs.p.z) (S:=max S T) (fun i=>Nat.le_trans (hS i) (Nat.le_max_left _ _)) (fun i=>Nat.le_trans (hT i) (Nat.le_max_right _ _));rw[IX hs.p.f,R3]at q2;rw[q1.kn]at h6 ⊢;omega
 omega
theorem gB(N:Nat):iso (rc (Ba (cz [-2,0,1]))) (N+1) (-(2:Rat)^bx (cz [-2,0,1])) ((2:Rat)^bx (cz [-2,0,1]))=[(-4,0),(0,4)]:=by
 rw[Yg,kI];have e1:(2:Rat)^2=4:=by decide +kernel
 have e2 : -(2:Rat)^2 = -4:=by decide +kernel
 obtain⟨-,r1,r2,r3⟩:=eZ;rw[e2,e1,NE Aa Aa];have e3:((-4:Rat)+4) / 2=0:=by decide +kernel
 rw[e3,Ll r2,Ll r3];rfl
theorem SF.rc_deg{F:Nat->Rat}(hs:SF F)(p q:Rat):rc F p q<=((pl F - 1:Nat):Int):=by
 rw[<-GI hs.st.k];unfold rts;have h6:V (EH F (pd F) (kn F)) p<=kn F - 1:=by
  have:=PO ((EH F (pd F) (kn F)).map fun F=>BK (ev F p));rw[List.length_map,CL]at this;exact this
 obtain⟨S,hS⟩:=DJ hs.p.f;obtain⟨T,hT⟩:=DJ (BR hs.p.f);obtain⟨K,q1,q2⟩:=Fq hs.p.f (BR hs.p.f) hs.p.z (Dn hs.p.z) (S:=max S T) (fun i=>Nat.le_trans (hS i) (Nat.le_max_left _ _)) (fun i=>Nat.le_trans (hT i) (Nat.le_max_right _ _));rw[IX hs.p.f]at q2;rw[q1.kn]at h6 ⊢;omega
theorem TY{F:Nat->Rat}(z:ZI F)(f:Ae F)(h0:F≠pz):pl (Ba F)<=pl F:=Dv.le (BQ z f h0).p.f f h0 (FC z f h0)
theorem Np{F:Nat->Rat}(z:ZI F)(f:Ae F)(h0:F≠pz)(h1:pl F<=1){p q:Rat}(hpq:p<=q):rc (Ba F) p q=0:=by
 have hs:=BQ z f h0;have a:=hs.rc_deg p q;have b:=hs.nonneg hpq;have c:=TY z f h0;omega
noncomputable def hfp(R:Rat->Rat->Int)(c:Rat×Rat):Rat×Rat:=if R c.1 ((c.1+c.2) / 2)=1 then(c.1,(c.1+c.2) / 2)else((c.1+c.2) / 2,c.2)
noncomputable def Cc(R:Rat->Rat->Int)(p q:Rat):Nat->Rat×Rat
 | 0=>(p,q)
 | k+1=>hfp R (Cc R p q k)
theorem CF(R:Rat->Rat->Int)(p q:Rat):∀ k,Node p q k (Cc R p q k).1 (Cc R p q k).2
 | 0=>Node.root p q
 | k+1=>by
  have h:=(CF R p q k).half;show Node p q (k+1) (hfp R (Cc R p q k)).1 (hfp R (Cc R p q k)).2;unfold hfp
  split
  ·exact h.1
  ·exact h.2
theorem bM{F:Nat->Rat}(h:SF F){c:Rat×Rat}(hc:c.1 < c.2)(h1:rc F c.1 c.2=1):rc F (hfp (rc F) c).1 (hfp (rc F) c).2=1:=by
 have a:=LK F c.1 ((c.1+c.2) / 2) c.2;have b1:=h.nonneg (p:=c.1) (q:=(c.1+c.2) / 2) Ah;have b2:=h.nonneg (p:=(c.1+c.2) / 2) (q:=c.2) Ah;unfold hfp
 split
 ·assumption
 ·show rc F ((c.1+c.2) / 2) c.2=1
  omega
theorem KG{F:Nat->Rat}(h:SF F){p q:Rat}(hpq:p < q)(h1:rc F p q=1):∀ k,rc F (Cc (rc F) p q k).1 (Cc (rc F) p q k).2=1
 | 0=>h1
 | k+1=>bM h ((CF (rc F) p q k).within hpq).2.1 (KG h hpq h1 k)
theorem VY{p q:Rat}{E b k:Nat}(hpq:p < q)(hp:ab p<=2^b - 1)(hq:ab q<=2^b - 1){x y:Rat}(hn:Node p q k x y)(hk:E+b+1<=k):ab x<=2^b - 1/\ab y<=2^b - 1/\x < y/\(y - x)*2^E<=1:=by
 obtain⟨w1,w2,w3⟩:=hn.within hpq;obtain⟨p1,p2⟩:=Fy.1 hp;obtain⟨q1,q2⟩:=Fy.1 hq;refine⟨Fy.2 ⟨Ah,Ah⟩,Fy.2 ⟨Ah,Ah⟩,w2,?_⟩;have hw:=hn.width;obtain⟨r,rfl⟩:∃ r,k=E+(b+1)+r:=⟨k - (E+(b+1)),Aa⟩
 rw[DK,DK,Rat.pow_succ]at hw;have h1:=Ob r;have h2:=Ce b;have h3:=Ce E;have hd:0 < (y - x)*2^E:=Rat.mul_pos Ah h3;have e1:(y - x)*2^E*(2^b*2)*2^r<=1*(2^b*2):=by
  have:(y - x)*2^E*(2^b*2)*2^r=q - p:=by rw[<-hw];grind
  rw[this];grind
 have hd2:0<=(y - x)*2^E*(2^b*2):=Rat.mul_nonneg (Std.le_of_lt hd) Ah;have e2:(y - x)*2^E*(2^b*2)<=(y - x)*2^E*(2^b*2)*2^r:=by
  have:=Rat.mul_le_mul_of_nonneg_left h1 hd2;rw[Rat.mul_one]at this;exact this
 exact Rat.le_of_mul_le_mul_right (Std.le_trans e2 e1) Ah
structure OJ(F:Nat->Rat):Prop where
 z:ZI F
 f:Ae F
 n0:F≠pz
 d:∀ E,SF E->Dv E F->∀ i,qsz (E i)<=5
theorem VW{D:Nat}(hD:D<=13):Ns 5 D 400<=1000000000:=by
 have hp:2^D<=8192:=Nat.le_trans (Nat.pow_le_pow_right Ab hD) Ab;have h1:(5+1)*2^D<=6*8192:=Nat.mul_le_mul Aa hp;have h2:(D+1)*((5+1)*2^D+1)<=14*49153:=Nat.mul_le_mul Aa Aa;have h5:J2 5 D 400<=75509000:=by unfold J2;omega
 have h6:D*J2 5 D 400<=13*75509000:=Nat.mul_le_mul hD h5;unfold Ns Qb WG;omega
theorem CG.nice{F:Nat->Rat}(h:CG F):OJ F:=⟨h.z,h.f,h.n0,fun E hE hd i=>by
 have hP:=BB.pp h.z h.f h.n0;have hpl:=Dq h.z h.f;have h1:=MN hP.z hP.f hP.n hE.p.z hE.p.f (hP.zdv hE.p ((Dk h.z h.f).2 hd)) (n:=7) (by rw[hpl];exact h.p) (MF hP.z (NQ h.z h.f h.n0 h.b));have h2:(E i).num.natAbs<=7*(4095*7*15^7*15^7):=MC hE.p.z (fun i=>by
  refine Std.le_trans (h1 i) ?_;have e:(1:Rat)+2*((7:Nat):Rat)=((15:Nat):Rat):=by exact_mod_cast(rfl:1+2*7=15)
  rw[e,FP];have:((7:Nat):Rat)*(((4095:Nat):Rat)*((7:Nat):Rat)*((15^7:Nat):Rat)*((15^7:Nat):Rat))=((7*(4095*7*15^7*15^7):Nat):Rat):=Ls 7 4095 7 _;rw[this];exact Std.le_refl _) i
 exact Cf hE.p.z Ab (Nat.lt_of_le_of_lt h2 (by decide +kernel))⟩
theorem OJ.apart{F G:Nat->Rat}(hF:OJ F)(hG:OJ G)(hD:pl F+pl G<=13){x y:Rat}(hx:ab x<=2^400 - 1)(hy:ab y<=2^400 - 1)(hxy:x < y)(hd:(y - x)*2^1000000000<=1)(h1:rc (Ba F) x y=1)(h0:rc (Ba (D7 F G)) x y=0):rc (Ba G) x y=0:=by
 have sF:=BQ hF.z hF.f hF.n0;have sG:=BQ hG.z hG.f hG.n0;rw[ZQ hF.z hF.f hF.n0 hG.z hG.f hG.n0]at h0;obtain⟨U,V,sC,sU,sV,eW,eX,-,-,-,cUX,a1,a2⟩:=sF.meet sG;have b1:=a1 x y (Std.le_of_lt hxy);have dU:Dv U F:=Dv.trans ⟨D7 (Ba F) (Ba G),sC.p.f,eW⟩ (FC hF.z hF.f hF.n0);have dG:=FC hG.z hG.f hG.n0;have pU:=Dv.le sU.p.f hF.f hF.n0 dU;have pG:=Dv.le sG.p.f hG.f hG.n0 dG;have hs:=VW (D:=pl U+pl (Ba G)) Aa
 have h2:=CS (L8 hs) (show 0<=y - x by grind);rcases DR.sep sU sG cUX (hF.d U sU dU) (hG.d _ sG dG) rfl hx hy hxy (Std.le_trans h2 hd)with e | e
 ·omega
 ·exact e
theorem OJ.stop{F G:Nat->Rat}(hF:OJ F)(hG:OJ G)(hD:pl F+pl G<=13){p q:Rat}(hpq:p < q)(hp:ab p<=2^400 - 1)(hq:ab q<=2^400 - 1)(h1:rc (Ba F) p q=1)(h0:rc (Ba (D7 F G)) p q=0) :
  ∃ K,K<=1000001000/\rc (Ba G) (Cc (rc (Ba F)) p q K).1 (Cc (rc (Ba F)) p q K).2=0/\∀ j,j < K->rc (Ba G) (Cc (rc (Ba F)) p q j).1 (Cc (rc (Ba F)) p q j).2≠0:=by
 have hx:∃ K,K<=1000001000/\rc (Ba G) (Cc (rc (Ba F)) p q K).1 (Cc (rc (Ba F)) p q K).2=0:=by
  obtain⟨M,hM⟩:∃ M,M=1000001000:=⟨_,rfl⟩
  refine⟨M,Aa,?_⟩;have hn:=CF (rc (Ba F)) p q M;obtain⟨E,hE⟩:∃ E,E=1000000000:=⟨_,rfl⟩
  obtain⟨t1,t2,t3,t4⟩:=VY (E:=E) hpq hp hq hn Aa;rw[hE]at t4;have o:=KG (BQ hF.z hF.f hF.n0) hpq h1 M;obtain⟨w1,w2,w3⟩:=hn.within hpq;have kC:=FH hF.f hG.f hF.z hG.z;have sC:=BQ kC.2.1 kC.1 (Ma hF.z hF.f hG.z hG.f hF.n0);have c1:=sC.sub w1 (Std.le_of_lt w2) w3;have c2:=sC.nonneg (Std.le_of_lt w2);exact hF.apart hG hD t1 t2 t3 t4 o Aa
 obtain⟨K,hK,e⟩:=hx;induction K using Nat.strongRecOn with
 | _ K ih =>
  by_cases hj:∃ j,j < K/\rc (Ba G) (Cc (rc (Ba F)) p q j).1 (Cc (rc (Ba F)) p q j).2=0
  ·obtain⟨j,h1,h2⟩:=hj
   exact ih j h1 Aa h2
  ·exact⟨K,hK,e,fun j hj' he=>hj ⟨j,hj',he⟩⟩
theorem Lu.upd{base:Nat}{G:List Nat}{t:TypeId}{w w':World}{v:Value}{W:Nat->Rat}(h:Lu base t w v W)(U:Cu G w w')(hG:∀ g∈G,g < base):Lu base t w' v W:=by
 obtain⟨c,us,K,h1,h2,h3,h4⟩:=h;refine⟨c,us,K,h1,h2,h3,?_⟩;have hb:=BJ.blk_ge h4.out;have hne:∀ g'∈blk c,g'∉G:=fun g' hg' hm=>by
  have:=hb g' hg';have:=hG g' hm;omega
 refine⟨BJ.upd h4.out U hne fun _ _ q=>q,h4.len,fun g' hg' i c hc=>?_,fun i a b=>(h4.el i a b).upd U hG⟩;obtain⟨o,ho⟩:∃ o,w.heap[g']? = some o:=⟨_,Array.getElem?_eq_getElem (hb g' hg').2⟩
 have hk:=U.1 g' o (hne g' hg') ho;rw[World.cell?_of_block (hk.trans ho.symm)]at hc;exact h4.nb g' hg' i c hc
def Ms(w:World)(g:Nat)(t:TypeId)(p q:Rat):Prop:=∃ b1 A1 n1 c1 b2 A2 n2 c2 b3 A3 n3 c3 b4 A4 n4 c4,Bh w g t #[.bool b1,.slice A1 n1 c1,.bool b2,.slice A2 n2 c2,.bool b3,.slice A3 n3 c3,.bool b4,.slice A4 n4 c4]/\BC w (.agg #[.bool b1,.slice A1 n1 c1,.bool b2,.slice A2 n2 c2]) p/\BC w (.agg #[.bool b3,.slice A3 n3 c3,.bool b4,.slice A4 n4 c4]) q
theorem IB{R:Rat->Rat->Int}{p q:Rat}{t:Nat}(hp:qsz p<=t)(hq:qsz q<=t)(k:Nat):qsz (Cc R p q k).1<=3*t+k+4/\qsz (Cc R p q k).2<=3*t+k+4/\qsz (((Cc R p q k).1+(Cc R p q k).2) / 2)<=3*t+k+5:=by
 have h:=(CF R p q k).qsz hp hq;have h2:=(CF R p q k).half.1.qsz hp hq;exact⟨h.1,h.2,Aa⟩
theorem Ic.one{w:World}{cs:Array Value}{p q:Rat}(h:Ic w (.agg cs) p q):∃ b1 A1 n1 c1 b2 A2 n2 c2 b3 A3 n3 c3 b4 A4 n4 c4,cs=#[.bool b1,.slice A1 n1 c1,.bool b2,.slice A2 n2 c2,.bool b3,.slice A3 n3 c3,.bool b4,.slice A4 n4 c4]:=by
 obtain⟨b1,A1,n1,c1,b2,A2,n2,c2,b3,A3,n3,c3,b4,A4,n4,c4,h1⟩:=h.cells;injection h1 with h1;exact⟨_,_,_,_,_,_,_,_,_,_,_,_,_,_,_,_,h1⟩
theorem EY.at_{base n c:Nat}{e:TypeId}{w:World}{A:Option Addr}{l:List (Rat×Rat)}(h:EY base e w (.slice A n c) l){j:Nat}(hj:j < l.length) :
  ∃ g o b1 A1 n1 c1 b2 A2 n2 c2 b3 A3 n3 c3 b4 A4 n4 c4,A=some ⟨g,o,none⟩/\w.cell? ⟨g,o+j*8,none⟩=some (.bool b1)/\w.cell? ⟨g,o+j*8+1,none⟩=some (.slice A1 n1 c1)/\w.cell? ⟨g,o+j*8+2,none⟩=some (.bool b2)/\w.cell? ⟨g,o+j*8+3,none⟩=some (.slice A2 n2 c2) /\
   w.cell? ⟨g,o+j*8+4,none⟩=some (.bool b3)/\w.cell? ⟨g,o+j*8+5,none⟩=some (.slice A3 n3 c3)/\w.cell? ⟨g,o+j*8+6,none⟩=some (.bool b4)/\w.cell? ⟨g,o+j*8+7,none⟩=some (.slice A4 n4 c4) /\
   Ic w (.agg #[.bool b1,.slice A1 n1 c1,.bool b2,.slice A2 n2 c2,.bool b3,.slice A3 n3 c3,.bool b4,.slice A4 n4 c4]) l[j].1 l[j].2:=by
 obtain⟨A',c',e1,-,-,hA⟩:=BJ.row h;have eA:A'=A:=by injection e1 with h1;exact h1.symm
 subst eA;obtain⟨g,o,ha,hb,hc⟩:=hA Aa;obtain⟨cs,q1,q2,q3⟩:=hc j hj;obtain⟨b1,A1,n1,c1,b2,A2,n2,c2,b3,A3,n3,c3,b4,A4,n4,c4,rfl⟩:=Ic.one q3;refine⟨g,o,b1,A1,n1,c1,b2,A2,n2,c2,b3,A3,n3,c3,b4,A4,n4,c4,ha,?_,?_,?_,?_,?_,?_,?_,?_,q3⟩
 ·exact q2 0 Ab
 ·exact q2 1 Ab
 ·exact q2 2 Ab
 ·exact q2 3 Ab
 ·exact q2 4 Ab
 ·exact q2 5 Ab
 ·exact q2 6 Ab
 ·exact q2 7 Ab
def NL(w:World)(g:Nat)(vs:List (Value×List Int)):Prop:=∀ j (h:j < vs.length),w.cell? ⟨g,j,none⟩=some vs[j].1/\De 0 w vs[j].1 vs[j].2
theorem NL.ext{w w':World}{g:Nat}{vs:List (Value×List Int)}(h:NL w g vs)(e:Ext w w'):NL w' g vs:=fun j hj=>⟨e.cell (h j hj).1,(h j hj).2.ext e⟩
def Ii(m:List Int):Prop:=m.length<=12/\pl (cz m)<=7/\∀ i,(cz m i).num.natAbs<=4095
def gI(vs:List (Value×List Int))(r:Value):Prop:=∃ b:Bool,r = .bool b/\(b=true->∀ p∈vs,Ii p.2)
theorem Ii.lite{m:List Int}(h:Ii m)(h0:cz m≠pz):CG (cz m):=⟨ZI.cz m,Ae.cz m,h0,h.2.1,h.2.2⟩
theorem PQ(w:World)(t:TypeId){v u z:Value}{l m k:List Int}(h1:De 0 w v l)(h2:De 0 w u m)(h3:De 0 w z k){g:Nat}(hg:g=w.heap.size):NL (w.alloc (.cells #[v,u,z] t)) g [(v,l),(u,m),(z,k)]:=by
 subst hg;intro j hj;have hj2:j < 3:=by simpa using hj
 match j,hj2 with
 | 0,_=>exact⟨by rw[cell_of_row _ w.heap.size 0 _ t (0,0) (heap_alloc_new w _)];rfl,h1.ext ((Ext.refl w).alloc _)⟩
 | 1,_=>exact⟨by rw[cell_of_row _ w.heap.size 1 _ t (0,0) (heap_alloc_new w _)];rfl,h2.ext ((Ext.refl w).alloc _)⟩
 | 2,_=>exact⟨by rw[cell_of_row _ w.heap.size 2 _ t (0,0) (heap_alloc_new w _)];rfl,h3.ext ((Ext.refl w).alloc _)⟩
def K8(l:List Kj):Prop:=l.length<=1048576/\∀ x∈l,x.2.length<=1048576
theorem CG.chnF{F:Nat->Rat}(h:CG F):Gf F 1 (pl F+pl (pd F)) 16384:=by
 have h3:=IX h.f;have h4:=AZ h.f h.n0;have hD:pl F+pl (pd F)<=13:=by have:=h.p;omega
 have hp:2^(pl F+pl (pd F))<=2^13:=Nat.pow_le_pow_right Ab hD;have hm:(pl F+pl (pd F)+1)*(16384+1)<=14*16385:=Nat.mul_le_mul_right _ Aa;exact Gf.of2 h.z h.f h.q (fun i=>Cf (Dn h.z) Ab (Nat.lt_of_le_of_lt (Kr h.z h.f (n:=6) (by have:=h.p;omega) h.b i) Ab)) rfl Aa Aa Aa
theorem CG.k{F:Nat->Rat}(h:CG F):MM F (pd F) (kn F)/\kn F<=8:=by
 obtain⟨K,q1,q2⟩:=Fq h.f (BR h.f) h.z (Dn h.z) h.chnF.s h.chnF.d;rw[q1.kn];have h3:=IX h.f;have:=h.p;exact⟨q1,Aa⟩
theorem CG.rc_bd{F:Nat->Rat}(h:CG F)(p q:Rat):rc (Ba F) p q<=1000:=by
 have hk:=(BQ h.z h.f h.n0).st.k;have hC:=h.chn.1;have hC2:=h.chn.2;rw[<-GI hk];unfold rts;have h3:=Wp (EH (Ba F) (pd (Ba F)) (kn (Ba F))) p;rw[CL]at h3;obtain⟨K0,q1,q2⟩:=Fq hC.f (BR hC.f) hC.z (Dn hC.z) hC.s hC.d;rw[q1.uniq hk]at q2;omega
theorem CG.rcr{l:List Int}(h:CG (cz l))(hl:l.length<=12):mR l (Ba (cz l)) 1 7 16384 36000 300000 3 (pl (Ba (cz l))+pl (pd (Ba (cz l)))) 32768 (kn (Ba (cz l))):=
 ⟨Aa,h.sim,Aa,Aa,Aa,Aa,rfl,h.chn.1,(BQ h.z h.f h.n0).st.k⟩
def kS(w:World)(g:Nat)(t:TypeId)(p q:Rat):Prop:=∃ b1 A1 n1 c1 b2 A2 n2 c2 b3 A3 n3 c3 b4 A4 n4 c4,Bh w g t #[.bool b1,.slice A1 n1 c1,.bool b2,.slice A2 n2 c2,.bool b3,.slice A3 n3 c3,.bool b4,.slice A4 n4 c4]/\Bz w (.agg #[.bool b1,.slice A1 n1 c1,.bool b2,.slice A2 n2 c2]) p/\Bz w (.agg #[.bool b3,.slice A3 n3 c3,.bool b4,.slice A4 n4 c4]) q
theorem Yk{F:Nat->Rat}(h:SF F){P:Rat×Rat}(hP:P.1 < P.2)(h1:rc F P.1 P.2=1):rc F P.1 ((P.1+P.2) / 2)=0\/rc F P.1 ((P.1+P.2) / 2)=1:=by
 have a:=LK F P.1 ((P.1+P.2) / 2) P.2;have b1:=h.nonneg (p:=P.1) (q:=(P.1+P.2) / 2) Ah;have b2:=h.nonneg (p:=(P.1+P.2) / 2) (q:=P.2) Ah;omega
theorem Bq.inj{w:World}{v:Value}{x y:Int}(h:Bq w v x)(k:Bq w v y):x=y:=by
 obtain⟨n,ds,⟨s,rfl,hd⟩,rfl,-⟩:=h;obtain⟨m,es,⟨t,e,he⟩,rfl,-⟩:=k;cases e;rw[hd.uniq he]
theorem BC.inj{w:World}{v:Value}{p q:Rat}(h:BC w v p)(k:BC w v q):p=q:=by
 obtain⟨b,A,n,c,b',A',n',c',x,y,rfl,h1,h2,-,-,rfl⟩:=h;obtain⟨d,B,m,e,d',B',m',e',x',y',k0,k1,k2,-,-,rfl⟩:=k;cases k0;rw[h1.inj k1,h2.inj k2]
theorem Ms.inj{w:World}{g:Nat}{t:TypeId}{p q p' q':Rat}(h:Ms w g t p q)(k:Ms w g t p' q'):p=p'/\q=q':=by
 obtain⟨b1,A1,n1,c1,b2,A2,n2,c2,b3,A3,n3,c3,b4,A4,n4,c4,h1,h2,h3⟩:=h;obtain⟨d1,B1,m1,e1,d2,B2,m2,e2,d3,B3,m3,e3,d4,B4,m4,e4,k1,k2,k3⟩:=k;have e:=h1.1.symm.trans k1.1;cases e;exact⟨h2.inj k2,h3.inj k3⟩
theorem aI{R:Rat->Rat->Int}{p q:Rat}(hpq:p < q){j k:Nat}(h1:(Cc R p q j).1=(Cc R p q k).1)(h2:(Cc R p q j).2=(Cc R p q k).2):j=k:=by
 have a:=(CF R p q j).width;have b:=(CF R p q k).width;have c:=((CF R p q k).within hpq).2.1;rw[h1,h2]at a;have e:(2:Rat)^j=2^k:=by
  have hne:(Cc R p q k).2 - (Cc R p q k).1≠0:=by grind
  have:((Cc R p q k).2 - (Cc R p q k).1)*(2^j - 2^k)=0:=by grind
  rcases Rat.mul_eq_zero.1 this with z | z
  ·exact absurd z hne
  ·grind
 have key:∀ {m n:Nat},m < n->(2:Rat)^m≠2^n:=fun {m n} h e=>by
  have h1:=L8 (show m+1<=n from h);rw[Rat.pow_succ]at h1;have:=Ce m;grind
 rcases Nat.lt_trichotomy j k with z | z | z
 ·exact absurd e (key z)
 ·exact z
 ·exact absurd e.symm (key z)
noncomputable def aH(w:World)(g:Nat)(t:TypeId)(R:Rat->Rat->Int)(p q:Rat):Nat:=open Classical in if h:∃ k,Ms w g t (Cc R p q k).1 (Cc R p q k).2 then Classical.choose h else 0
theorem MR{w:World}{g:Nat}{t:TypeId}{R:Rat->Rat->Int}{p q:Rat}(hpq:p < q){k:Nat}(h:Ms w g t (Cc R p q k).1 (Cc R p q k).2):aH w g t R p q=k:=by
 have hx:∃ k,Ms w g t (Cc R p q k).1 (Cc R p q k).2:=⟨k,h⟩
 unfold aH;rw[dif_pos hx];have:=(Classical.choose_spec hx).inj h;exact aI hpq this.1 this.2
def Em(F G:Nat->Rat)(p q:Rat)(s:Int):Prop:=(G=pz/\s=0)\/(G≠pz/\rc (Ba (D7 F G)) p q=1/\s=0) \/
 (G≠pz/\rc (Ba (D7 F G)) p q≠1/\∃ K,rc (Ba G) (Cc (rc (Ba F)) p q K).1 (Cc (rc (Ba F)) p q K).2=0/\(∀ j,j < K->rc (Ba G) (Cc (rc (Ba F)) p q j).1 (Cc (rc (Ba F)) p q j).2≠0)/\s=GJ (ev G (Cc (rc (Ba F)) p q K).2))
theorem Em.uniq{F G:Nat->Rat}{p q:Rat}{s s':Int}(h:Em F G p q s)(k:Em F G p q s'):s=s':=by
 rcases h with⟨a,b⟩ | ⟨a,b,c⟩ | ⟨a,b,K,c,d,e⟩<;>rcases k with⟨a',b'⟩ | ⟨a',b',c'⟩ | ⟨a',b',K',c',d',e'⟩
 ·rw[b,b']
 ·exact absurd a a'
 ·exact absurd a a'
 ·exact absurd a' a
 ·rw[c,c']
 ·exact absurd b b'
 ·exact absurd a' a
 ·exact absurd b' b
 ·rcases Nat.lt_trichotomy K K' with z | z | z
  ·exact absurd c (d' K z)
  ·subst z;rw[e,e']
  ·exact absurd c' (d K' z)
def kK(F G:Nat->Rat)(p q:Rat)(r:Value):Prop:=∃ s E,r = .tuple #[.int .i64 s,.int .i64 E]/\(E≠0->s=0)/\(E=0->Em F G p q s)/\E=if Ct F≠0 then Ct F else if Ct G=7 then 7 else if p < q/\rc (Ba F) p q=1 then 0 else 12
def Rm(F:Nat->Rat):Prop:=∃ D M,Pg F D M/\D<=20
theorem N8{F:Nat->Rat}(h:Ct F=0)(z:ZI F):F≠pz/\pl F<=33/\∀ i,qsz (F i)<=129:=by
 rcases DV F with⟨_,e⟩ | ⟨_,e⟩ | ⟨a,b,c,_⟩
 ·omega
 ·omega
 ·exact⟨a,b,YX z c⟩
structure mM(w:World)(v:Value)(P:Rat×Rat):Prop where
 out:Jb w v P.1 P.2
theorem mM.ext{w w':World}{v:Value}{P:Rat×Rat}(h:mM w v P)(e:Ext w w'):mM w' v P:=⟨h.out.ext e⟩
def B7:Nat:=7*(4095*7*15^7*15^7)
theorem CG.div{F E:Nat->Rat}(h:CG F)(hE:BB E)(hd:Dv E F)(i:Nat):(E i).num.natAbs<=B7:=by
 have hP:=BB.pp h.z h.f h.n0;have hpl:=Dq h.z h.f;have h1:=MN hP.z hP.f hP.n hE.z hE.f (hP.zdv hE ((Dk h.z h.f).2 hd)) (n:=7) (by rw[hpl];exact h.p) (MF hP.z (NQ h.z h.f h.n0 h.b));refine MC hE.z (fun i=>?_) i;refine Std.le_trans (h1 i) ?_;have e:(1:Rat)+2*((7:Nat):Rat)=((15:Nat):Rat):=by exact_mod_cast(rfl:1+2*7=15)
 rw[e,FP];have:((7:Nat):Rat)*(((4095:Nat):Rat)*((7:Nat):Rat)*((15^7:Nat):Rat)*((15^7:Nat):Rat))=((7*(4095*7*15^7*15^7):Nat):Rat):=Ls 7 4095 7 _;rw[this];exact Std.le_refl _
structure Mid(F:Nat->Rat):Prop where
 z:ZI F
 f:Ae F
 n0:F≠pz
 p:pl F<=7
 c:cn F<=4095
 d:∀ E,BB E->Dv E F->∀ i,(E i).num.natAbs<=B7
theorem CG.cnt{F:Nat->Rat}(h:CG F):cn F<=4095:=by
 have hp:=AZ h.f h.n0;have ht:=Ez h.f hp;have hd:=Ik h.f (pl F - 1);have hn:(F (pl F - 1)).num≠0:=fun e=>ht (by rw[h.z.num,e];rfl);have h1:Hp.cn F<=(F (pl F - 1)).num.natAbs:=Nat.le_of_dvd Aa (by have:=Int.natAbs_dvd_natAbs.2 hd;simpa using this);exact Nat.le_trans h1 (h.b _)
theorem CG.mid{F:Nat->Rat}(h:CG F):Mid F:=⟨h.z,h.f,h.n0,h.p,h.cnt,fun _ a b=>h.div a b⟩
theorem Qv{F G:Nat->Rat}(zF:ZI F)(fF:Ae F)(zG:ZI G)(fG:Ae G):Dv (D7 F G) F:=(GU _).trans (FH fF fG zF zG).2.2.2.2.2.2.1
theorem Mid.gcd{F G:Nat->Rat}(h:Mid F)(zG:ZI G)(fG:Ae G):Mid (D7 F G):=by
 have k:=FH h.f fG h.z zG;have hd:=Qv h.z h.f zG fG;refine⟨k.2.1,k.1,Ma h.z h.f zG fG h.n0,Nat.le_trans (Dv.le k.1 h.f h.n0 hd) h.p,?_,fun E a b=>h.d E a (b.trans hd)⟩;rw[k.2.2.2.1];exact Nat.le_trans (Nat.le_of_dvd (Nat.pos_of_ne_zero (IW h.z h.f h.n0)) (Nat.gcd_dvd_left _ _)) h.c
theorem Mid.ppn{F:Nat->Rat}(h:Mid F)(i:Nat):(pp F i).num.natAbs<=B7:=h.d _ (BB.pp h.z h.f h.n0) ((Dk h.z h.f).1 (Dv.refl _)) i
theorem Mid.coef{F:Nat->Rat}(h:Mid F)(i:Nat):(F i).num.natAbs<=4095*B7:=by
 have e:(F i).num=pcn F*(pp F i).num:=by
  have h1:=Nl h.z h.f h.n0 i;have h2:(pp F i).num=(F i).num / pcn F:=by rw[h1];rfl
  rw[h2,Int.mul_ediv_cancel' (Il h.f i)]
 rw[e,Int.natAbs_mul,Fh];exact Nat.mul_le_mul h.c (h.ppn i)
theorem Mid.q{F:Nat->Rat}(h:Mid F)(i:Nat):qsz (F i)<=3:=Cf h.z Ab (Nat.lt_of_le_of_lt (h.coef i) (by decide +kernel))
theorem Mid.sqn{F:Nat->Rat}(h:Mid F)(i:Nat):(Ba F i).num.natAbs<=B7:=h.d _ (BQ h.z h.f h.n0).p (FC h.z h.f h.n0) i
theorem Mid.chn{F:Nat->Rat}(h:Mid F):Gf (Ba F) 3 (pl (Ba F)+pl (pd (Ba F))) 32768/\pl (Ba F)+pl (pd (Ba F))<=13:=by
 have h1:=h.sqn;have h2:=Nat.le_trans (TY h.z h.f h.n0) h.p;have hS:=BQ h.z h.f h.n0;have h3:=IX hS.p.f;have h4:=AZ hS.p.f hS.p.n;have hD:pl (Ba F)+pl (pd (Ba F))<=13:=by omega
 have hp:2^(pl (Ba F)+pl (pd (Ba F)))<=2^13:=Nat.pow_le_pow_right Ab hD;have hm:(pl (Ba F)+pl (pd (Ba F))+1)*(32768+1)<=14*32769:=Nat.mul_le_mul_right _ Aa;refine⟨Gf.of2 hS.p.z hS.p.f (fun i=>Cf hS.p.z Ab (Nat.lt_of_le_of_lt (h1 i) (by decide +kernel))) (fun i=>Cf (Dn hS.p.z) Ab (Nat.lt_of_le_of_lt (Kr hS.p.z hS.p.f (n:=6) Aa h1 i) (by decide +kernel))) rfl Aa Aa Aa,hD⟩
theorem Mid.sim{F:Nat->Rat}(h:Mid F):OQ F 3 7 32768 36000:=by
 have hP:=BB.pp h.z h.f h.n0;have hpl:=Dq h.z h.f;have hpn:=h.ppn;exact⟨h.z,h.f,h.n0,h.q,fun i=>Cf (Dn hP.z) Ab (Nat.lt_of_le_of_lt (Kr hP.z hP.f (n:=6) (by rw[hpl];exact h.p) hpn i) (by decide +kernel)),
  fun i=>QF hP (n:=7) (s:=3) (by rw[hpl];exact h.p) Ab (fun i=>Cf hP.z Ab (Nat.lt_of_le_of_lt (hpn i) (by decide +kernel))) Ab i,h.p,Ab,Ab,Ab,Ab⟩
theorem Mid.err{F:Nat->Rat}(h:Mid F):Ct F=0:=by
 refine Li h.n0 (by have:=h.p;omega) fun⟨i,b,h1,h2⟩=>?_;have:=h1.le (m:=96) (Nat.lt_of_le_of_lt (h.coef i) (by decide +kernel));omega
theorem Mid.pg{F:Nat->Rat}(h:Mid F):Pg F (pl (Ba F)+pl (pd (Ba F))) 32768:=
 ⟨h.z,h.f,h.n0,h.err,fun i=>Nat.le_trans (h.q i) Ab,by have:=h.p;omega,⟨3,7,32768,36000,h.sim⟩,⟨3,h.chn.1⟩⟩
theorem Mid.rm{F:Nat->Rat}(h:Mid F):Rm F:=⟨_,_,h.pg,by have:=h.chn.2;omega⟩
theorem Mid.nice{F:Nat->Rat}(h:Mid F):OJ F:=⟨h.z,h.f,h.n0,fun E hE hd i=>Cf hE.p.z Ab (Nat.lt_of_le_of_lt (h.d E hE.p hd i) (by decide +kernel))⟩
theorem Mid.rcr{l:List Int}(h:Mid (cz l))(hl:l.length<=1000):mR l (Ba (cz l)) 3 7 32768 36000 600000 3 (pl (Ba (cz l))+pl (pd (Ba (cz l)))) 32768 (kn (Ba (cz l))):=
 ⟨Aa,h.sim,Aa,Aa,Aa,Aa,rfl,h.chn.1,(BQ h.z h.f h.n0).st.k⟩
theorem eP{A B:Nat->Rat}(fA:Ae A)(h:Dv A B){x:Rat}(h0:ev A x=0):ev B x=0:=by
 obtain⟨Q,fQ,rfl⟩:=h;rw[EN fQ fA,h0,Rat.mul_zero]
theorem dY{F:Nat->Rat}(f:Ae F){x:Rat}:∀ N,ev (pw F N) x=0->ev F x=0
 | 0,h=>by
  have e:ev pone x=1:=MP x;rw[show pw F 0=pone from rfl,e]at h;exact absurd h Ab
 | N+1,h=>by
  rw[show pw F (N+1)=cv (pw F N) F from rfl,EN (O1 f N) f]at h;rcases Rat.mul_eq_zero.1 h with z | z
  ·exact dY f N z
  ·exact z
theorem YS{F:Nat->Rat}(z:ZI F)(f:Ae F)(h0:F≠pz){x:Rat}(h:ev F x=0):ev (Ba F) x=0:=by
 have hP:=BB.pp z f h0;have h1:ev (pp F) x=0:=eP f ((Dk z f).2 (Dv.refl F)) h;obtain⟨hC,hW,e,-,-⟩:=DW hP;obtain⟨N,hN⟩:=Sv hP;have h2:ev (cv (y0 (pp F)) (yc (pp F))) x=0:=(congrArg (fun G=>ev G x) e).symm.trans h1;rw[EN hW.f hC.f]at h2;rcases(Rat.mul_eq_zero.1 h2).symm with a | a
 ·exact dY hW.f N (eP hC.f hN a)
 ·exact a
theorem ZN{F:Nat->Rat}(z:ZI F)(f:Ae F)(h0:F≠pz){p q:Rat}(hpq:p < q)(h:rc (Ba F) p q=0):ev F q≠0:=fun e=>by
 have h1:1<=rc (Ba F) p q:=(BQ z f h0).st.zero_counts hpq (Std.le_refl _) (YS z f h0 e);omega
end Go.Hp
namespace Go.Proofs.YtmhgnigpmompmaaGreat
open Go.RowKit Go.Hp
set_option maxRecDepth 20000 in
theorem ZG(v u:Value)(l m:List Int)(s t M:Nat)(w:World)(hv:De 0 w v l)(hu:De 0 w u m)(hs:∀ i,qsz (cz l i)<=s)(ht:∀ i,qsz (cz m i)<=t)(hn:l.length<=1000000)(hm:m.length<=1000000)(h0:cz m≠pz)(hM:s+(l.length+2)*(t+1)+t+1<=M)(hst:2+(l.length+m.length+4)*(2*M+4)<=274877906944) :
  Bc 141 #[v,u] w ((dP (Gl (cz l) (cz m) (pl (cz l)+1 - pl (cz m))) (Dj (cz l) (cz m) (pl (cz l)+1 - pl (cz m))))):=by
 have HV:=Ad hv;have HU:=Ad hu;obtain⟨A0,c0,rfl⟩:=hv.len;obtain⟨A1,c1,rfl⟩:=hu.len;clear hv hu;have hN1:=fun W (x:Ext w W)=>D5 _ l W (HV.out.ext x) Aa;have hD:=fun W (x:Ext w W)=>Ee _ m W (HU.out.ext x) Aa;have hLd:=fun W (x:Ext w W)=>MH _ m W (HU.out.ext x) Aa;have hc1:=Bj (BG l);have hc2:=Bj (BG m);have hfF:=Ae.cz l;have hzF:=ZI.cz l;have hfG:=Ae.cz m;have hzG:=ZI.cz m;have hL:=AZ hfG h0;have hMb:4*M+12<=274877906944:=by
  have:4*(2*M+4)<=(l.length+m.length+4)*(2*M+4):=Nat.mul_le_mul_right _ Aa;omega
 have hMul:=fun(k:Nat) (z:Int) (W:World) (x:Ext w W) (v:Value) (hv:AC 0 W v (mono k (z:Rat))) (hk:k<=l.length) (hz:qsz (z:Rat)<=M)=>show Bc 23 #[v,.slice A1 m.length c1] W (fun r w'=>AC 0 w' r (cv (mono k (z:Rat)) (cz m)))from by
  have hq:∀ i,qsz (mono k (z:Rat) i)<=M:=fun i=>by
   unfold mono;split
   ·exact hz
   ·have:qsz (0:Rat)=1:=by decide
    have:=Cz (z:Rat);omega
  have hp:=Bj (Dc k (z:Rat));obtain⟨l2,g1,g2,-,g4⟩:=hv.hz (fun i=>by have:=hq i;omega);rw[<-g4];refine Ag.imp (PK _ _ l2 m M t W g1 (HU.out.ext x) (by rw[g4];exact hq) ht ?_ Aa Aa) fun _ _ h=>h.base_le (Nat.zero_le _);have h1:(l2.length+m.length)*(M+t+1)<=(l.length+m.length+4)*(2*M+4):=Nat.mul_le_mul Aa Aa;omega
 obtain⟨F,hF⟩:∃ F,F=cz l:=⟨_,rfl⟩
 obtain⟨G,hG⟩:∃ G,G=cz m:=⟨_,rfl⟩
 rw[<-hF]at hs hc1 hfF hzF;rw[<-hG]at hc2 hfG hzG hL ht h0;simp only[<-hF]at hN1;simp only[<-hG]at hD hLd hMul;rw[<-hF,<-hG];obtain⟨n,hnn⟩:∃ n,n=pl F+1 - pl G:=⟨_,rfl⟩
 rw[<-hnn];have hnl:n<=l.length+1:=by omega
 have hbig:∀ k,k<=n->∀ q,q<=s+k*(t+1)->q+1<=M/\q+t+1<=M:=fun k hk q hq=>by
  have:k*(t+1)<=(l.length+2)*(t+1):=Nat.mul_le_mul_right _ Aa;omega
 have htM:t+1<=M:=by omega
 have hst0:Nh F G n s t 0 pz F:=Nh.start hfF hzF hs;have hlr:∀ j,j<=n->2+(j+1)*t<=549755813888/\1+j*t<=M:=fun j hj=>by
  have h1:(j+1)*t<=(l.length+2)*(t+1):=Nat.mul_le_mul Aa Aa;have h2:j*t<=(l.length+2)*(t+1):=Nat.mul_le_mul Aa Aa;omega
 have HX:=Ad (Ai hfF (Ai hzF (Ai hfG (Ai hzG (Ai h0 (Ai ht (Ai hbig (Ai hMb (Ai htM hlr)))))))));have HC:=Ad (Ai hD (Ai hLd hMul));have HN:=Ad (Ai hN1 (Ai hst0 hnn));have HLG:=Ad (show sz (ld G).num.natAbs<=1099511627776/\qsz (((ld G).num:Int):Rat)<=M/\(((ld G).num:Int):Rat)=ld G/\sz (ld G).num.natAbs<=t from by
  have e:(((ld G).num:Int):Rat)=ld G:=(hzG.num _).symm;have h1:qsz (ld G)<=t:=ht _;have h2:=F7 h1;exact⟨Aa,by rw[e];omega,e,h2⟩)
 have hmax:max 0 ((pl F:Int) - 1 - ((pl G:Int) - 1)+1)=(n:Nat):=by omega
 clear hs ht hfF hzF hfG hzG h0 hF hG hD hLd hMul hN1 hst hM hbig hst0 hMb htM hlr HV HU hnn
 go_enter Tryz.func141,Tryz.ntmps141
 go_wp2_with fail
 refine AB (HN.out.1 _ ((Ext.refl w).alloc _)) ?_;rintro r1 w1 hr1 hx;obtain⟨A2,c2,rfl,-⟩:=hr1.shape;have H1:=Ad (hr1.base_le (b:=0) (Nat.zero_le _));clear hr1;replace hx:=hx.a1
 go_wp2_with fail
 refine AB (HC.out.1 w1 hx) ?_;rintro r2 w2 rfl hx2;have h1:=H1.out.ext hx2;replace hx:=hx.trans hx2;have H2:=Ad h1;clear hx2 H1 h1
 go_wp2_with fail
 refine AB (HC.out.2.1 w2 hx) ?_;rintro r3 w3 hr3 hx3;obtain⟨b5,A5,n5,c5,rfl⟩:=hr3.cells;obtain⟨W4,eW,eb,x4⟩:=Bh.made w3 26 #[.bool b5,.slice A5 n5 c5] (by simp[Af]);have hl4:=hr3.kd x4.kd;have h2:=H2.out.ext (hx3.trans x4);replace hx:=hx.trans (hx3.trans x4);have HL:=Ad hl4;have H3:=Ad h2;clear hr3 hl4 h2 hx3 x4 H2;go_wp2;rw[<-eW];clear eW;generalize w3.heap.size=gl at *
 go_loopw [6,7,10] (fun qv rv kv wr=>∃ (j:Nat) (Q R:Nat->Rat),kv = .int .i64 ((n:Int) - j)/\j<=n/\Nh F G n s t j Q R/\AC 0 wr rv R/\AC 0 wr qv Q/\Bp wr gl 26 (ld G).num/\Ext w wr) (fun _ rv _ _=>OO rv)
 case atStart=>exact⟨0,pz,F,Ac,Nat.zero_le _,HN.out.2.1,H3.out,AC.empty 0 _ _ _ Aa,Bp.mk eb HL.out,hx⟩
 case round =>
  clear hx eb HL H3 hmax;obtain⟨j,Q,R,rfl,hj,hst,hR,hQ,⟨b6,A6,n6,c6,eb,hl⟩,hx⟩:=hrel;obtain⟨AR,cR,lr,rfl,j1,j2,hA,j3,j4,j5⟩:=hR.form;obtain⟨AQ,cQ,rfl,-⟩:=hQ.shape;have HS:=Ad (Ai hst (Ai hA (Ai j3 (Ai j5 (Ai hR (Ai hQ hl))))));clear hst hA j3 j4 j5 hR hQ hl;by_cases hle:pl G<=pl R
  ·obtain⟨k,hk⟩:∃ k,k=pl R - pl G:=⟨_,rfl⟩
   have hlt:pl R - 1 < lr.length:=by have:=HS.out.2.2.1;omega
   obtain⟨g,o,b,B1,n1,d1,rfl,-,q0,q1,hq⟩:=HS.out.2.1.at_ (j:=pl R - 1) hlt;have hval:=UO HS.out.2.2.2.1 (i:=pl R - 1) hlt;rw[hval]at hq;obtain⟨z,hzz⟩:∃ z,z=(R (pl R - 1)).num:=⟨_,rfl⟩
   rw[<-hzz]at hq;have hind:((pl R:Int) - 1).toNat=pl R - 1:=by omega
   have hkk:(pl R:Int) - 1 - ((pl G:Int) - 1)=(k:Nat):=by omega
   have hjn:j < n:=by have:=HS.out.1.deg;have:=HN.out.2.2;omega
   have hzc:(z:Rat)=R (pl R - 1):=by rw[hzz];exact(HS.out.1.zR.num _).symm
   have hst2:=HS.out.1.step HN.out.2.2 HX.out.2.2.1 HX.out.2.2.2.2.1 HX.out.2.2.2.1 HX.out.2.2.2.2.2.1 hle hk hzc;have HZ:=Ad (show Nh F G n s t (j+1) (pad (psc (ld G) Q) (mono k (z:Rat))) (psb (psc (ld G) R) (cv (mono k (z:Rat)) G))/\pl (psb (psc (ld G) R) (cv (mono k (z:Rat)) G)) < pl R/\z≠0/\qsz (z:Rat)+1<=M/\(∀ i,qsz (cv (mono k (z:Rat)) G i)<=2*M)/\(∀ i,qsz (mono k (z:Rat) i)<=M)/\(∀ i,qsz (psc (ld G) Q i)<=2*M)/\(∀ i,qsz (psc (ld G) R i)<=2*M)/\(∀ i,qsz (Q i)<=M)/\(∀ i,qsz (R i)<=M)/\pl (cv (mono k (z:Rat)) G)<=549755813888/\pl (mono k (z:Rat))<=549755813888/\pl Q<=549755813888/\pl (psc (ld G) Q)<=549755813888/\pl (psc (ld G) R)<=549755813888/\pl R<=549755813888/\k<=l.length from by
    have o1:qsz (0:Rat)=1:=by decide
    have o2:=Cz (z:Rat);have hpG:=AZ HX.out.2.2.1 HX.out.2.2.2.2.1;have hdeg:=HS.out.1.deg;have hQs:∀ i,qsz (Q i)<=M:=fun i=>by have:=HX.out.2.2.2.2.2.2.1 _ hj _ (HS.out.1.qQ i);omega
    have hRs:∀ i,qsz (R i)<=M:=fun i=>by have:=HX.out.2.2.2.2.2.2.1 _ hj _ (HS.out.1.qR i);omega
    have hzq:qsz (z:Rat)+1<=M:=by rw[hzc];have:=HX.out.2.2.2.2.2.2.1 _ hj _ (HS.out.1.qR (pl R - 1));omega
    have hlG:qsz (ld G)<=M:=by have h1:qsz (ld G)<=t:=HX.out.2.2.2.2.2.1 _;have:=HX.out.2.2.2.2.2.2.2.2.1;omega
    have hQp:=Bj HS.out.1.fQ;refine⟨hst2.1,hst2.2,fun e=>?_,hzq,fun i=>?_,fun i=>?_,fun i=>?_,fun i=>?_,hQs,hRs,?_,?_,?_,?_,?_,?_,?_⟩
    ·have h1:R (pl R - 1)≠0:=Ez HS.out.1.fR Aa
     apply h1;rw[<-hzc,e];rfl
    ·rw[Fg]
     show qsz ((z:Rat)*sh k G i)<=_;have a1:=BS (z:Rat) (sh k G i);have a2:qsz (sh k G i)<=M:=by
      unfold sh;split
      ·omega
      ·have:=HX.out.2.2.2.2.2.1 (i - k);have:=HX.out.2.2.2.2.2.2.2.2.1;omega
     omega
    ·unfold mono;split<;>omega
    ·have a1:=BS (ld G) (Q i);have a2:=hQs i;show qsz (ld G*Q i)<=_;omega
    ·have a1:=BS (ld G) (R i);have a2:=hRs i;show qsz (ld G*R i)<=_;omega
    ·have:=Bj ((Dc k (z:Rat)).cv (AJ HX.out.2.2.1));omega
    ·have:=Bj (Dc k (z:Rat));omega
    ·omega
    ·have:=Bj (HS.out.1.fQ.psc (ld G));omega
    ·have:=Bj ((AJ HS.out.1.fR).psc (ld G));omega
    ·omega
    ·omega)
   have Hq:=Ad (Ai hq (Ai hk hzc));clear hq hk hzc hval hst2 hzz;have xw:=Ext.refl wr
   go_wp2_with fail
   have hzrow:De 0 (wr.alloc (.cells #[.bool b,.slice B1 n1 d1] 26)) (.slice (some ⟨wr.heap.size,0,none⟩) 1 1) [z]:=
    Mo.has (CK.row (EI.own (EI.mk Hq.out.1 (base:=0) (Nat.zero_le _) 26))) (fun x hx=>by
     simp at hx;subst hx;have h1:sz x.natAbs<=qsz (x:Rat):=by rw[Bi];omega
     have h2:=HX.out.2.2.2.2.2.2.2.1;have h3:=HZ.out.2.2.2.1;omega)
   have HR:=Ad hzrow;clear hzrow;refine AB (P5 _ z k _ HR.out HZ.out.2.2.1 (by have:=HZ.out.2.2.2.2.2.2.2.2.2.2.2.2.2.2.2.2;omega)) ?_;rintro r6 w6 hr6 hx6;replace xw:=(xw.alloc _).trans hx6;replace hx:=(hx.alloc _).trans hx6;replace eb:=(eb.alloc _).ext hx6;have H6:=Ad hr6;have hl6:=HS.out.2.2.2.2.2.2.kd xw.kd;have HL6:=Ad hl6;clear hr6 hx6 HR hkk hind q0 q1 hl6;have ceb:=eb.cells2;have feb:=eb.frozen
   go_wp2_with fail
   refine AB (M6 _ _ Q (ld G).num M _ (HS.out.2.2.2.2.2.1.ext xw) (HL6.out.has HLG.out.1) HZ.out.2.2.2.2.2.2.2.2.1 (by have:=HLG.out.2.1;have:=HX.out.2.2.2.2.2.2.2.1;omega) HZ.out.2.2.2.2.2.2.2.2.2.2.2.2.1) ?_;rintro r7 w7 hr7 hx7;rw[HLG.out.2.2.1]at hr7;have h6:=H6.out.ext hx7;replace xw:=xw.trans hx7;replace hx:=hx.trans hx7;have H7:=Ad (Ai hr7 h6);have HL7:=Ad (HL6.out.kd hx7.kd);replace eb:=eb.ext hx7
   clear hr7 h6 hx7 H6 HL6 ceb feb
   go_wp2_with fail
   refine AB (kJ _ _ (psc (ld G) Q) (mono k (z:Rat)) (2*M) M _ H7.out.1 H7.out.2 HZ.out.2.2.2.2.2.2.1 HZ.out.2.2.2.2.2.1 (by have:=HX.out.2.2.2.2.2.2.2.1;omega) HZ.out.2.2.2.2.2.2.2.2.2.2.2.2.2.1 HZ.out.2.2.2.2.2.2.2.2.2.2.2.1) ?_;rintro r8 w8 hr8 hx8;obtain⟨A8,c8,rfl,-⟩:=hr8.shape;have h7:=H7.out.2.ext hx8;replace xw:=xw.trans hx8;replace hx:=hx.trans hx8;have H8:=Ad (Ai hr8 h7);have HL8:=Ad (HL7.out.kd hx8.kd)
   replace eb:=eb.ext hx8;clear hr8 h7 hx8 H7 HL7;have ceb:=eb.cells2;have feb:=eb.frozen
   go_wp2_with fail
   refine AB (M6 _ _ R (ld G).num M _ (HS.out.2.2.2.2.1.ext xw) (HL8.out.has HLG.out.1) HZ.out.2.2.2.2.2.2.2.2.2.1 (by have:=HLG.out.2.1;have:=HX.out.2.2.2.2.2.2.2.1;omega) HZ.out.2.2.2.2.2.2.2.2.2.2.2.2.2.2.2.1) ?_;rintro r9 w9 hr9 hx9;rw[HLG.out.2.2.1]at hr9;have h8:=H8.out.1.ext hx9;have h8':=H8.out.2.ext hx9;replace hx:=hx.trans hx9;have H9:=Ad (Ai hr9 (Ai h8 h8'));have HL9:=Ad (HL8.out.kd hx9.kd)
   replace eb:=eb.ext hx9;clear hr9 h8 h8' hx9 H8 HL8 ceb feb
   go_wp2_with fail
   refine AB (HC.out.2.2 k z _ hx _ H9.out.2.2 HZ.out.2.2.2.2.2.2.2.2.2.2.2.2.2.2.2.2 (by have:=HZ.out.2.2.2.1;omega)) ?_;rintro r10 w10 hr10 hx10;have h9:=H9.out.1.ext hx10;have h9':=H9.out.2.1.ext hx10;replace hx:=hx.trans hx10;have H10:=Ad (Ai hr10 (Ai h9 h9'));have HL10:=Ad (HL9.out.kd hx10.kd);replace eb:=eb.ext hx10;clear hr10 h9 h9' hx10 H9 HL9
   go_wp2_with fail
   refine AB (jY _ _ (psc (ld G) R) (cv (mono k (z:Rat)) G) (2*M) (2*M) _ H10.out.2.1 H10.out.1 HZ.out.2.2.2.2.2.2.2.1 HZ.out.2.2.2.2.1 (by have:=HX.out.2.2.2.2.2.2.2.1;omega) HZ.out.2.2.2.2.2.2.2.2.2.2.2.2.2.2.1 HZ.out.2.2.2.2.2.2.2.2.2.2.1) ?_;rintro r11 w11 hr11 hx11;obtain⟨A11,c11,rfl,-⟩:=hr11.shape;have h10:=H10.out.2.2.ext hx11;replace hx:=hx.trans hx11;have H11:=Ad (Ai hr11 h10);have HL11:=Ad (HL10.out.kd hx11.kd)
   replace eb:=eb.ext hx11;clear hr11 h10 hx11 H10 HL10;go_wp2
   go_roundw
   case rel=>exact⟨j+1,_,_,by go_num,Aa,HZ.out.1,H11.out.1,H11.out.2,Bp.mk eb HL11.out,hx⟩
   case measure=>exact HZ.out.2.1
  ·have hend:=HS.out.1.end_ HN.out.2.2 HX.out.1 HX.out.2.2.1 HX.out.2.2.2.2.1 Aa hj
   have hnj:(n:Int) - j=((n - j:Nat):Int):=by omega
   have hsz:=HX.out.2.2.2.2.2.2.2.2.2 (n - j) Aa;have hpw:=Gw (ld G).num t HLG.out.2.2.2 (n - j);have hQs:∀ i,qsz (Q i)<=M:=fun i=>by have:=HX.out.2.2.2.2.2.2.1 _ hj _ (HS.out.1.qQ i);omega
   have hRs:∀ i,qsz (R i)<=M:=fun i=>by have:=HX.out.2.2.2.2.2.2.1 _ hj _ (HS.out.1.qR i);omega
   have hQp:=Bj HS.out.1.fQ;have hpc:(((ld G).num^(n - j):Int):Rat)=ld G^(n - j):=by rw[<-Jt,HLG.out.2.2.1]
   have hql:qsz (((ld G).num^(n - j):Int):Rat)<=M+1:=by rw[Bi];omega
   have HE:=Ad (Ai hend (Ai hsz (Ai hpw (Ai hQs (Ai hRs (Ai (show pl Q<=549755813888 by omega) (Ai (show pl R<=549755813888 by have:=HS.out.1.deg;omega) (Ai hpc hql))))))));clear hend hsz hpw hQs hRs hQp hpc hql;have hnb:n - j<=1099511627776:=by omega
   have ceb:=eb.cells2;have feb:=eb.frozen
   go_wp2_with fail
   (try rw[hnj])
   refine AB (XP _ (ld G).num (n - j) t _ (HS.out.2.2.2.2.2.2.has HLG.out.1) HLG.out.2.2.2 HE.out.2.1.1 hnb) ?_;rintro r6 w6 hr6 hx6;obtain⟨b7,A7,n7,c7,rfl⟩:=hr6.cells;obtain⟨W7,eW7,e7,x7⟩:=Bh.made w6 26 #[.bool b7,.slice A7 n7 c7] (by simp[Af]);have xw:=hx6.trans x7;have hp7:=hr6.kd x7.kd;replace hx:=hx.trans xw;have H7:=Ad hp7;clear hr6 hp7 hx6 x7 ceb feb hnj
   go_upto_region 11 with(fail)
   rw[<-eW7];clear eW7;generalize w6.heap.size=g7 at *;obtain⟨q0,q1⟩:=e7.cells2
   go_wp2_with fail
   obtain⟨Rr,hRr⟩:∃ Rr,Rr=R:=⟨_,rfl⟩
   have HRr:=Ad hRr;clear hRr;refine CP 8 [62,63,64,65,66,67,4,5] [6,12,7] [_,_,_] [(kv ?_),(kv ?_),(fun γ=>γ 2),(kv ?_),(kv ?_),(fun γ=>γ 5),(fun γ=>γ 2),(fun γ=>γ 5)] (fun γ w'=>[True,True,AC 0 w' (γ 2) (psc (((ld G).num^(n - j):Int):Rat) Q),True,True,AC 0 w' (γ 5) (psc (((ld G).num^(n - j):Int):Rat) Rr),True,True]) ?s1 ?_
   case s1 =>
    iterate 8 refine⟨?_,?_⟩
    trivial
    iterate 2 focus
     refine AY fun _ w' he R hR=>?_;have hc:=he.cells;have cq0:=he.cell q0;have cq1:=he.cell q1;go_simp;exact Br hR
    ·refine AY fun _ w' he R hR=>?_
     go_simp;exact Bf (M6 _ _ Q _ M w' (HS.out.2.2.2.2.2.1.ext (xw.trans he)) ((H7.out.kd he.kd).has (by have:=HE.out.2.2.1;have:=HE.out.2.1.2;have:=HX.out.2.2.2.2.2.2.2.1;omega)) HE.out.2.2.2.1 (by have:=HE.out.2.2.2.2.2.2.2.2;have:=HX.out.2.2.2.2.2.2.2.1;omega) HE.out.2.2.2.2.2.1) hR
    iterate 2 focus
     refine AY fun _ w' he R hR=>?_;have hc:=he.cells;have cq0:=he.cell q0;have cq1:=he.cell q1;go_simp;exact Br hR
    ·refine AY fun _ w' he R hR=>?_
     go_simp;exact Bf (M6 _ _ Rr _ M w' (HRr.out▸HS.out.2.2.2.2.1.ext (xw.trans he)) ((H7.out.kd he.kd).has (by have:=HE.out.2.2.1;have:=HE.out.2.1.2;have:=HX.out.2.2.2.2.2.2.2.1;omega)) (HRr.out▸HE.out.2.2.2.2.1) (by have:=HE.out.2.2.2.2.2.2.2.2;have:=HX.out.2.2.2.2.2.2.2.1;omega) (HRr.out▸HE.out.2.2.2.2.2.2.1)) hR
    ·refine AY fun _ w' he R hR=>?_
     have hc:=he.cells;go_simp
     (try go_ints);(try(rw[if_neg Aa]));(try(rw[if_pos Aa]));(try go_simp);(try go_ints)
     exact Br hR
    ·refine AY fun _ w' he R hR=>?_
     have hc:=he.cells;go_simp
     (try go_ints);(try(rw[if_neg Aa]));(try(rw[if_pos Aa]));(try go_simp);(try go_ints)
     exact Br hR
   intro γ w8 hx8 hF;have p2:AC 0 w8 (γ 2) (psc (((ld G).num^(n - j):Int):Rat) Q):=Ak.get hF 2 Ab;have p5:AC 0 w8 (γ 5) (psc (((ld G).num^(n - j):Int):Rat) Rr):=Ak.get hF 5 Ab;clear hF;simp only[Bg,Nat.reduceAdd];generalize γ 2=g2 at *;generalize γ 5=g5 at *;clear γ;rw[HE.out.2.2.2.2.2.2.2.1,HE.out.1.1]at p2;rw[HRr.out,HE.out.2.2.2.2.2.2.2.1,HE.out.1.2]at p5;have HP:=Ad (Ai p2 p5);clear p2 p5;go_wp2
   go_ret2
   exact Ag.mk ⟨_,_,rfl,HP.out.1,HP.out.2⟩ (hx.trans hx8)
theorem ZC(v u:Value)(F G:Nat->Rat)(s M:Nat)(w:World)(hv:AC 0 w v F)(hu:AC 0 w u G)(hs:∀ i,qsz (F i)<=s)(ht:∀ i,qsz (G i)<=s)(h0:G≠pz)(hn:pl F<=1000000)(hm:pl G<=1000000)(hM:s+(pl F+2)*(s+1)+s+1<=M)(hst:2+(pl F+pl G+4)*(2*M+4)<=274877906944) :
  Bc 141 #[v,u] w ((dP (Gl F G (pl F+1 - pl G)) (Dj F G (pl F+1 - pl G)))):=by
 have hMb:4*M<=274877906944:=by
  have:4*(2*M+4)<=(pl F+pl G+4)*(2*M+4):=Nat.mul_le_mul_right _ Aa;omega
 obtain⟨l,h1,h2,-,rfl⟩:=hv.hz (fun i=>by have:=hs i;omega);obtain⟨m,k1,k2,-,rfl⟩:=hu.hz (fun i=>by have:=ht i;omega);exact ZG v u l m s s M w h1 k1 hs ht Aa Aa h0 (by rw[h2];exact hM) (by rw[h2,k2];exact hst)
theorem l6(v:Value)(F:Nat->Rat)(w:World)(hv:AC 0 w v F)(hs:∀ i,qsz (F i)<=549755813888)(hn:pl F<=549755813888) :
  Bc 104 #[v] w (fun r w'=>AC w.heap.size w' r (pp F)):=by
 obtain⟨l,h1,h2,-,rfl⟩:=hv.hz (fun i=>by have:=hs i;omega);exact EP v l w h1 hs Aa
set_option maxRecDepth 20000 in
theorem XI(v u:Value)(l m:List Int)(S M M2:Nat)(w:World)(hv:De 0 w v l)(hu:De 0 w u m)(hs:∀ i,qsz (cz l i)<=S)(ht:∀ i,qsz (cz m i)<=S)(hn:l.length<=1000)(hm:m.length<=1000)(hM:(S+1)*2^(pl (cz l)+pl (cz m))<=M)(hB:M+(pl (cz l)+pl (cz m)+2)*(M+1)+M+1<=M2)(hB2:2+(2*(pl (cz l)+pl (cz m))+4)*(2*M2+4)<=274877906944) :
  Bc 91 #[v,u] w (fun r w'=>AC 0 w' r (D7 (cz l) (cz m))):=by
 have HV:=Ad hv;have HU:=Ad hu;obtain⟨A0,c0,rfl⟩:=hv.len;obtain⟨A1,c1,rfl⟩:=hu.len;clear hv hu;have hc1:=Bj (BG l);have hc2:=Bj (BG m);have hSM:S+1<=M:=by
  have h:0 < 2^(pl (cz l)+pl (cz m)):=Nat.pow_pos Ab;have:=Nat.le_mul_of_pos_right (S+1) h;omega
 have hM2b:4*M2+10<=274877906944:=by
  have:2*(2*M2+4)<=(2*(pl (cz l)+pl (cz m))+4)*(2*M2+4):=Nat.mul_le_mul_right _ Aa;omega
 have hMM:M<=M2:=by omega
 have hcn:sz (cn (cz l))<=S/\sz (cn (cz m))<=S:=⟨G5 hs _,G5 ht _⟩
 have hst:=GH.start (Ae.cz l) (Ae.cz m) (ZI.cz l) (ZI.cz m) hs ht;have hP1:=fun W (x:Ext w W)=>EP _ l W (HV.out.ext x) (fun i=>by have:=hs i;omega) Aa;have hP2:=fun W (x:Ext w W)=>EP _ m W (HU.out.ext x) (fun i=>by have:=ht i;omega) Aa;have hC1:=IJ _ l w HV.out (fun i=>by have:=hs i;omega) Aa;have hC2:=fun W (x:Ext w W)=>IJ _ m W (HU.out.ext x) (fun i=>by have:=ht i;omega) Aa;have hz:=(show(∀ A,GH (cz l) (cz m) (pl (cz l)+pl (cz m)) S A pz->psc ((Nat.gcd (cn (cz l)) (cn (cz m)):Nat):Rat) A=D7 (cz l) (cz m))from
  fun A h=>(TQ (h.end_ (Ae.cz l) (Ae.cz m) (ZI.cz l) (ZI.cz m) rfl)).symm)
 have hpl:pl (cz l)+pl (cz m)<=2000:=by omega
 obtain⟨F,hF⟩:∃ F,F=cz l:=⟨_,rfl⟩
 obtain⟨G,hG⟩:∃ G,G=cz m:=⟨_,rfl⟩
 rw[<-hF]at hcn hC1;rw[<-hG]at hcn;rw[<-hF,<-hG]at hM hB hB2 hst hz hpl ⊢;simp only[<-hF]at hP1;simp only[<-hG]at hP2 hC2;have HC:=Ad (Ai hC1 (Ai hC2 (Ai hP1 hP2)));have HX:=Ad (Ai hM (Ai hB (Ai hz (Ai hcn (Ai hSM (Ai hB2 (Ai hM2b hMM)))))));have HSt:=Ad (Ai hst hpl);clear hs ht hn hm hM hB hB2 hM2b hMM hc1 hc2 hSM hcn hst hP1 hP2 hC1 hC2 hz hF hG hpl HV HU
 go_enter Tryz.func91,Tryz.ntmps91
 go_wp2_with fail
 refine AB HC.out.1 ?_;rintro r1 w1 hr1 hx
 go_wp2_with fail
 refine AB (HC.out.2.1 w1 hx) ?_;rintro r2 w2 hr2 hx2;have H12:=Ad (Ai ((hr1.kd hx2.kd).has (by have h1:=HX.out.2.2.2.1.1;have h2:=HX.out.2.2.2.2.1;have h3:=HX.out.2.2.2.2.2.2;simp only[Int.natAbs_natCast];omega)) (hr2.has (by have h1:=HX.out.2.2.2.1.2;have h2:=HX.out.2.2.2.2.1;have h3:=HX.out.2.2.2.2.2.2;simp only[Int.natAbs_natCast];omega)));replace hx:=hx.trans hx2;clear hr1 hr2 hx2
 go_wp2_with fail
 refine AB (Ut _ _ (cn F:Nat) (cn G:Nat) _ H12.out.1 H12.out.2 (by have h1:=HX.out.2.2.2.1.1;have h2:=HX.out.2.2.2.2.1;have h3:=HX.out.2.2.2.2.2.2;simp only[Int.natAbs_natCast];omega) (by have h1:=HX.out.2.2.2.1.2;have h2:=HX.out.2.2.2.2.1;have h3:=HX.out.2.2.2.2.2.2;simp only[Int.natAbs_natCast];omega)) ?_;rintro r3 w3 hr3 hx3;obtain⟨b5,A5,n5,c5,rfl⟩:=hr3.cells;obtain⟨cc,hcc⟩:∃ cc:Nat,cc=Nat.gcd (cn F) (cn G):=⟨_,rfl⟩
 replace hr3:AP w3 (.agg #[.bool b5,.slice A5 n5 c5]) (cc:Nat):=by rw[hcc];exact hr3
 obtain⟨W4,eW4,e4,x4⟩:=Bh.made w3 26 #[.bool b5,.slice A5 n5 c5] (by simp[Af]);have ec:=Bp.mk e4 (hr3.kd x4.kd);replace hx:=(hx.trans hx3).trans x4;have HCC:=Ad hcc;clear hx3 x4 hr3 e4 H12 hcc
 go_wp2_with fail
 rw[<-eW4];clear eW4;generalize w3.heap.size=gc at *;refine AB (HC.out.2.2.1 W4 hx) ?_;rintro r5 w5 hr5 hx5;have ec5:=ec.ext hx5;replace hx:=hx.trans hx5;have H5:=Ad (hr5.base_le (Nat.zero_le _));clear hr5 hx5
 go_wp2_with fail
 refine AB (HC.out.2.2.2 w5 hx) ?_;rintro r6 w6 hr6 hx6;replace ec5:=ec5.ext hx6;replace hx:=hx.trans hx6;have h5:=H5.out.ext hx6;have h6:=hr6.base_le (Nat.zero_le _);clear hr6 hx6 H5;go_wp2
 go_loopw [6,7] (fun fv gv wr=>∃ A B,AC 0 wr fv A/\AC 0 wr gv B/\GH F G (pl F+pl G) S A B/\Bp wr gc 26 (cc:Nat)/\Ext w wr) (fun _ gv _=>OO gv)
 case atStart=>exact⟨_,_,h5,h6,HSt.out.1,ec5,hx⟩
 case round =>
  clear h5 h6 ec5 hx ec;obtain⟨A,B,hA,hB,hst,ec,hx⟩:=hrel;obtain⟨A2,c2,rfl,-⟩:=hA.shape;obtain⟨A3,c3,rfl,-⟩:=hB.shape;have HA:=Ad (Ai hA hB);clear hA hB;have HS:=Ad hst;clear hst;by_cases h0:0 < pl B
  ·have hbn:B≠pz:=fun e=>by rw[e,BH]at h0;omega
   have hroom:=HS.out.room rfl;have hpl:=HS.out.deg;have HR:=Ad (show(∀ i,qsz (A i)<=M)/\(∀ i,qsz (B i)<=M)/\M+(pl A+2)*(M+1)+M+1<=M2/\B≠pz/\2+(pl A+pl B+4)*(2*M2+4)<=274877906944/\pl A<=1000000/\pl B<=1000000 from by
    refine⟨fun i=>Nat.le_trans (hroom.1 i) HX.out.1,fun i=>Nat.le_trans (hroom.2.1 i) HX.out.1,?_,hbn,?_,by have:=HSt.out.2;omega,by have:=HSt.out.2;omega⟩
    ·have h1:=HX.out.2.1
     have h2:(pl A+2)*(M+1)<=(pl F+pl G+2)*(M+1):=Nat.mul_le_mul_right _ Aa;omega
    ·have h1:=HX.out.2.2.2.2.2.1
     have h2:(pl A+pl B+4)*(2*M2+4)<=(2*(pl F+pl G)+4)*(2*M2+4):=Nat.mul_le_mul_right _ Aa;omega)
   have hst2:=HS.out.step hbn (R:=Dj A B (pl A+1 - pl B)) rfl;have HS2:=Ad (Ai hst2.1 (Ai hst2.2 hroom.2.2));clear hst2 hbn hroom hpl
   go_wp2_with fail
   refine AB (ZC _ _ A B M M2 _ HA.out.1 HA.out.2 HR.out.1 HR.out.2.1 HR.out.2.2.2.1 HR.out.2.2.2.2.2.1 HR.out.2.2.2.2.2.2 HR.out.2.2.1 HR.out.2.2.2.2.1) ?_;rintro r7 w7 ⟨qv,rv,rfl,hq,hr⟩ hx7;have hrr:=hr.base_le (b:=0) (Nat.zero_le _);have hB7:=HA.out.2.ext hx7;have ec7:=ec.ext hx7;replace hx:=hx.trans hx7;have H7:=Ad (Ai hrr hB7);clear hr hrr hB7 hq hx7 ec
   go_wp2_with fail
   refine Calls.mono (l6 _ _ _ H7.out.1 (fun i=>by
    have h1:=HS2.out.2.2 i;have h2:=HX.out.1;have h3:(S+1)*2^(pl F+pl G - (pl A+pl B)+(pl A+1 - pl B))<=(S+1)*2^(pl F+pl G)*2:=by
     have e1:(S+1)*2^(pl F+pl G)*2=(S+1)*2^(pl F+pl G+1):=by rw[Nat.pow_succ,Nat.mul_assoc]
     rw[e1];refine Nat.mul_le_mul_left _ (Nat.pow_le_pow_right Ab ?_);have:=HS.out.deg;omega
    have h4:=HX.out.2.2.2.2.2.2;omega) (by have:=Mx HS.out.fA HS.out.fB HR.out.2.2.2.1;have:=HR.out.2.2.2.2.2.2;omega)) ?_
   rintro e w8 ⟨r8,rfl,hr8,hx8⟩;have hB8:=H7.out.2.ext hx8;have hp8:=hr8.base_le (b:=0) (Nat.zero_le _);have ec8:=ec7.ext hx8;replace hx:=hx.trans hx8;obtain⟨A4,c4,rfl,-⟩:=hr8.shape;have H8:=Ad (Ai hB8 hp8);clear hB8 hp8 hr8 hx8 ec7 H7;go_wp2
   go_roundw
   case rel=>exact⟨_,_,H8.out.1,H8.out.2,HS2.out.1,ec8,hx⟩
   case measure=>exact HS2.out.2.1
  ·have hbz:B=pz:=(Bt HS.out.fB).1 Aa
   have hroom:=HS.out.room rfl;subst hbz;have hz:=HX.out.2.2.1 A HS.out;have HZ:=Ad (Ai hz (Ai hroom.1 (show pl A<=2000 by have:=HS.out.deg;have:=HSt.out.2;omega)));have h0:pl pz=0:=BH;rw[h0];clear hz hroom;obtain⟨b,Bv,bn,bc,e8,hb8⟩:=ec;have Hb:=Ad hb8;clear hb8;have ce8:=e8.cells2;have fe8:=e8.frozen
   go_wp2_with fail
   have hcs:sz cc<=S:=by
    rw[HCC.out];have h1:=HX.out.2.2.2.1;by_cases e:cn F=0
    ·rw[e,Nat.gcd_zero_left];exact h1.2
    ·exact Nat.le_trans (Bl (Nat.gcd_le_left _ (Nat.pos_of_ne_zero e))) h1.1
   have Hcs:=Ad hcs;clear hcs;refine AB (M6 _ _ A (cc:Nat) M _ HA.out.1 (Hb.out.has (by have h1:=Hcs.out;have h3:=HX.out.2.2.2.2.1;have h4:=HX.out.2.2.2.2.2.2;simp only[Int.natAbs_natCast];omega)) (fun i=>Nat.le_trans (HZ.out.2.1 i) HX.out.1) (by rw[Bi];have h1:=Hcs.out;have h3:=HX.out.2.2.2.2.1;have h4:=HX.out.2.2.2.2.2.2;simp only[Int.natAbs_natCast];omega) (by have:=HZ.out.2.2;omega)) ?_;rintro r9 w9 hr9 hx9
   have h9:AC 0 w9 r9 (D7 F G):=by
    rw[<-HZ.out.1,<-HCC.out];exact hr9
   have H9:=Ad h9;clear h9 hr9;go_wp2
   go_ret
   exact Ag.mk H9.out (hx.trans hx9)
theorem iC(v u:Value)(F G:Nat->Rat)(S M M2:Nat)(w:World)(hv:AC 0 w v F)(hu:AC 0 w u G)(hs:∀ i,qsz (F i)<=S)(ht:∀ i,qsz (G i)<=S)(hn:pl F<=1000)(hm:pl G<=1000)(hM:(S+1)*2^(pl F+pl G)<=M)(hB:M+(pl F+pl G+2)*(M+1)+M+1<=M2)(hB2:2+(2*(pl F+pl G)+4)*(2*M2+4)<=274877906944) :
  Bc 91 #[v,u] w (fun r w'=>AC 0 w' r (D7 F G)):=by
 have hSM:S+1<=M:=by
  have h:0 < 2^(pl F+pl G):=Nat.pow_pos Ab;have:=Nat.le_mul_of_pos_right (S+1) h;omega
 have hM2b:4*M2+10<=274877906944:=by
  have:2*(2*M2+4)<=(2*(pl F+pl G)+4)*(2*M2+4):=Nat.mul_le_mul_right _ Aa;omega
 obtain⟨l,h1,h2,-,rfl⟩:=hv.hz (fun i=>by have:=hs i;omega);obtain⟨m,k1,k2,-,rfl⟩:=hu.hz (fun i=>by have:=ht i;omega);exact XI v u l m S M M2 w h1 k1 hs ht Aa Aa hM hB hB2
theorem Wt(v u:Value)(F G:Nat->Rat)(w:World)(hv:AC 0 w v F)(hu:AC 0 w u G)(hs:∀ i,qsz (F i)<=36000)(ht:∀ i,qsz (G i)<=36000)(hn:pl F<=17)(hm:pl G<=17)(h0:G≠pz)(hd:Ie F G) :
  Bc 105 #[v,u] w (fun r w'=>∃ q,r = .tuple #[q,.bool true]/\AC 0 w' q (pq F G)):=by
 obtain⟨l,h1,h2,-,rfl⟩:=hv.hz (fun i=>by have:=hs i;omega);obtain⟨m,k1,k2,-,rfl⟩:=hu.hz (fun i=>by have:=ht i;omega);have e1:(l.length+2)*(36000+1)<=19*36001:=Nat.mul_le_mul_right _ Aa;have e2:(l.length+m.length+4)*(2*756021+4)<=38*(2*756021+4):=Nat.mul_le_mul_right _ Aa;refine Ag.imp (VR v u l m 36000 36000 756021 w h1 k1 hs ht Aa Aa h0 Aa Aa) fun r w' hr=>?_;obtain⟨q,b,rfl,-,hb,hq⟩:=hr;have hbt:=hb.2 hd
 subst hbt;exact⟨q,rfl,hq rfl⟩
theorem aB(v:Value)(l:List Int)(S n M T M2:Nat)(w:World)(hv:De 0 w v l)(hl:l.length<=1000)(hR:OQ (cz l) S n M T)(hT:T<=36000)(hS:S<=36000)(hM:M+(n+(n - 1)+2)*(M+1)+M+1<=M2)(hM2:2+(2*(n+(n - 1))+4)*(2*M2+4)<=274877906944) :
  Bc 53 #[v] w (fun r w'=>AC 0 w' r (y0 (pp (cz l)))):=by
 have hg:=BB.pp hR.z hR.f hR.n0;have hpg:pl (pp (cz l))=pl (cz l):=Dq hR.z hR.f;have hsg:∀ i,qsz (pp (cz l) i)<=S:=Ey hR.z hR.f hR.s;have hp:=hR.p;have hn:=hR.n9;have hpr:=EP v l w hv (fun i=>by have:=hR.s i;omega) Aa;have hde:∀ W u,AC 0 W u (pp (cz l))->Bc 69 #[u] W (fun r w'=>AC 0 w' r (pd (pp (cz l)))):=fun W u hu=>by
  obtain⟨m,g1,g2,-,g4⟩:=hu.hz (fun i=>by have:=hsg i;omega);have hsm:∀ i,qsz (cz m i)<=S:=by rw[g4];exact hsg
  rw[<-g4];exact Ag.imp (K4 _ m S W g1 hsm Aa Aa) fun _ _ h=>h.base_le (Nat.zero_le _)
 have hpd:pl (pd (pp (cz l)))<=n - 1:=by rw[IX hg.f];omega
 have hg1:∀ W u z,AC 0 W u (pp (cz l))->AC 0 W z (pd (pp (cz l)))->Bc 91 #[u,z] W (fun r w'=>AC 0 w' r (yc (pp (cz l)))):=fun W u z hu hz=>by
  have e:2^(pl (pp (cz l))+pl (pd (pp (cz l))))<=2^(n+(n - 1)):=Nat.pow_le_pow_right Ab Aa;have e2:(S+1)*2^(pl (pp (cz l))+pl (pd (pp (cz l))))<=(S+1)*2^(n+(n - 1)):=Nat.mul_le_mul_left _ e;have e3:(pl (pp (cz l))+pl (pd (pp (cz l)))+2)*(M+1)<=(n+(n - 1)+2)*(M+1):=Nat.mul_le_mul_right _ Aa;have e4:(2*(pl (pp (cz l))+pl (pd (pp (cz l))))+4)*(2*M2+4)<=(2*(n+(n - 1))+4)*(2*M2+4):=Nat.mul_le_mul_right _ Aa
  have:=hR.m;exact iC u z _ _ S M M2 W hu hz hsg hR.d Aa Aa Aa Aa Aa
 obtain⟨hC,hW,eg,dC,-⟩:=DW hg;have hcl:pl (yc (pp (cz l)))<=pl (pp (cz l)):=Dv.le hC.f hg.f hg.n (LM dC);have hd1:∀ W u z,AC 0 W u (pp (cz l))->AC 0 W z (yc (pp (cz l)))->Bc 105 #[u,z] W (fun r w'=>∃ q,r = .tuple #[q,.bool true]/\AC 0 w' q (y0 (pp (cz l)))):=fun W u z hu hz =>
  Wt u z _ _ W hu hz (fun i=>by have:=hsg i;omega) (fun i=>by have:=hR.t i;omega) Aa Aa hC.n dC
 obtain⟨A0,c0,rfl⟩:=hv.len;have HC:=Ad (Ai hpr (Ai hde (Ai hg1 hd1)));clear hpr hde hg1 hd1 hv hR hg hpg hsg hp hn hpd hC hW eg dC hcl hM hM2
 go_enter Tryz.func53,Tryz.ntmps53
 go_wp2_with fail
 refine AB HC.out.1 ?_;rintro r1 w1 hr1 hx1;replace hr1:=hr1.base_le (b:=0) (Nat.zero_le _)
 go_wp2_with fail
 refine AB (HC.out.2.1 _ _ hr1) ?_;rintro r2 w2 hr2 hx2;replace hr1:=hr1.ext hx2;replace hx1:=hx1.trans hx2
 go_wp2_with fail
 refine AB (HC.out.2.2.1 _ _ _ hr1 hr2) ?_;rintro r3 w3 hr3 hx3;replace hr1:=hr1.ext hx3;replace hx1:=hx1.trans hx3
 go_wp2_with fail
 refine AB (HC.out.2.2.2 _ _ _ hr1 hr3) ?_;rintro r4 w4 ⟨q,rfl,hq⟩ hx4;go_wp2
 go_ret
 exact Ag.mk hq (hx1.trans hx4)
set_option maxRecDepth 20000 in
theorem YU(v u:Value)(l:List Int)(W:Nat->Rat)(p q:Rat)(S n M T M2 S2 D M3 K t:Nat)(w:World)(hv:De 0 w v l)(hu:Jb w u p q)(hR:mR l W S n M T M2 S2 D M3 K)(hp:qsz p<=t)(hq:qsz q<=t)
  (ht:1+D*(M3+t+1)+M3+t+1<=100000000000) :
  Bc 18 #[v,u] w (fun r _=>r = .int .i64 (if q<=p then 0 else rts W K p q)):=by
 have hC:=hR.c;have hK:=hR.k;have hl:(EH W (pd W) K).length=K:=CL _ _ _;obtain⟨K0,q1,q2⟩:=Fq hC.f (BR hC.f) hC.z (Dn hC.z) hC.s hC.d;obtain rfl:=q1.uniq hK;have hK9:K0<=1000:=by have:=hC.e;have:=hC.D9;omega
 have hfr:=fun X (x:Ext w X)=>aB v l S n M T M2 X (hv.ext x) hR.len hR.sim hR.t9 hR.s9 hR.m2 hR.m3;simp only[<-hR.w]at hfr;have hch:∀ X a,AC 0 X a W->Bc 28 #[a] X (fun r w'=>∃ us,GZ X.heap.size 0 22 w' r us (EH W (pd W) K0)):=fun X a ha=>by
  obtain⟨m,h1,h2,-,h4⟩:=ha.hz fun i=>by have:=hC.s i;have:=hC.SM;have:=hC.b;omega
  have hW0:W≠pz:=by rw[hR.w];exact(DW (BB.pp hR.sim.z hR.sim.f hR.sim.n0)).2.1.n
  have:=Xo a m S2 D M3 X h1 (by rw[h4];exact hW0) (by have:=hC.e;have:=hC.D9;omega) (by rw[h4];exact hC.s) (by rw[h4];exact hC.d) (by rw[h4];exact hC.e) (by rw[h4];exact hC.m) hC.b hC.D9;rw[h4]at this;exact Ag.imp this fun r w' ⟨us,K',k1,_,k3⟩=>⟨us,by rw[hK.uniq k1];exact k3⟩
 have hcg:∀ X b us c r,GZ b 0 22 X c us (EH W (pd W) K0)->∀ a,BC X a r->qsz r<=t->Bc 54 #[c,a] X (fun o _=>o = .int .i64 (V (EH W (pd W) K0) r:Nat)):=fun X b us c r hc a ha hr =>
  Ua c a us _ r b M3 t D X hc ha (hC.mem hK) hr Aa (by have:=hC.D9;omega) (by rw[hl];omega)
 have b1:=Wp (EH W (pd W) K0) p;have b2:=Wp (EH W (pd W) K0) q;rw[hl]at b1 b2;have hcm:∀ X a b,BC X a p->BC X b q->Bc 20 #[a,b] X (fun o _=>o = .int .i64 (GJ (p - q))):=fun X a b ha hb=>gD a b p q X ha hb Aa;obtain⟨res,hres⟩:∃ res,res=(if q<=p then 0 else rts W K0 p q):=⟨_,rfl⟩
 rw[<-hres];have Hres:=Ad hres;clear hres;obtain⟨d1,A1,n1,c1,d2,A2,n2,c2,d3,A3,n3,c3,d4,A4,n4,c4,rfl,hu1,hu2⟩:=hu;obtain⟨A0,c0,rfl⟩:=hv.len;have HC:=Ad (Ai hfr (Ai hch (Ai hcg (Ai hcm (Ai hu1 (Ai hu2 (Ai hp hq)))))));clear hfr hch hcg hcm hu1 hu2 hp hq hv hR hC hK q1 q2 ht;have ea:=Bh.new w 30 #[.bool d1,.slice A1 n1 c1,.bool d2,.slice A2 n2 c2,.bool d3,.slice A3 n3 c3,.bool d4,.slice A4 n4 c4] (by simp[Af])
 have hx:=(Ext.refl w).alloc (.cells #[.bool d1,.slice A1 n1 c1,.bool d2,.slice A2 n2 c2,.bool d3,.slice A3 n3 c3,.bool d4,.slice A4 n4 c4] 30)
 go_enter Tryz.func18,Tryz.ntmps18
 go_upto_region 1 with(fail)
 generalize w.alloc (.cells #[.bool d1,.slice A1 n1 c1,.bool d2,.slice A2 n2 c2,.bool d3,.slice A3 n3 c3,.bool d4,.slice A4 n4 c4] 30)=W0 at *;have cea:=ea.cells8;have fea:=ea.frozen
 go_wp2_with fail
 refine AB (HC.out.2.2.2.1 _ _ _ (HC.out.2.2.2.2.1.ext hx) (HC.out.2.2.2.2.2.1.ext hx)) ?_;rintro r1 w1 rfl hx1;clear cea fea;replace ea:=ea.ext hx1;replace hx:=hx.trans hx1;clear hx1;by_cases hpq:q<=p
 ·have hs:decide (0<=GJ (p - q))=true:=by
   rw[Eg];unfold BK;have:¬ p - q < 0:=by grind
   rw[if_neg this]
   split<;>rfl
  have HR:=Ad (show res=0 by rw[Hres.out,if_pos hpq]);clear hpq;go_wp2
  go_ret
  exact Ag.mk (by rw[HR.out];rfl) hx
 ·have hs:decide (0<=GJ (p - q))=false:=by
   rw[Eg];unfold BK;rw[if_neg Ah,if_pos Ah];rfl
  have HR:=Ad (show res=rts W K0 p q by rw[Hres.out,if_neg hpq]);clear hpq
  go_wp2_with fail
  refine AB (HC.out.1 _ hx) ?_;rintro r2 w2 hr2 hx2;replace ea:=ea.ext hx2;replace hx:=hx.trans hx2
  go_wp2_with fail
  refine AB (HC.out.2.1 _ _ hr2) ?_;rintro r3 w3 ⟨us,hP⟩ hx3;obtain⟨A5,c5,rfl⟩:=hP.shape;replace ea:=ea.ext hx3;replace hx:=hx.trans hx3;have HP:=Ad hP;clear hP hr2 hx2 hx3;obtain⟨Vp,hVp⟩:∃ n,n=V (EH W (pd W) K0) p:=⟨_,rfl⟩
  obtain⟨Vq,hVq⟩:∃ n,n=V (EH W (pd W) K0) q:=⟨_,rfl⟩
  have hc1:∀ X (x:Ext w3 X),Bc 54 #[.slice A5 (EH W (pd W) K0).length c5,.agg #[.bool d1,.slice A1 n1 c1,.bool d2,.slice A2 n2 c2]] X (fun o _=>o = .int .i64 (Vp:Nat)):=fun X x=>by
   rw[hVp];exact HC.out.2.2.1 X _ us _ p (HP.out.ext x) _ (HC.out.2.2.2.2.1.ext (hx.trans x)) HC.out.2.2.2.2.2.2.1
  have hc2:∀ X (x:Ext w3 X),Bc 54 #[.slice A5 (EH W (pd W) K0).length c5,.agg #[.bool d3,.slice A3 n3 c3,.bool d4,.slice A4 n4 c4]] X (fun o _=>o = .int .i64 (Vq:Nat)):=fun X x=>by
   rw[hVq];exact HC.out.2.2.1 X _ us _ q (HP.out.ext x) _ (HC.out.2.2.2.2.2.1.ext (hx.trans x)) HC.out.2.2.2.2.2.2.2
  have HQ:=Ad (Ai hc1 hc2);clear hc1 hc2;rw[<-hVp]at b1;rw[<-hVq]at b2;have HF:=Ad (show res=(Vp:Int) - (Vq:Int) by rw[HR.out,hVp,hVq];rfl);rw[hl]at HQ ⊢;clear hVp hVq hl HP;have cea:=ea.cells8;have fea:=ea.frozen
  go_wp2_with fail
  refine CP 8 [15,16,17,18,19,20,21,22] [5,3] [_,_] [(kv ?_),(kv ?_),(kv ?_),(kv (.int .i64 (Vp:Nat))),(kv ?_),(kv ?_),(kv ?_),(kv (.int .i64 (Vq:Nat)))] (fun γ w'=>[True,True,True,True,True,True,True,True]) ?s1 ?_
  case s1 =>
   iterate 8 refine⟨?_,?_⟩
   trivial
   iterate 3 focus
    refine AY fun _ w' he R hR=>?_;have hc:=he.cells;have cq0:=(ea.ext he).cells8;go_simp;exact Br hR
   ·refine AY fun _ w' he R hR=>?_
    go_simp;exact LW (HQ.out.1 w' he) hR
   iterate 3 focus
    refine AY fun _ w' he R hR=>?_;have hc:=he.cells;have cq0:=(ea.ext he).cells8;go_simp;exact Br hR
   ·refine AY fun _ w' he R hR=>?_
    go_simp;exact LW (HQ.out.2 w' he) hR
  intro γ w4 hx4 hF;clear hF;simp only[Bg,Nat.reduceAdd];clear γ;go_wp2
  go_ret
  exact Ag.mk (by rw[HF.out];rfl) (hx.trans hx4)
set_option maxRecDepth 20000 in
theorem QZ(v:Value)(p q:Rat)(t:Nat)(w:World)(hv:Jb w v p q)(hp:qsz p<=t)(hq:qsz q<=t)(ht:t<=100000000000) :
  Bc 112 #[v] w (fun r w'=>Bz w' r ((p+q) / 2)):=by
 have hsum:qsz (p+q)<=274877906944:=by have:=EL p q;omega
 obtain⟨d1,A1,n1,c1,d2,A2,n2,c2,d3,A3,n3,c3,d4,A4,n4,c4,rfl,hu1,hu2⟩:=hv;have HC:=Ad (Ai hu1 (Ai hu2 hsum));clear hu1 hu2 hsum hp hq ht
 go_enter Tryz.func112,Tryz.ntmps112
 have ea:=(Bh.new w 30 #[.bool d1,.slice A1 n1 c1,.bool d2,.slice A2 n2 c2,.bool d3,.slice A3 n3 c3,.bool d4,.slice A4 n4 c4] (by simp[Af])).alloc (.cells #[.bool false,.slice none 0 0,.bool false,.slice none 0 0] 28);have ez:=Bh.new (w.alloc (.cells #[.bool d1,.slice A1 n1 c1,.bool d2,.slice A2 n2 c2,.bool d3,.slice A3 n3 c3,.bool d4,.slice A4 n4 c4] 30)) 28 #[.bool false,.slice none 0 0,.bool false,.slice none 0 0] (by simp[Af])
 rw[World.size_alloc]at ez;have hx:=((Ext.refl w).alloc (.cells #[.bool d1,.slice A1 n1 c1,.bool d2,.slice A2 n2 c2,.bool d3,.slice A3 n3 c3,.bool d4,.slice A4 n4 c4] 30)).alloc (.cells #[.bool false,.slice none 0 0,.bool false,.slice none 0 0] 28)
 go_upto_region 1 with(fail)
 generalize (w.alloc (.cells #[.bool d1,.slice A1 n1 c1,.bool d2,.slice A2 n2 c2,.bool d3,.slice A3 n3 c3,.bool d4,.slice A4 n4 c4] 30)).alloc (.cells #[.bool false,.slice none 0 0,.bool false,.slice none 0 0] 28)=W0 at *;have cea:=ea.cells8;have fea:=ea.frozen
 go_wp2_with fail
 refine AB (V8 _ _ p q _ (HC.out.1.ext hx) (HC.out.2.1.ext hx)) ?_;rintro r1 w1 hr1 hx1;clear cea fea ea;replace ez:=ez.ext hx1;replace hx:=hx.trans hx1
 go_wp2_with fail
 refine AB (XF 2 _ Aa Aa) ?_;rintro r2 w2 hr2 hx2;replace ez:=ez.ext hx2;replace hx:=hx.trans hx2;have H2:=Ad (Ai (hr1.ext hx2) hr2);clear hr1 hr2 hx1 hx2
 go_wp2_with fail
 refine AB (YP _ _ (p+q) ((2:Int):Rat) _ (H2.out.1.has HC.out.2.2) (H2.out.2.has Ab) Ab) ?_;rintro r3 w3 ⟨q3,rfl,hq3⟩ hx3;obtain⟨b5,B5,m5,e5,b6,B6,m6,e6,rfl⟩:=hq3.cells;replace ez:=ez.ext hx3;replace hx:=hx.trans hx3;obtain⟨W4,eW,e4,x4⟩:=Bh.made w3 28 #[.bool b5,.slice B5 m5 e5,.bool b6,.slice B6 m6 e6] (by simp[Af]);have hr:=hq3.ext x4;have hltz:=ez.lt;replace ez:=ez.ext x4;replace hx:=hx.trans x4
 clear hq3 hx3 x4 H2
 go_upto_region 2 with(fail)
 rw[<-eW];clear eW;generalize w3.heap.size=gc at *;have cez:=ez.cells4;have fez:=ez.frozen;have ce4:=e4.cells4;have fe4:=e4.frozen;go_wp2;obtain⟨W5,eW,ez',U⟩:=ez.put4 (.bool b5) (.slice B5 m5 e5) (.bool b6) (.slice B6 m6 e6);rw[<-eW];clear eW ez;replace hr:=hr.kd U.kd;replace hx:=U.from_ hx Aj;have ez:=ez';clear U ez';clear cez fez;have cez:=ez.cells4;have fez:=ez.frozen;refine bodyPost_ret (v := .agg #[.bool b5,.slice B5 m5 e5,.bool b6,.slice B6 m6 e6]) (by simp[results,Tryz.results112,go_sem,cez]) rfl ?_
 exact Ag.mk hr hx
set_option maxRecDepth 20000 in
theorem kP(v u:Value)(W:Nat->Rat)(p q:Rat)(base S D M t K:Nat)(w:World)(hv:Lu base 23 w v W)(hu:Jb w u p q)(hC:Gf W S D M)(hK:MM W (pd W) K)(hp:qsz p<=t)(hq:qsz q<=t)
  (ht:1+D*(M+t+1)+M+t+1<=100000000000) :
  Bc 80 #[v,u] w (fun r _=>r = .bool (decide (p < q)&&(rts W K p q==1))):=by
 have hin:∀ X (x:Ext w X) a b,BC X a p->BC X b q->Bc 51 #[v,a,b] X (fun r _=>r = .int .i64 (rts W K p q)):=fun X x a b ha hb =>
  Xf v a b W p q base S D M t K X (hv.ext x) ha hb hC hK hp hq Aa
 have hcm:∀ X a b,BC X a p->BC X b q->Bc 49 #[a,b] X (fun o _=>o = .int .i64 (GJ (p - q))):=fun X a b ha hb=>V7 a b p q X ha hb Aa;obtain⟨A0,n0,c0,rfl⟩:=hv.cell;obtain⟨d1,A1,n1,c1,d2,A2,n2,c2,d3,A3,n3,c3,d4,A4,n4,c4,rfl,hu1,hu2⟩:=hu;obtain⟨R,hR⟩:∃ R,R=rts W K p q:=⟨_,rfl⟩
 simp only[<-hR]at hin ⊢;have HC:=Ad (Ai hin (Ai hcm (Ai hu1 hu2)));clear hin hcm hu1 hu2 hv hC hK hp hq ht hR;have hsd:=SC (p:=p) (q:=q);obtain⟨res,hres⟩:∃ res,res=(decide (p < q)&&(R==1)):=⟨_,rfl⟩
 rw[<-hres];have Hres:=Ad hres;clear hres
 go_enter Tryz.func80,Tryz.ntmps80
 have ec:=(Bh.new w 92 #[.slice A0 n0 c0] (by simp[Af])).alloc (.cells #[.bool d1,.slice A1 n1 c1,.bool d2,.slice A2 n2 c2,.bool d3,.slice A3 n3 c3,.bool d4,.slice A4 n4 c4] 30);have ea:=Bh.new (w.alloc (.cells #[.slice A0 n0 c0] 92)) 30 #[.bool d1,.slice A1 n1 c1,.bool d2,.slice A2 n2 c2,.bool d3,.slice A3 n3 c3,.bool d4,.slice A4 n4 c4] (by simp[Af]);rw[World.size_alloc]at ea;have hx:=((Ext.refl w).alloc (.cells #[.slice A0 n0 c0] 92)).alloc (.cells #[.bool d1,.slice A1 n1 c1,.bool d2,.slice A2 n2 c2,.bool d3,.slice A3 n3 c3,.bool d4,.slice A4 n4 c4] 30)
 go_upto_region 1 with(fail)
 generalize (w.alloc (.cells #[.slice A0 n0 c0] 92)).alloc (.cells #[.bool d1,.slice A1 n1 c1,.bool d2,.slice A2 n2 c2,.bool d3,.slice A3 n3 c3,.bool d4,.slice A4 n4 c4] 30)=W0 at *;have cea:=ea.cells8;have fea:=ea.frozen;have cec0:=ec.cells1;by_cases hpq:p < q
 ·have hd:decide (p < q)=true:=decide_eq_true hpq
  rw[hd]at hsd;have HF:=Ad (show res=(R==1) by rw[Hres.out,hd];rfl);clear hpq hd
  go_wp2_with fail
  refine AB (HC.out.2.1 _ _ _ (HC.out.2.2.1.ext hx) (HC.out.2.2.2.ext hx)) ?_;rintro r1 w1 rfl hx1;clear cea fea cec0;replace ea:=ea.ext hx1;replace ec:=ec.ext hx1;replace hx:=hx.trans hx1;clear hx1;have cea:=ea.cells8;have fea:=ea.frozen;have cec0:=ec.cells1
  go_wp2_with fail
  refine AB (HC.out.1 _ hx _ _ (HC.out.2.2.1.ext hx) (HC.out.2.2.2.ext hx)) ?_;rintro r2 w2 rfl hx2;go_wp2
  go_ret
  exact Ag.mk (by rw[HF.out];rfl) (hx.trans hx2)
 ·have hd:decide (p < q)=false:=decide_eq_false hpq
  rw[hd]at hsd;have HF:=Ad (show res=false by rw[Hres.out,hd];rfl);clear hpq hd
  go_wp2_with fail
  refine AB (HC.out.2.1 _ _ _ (HC.out.2.2.1.ext hx) (HC.out.2.2.2.ext hx)) ?_;rintro r1 w1 rfl hx1;go_wp2
  go_ret
  exact Ag.mk (by rw[HF.out];rfl) (hx.trans hx1)
set_option maxRecDepth 20000 in
theorem fZ(v u:Value)(W:Nat->Rat)(p q:Rat)(base S D M t K:Nat)(w:World)(hv:Lu base 23 w v W)(hu:Jb w u p q)(hC:Gf W S D M)(hK:MM W (pd W) K)(hp:qsz p<=t)(hq:qsz q<=t)(hm:qsz ((p+q) / 2)<=t)
  (ht:1+D*(M+t+1)+M+t+1<=100000000000) :
  Bc 81 #[v,u] w (fun r w'=>if rts W K p ((p+q) / 2)=1 then Jb w' r p ((p+q) / 2)else Jb w' r ((p+q) / 2) q):=by
 obtain⟨m,hmm⟩:∃ m,m=(p+q) / 2:=⟨_,rfl⟩
 have hin:∀ X (x:Ext w X) a b,BC X a p->BC X b m->Bc 51 #[v,a,b] X (fun r _=>r = .int .i64 (rts W K p m)):=fun X x a b ha hb =>
  Xf v a b W p m base S D M t K X (hv.ext x) ha hb hC hK hp (by rw[hmm];exact hm) Aa
 have hmid:=fun X (x:Ext w X)=>QZ u p q t X (hu.ext x) hp hq Aa;simp only[<-hmm]at hmid hm ⊢;have hm9:qsz m<=274877906944:=by omega
 obtain⟨A0,n0,c0,rfl⟩:=hv.cell;obtain⟨d1,A1,n1,c1,d2,A2,n2,c2,d3,A3,n3,c3,d4,A4,n4,c4,rfl,hu1,hu2⟩:=hu;obtain⟨R,hR⟩:∃ R,R=rts W K p m:=⟨_,rfl⟩
 simp only[<-hR]at hin ⊢;have HC:=Ad (Ai hin (Ai hmid (Ai hu1 (Ai hu2 hm9))));clear hin hmid hu1 hu2 hv hC hK hp hq ht hR hm hm9 hmm
 go_enter Tryz.func81,Tryz.ntmps81
 obtain⟨W1,eW1,ec,y1⟩:=Bh.made w 92 #[.slice A0 n0 c0] (by simp[Af]);obtain⟨W2,eW2,ea,y2⟩:=Bh.made W1 30 #[.bool d1,.slice A1 n1 c1,.bool d2,.slice A2 n2 c2,.bool d3,.slice A3 n3 c3,.bool d4,.slice A4 n4 c4] (by simp[Af]);obtain⟨W3,eW3,ez,y3⟩:=Bh.made W2 30 #[.bool false,.slice none 0 0,.bool false,.slice none 0 0,.bool false,.slice none 0 0,.bool false,.slice none 0 0] (by simp[Af]);have s1:W1.heap.size=w.heap.size+1:=by rw[eW1,World.size_alloc]
 have s2:W2.heap.size=w.heap.size+1+1:=by rw[eW2,World.size_alloc,s1]
 rw[s1]at ea;rw[s2]at ez;have hx:=(y1.trans y2).trans y3;replace ec:=ec.ext (y2.trans y3);replace ea:=ea.ext y3
 go_upto_region 1 with(fail)
 rw[<-eW1,<-eW2,<-eW3];clear eW1 eW2 eW3 y1 y2 y3 s1 s2;have cea:=ea.cells8;have fea:=ea.frozen
 go_wp2_with fail
 refine AB (HC.out.2.1 _ hx) ?_;rintro r4 w4 hr4 hx4;obtain⟨b5,B5,m5,e5,b6,B6,m6,e6,rfl⟩:=hr4.cells;obtain⟨W5,eW,e4,x4⟩:=Bh.made w4 28 #[.bool b5,.slice B5 m5 e5,.bool b6,.slice B6 m6 e6] (by simp[Af]);have Hr:=Ad ((hr4.ext x4).has HC.out.2.2.2.2);clear cea fea hr4;have x45:=hx4.trans x4;replace ea:=ea.ext x45;replace ez:=ez.ext x45;replace ec:=ec.ext x45;replace hx:=hx.trans x45;clear x45;clear hx4 x4
 go_upto_region 2 with(fail)
 rw[<-eW];clear eW;generalize w4.heap.size=gc at *;have cea:=ea.cells8;have fea:=ea.frozen;have ce4:=e4.cells4;have fe4:=e4.frozen;have cec0:=ec.cells1
 go_wp2_with fail
 refine AB (HC.out.1 _ hx _ _ (HC.out.2.2.1.ext hx) Hr.out) ?_;rintro r6 w6 rfl hx6;have Hr6:=Ad (Hr.out.ext hx6);clear cea fea ce4 fe4 cec0 Hr;replace ea:=ea.ext hx6;replace ez:=ez.ext hx6;replace ec:=ec.ext hx6;replace e4:=e4.ext hx6;replace hx:=hx.trans hx6;clear hx6;have cea:=ea.cells8;have fea:=ea.frozen;have ce4:=e4.cells4;have fe4:=e4.frozen;have cez:=ez.cells8;have fez:=ez.frozen;by_cases h1:R=1
 ·have hb:(R==1)=true:=by simpa using h1
  have H1:=Ad h1;clear h1;have Q1:=HC.out.2.2.1.ext hx;have Q2:=Hr6.out;have HQ:=Ad (Ai Q1 Q2);clear Q1 Q2;go_wp2;obtain⟨W6,eW6,ez',U⟩:=ez.put8 (.bool d1) (.slice A1 n1 c1) (.bool d2) (.slice A2 n2 c2) (.bool b5) (.slice B5 m5 e5) (.bool b6) (.slice B6 m6 e6) rfl rfl rfl rfl rfl rfl rfl rfl;rw[<-eW6];have hr1:=BC.kd HQ.out.1 U.kd;have hr2:=BC.kd HQ.out.2 U.kd;replace hx:=U.from_ hx Dt;clear eW6 ez cez fez
  have ez:=ez';have cez:=ez.cells8;have fez:=ez.frozen;refine bodyPost_ret (v := .agg #[.bool d1,.slice A1 n1 c1,.bool d2,.slice A2 n2 c2,.bool b5,.slice B5 m5 e5,.bool b6,.slice B6 m6 e6]) (by simp[results,Tryz.results81,go_sem,cez]) rfl ?_;exact Ag.mk (by first | exact⟨_,_,_,_,_,_,_,_,_,_,_,_,_,_,_,_,rfl,hr1,hr2⟩ | (rw[(if_pos H1.out)];exact⟨_,_,_,_,_,_,_,_,_,_,_,_,_,_,_,_,rfl,hr1,hr2⟩)) hx
 ·have hb:(R==1)=false:=by simpa using h1
  have H1:=Ad h1;clear h1;have Q1:=Hr6.out;have Q2:=HC.out.2.2.2.1.ext hx;have HQ:=Ad (Ai Q1 Q2);clear Q1 Q2;go_wp2;obtain⟨W6,eW6,ez',U⟩:=ez.put8 (.bool b5) (.slice B5 m5 e5) (.bool b6) (.slice B6 m6 e6) (.bool d3) (.slice A3 n3 c3) (.bool d4) (.slice A4 n4 c4) rfl rfl rfl rfl rfl rfl rfl rfl;rw[<-eW6];have hr1:=BC.kd HQ.out.1 U.kd;have hr2:=BC.kd HQ.out.2 U.kd;replace hx:=U.from_ hx Dt;clear eW6 ez cez fez
  have ez:=ez';have cez:=ez.cells8;have fez:=ez.frozen;refine bodyPost_ret (v := .agg #[.bool b5,.slice B5 m5 e5,.bool b6,.slice B6 m6 e6,.bool d3,.slice A3 n3 c3,.bool d4,.slice A4 n4 c4]) (by simp[results,Tryz.results81,go_sem,cez]) rfl ?_;exact Ag.mk (by first | exact⟨_,_,_,_,_,_,_,_,_,_,_,_,_,_,_,_,rfl,hr1,hr2⟩ | (rw[(if_neg H1.out)];exact⟨_,_,_,_,_,_,_,_,_,_,_,_,_,_,_,_,rfl,hr1,hr2⟩)) hx
set_option maxRecDepth 20000 in
theorem aG(u:Value)(up:Bool)(p q:Rat)(t:Nat)(w:World)(hu:Jb w u p q)(hp:qsz p<=t)(hq:qsz q<=t)(ht:t<=100000000000) :
  Bc 78 #[u,.bool up] w (fun r w'=>Ic w' r (if up=true then(p+q) / 2 else p) (if up=true then q else(p+q) / 2)):=by
 have hsum:qsz (p+q)<=274877906944:=by have:=EL p q;omega
 have hpq:qsz p+qsz q < 549755813888:=by omega
 obtain⟨d1,A1,n1,c1,d2,A2,n2,c2,d3,A3,n3,c3,d4,A4,n4,c4,rfl,hu1,hu2⟩:=hu;have HC:=Ad (Ai hu1 (Ai hu2 (Ai hsum hpq)));clear hu1 hu2 hsum hpq hp hq ht
 go_enter Tryz.func78,Tryz.ntmps78
 obtain⟨W2,eW2,ea,y2⟩:=Bh.made w 30 #[.bool d1,.slice A1 n1 c1,.bool d2,.slice A2 n2 c2,.bool d3,.slice A3 n3 c3,.bool d4,.slice A4 n4 c4] (by simp[Af]);obtain⟨W3,eW3,ez,y3⟩:=Bh.made W2 30 #[.bool false,.slice none 0 0,.bool false,.slice none 0 0,.bool false,.slice none 0 0,.bool false,.slice none 0 0] (by simp[Af]);have s2:W2.heap.size=w.heap.size+1:=by rw[eW2,World.size_alloc]
 rw[s2]at ez;have hx:=y2.trans y3;replace ea:=ea.ext y3
 go_upto_region 1 with(fail)
 rw[<-eW2,<-eW3];clear eW2 eW3 y2 y3 s2;have cea:=ea.cells8;have fea:=ea.frozen
 go_wp2_with fail
 refine AB (TK _ _ p q _ (HC.out.1.ext hx) (HC.out.2.1.ext hx) HC.out.2.2.2) ?_;rintro r4 w4 hr4 hx4;clear cea fea;replace ea:=ea.ext hx4;replace ez:=ez.ext hx4;replace hx:=hx.trans hx4;clear hx4
 go_wp2_with fail
 refine AB (P6 2 _ Aa Aa) ?_;rintro r5 w5 hr5 hx5;have H5:=Ad (Ai (hr4.ext hx5) hr5);replace ea:=ea.ext hx5;replace ez:=ez.ext hx5;replace hx:=hx.trans hx5;clear hx5;clear hr4 hr5
 go_wp2_with fail
 refine AB (NK _ _ (p+q) ((2:Int):Rat) _ (H5.out.1.has HC.out.2.2.1) (H5.out.2.has Ab)) ?_;rintro r6 w6 hr6 hx6;obtain⟨b5,B5,m5,e5,b6,B6,m6,e6,rfl⟩:=hr6.cells;replace ea:=ea.ext hx6;replace ez:=ez.ext hx6;replace hx:=hx.trans hx6;clear hx6;obtain⟨W7,eW,e4,x4⟩:=Bh.made w6 28 #[.bool b5,.slice B5 m5 e5,.bool b6,.slice B6 m6 e6] (by simp[Af]);have Hr:=Ad (show Bz W7 (.agg #[.bool b5,.slice B5 m5 e5,.bool b6,.slice B6 m6 e6]) ((p+q) / 2)from hr6.ext x4)
 replace ea:=ea.ext x4;replace ez:=ez.ext x4;replace hx:=hx.trans x4;clear x4;clear hr6 H5
 go_upto_region 2 with(fail)
 rw[<-eW];clear eW;generalize w6.heap.size=gc at *;have cea:=ea.cells8;have fea:=ea.frozen;have ce4:=e4.cells4;have fe4:=e4.frozen;cases up
 ·go_wp2_with fail
  refine CP 4 [19,20,21,22] [2,5] [_,_] [(kv ?_),(kv ?_),(fun γ=>γ 2),(kv ?_)] (fun γ w'=>[True,True,Bz w' (γ 2) p,True]) ?s1 ?_
  case s1 =>
   iterate 4 refine⟨?_,?_⟩
   trivial
   iterate 2 focus
    refine AY fun _ w' he R hR=>?_;have hc:=he.cells;have cq0:=(ea.ext he).cells8;have cq1:=(e4.ext he).cells4;go_simp;exact Br hR
   ·refine AY fun _ w' he R hR=>?_
    go_simp;exact Bf (DI _ p w' (HC.out.1.ext (hx.trans he))) hR
   iterate 1 focus
    refine AY fun _ w' he R hR=>?_;have hc:=he.cells;have cq0:=(ea.ext he).cells8;have cq1:=(e4.ext he).cells4;go_simp;exact Br hR
  intro γ w8 hx8 hF;have p2:Bz w8 (γ 2) p:=Ak.get hF 2 Ab;clear hF;simp only[Bg,Nat.reduceAdd];generalize γ 2=g2 at *;clear γ;have hm8:=Hr.out.ext hx8;obtain⟨b7,A7,n7,c7,b8,A8,n8,c8,rfl⟩:=p2.cells;have HQ:=Ad (Ai p2 hm8);have hx9:=hx.trans hx8;replace ez:=ez.ext hx8;clear p2 cea fea ce4 fe4;have cez:=ez.cells8;have fez:=ez.frozen;go_wp2;obtain⟨W6,eW6,ez',U⟩:=ez.put8 (.bool b7) (.slice A7 n7 c7) (.bool b8) (.slice A8 n8 c8) (.bool b5) (.slice B5 m5 e5) (.bool b6) (.slice B6 m6 e6) rfl rfl rfl rfl rfl rfl rfl rfl
  rw[<-eW6];have hr1:=Bz.kd HQ.out.1 U.kd;have hr2:=Bz.kd HQ.out.2 U.kd;replace hx9:=U.from_ hx9 Aj;clear eW6 ez cez fez;have ez:=ez';have cez:=ez.cells8;have fez:=ez.frozen;refine bodyPost_ret (v := .agg #[.bool b7,.slice A7 n7 c7,.bool b8,.slice A8 n8 c8,.bool b5,.slice B5 m5 e5,.bool b6,.slice B6 m6 e6]) (by simp[results,Tryz.results78,go_sem,cez]) rfl ?_;exact Ag.mk ⟨_,_,_,_,_,_,_,_,_,_,_,_,_,_,_,_,rfl,hr1,hr2⟩ hx9
 ·go_wp2_with fail
  refine CP 4 [14,15,16,17] [5,2] [_,_] [(kv ?_),(kv ?_),(kv ?_),(fun γ=>γ 3)] (fun γ w'=>[True,True,True,Bz w' (γ 3) q]) ?s2 ?_
  case s2 =>
   iterate 4 refine⟨?_,?_⟩
   trivial
   iterate 3 focus
    refine AY fun _ w' he R hR=>?_;have hc:=he.cells;have cq0:=(ea.ext he).cells8;have cq1:=(e4.ext he).cells4;go_simp;exact Br hR
   ·refine AY fun _ w' he R hR=>?_
    go_simp;exact Bf (DI _ q w' (HC.out.2.1.ext (hx.trans he))) hR
  intro γ w8 hx8 hF;have p3:Bz w8 (γ 3) q:=Ak.get hF 3 Ab;clear hF;simp only[Bg,Nat.reduceAdd];generalize γ 3=g3 at *;clear γ;have hm8:=Hr.out.ext hx8;obtain⟨b7,A7,n7,c7,b8,A8,n8,c8,rfl⟩:=p3.cells;have HQ:=Ad (Ai hm8 p3);have hx9:=hx.trans hx8;replace ez:=ez.ext hx8;clear p3 cea fea ce4 fe4;have cez:=ez.cells8;have fez:=ez.frozen;go_wp2;obtain⟨W6,eW6,ez',U⟩:=ez.put8 (.bool b5) (.slice B5 m5 e5) (.bool b6) (.slice B6 m6 e6) (.bool b7) (.slice A7 n7 c7) (.bool b8) (.slice A8 n8 c8) rfl rfl rfl rfl rfl rfl rfl rfl
  rw[<-eW6];have hr1:=Bz.kd HQ.out.1 U.kd;have hr2:=Bz.kd HQ.out.2 U.kd;replace hx9:=U.from_ hx9 Aj;clear eW6 ez cez fez;have ez:=ez';have cez:=ez.cells8;have fez:=ez.frozen;refine bodyPost_ret (v := .agg #[.bool b5,.slice B5 m5 e5,.bool b6,.slice B6 m6 e6,.bool b7,.slice A7 n7 c7,.bool b8,.slice A8 n8 c8]) (by simp[results,Tryz.results78,go_sem,cez]) rfl ?_;exact Ag.mk ⟨_,_,_,_,_,_,_,_,_,_,_,_,_,_,_,_,rfl,hr1,hr2⟩ hx9
set_option maxRecDepth 20000 in
theorem Y3(v u:Value)(p q:Rat)(w:World)(hv:BC w v p)(hu:BC w u q) :
  Bc 82 #[v,u] w (fun r w'=>Ic w' r p q):=by
 have HC:=Ad (Ai hv hu);obtain⟨b,B,m1,e1,b',B',m1',e1',x0,y0,rfl,-⟩:=hv.form;obtain⟨d,E,m2,e2,d',E',m2',e2',x1,y1,rfl,-⟩:=hu.form;clear hv hu
 go_enter Tryz.func82,Tryz.ntmps82
 obtain⟨W1,eW1,ea,y1⟩:=Bh.made w 28 #[.bool b,.slice B m1 e1,.bool b',.slice B' m1' e1'] (by simp[Af]);obtain⟨W2,eW2,ec,y2⟩:=Bh.made W1 28 #[.bool d,.slice E m2 e2,.bool d',.slice E' m2' e2'] (by simp[Af]);obtain⟨W3,eW3,ez,y3⟩:=Bh.made W2 30 #[.bool false,.slice none 0 0,.bool false,.slice none 0 0,.bool false,.slice none 0 0,.bool false,.slice none 0 0] (by simp[Af]);have s1:W1.heap.size=w.heap.size+1:=by rw[eW1,World.size_alloc]
 have s2:W2.heap.size=w.heap.size+1+1:=by rw[eW2,World.size_alloc,s1]
 rw[s1]at ec;rw[s2]at ez;have hx:=(y1.trans y2).trans y3;replace ea:=ea.ext (y2.trans y3);replace ec:=ec.ext y3
 go_upto_region 1 with(fail)
 rw[<-eW1,<-eW2,<-eW3];clear eW1 eW2 eW3 y1 y2 y3 s1 s2;have cea:=ea.cells4;have fea:=ea.frozen;have cec:=ec.cells4;have fec:=ec.frozen
 go_wp2_with fail
 refine CP 4 [5,6,7,8] [2,3] [_,_] [(kv ?_),(fun γ=>γ 1),(kv ?_),(fun γ=>γ 3)] (fun γ w'=>[True,Bz w' (γ 1) p,True,Bz w' (γ 3) q]) ?s1 ?_
 case s1 =>
  iterate 4 refine⟨?_,?_⟩
  trivial
  iterate 1 focus
   refine AY fun _ w' he R hR=>?_;have hc:=he.cells;have cq0:=(ea.ext he).cells4;have cq1:=(ec.ext he).cells4;go_simp;exact Br hR
  ·refine AY fun _ w' he R hR=>?_
   go_simp;exact Bf (Ht _ p w' (HC.out.1.ext (hx.trans he))) hR
  iterate 1 focus
   refine AY fun _ w' he R hR=>?_;have hc:=he.cells;have cq0:=(ea.ext he).cells4;have cq1:=(ec.ext he).cells4;go_simp;exact Br hR
  ·refine AY fun _ w' he R hR=>?_
   go_simp;exact Bf (Ht _ q w' (HC.out.2.ext (hx.trans he))) hR
 intro γ w8 hx8 hF;have p1:Bz w8 (γ 1) p:=Ak.get hF 1 Ab;have p3:Bz w8 (γ 3) q:=Ak.get hF 3 Ab;clear hF;simp only[Bg,Nat.reduceAdd];generalize γ 1=g1 at *;generalize γ 3=g3 at *;clear γ;obtain⟨b5,A5,n5,c5,b6,A6,n6,c6,rfl⟩:=p1.cells;obtain⟨b7,A7,n7,c7,b8,A8,n8,c8,rfl⟩:=p3.cells;have HQ:=Ad (Ai p1 p3);replace hx:=hx.trans hx8;replace ez:=ez.ext hx8;clear p1 p3 cea cec fea fec;have cez:=ez.cells8;have fez:=ez.frozen
 go_wp2;obtain⟨W6,eW6,ez',U⟩:=ez.put8 (.bool b5) (.slice A5 n5 c5) (.bool b6) (.slice A6 n6 c6) (.bool b7) (.slice A7 n7 c7) (.bool b8) (.slice A8 n8 c8) rfl rfl rfl rfl rfl rfl rfl rfl;rw[<-eW6];have hr1:=Bz.kd HQ.out.1 U.kd;have hr2:=Bz.kd HQ.out.2 U.kd;replace hx:=U.from_ hx Aj;clear eW6 ez cez fez;have ez:=ez';have cez:=ez.cells8;have fez:=ez.frozen;refine bodyPost_ret (v := .agg #[.bool b5,.slice A5 n5 c5,.bool b6,.slice A6 n6 c6,.bool b7,.slice A7 n7 c7,.bool b8,.slice A8 n8 c8]) (by simp[results,Tryz.results82,go_sem,cez]) rfl ?_
 exact Ag.mk ⟨_,_,_,_,_,_,_,_,_,_,_,_,_,_,_,_,rfl,hr1,hr2⟩ hx
theorem jC:(Tryz.prog.info? 30).map (fun i=>(i.zero,i.size,i.bytes))=some (some (.agg #[.bool false,.slice none 0 0,.bool false,.slice none 0 0,.bool false,.slice none 0 0,.bool false,.slice none 0 0]),8,128):=by kernel_rfl
theorem Wo(W:World)(base ty g:Nat)(v:Value)(l:List (Rat×Rat))(p q:Rat){b1 b2 b3 b4:Bool}{A1 A2 A3 A4:Option Addr}{n1 n2 n3 n4 c1 c2 c3 c4:Nat}(h:EY base 30 W v l)
  (hq:Ic W (.agg #[.bool b1,.slice A1 n1 c1,.bool b2,.slice A2 n2 c2,.bool b3,.slice A3 n3 c3,.bool b4,.slice A4 n4 c4]) p q) (hn:l.length<=1000000) (hb:base<=W.heap.size) (hg:g=W.heap.size) :
  ∃ v' w',(Builtin.append_ #[51,51] ty #[v,.slice (some ⟨g,0,none⟩) 1 1]).run Tryz.prog (W.alloc (.cells #[.bool b1,.slice A1 n1 c1,.bool b2,.slice A2 n2 c2,.bool b3,.slice A3 n3 c3,.bool b4,.slice A4 n4 c4] 30)) = .ok v' w' /\
   (EY base 30 w' v' (l ++ [(p,q)])/\Cu (blk v) W w'/\∀ g∈blk v',g∈blk v\/W.heap.size<=g):=by
 subst hg;obtain⟨i0,hi,hz0,hz1,hz2⟩:=info_parts jC;have hB:=Bh.new W 30 #[.bool b1,.slice A1 n1 c1,.bool b2,.slice A2 n2 c2,.bool b3,.slice A3 n3 c3,.bool b4,.slice A4 n4 c4] (by simp[Af]);have hx:=(Ext.refl W).alloc (.cells #[.bool b1,.slice A1 n1 c1,.bool b2,.slice A2 n2 c2,.bool b3,.slice A3 n3 c3,.bool b4,.slice A4 n4 c4] 30);obtain⟨v',w',a,b,c,d⟩:=BJ.append_at (P:=Tryz.prog) (x:=(p,q)) (EY.ext h hx) 51 ty i0 _ 128 Tryz.underlying51 hi hz0 hz1 hz2 rfl (by simp[nodig,Af,Value.cells]) Ab ⟨W.heap.size,0,none⟩ 1
  #[.bool b1,.slice A1 n1 c1,.bool b2,.slice A2 n2 c2,.bool b3,.slice A3 n3 c3,.bool b4,.slice A4 n4 c4] rfl (hq.ext hx) hB.news (by simp[Value.oneCell']) (by simp[nodig,Af]) (by simp only[maxLen];omega) Aa (Nat.le_trans hb hx.size) (fun _ _ _ k hq=>Ic.kd hq k)
 refine⟨v',w',a,b,(Cu.of_ext hx).trans c,fun g hg=>?_⟩;rcases d g hg with q | q
 ·exact .inl q
 ·right;have:=hx.size;omega
set_option maxRecDepth 20000 in
theorem VF(a:World)(v:Value)(W:Nat->Rat)(P Q:Rat)(base S D M K N aP:Nat)(hv:Lu base 23 a v W)(hC:Gf W S D M)(hK:MM W (pd W) K)(hPQ:P < Q)(hP:qsz P<=aP)(hQ:qsz Q<=aP)
  (hdeep:∀ d p q,Hp.Node P Q d p q->N<=d->rc W p q<=1) (h0:∀ d p q,Hp.Node P Q d p q->0<=rc W p q) (ht:1+D*(M+(3*aP+N+4)+1)+M+(3*aP+N+4)+1<=100000000000) :
  ∀(n d:Nat) (p q:Rat) (u o:Value) (l:List (Rat×Rat)) (w:World),Hp.Node P Q d p q->N<=n+d->d<=N->Ext a w->Jb w u p q->EY a.heap.size 30 w o l->l.length+(iso (rc W) n p q).length<=1000 ->
   Calls Tryz.prog 64 #[v,o,u] w (TT a.heap.size 30 w o (l ++ iso (rc W) n p q)):=by
 intro nn;induction nn using Nat.strongRecOn with
 | _ nn ih =>
  intro d p q u o l w hn hN hd hx hu ho hl;obtain⟨hp,hq⟩:=hn.qsz hP hQ;have hin:∀ X (x:Ext w X) y z,BC X y p->BC X z q->Bc 51 #[v,y,z] X (fun r _=>r = .int .i64 (rc W p q)):=fun X x y z hy hz=>by
   have:=Xf v y z W p q base S D M (3*aP+N+4) K X (hv.ext (hx.trans x)) hy hz hC hK Aa Aa Aa;have e:((V (EH W (pd W) K) p:Nat):Int) - (V (EH W (pd W) K) q:Nat)=rc W p q:=GI hK p q;rw[e]at this;exact this
  obtain⟨A0,n0,c0,rfl⟩:=hv.cell;have hu':=hu;obtain⟨d1,A1,n1,c1,d2,A2,n2,c2,d3,A3,n3,c3,d4,A4,n4,c4,rfl,hu1,hu2⟩:=hu;obtain⟨Ao,co,rfl⟩:=ho.len;obtain⟨R,hR⟩:∃ R,R=rc W p q:=⟨_,rfl⟩
  have hR0:=h0 d p q hn;have hRd:=hdeep d p q hn;rw[<-hR]at hin hR0 hRd;have HC:=Ad (Ai hin (Ai hu1 (Ai hu2 (Ai hR (Ai ho (Ai hu' hx))))));clear hin hu1 hu2 hR ho hu' hx
  go_enter Tryz.func64,Tryz.ntmps64
  obtain⟨W1,eW1,ec,y1⟩:=Bh.made w 92 #[.slice A0 n0 c0] (by simp[Af]);obtain⟨W2,eW2,ea,y2⟩:=Bh.made W1 30 #[.bool d1,.slice A1 n1 c1,.bool d2,.slice A2 n2 c2,.bool d3,.slice A3 n3 c3,.bool d4,.slice A4 n4 c4] (by simp[Af]);have s1:W1.heap.size=w.heap.size+1:=by rw[eW1,World.size_alloc]
  rw[s1]at ea;have hx:=y1.trans y2;replace ec:=ec.ext y2
  go_upto_region 1 with(fail)
  rw[<-eW1,<-eW2];clear eW1 eW2 y1 y2 s1;obtain⟨cea0,cea1,cea2,cea3,cea4,cea5,cea6,cea7⟩:=ea.cells8;have fea:=ea.frozen;have cec0:=ec.cells1
  go_wp2_with fail
  refine AB (HC.out.1 _ hx _ _ (HC.out.2.1.ext hx) (HC.out.2.2.1.ext hx)) ?_;rintro r4 w4 rfl hx4;clear cea0 cea1 cea2 cea3 cea4 cea5 cea6 cea7 fea cec0;replace ea:=ea.ext hx4;replace ec:=ec.ext hx4;replace hx:=hx.trans hx4;clear hx4;have fin0:R=0->TT a.heap.size 30 w (.slice Ao l.length co) (l ++ iso (rc W) nn p q) (.returned (.slice Ao l.length co)) w4:=fun h=>by
   rw[NG (by rw[<-HC.out.2.2.2.1];exact h),List.append_nil];exact⟨_,rfl,HC.out.2.2.2.2.1.ext hx,Cu.of_ext hx,fun g hg => .inl hg⟩
  have H0:=Ad fin0;clear fin0;by_cases hz:R=0
  ·have hb:(R==0)=true:=by simpa using hz
   have HF:=Ad (H0.out hz);clear hz;go_wp2
   go_ret
   exact HF.out
  clear H0;have hb0:(R==0)=false:=by simpa using hz
  by_cases hone:R=1
  ·have hb1:(R==1)=true:=by simpa using hone
   have H1:=Ad hone;have hl9:l.length<=1000000:=by omega
   clear hone hz hl;have hsz4:=hx.size;have has:=HC.out.2.2.2.2.2.2.size;obtain⟨cea0,cea1,cea2,cea3,cea4,cea5,cea6,cea7⟩:=ea.cells8;have fea:=ea.frozen
   go_wp2_with fail
   refine AB (Y3 _ _ p q _ (HC.out.2.1.ext hx) (HC.out.2.2.1.ext hx)) ?_;rintro r5 w5 hr5 hx5;have hx6:=hx.trans hx5;clear cea0 cea1 cea2 cea3 cea4 cea5 cea6 cea7 fea ea ec hx5 hx;obtain⟨e1,B1,m1,k1,e2,B2,m2,k2,e3,B3,m3,k3,e4,B4,m4,k4,rfl⟩:=hr5.cells;have H5:=Ad hr5;clear hr5;have hsz5:=hx6.size
   go_wp2_with (at_builtin;refine Av rfl _ _ 51 rfl (.slice Ao l.length co) (.slice (some ⟨w5.heap.size,0,none⟩) 1 1) rfl rfl (Wo w5 a.heap.size _ _ _ l p q (HC.out.2.2.2.2.1.ext hx6) H5.out hl9 Aa rfl) ?_)
   intro v' w7 hown U hat;have HF:TT a.heap.size 30 w (.slice Ao l.length co) (l ++ iso (rc W) nn p q) (.returned v') w7:=by
    rw[Ll (by rw[<-HC.out.2.2.2.1];exact H1.out)];exact⟨_,rfl,hown,(Cu.of_ext hx6).trans U,fun g hg=>(hat g hg).imp id fun q=>Aa⟩
   have HF:=Ad HF;clear hown U hat;go_wp2
   go_ret
   exact HF.out
  ·have hb1:(R==1)=false:=by simpa using hone
   have hR2:2<=R:=by omega
   have hdN:d < N:=by
    rcases Nat.lt_or_ge d N with q | q
    ·exact q
    ·have:=hRd q;omega
   obtain⟨n,rfl⟩:∃ n,nn=n+1:=⟨nn - 1,Aa⟩
   replace ih:=ih n Aa;obtain⟨m,hm⟩:∃ m,m=(p+q) / 2:=⟨_,rfl⟩
   have hiso:iso (rc W) (n+1) p q=iso (rc W) n p m ++ iso (rc W) n m q:=by
    rw[hm];exact NE (by rw[<-HC.out.2.2.2.1];exact hz) (by rw[<-HC.out.2.2.2.1];exact hone)
   obtain⟨n1',n2'⟩:=hn.half;rw[<-hm]at n1' n2';obtain⟨hmq,-⟩:=n2'.qsz hP hQ;have hmid:∀ X (x:Ext w X),Bc 112 #[.agg #[.bool d1,.slice A1 n1 c1,.bool d2,.slice A2 n2 c2,.bool d3,.slice A3 n3 c3,.bool d4,.slice A4 n4 c4]] X (fun r w'=>Bz w' r m):=fun X x=>by
    have:=QZ _ p q (3*aP+N+4) X (HC.out.2.2.2.2.2.1.ext x) Aa Aa Aa;rw[<-hm]at this;exact this
   have HM:=Ad (Ai hmid (Ai hiso (Ai n1' (Ai n2' (show qsz m<=274877906944 by omega)))));clear hmid hiso n1' n2' hmq hm;have HL:=Ad hl;clear hR0 hRd hz hone hl hp hq hn hR2;obtain⟨cea0,cea1,cea2,cea3,cea4,cea5,cea6,cea7⟩:=ea.cells8;have fea:=ea.frozen
   go_wp2_with fail
   refine AB (HM.out.1 _ hx) ?_;rintro r5 w5 hr5 hx5;obtain⟨e1,B1,m1,k1,e2,B2,m2,k2,rfl⟩:=hr5.cells;clear cea0 cea1 cea2 cea3 cea4 cea5 cea6 cea7 fea;replace ea:=ea.ext hx5;replace ec:=ec.ext hx5;replace hx:=hx.trans hx5;clear hx5;obtain⟨W6,eW6,em,y6⟩:=Bh.made w5 28 #[.bool e1,.slice B1 m1 k1,.bool e2,.slice B2 m2 k2] (by simp[Af]);have hmm:=(hr5.ext y6).has HM.out.2.2.2.2;have hgm:=ea.lt;replace ea:=ea.ext y6
   replace ec:=ec.ext y6;replace hx:=hx.trans y6;clear y6
   go_upto_region 7 with(fail)
   rw[<-eW6];clear eW6 hr5;generalize w5.heap.size=gm at *;have HX:=Ad (Ai hmm hx);clear hmm;have hos:∀ g∈blk (.slice Ao l.length co),g < w.heap.size:=fun g hg=>(BJ.blk_ge HC.out.2.2.2.2.1 g hg).2;have HO:=Ad hos;clear hos;have hsz6:=hx.size;have ha6:=HC.out.2.2.2.2.2.2.size;have hlen:(iso (rc W) n p m).length+(iso (rc W) n m q).length+l.length<=1000:=by
    have h1:=HL.out;rw[HM.out.2.1,List.length_append]at h1;omega
   have HLn:=Ad hlen;clear hlen;have hcall1:∀ X,Ext W6 X->Calls Tryz.prog 64 #[.agg #[.slice A0 n0 c0],.slice Ao l.length co,.agg #[.bool d1,.slice A1 n1 c1,.bool d2,.slice A2 n2 c2,.bool e1,.slice B1 m1 k1,.bool e2,.slice B2 m2 k2]] X
     (TT a.heap.size 30 X (.slice Ao l.length co) (l ++ iso (rc W) n p m)):=fun X x =>
    ih (d+1) p m _ _ l X HM.out.2.2.1 Aa Aa (HC.out.2.2.2.2.2.2.trans (HX.out.2.trans x)) ⟨_,_,_,_,_,_,_,_,_,_,_,_,_,_,_,_,rfl,HC.out.2.1.ext (HX.out.2.trans x),HX.out.1.ext x⟩ (HC.out.2.2.2.2.1.ext (HX.out.2.trans x)) (by have:=HLn.out;omega)
   have hcall2:∀ X r,KD W6 X->Ext a X->EY a.heap.size 30 X r (l ++ iso (rc W) n p m)->Calls Tryz.prog 64 #[.agg #[.slice A0 n0 c0],r,.agg #[.bool e1,.slice B1 m1 k1,.bool e2,.slice B2 m2 k2,.bool d3,.slice A3 n3 c3,.bool d4,.slice A4 n4 c4]] X
     (TT a.heap.size 30 X r (l ++ iso (rc W) n p m ++ iso (rc W) n m q)):=fun X r k x hr =>
    ih (d+1) m q _ _ _ X HM.out.2.2.2.1 Aa Aa x ⟨_,_,_,_,_,_,_,_,_,_,_,_,_,_,_,_,rfl,HX.out.1.kd k,(HC.out.2.2.1.ext HX.out.2).kd k⟩ hr (by have:=HLn.out;rw[List.length_append];omega)
   have HK:=Ad (Ai hcall1 hcall2);clear hcall1 hcall2;obtain⟨cea0,cea1,cea2,cea3,cea4,cea5,cea6,cea7⟩:=ea.cells8;have fea:=ea.frozen;obtain⟨cem0,cem1,cem2,cem3⟩:=em.cells4;have fem:=em.frozen;have cec0:=ec.cells1;have hkeep:∀(G:List Nat) (X Y:World),Cu G X Y->(∀ g∈G,g < w.heap.size\/W6.heap.size<=g)->(X.cell? ⟨w.heap.size+1,0,none⟩=some (.bool d1)/\X.cell? ⟨w.heap.size+1,1,none⟩=some (.slice A1 n1 c1)/\X.cell? ⟨w.heap.size+1,2,none⟩=some (.bool d2)/\X.cell? ⟨w.heap.size+1,3,none⟩=some (.slice A2 n2 c2)/\X.cell? ⟨w.heap.size+1,4,none⟩=some (.bool d3)/\X.cell? ⟨w.heap.size+1,5,none⟩=some (.slice A3 n3 c3)/\X.cell? ⟨w.heap.size+1,6,none⟩=some (.bool d4)/\X.cell? ⟨w.heap.size+1,7,none⟩=some (.slice A4 n4 c4)/\X.cell? ⟨gm,0,none⟩=some (.bool e1)/\X.cell? ⟨gm,1,none⟩=some (.slice B1 m1 k1)/\X.cell? ⟨gm,2,none⟩=some (.bool e2)/\X.cell? ⟨gm,3,none⟩=some (.slice B2 m2 k2)/\X.cell? ⟨w.heap.size,0,none⟩=some (.slice A0 n0 c0))->(Y.cell? ⟨w.heap.size+1,0,none⟩=some (.bool d1)/\Y.cell? ⟨w.heap.size+1,1,none⟩=some (.slice A1 n1 c1)/\Y.cell? ⟨w.heap.size+1,2,none⟩=some (.bool d2)/\Y.cell? ⟨w.heap.size+1,3,none⟩=some (.slice A2 n2 c2)/\Y.cell? ⟨w.heap.size+1,4,none⟩=some (.bool d3)/\Y.cell? ⟨w.heap.size+1,5,none⟩=some (.slice A3 n3 c3)/\Y.cell? ⟨w.heap.size+1,6,none⟩=some (.bool d4)/\Y.cell? ⟨w.heap.size+1,7,none⟩=some (.slice A4 n4 c4)/\Y.cell? ⟨gm,0,none⟩=some (.bool e1)/\Y.cell? ⟨gm,1,none⟩=some (.slice B1 m1 k1)/\Y.cell? ⟨gm,2,none⟩=some (.bool e2)/\Y.cell? ⟨gm,3,none⟩=some (.slice B2 m2 k2)/\Y.cell? ⟨w.heap.size,0,none⟩=some (.slice A0 n0 c0)):=fun G X Y U hG ⟨a0,a1,a2,a3,a4,a5,a6,a7,b0,b1,b2,b3,c0⟩=>by
    have gl1:=ea.lt;have gl2:=em.lt;have gl3:=ec.lt;have q:∀ g i x,(w.heap.size<=g/\g < W6.heap.size)->X.cell? ⟨g,i,none⟩=some x->Y.cell? ⟨g,i,none⟩=some x:=fun g i x hg hc=>WB U (fun hm=>by rcases hG g hm with z | z<;>omega) hc;exact⟨q _ _ _ Aa a0,q _ _ _ Aa a1,q _ _ _ Aa a2,q _ _ _ Aa a3,q _ _ _ Aa a4,q _ _ _ Aa a5,q _ _ _ Aa a6,q _ _ _ Aa a7,q _ _ _ Aa b0,q _ _ _ Aa b1,q _ _ _ Aa b2,q _ _ _ Aa b3,q _ _ _ Aa c0⟩
   have HE:=Ad hkeep;clear hkeep;have hS0:W6.cell? ⟨w.heap.size+1,0,none⟩=some (.bool d1)/\W6.cell? ⟨w.heap.size+1,1,none⟩=some (.slice A1 n1 c1)/\W6.cell? ⟨w.heap.size+1,2,none⟩=some (.bool d2)/\W6.cell? ⟨w.heap.size+1,3,none⟩=some (.slice A2 n2 c2)/\W6.cell? ⟨w.heap.size+1,4,none⟩=some (.bool d3)/\W6.cell? ⟨w.heap.size+1,5,none⟩=some (.slice A3 n3 c3)/\W6.cell? ⟨w.heap.size+1,6,none⟩=some (.bool d4)/\W6.cell? ⟨w.heap.size+1,7,none⟩=some (.slice A4 n4 c4)/\W6.cell? ⟨gm,0,none⟩=some (.bool e1)/\W6.cell? ⟨gm,1,none⟩=some (.slice B1 m1 k1)/\W6.cell? ⟨gm,2,none⟩=some (.bool e2)/\W6.cell? ⟨gm,3,none⟩=some (.slice B2 m2 k2)/\W6.cell? ⟨w.heap.size,0,none⟩=some (.slice A0 n0 c0):=⟨cea0,cea1,cea2,cea3,cea4,cea5,cea6,cea7,cem0,cem1,cem2,cem3,cec0⟩
   have hS1:W6.drew.cell? ⟨w.heap.size+1,0,none⟩=some (.bool d1)/\W6.drew.cell? ⟨w.heap.size+1,1,none⟩=some (.slice A1 n1 c1)/\W6.drew.cell? ⟨w.heap.size+1,2,none⟩=some (.bool d2)/\W6.drew.cell? ⟨w.heap.size+1,3,none⟩=some (.slice A2 n2 c2)/\W6.drew.cell? ⟨w.heap.size+1,4,none⟩=some (.bool d3)/\W6.drew.cell? ⟨w.heap.size+1,5,none⟩=some (.slice A3 n3 c3)/\W6.drew.cell? ⟨w.heap.size+1,6,none⟩=some (.bool d4)/\W6.drew.cell? ⟨w.heap.size+1,7,none⟩=some (.slice A4 n4 c4)/\W6.drew.cell? ⟨gm,0,none⟩=some (.bool e1)/\W6.drew.cell? ⟨gm,1,none⟩=some (.slice B1 m1 k1)/\W6.drew.cell? ⟨gm,2,none⟩=some (.bool e2)/\W6.drew.cell? ⟨gm,3,none⟩=some (.slice B2 m2 k2)/\W6.drew.cell? ⟨w.heap.size,0,none⟩=some (.slice A0 n0 c0):=HE.out [] W6 W6.drew (Cu.of_ext (Ext.refl W6).drew) (fun g hg=>by cases hg) hS0
   clear hS0 cea0 cea1 cea2 cea3 cea4 cea5 cea6 cea7 cem0 cem1 cem2 cem3 cec0 fea fem;clear ih hC hK hPQ hP hQ hdeep h0 ht hN hd hdN hv
   go_region_held3 (fun w'=>w'.cell? ⟨w.heap.size+1,0,none⟩=some (.bool d1)/\w'.cell? ⟨w.heap.size+1,1,none⟩=some (.slice A1 n1 c1)/\w'.cell? ⟨w.heap.size+1,2,none⟩=some (.bool d2)/\w'.cell? ⟨w.heap.size+1,3,none⟩=some (.slice A2 n2 c2)/\w'.cell? ⟨w.heap.size+1,4,none⟩=some (.bool d3)/\w'.cell? ⟨w.heap.size+1,5,none⟩=some (.slice A3 n3 c3)/\w'.cell? ⟨w.heap.size+1,6,none⟩=some (.bool d4)/\w'.cell? ⟨w.heap.size+1,7,none⟩=some (.slice A4 n4 c4)/\w'.cell? ⟨gm,0,none⟩=some (.bool e1)/\w'.cell? ⟨gm,1,none⟩=some (.slice B1 m1 k1)/\w'.cell? ⟨gm,2,none⟩=some (.bool e2)/\w'.cell? ⟨gm,3,none⟩=some (.slice B2 m2 k2)/\w'.cell? ⟨w.heap.size,0,none⟩=some (.slice A0 n0 c0))
    (first | (exact HE.out _ _ _ U2 hG2 (by assumption)) | (exact HE.out _ _ _ U1 hG1 (by assumption)) | (exact hS1))
    ((first
     | (have hU1:=U1;clear hU1;go_at_call 64;refine Calls.mono (HK.out.2 _ _ (((KD.refl W6).drew).trans U1.kd) (U1.from_ (HC.out.2.2.2.2.2.2.trans hx).drew fun g hg=>(BJ.blk_ge HC.out.2.2.2.2.1 g hg).1) hown1) ?_;rintro e w2 ⟨r2,rfl,hown2,U2,hat2⟩;have hG2:∀ g∈blk r1,g < w.heap.size\/W6.heap.size<=g:=fun g hg=>(hat1 g hg).imp (HO.out g) id)
     | (go_at_call 64;refine Calls.mono (HK.out.1 W6.drew (Ext.refl W6).drew) ?_;rintro e w1 ⟨r1,rfl,hown1,U1,hat1⟩;have hG1:∀ g∈blk (.slice Ao l.length co),g < w.heap.size\/W6.heap.size<=g:=fun g hg=>Or.inl (HO.out g hg))))
   have hgm1:w1.heap.size > gm:=by
    have hne:gm∉blk (.slice Ao l.length co):=fun hm=>by have:=HO.out _ hm;omega
    exact(Array.getElem?_eq_some_iff.1 (U1.1 gm _ hne em.1)).1
   have UA:Cu (blk (.slice Ao l.length co)) w w1:=(Cu.of_ext hx.drew).trans U1;have HF:TT a.heap.size 30 w (.slice Ao l.length co) (l ++ iso (rc W) (n+1) p q) (.returned r2) w2:=by
    rw[HM.out.2.1,<-List.append_assoc];refine⟨r2,rfl,hown2,UA.new_trans U2 fun g hg=>(hat1 g hg).imp id fun z=>Nat.le_trans hsz6 z,fun g hg=>?_⟩;rcases hat2 g hg with z | z
    ·exact(hat1 g z).imp id fun z=>Nat.le_trans hsz6 z
    ·right;omega
   have HFF:=Ad HF;clear HF UA hown1 hown2 U1 U2 hat1 hat2 hG1 hG2;go_wp2
   go_ret
   exact HFF.out
set_option maxRecDepth 20000 in
theorem eD(v:Value)(q:Rat)(w:World)(hv:BC w v q)(hs:qsz q<=274877906944):Bc 121 #[v] w (fun r w'=>Bz w' r (ab q)):=by
 have HV:=Ad hv;obtain⟨b,B,m1,e1,b',B',m1',e1',x0,y0,rfl,-⟩:=hv.form;clear hv;have hsn:sz q.num.natAbs<=274877906944:=by have:=F6 q;omega
 have HS:=Ad hsn;clear hs hsn
 go_enter Tryz.func121,Tryz.ntmps121
 obtain⟨W1,eW1,ea,y1⟩:=Bh.made w 28 #[.bool b,.slice B m1 e1,.bool b',.slice B' m1' e1'] (by simp[Af]);obtain⟨W2,eW2,ez,y2⟩:=Bh.made W1 28 #[.bool false,.slice none 0 0,.bool false,.slice none 0 0] (by simp[Af]);have s1:W1.heap.size=w.heap.size+1:=by rw[eW1,World.size_alloc]
 rw[s1]at ez;have hx:=y1.trans y2;replace ea:=ea.ext y2
 go_upto_region 1 with(fail)
 rw[<-eW1,<-eW2];clear eW1 eW2 y1 y2 s1;have cea:=ea.cells4;have fea:=ea.frozen
 go_wp2_with fail
 refine AB (Ht _ q _ (HV.out.ext hx)) ?_;rintro r3 w3 hr3 hx3;obtain⟨b5,A5,n5,c5,b6,A6,n6,c6,rfl⟩:=hr3.cells;clear cea fea;replace ea:=ea.ext hx3;replace ez:=ez.ext hx3;replace hx:=hx.trans hx3;clear hx3;have cea:=ea.cells4;have fea:=ea.frozen
 go_upto_region 2 with(fail)
 obtain⟨W4,eW,ea',U⟩:=ea.put4 (.bool b5) (.slice A5 n5 c5) (.bool b6) (.slice A6 n6 c6);rw[<-eW];clear eW ea;replace hr3:=hr3.kd U.kd;replace ez:=ez.upd U Aj;replace hx:=U.from_ hx Aj;have ea:=ea';clear U ea';have hnd:AP W4 (.agg #[.bool b5,.slice A5 n5 c5]) q.num/\AP W4 (.agg #[.bool b6,.slice A6 n6 c6]) (q.den:Nat):=by
  obtain⟨_,_,_,_,_,_,_,_,e,h1,h2⟩:=hr3;cases e;exact⟨h1,h2⟩
 have HN:=Ad hnd;clear hnd hr3;clear cea fea;have cea:=ea.cells4;have fea:=ea.frozen
 go_wp2_with fail
 refine AB (j6 _ q.num _ (HN.out.1.has (by have:=HS.out;omega))) ?_;rintro r5 w5 hr5 hx5;obtain⟨b7,A7,n7,c7,rfl⟩:=hr5.cells;have HD:=Ad (Ai hr5 (HN.out.2.ext hx5));clear cea fea HN hr5;replace ea:=ea.ext hx5;replace ez:=ez.ext hx5;replace hx:=hx.trans hx5;clear hx5;have cea:=ea.cells4;have fea:=ea.frozen
 go_upto_region 3 with(fail)
 obtain⟨W6,eW6,ea',U⟩:=ea.put42 (.bool b7) (.slice A7 n7 c7) rfl rfl;rw[<-eW6];have HE:=Ad (Ai (HD.out.1.kd U.kd) (HD.out.2.kd U.kd));replace ez:=ez.upd U Ac;replace hx:=U.from_ hx Ac;clear eW6 ea cea fea HD U;have ea:=ea';clear ea';have cea:=ea.cells4;have fea:=ea.frozen;have cez:=ez.cells4;have fez:=ez.frozen;have hq:Bz W6 (.agg #[.bool b7,.slice A7 n7 c7,.bool b6,.slice A6 n6 c6]) (ab q):=by
  obtain⟨h1,h2⟩:=jO q;exact⟨_,_,_,_,_,_,_,_,rfl,by rw[h1];exact HE.out.1,by rw[h2];exact HE.out.2⟩
 have Hq:=Ad hq;clear hq HE;go_wp2;have hr:=Hq.out;obtain⟨W8,eW,ez',U⟩:=ez.put4 (.bool b7) (.slice A7 n7 c7) (.bool b6) (.slice A6 n6 c6);rw[<-eW];clear eW ez;replace hr:=hr.kd U.kd;replace hx:=U.from_ hx Aj;have ez:=ez';clear U ez';clear cez fez;have cez:=ez.cells4;have fez:=ez.frozen;refine bodyPost_ret (v := .agg #[.bool b7,.slice A7 n7 c7,.bool b6,.slice A6 n6 c6]) (by simp[results,Tryz.results121,go_sem,cez]) rfl ?_
 exact Ag.mk hr hx
set_option maxRecDepth 20000 in
theorem aO(v:Value)(F:Nat->Rat)(s:Nat)(w:World)(hv:AC 0 w v F)(zF:ZI F)(fF:Ae F)(h0:F≠pz)(hs:∀ i,qsz (F i)<=s)(hs9:s<=1000000)(hn:pl F<=1000) :
  Bc 67 #[v] w (fun r w'=>∃ j,P2 (J5 F (pl F - 1)+1) j/\AP w' r (2^j)):=by
 have hp:=AZ fF h0;obtain⟨A,c,l,rfl,k1,k2,hA,k3,k4,k5⟩:=hv.form;have HA:=Ad (Ai hA (Ai k3 k5));clear hA k3 k4 k5 hv
 go_enter Tryz.func67,Tryz.ntmps67
 obtain⟨W1,eW1,ez,y1⟩:=Bh.made w 26 #[.bool false,.slice none 0 0] (by simp[Af])
 go_upto_region 1 with(fail)
 rw[<-eW1];clear eW1;have hx:=y1
 go_wp2_with fail
 refine AB (XF 1 _ Aa Aa) ?_;rintro r2 w2 hr2 hx2;obtain⟨b5,A5,n5,c5,b6,A6,n6,c6,rfl⟩:=hr2.cells;replace ez:=ez.ext hx2;replace hx:=hx.trans hx2;clear hx2;obtain⟨W3,eW3,el,y3⟩:=Bh.made w2 28 #[.bool b5,.slice A5 n5 c5,.bool b6,.slice A6 n6 c6] (by simp[Af]);have hl:=DL.mk el (hr2.ext y3);have hgl:=ez.lt;replace ez:=ez.ext y3;replace hx:=hx.trans y3;clear y3;clear hr2 el
 go_upto_region 2 with(fail)
 rw[<-eW3];clear eW3;generalize w2.heap.size=gl at *;have hld:ld F=(l[pl F - 1]'(by have:=HA.out.2.1;omega):Rat):=by rw[<-Cn,HA.out.2.2];rfl
 have hls:=hs (pl F - 1);obtain⟨g,o,b,A2,n2,c2,rfl,h64,q0,q1,hq⟩:=HA.out.1.at_ (j:=pl F - 1) (by have:=HA.out.2.1;omega);have hqh:Bq w (.agg #[.bool b,.slice A2 n2 c2]) (l[pl F - 1]'(by have:=HA.out.2.1;omega)):=hq.has (by
  have h1:F (pl F - 1)=(l[pl F - 1]'(by have:=HA.out.2.1;omega):Rat):=hld;rw[h1,Bi]at hls;omega)
 have hqq:qsz ((l[pl F - 1]'(by have:=HA.out.2.1;omega):Rat))<=274877906944:=by
  have h1:F (pl F - 1)=(l[pl F - 1]'(by have:=HA.out.2.1;omega):Rat):=hld;rw[h1]at hls;omega
 obtain⟨y,hy⟩:∃ y,y=(l[pl F - 1]'(by have:=HA.out.2.1;omega)):=⟨_,rfl⟩
 rw[<-hy]at hld hqh hqq;have HQ:=Ad (Ai hqh (Ai hqq hld));clear hqh hqq hld hy hq hls;replace q0:=hx.cell q0;replace q1:=hx.cell q1
 go_wp2_with fail
 refine AB (Iy _ y _ (HQ.out.1.ext hx)) ?_;rintro r4 w4 hr4 hx4;clear q0 q1;replace ez:=ez.ext hx4;replace hl:=hl.ext hx4;replace hx:=hx.trans hx4;clear hx4
 go_wp2_with fail
 refine AB (eD _ _ _ (hr4.has HQ.out.2.1) HQ.out.2.1) ?_;rintro r5 w5 hr5 hx5;obtain⟨b7,A7,n7,c7,b8,A8,n8,c8,rfl⟩:=hr5.cells;replace ez:=ez.ext hx5;replace hl:=hl.ext hx5;replace hx:=hx.trans hx5;clear hx5;obtain⟨W6,eW6,ed,y6⟩:=Bh.made w5 28 #[.bool b7,.slice A7 n7 c7,.bool b8,.slice A8 n8 c8] (by simp[Af]);have hd:=DL.mk ed (hr5.ext y6);rw[<-HQ.out.2.2]at hd;have hgd:=hl.lt;replace ez:=ez.ext y6;replace hl:=hl.ext y6
 replace hx:=hx.trans y6;clear y6;clear hr4 hr5 ed
 go_upto_region 3 with(fail)
 rw[<-eW6];clear eW6;generalize w5.heap.size=gd at *;obtain⟨N,hN⟩:∃ N,pl F=N+1:=⟨pl F - 1,Aa⟩
 have e1:J5 F 0+1=((1:Int):Rat):=by show(0:Rat)+1=1;grind
 rw[<-e1]at hl;have HN:=Ad hN;rw[hN]at hn k1 ⊢;rw[Nat.add_sub_cancel,show(((N+1:Nat):Int))=(N:Int)+1 from Aa,show((N:Int)+1 - 1)=(N:Int)from by omega];clear hN hp e1;go_wp2
 go_loopw [25] (fun iv wr=>∃ i:Nat,i<=N/\iv = .int .i64 (i:Nat)/\DL wr gl 28 (J5 F i+1)/\DL wr gd 28 (ab (ld F))/\Bh wr w.heap.size 26 #[.bool false,.slice none 0 0]/\Ext w wr) (fun iv _=>N - (intOf iv).toNat)
 case atStart=>exact⟨0,Aa,rfl,hl,hd,ez,hx⟩
 case round =>
  clear hl hd ez hx;obtain⟨i,hi,rfl,hl,hd,ez,hx⟩:=hrel;by_cases hiN:i < N
  ·have hls:=hs i
   have hlt:i < l.length:=by have:=HA.out.2.1;have:=HN.out;omega
   have hli:F i=(l[i]:Rat):=by rw[<-Cn hlt,HA.out.2.2]
   obtain⟨g',o',b3,A3,n3,c3,e3,-,q0,q1,hq⟩:=HA.out.1.at_ hlt;cases e3;have hqh:Bq w (.agg #[.bool b3,.slice A3 n3 c3]) l[i]:=hq.has (by rw[hli,Bi]at hls;omega);have hqq:qsz (l[i]:Rat)<=s:=by rw[hli]at hls;exact hls
   obtain⟨yi,hy⟩:∃ y,y=l[i]:=⟨_,rfl⟩
   rw[<-hy]at hli hqh hqq;have HI:=Ad (Ai hqh (Ai hqq hli));clear hqh hqq hli hy hq hls hlt;replace q0:=hx.cell q0;replace q1:=hx.cell q1;obtain⟨W7,eW7,e6,y7⟩:=Bh.made wr 26 #[.bool b3,.slice A3 n3 c3] (by simp[Af])
   go_upto_region 6 with(fail)
   rw[<-eW7];clear eW7 q0 q1;have hg6:=ez.lt;replace ez:=ez.ext y7;replace hl:=hl.ext y7;replace hd:=hd.ext y7;replace hx:=hx.trans y7;clear y7;generalize wr.heap.size=g6 at *;have HDq:=Ad hd;obtain⟨b9,A9,n9,c9,b10,A10,n10,c10,ed,hdq⟩:=hd;have hqa:qsz (ab (ld F))<=274877906944:=by rw[O9];have:qsz (ld F)<=s:=hs _;omega
   have hqi:qsz (ab (yi:Rat))<=274877906944:=by rw[O9];have:=HI.out.2.1;omega
   have hne:ab (ld F)≠0:=fun e=>Dh fF h0 (UD.1 e);have HB:=Ad (Ai (hdq.has hqa) (Ai hqi hne));clear hqa hqi hne;have hgd2:=ed.lt;have ce6:=e6.cells2;have fe6:=e6.frozen;have ced:=ed.cells4;have fed:=ed.frozen
   go_cut [7,8] (fun pv ev wx=>∃ gc,pv = .pointer (some ⟨gc,0,none⟩)/\ev = .int .i64 0/\DL wx gc 28 (ab (yi:Rat) / ab (ld F))/\W7.heap.size<=gc/\Ext W7 wx)
   case first =>
    refine Bu 9 [7] (fun x=>10) [30,31,32,33,34,29,35,36,7] [[],[0],[0,1],[],[0,1,2,3],[0,1,2,3,4],[0,1,2,3,4,5],[0,1,2,3,4,5],[],[0,1,2,3,4,5,6,8],[0,1,2,3,4,5,6,7,8,9]] [6,4] [_,_] [(kv ?_),(fun γ=>γ 1),(fun γ=>γ 2),(kv ?_),(fun γ=>γ 4),(fun γ=>γ 4),(fun γ=>γ 6),(kv ?_),(fun γ=>γ 8)] (fun γ w'=>[True,Bz w' (γ 1) (yi:Rat),Bz w' (γ 2) (ab (yi:Rat)),True,Kh w' (γ 4) (ab (yi:Rat) / ab (ld F)),True,Bz w' (γ 6) (ab (yi:Rat) / ab (ld F)),True,Bb w' (γ 8) W7.heap.size #[.bool false,.slice none 0 0,.bool false,.slice none 0 0] 28]) Ko BP BP BP BP BP LJ BP Ka ?m1 ?s1 ?_ ?l1
    case s1 =>
     iterate 9 refine⟨?_,?_⟩
     trivial
     iterate 1 focus
      refine AY fun _ w' he R hR=>?_;have hc:=he.cells;have cq0:=(e6.ext he).cells2;have cq1:=(ed.ext he).cells4;go_simp;exact Br hR
     ·refine AY fun _ w' he R hR=>?_
      go_simp;exact Bf (Iy _ yi w' (HI.out.1.ext (hx.trans he))) hR
     ·refine EF fun γ w' he hf R hR=>?_;have f1:Bz w' (γ 1) (yi:Rat):=hf 1 Ab;clear hf
      go_simp;exact Bf (eD _ _ w' (f1.has (by have:=HI.out.2.1;omega)) (by have:=HI.out.2.1;omega)) hR
     iterate 1 focus
      refine AY fun _ w' he R hR=>?_;have hc:=he.cells;have cq0:=(e6.ext he).cells2;have cq1:=(ed.ext he).cells4;go_simp;exact Br hR
     ·refine EF fun γ w' he hf R hR=>?_;have f2:Bz w' (γ 2) (ab (yi:Rat)):=hf 2 Ab;clear hf
      go_simp;exact Bf (YP _ _ _ _ w' (f2.has HB.out.2.1) (HB.out.1.ext he) HB.out.2.2) hR
     ·refine AY fun _ w' he R hR=>?_
      have hc:=he.cells;go_simp
      (try go_ints);(try(rw[if_neg Aa]));(try(rw[if_pos Aa]));(try go_simp);(try go_ints)
      exact Br hR
     ·refine EF fun γ w' he hf R hR=>?_;have f4:Kh w' (γ 4) (ab (yi:Rat) / ab (ld F)):=hf 4 Ab;clear hf
      obtain⟨a,e,ha⟩:=f4;go_simp;exact hR _ _ (Ext.refl _) rfl ha
     ·refine EF fun γ w' he hf R hR=>?_;have f4:Kh w' (γ 4) (ab (yi:Rat) / ab (ld F)):=hf 4 Ab;clear hf
      obtain⟨a,e,ha⟩:=f4;have hc:=he.cells;go_simp
      (try go_ints);(try(rw[if_neg Aa]));(try(rw[if_pos Aa]));(try go_simp);(try go_ints)
      exact Br hR
     ·refine AY fun _ w' he R hR=>?_
      go_simp;exact hR _ _ ((Ext.refl _).alloc _) rfl (Bb.mk (Nat.le_trans Ac he.size) (by simp[Af]))
    case m1 =>
     exact⟨⟨⟨⟨⟨⟨⟨⟨⟨trivial,(fun γ wA w' e h=>h)⟩,(fun γ wA w' e h=>(show Bz wA (γ 1) (yi:Rat)from h).ext e)⟩,(fun γ wA w' e h=>(show Bz wA (γ 2) (ab (yi:Rat))from h).ext e)⟩,(fun γ wA w' e h=>h)⟩,(fun γ wA w' e h=>(show Kh wA (γ 4) (ab (yi:Rat) / ab (ld F))from h).ext e)⟩,(fun γ wA w' e h=>h)⟩,(fun γ w w' e h=>Bz.ext h e)⟩,(fun γ wA w' e h=>h)⟩,(fun γ wA w' e h=>(show Bb wA (γ 8) W7.heap.size #[.bool false,.slice none 0 0,.bool false,.slice none 0 0] 28 from h).ext e)⟩
    case l1 =>
     intro Pn hPs hPn;obtain rfl:=Gr hPs hPn;clear hPs hPn
     ·intro γ w8 hx8 hF hA
      clear hA;have p1:Bz w8 (γ 1) (yi:Rat):=(Ak.get hF 1 Ab).resolve_left Ab;have p2:Bz w8 (γ 2) (ab (yi:Rat)):=(Ak.get hF 2 Ab).resolve_left Ab;have p4:Kh w8 (γ 4) (ab (yi:Rat) / ab (ld F)):=(Ak.get hF 4 Ab).resolve_left Ab;have p6:Bz w8 (γ 6) (ab (yi:Rat) / ab (ld F)):=(Ak.get hF 6 Ab).resolve_left Ab;have p8:Bb w8 (γ 8) W7.heap.size #[.bool false,.slice none 0 0,.bool false,.slice none 0 0] 28:=(Ak.get hF 8 Ab).resolve_left Ab
      clear hF;show AV _ _ _ _ 3 [7] 9 _ _;simp only[Bg,Nat.reduceAdd,Co,SN];generalize γ 1=g1 at *;generalize γ 2=g2 at *;generalize γ 4=g4 at *;generalize γ 6=g6 at *;generalize γ 8=g8 at *;clear γ;obtain⟨a4,rfl,-⟩:=p4;obtain⟨gc,rfl,hgc,ec⟩:=p8;obtain⟨bx,Ax,nx',cx,by',Ay,ny,cy,rfl⟩:=p6.cells;clear ce6 ced p1 p2;have cec:=ec.cells4;have fec:=ec.frozen
      repeat' first
       | (refine AV.nil ?_;simp only[Gj];go_wp2;done)
       | (refine AV.nil ?_;(try simp only[Gj]);go_wp2)
       | (refine AV.mk _ ⟨?_,trivial⟩ (fun h=>?_)<;>first | exact absurd h Ab | ((try clear h);simp only[CX,Gj];go_wp2;first | show AV _ _ _ _ _ [7] _ _ _ | show AV _ _ _ _ _ [] _ _ _))
      all_goals
       skip;obtain⟨W9,eW,ec',U⟩:=ec.put4 (.bool bx) (.slice Ax nx' cx) (.bool by') (.slice Ay ny cy);rw[<-eW];clear eW ec;replace p6:=p6.kd U.kd;replace hx8:=U.from_ hx8 Aj;have ec:=ec';clear U ec'
       go_meet
       case rel=>exact⟨gc,rfl,rfl,DL.mk ec p6,hgc,hx8⟩
    intro γ w8 hx8 hF hA;clear hA;have p1:Bz w8 (γ 1) (yi:Rat):=Ak.get hF 1 Ab;have p2:Bz w8 (γ 2) (ab (yi:Rat)):=Ak.get hF 2 Ab;have p4:Kh w8 (γ 4) (ab (yi:Rat) / ab (ld F)):=Ak.get hF 4 Ab;have p6:Bz w8 (γ 6) (ab (yi:Rat) / ab (ld F)):=Ak.get hF 6 Ab;have p8:Bb w8 (γ 8) W7.heap.size #[.bool false,.slice none 0 0,.bool false,.slice none 0 0] 28:=Ak.get hF 8 Ab;clear hF;simp only[Bg,Nat.reduceAdd]
    generalize γ 1=g1 at *;generalize γ 2=g2 at *;generalize γ 4=g4 at *;generalize γ 6=g6 at *;generalize γ 8=g8 at *;clear γ;obtain⟨a4,rfl,-⟩:=p4;obtain⟨gc,rfl,hgc,ec⟩:=p8;obtain⟨bx,Ax,nx',cx,by',Ay,ny,cy,rfl⟩:=p6.cells;clear ce6 ced p1 p2;have cec:=ec.cells4;have fec:=ec.frozen;go_wp2;skip;obtain⟨W9,eW,ec',U⟩:=ec.put4 (.bool bx) (.slice Ax nx' cx) (.bool by') (.slice Ay ny cy);rw[<-eW];clear eW ec
    replace p6:=p6.kd U.kd;replace hx8:=U.from_ hx8 Aj;have ec:=ec';clear U ec'
    go_meet
    case rel=>exact⟨gc,rfl,rfl,DL.mk ec p6,hgc,hx8⟩
   case rest =>
   clear ce6 ced fe6 fed e6 ed hdq;obtain⟨gc,rfl,rfl,hcq,hgc,hx8⟩:=hcut;have hd:DL W7 gd 28 (ab (ld F)):=HDq.out;have hgl7:=hl.lt;have hgd7:=hd.lt;have hez7:=ez.lt;replace ez:=ez.ext hx8;replace hl:=hl.ext hx8;replace hd:=hd.ext hx8;replace hx:=hx.trans hx8;clear hx8;obtain⟨bx,Ax,nx',cx,by',Ay,ny,cy,ec,hcz⟩:=hcq;have hqq:qsz (ab (yi:Rat) / ab (ld F))<=4*s+4:=by
    have h1:=IK (ab (yi:Rat)) (ab (ld F));have h2:qsz (ld F)<=s:=hs _;rw[O9,O9]at h1;have:=HI.out.2.1;omega
   have HZ:=Ad (Ai (hcz.has Aa) hqq);clear hcz hqq;have cec:=ec.cells4;have fec:=ec.frozen
   go_upto_region 7 with(fail)
   refine CP 2 [37,38] [7] [_] [(kv ?_),(fun γ=>γ 1)] (fun γ w'=>[True,Bz w' (γ 1) ((1:Int):Rat)]) ?s2 ?_
   case s2 =>
    iterate 2 refine⟨?_,?_⟩
    trivial
    iterate 1 focus
     refine AY fun _ w' he R hR=>?_;have hc:=he.cells;have cq0:=(ec.ext he).cells4;go_simp;exact Br hR
    ·refine AY fun _ w' he R hR=>?_
     go_simp;exact Bf (XF 1 w' Aa Aa) hR
   intro γ w10 hx10 hF;have p1:Bz w10 (γ 1) ((1:Int):Rat):=Ak.get hF 1 Ab;clear hF;simp only[Bg,Nat.reduceAdd];generalize γ 1=g1 at *;clear γ
   go_wp2_with fail
   refine AB (V8 _ _ (ab (yi:Rat) / ab (ld F)) ((1:Int):Rat) _ (HZ.out.1.ext hx10) (p1.has Ab)) ?_;rintro r11 w11 hr11 hx11;obtain⟨bz,Az,nz,cz',bw,Aw,nw,cw,rfl⟩:=hr11.cells;have x1011:=hx10.trans hx11;clear p1 cec fec;replace ez:=ez.ext x1011;replace hl:=hl.ext x1011;replace hd:=hd.ext x1011;replace ec:=ec.ext x1011;replace hx:=hx.trans x1011;clear x1011;clear hx10 hx11;have cec:=ec.cells4;have fec:=ec.frozen
   go_upto_region 8 with(fail)
   obtain⟨W12,eW,ec',U⟩:=ec.put4 (.bool bz) (.slice Az nz cz') (.bool bw) (.slice Aw nw cw);rw[<-eW];clear eW ec;replace hr11:=hr11.kd U.kd;replace ez:=ez.upd U Aj;replace hl:=hl.upd U Aj;replace hd:=hd.upd U Aj;replace hx:=U.from_ hx Aj;have ec:=ec';clear U ec';obtain⟨bl,Al,nl,cl,bl',Al',nl',cl',el,hlz⟩:=hl;have hqx:qsz (ab (yi:Rat) / ab (ld F)+((1:Int):Rat))<=4*s+8:=by
    have h1:=EL (ab (yi:Rat) / ab (ld F)) ((1:Int):Rat);have h2:qsz (((1:Int):Rat))=1:=by decide
    have h3:=HZ.out.2;omega
   have hql:qsz (J5 F i+1)<=2*s+8:=by
    have h1:=EL (J5 F i) 1;have h2:qsz (1:Rat)=1:=by decide
    have h3:=MK hs (Nat.le_trans (Cz (F 0)) (hs 0)) i;omega
   have HX:=Ad (Ai (hr11.has Aa) (Ai (hlz.has Aa) (show qsz (ab (yi:Rat) / ab (ld F)+((1:Int):Rat))+qsz (J5 F i+1) < 274877906944 by omega)));clear hqx hql;have HR:=Ad (Ai hr11 hlz);clear hr11 hlz;have cec:=ec.cells4;have fec:=ec.frozen;have cel:=el.cells4;have fel:=el.frozen
   go_wp2_with fail
   refine AB (V7 _ _ _ _ _ HX.out.1 HX.out.2.1 HX.out.2.2) ?_;rintro r13 w13 rfl hx13;clear HX cec fec cel fel;have e13:ab (yi:Rat) / ab (ld F)+((1:Int):Rat) - (J5 F i+1)=ab (F i / ld F) - J5 F i:=by
    rw[Ye,HI.out.2.2];show _+(1:Rat) - _=_;grind
   rw[e13];have hnext:J5 F (i+1)=if J5 F i < ab (F i / ld F)then ab (F i / ld F)else J5 F i:=rfl;replace HR:=Ad (Ai (HR.out.1.ext hx13) (HR.out.2.ext hx13));replace ez:=ez.ext hx13;replace hd:=hd.ext hx13;replace ec:=ec.ext hx13;replace el:=el.ext hx13;replace hx:=hx.trans hx13;clear hx13;by_cases hgt:J5 F i < ab (F i / ld F)
   ·have hdec:decide (GJ (ab (F i / ld F) - J5 F i) > 0)=true:=by rw[Jf,decide_eq_true hgt]
    rw[if_pos hgt]at hnext;have cec:=ec.cells4;have fec:=ec.frozen;have cel:=el.cells4;have fel:=el.frozen
    go_upto_region 10 with(fail)
    have hr13:=HR.out.1;obtain⟨W14,eW,el',U⟩:=el.put4 (.bool bz) (.slice Az nz cz') (.bool bw) (.slice Aw nw cw);rw[<-eW];clear eW el;replace hr13:=hr13.kd U.kd;replace ez:=ez.upd U Aj;replace hd:=hd.upd U Aj;replace hx:=U.from_ hx Aj;have el:=el';clear U el';have hl:=DL.mk el hr13;rw[show ab (yi:Rat) / ab (ld F)+((1:Int):Rat)=J5 F (i+1)+1 from by rw[hnext,Ye,HI.out.2.2];rfl]at hl;clear hdec hnext HR HZ e13 hr13
    go_wp2
    go_roundw
    case rel=>exact⟨i+1,Aa,by go_num,hl,hd,ez,hx⟩
    case measure=>simp[intOf];omega
   ·have hdec:decide (GJ (ab (F i / ld F) - J5 F i) > 0)=false:=by rw[Jf,decide_eq_false hgt]
    rw[if_neg hgt]at hnext;have hl:=DL.mk el HR.out.2;rw[<-hnext]at hl;clear hnext HR HZ e13;go_wp2
    go_roundw
    case rel=>exact⟨i+1,Aa,by go_num,hl,hd,ez,hx⟩
    case measure=>simp[intOf];omega
  ·obtain rfl:i=N:=by omega
   have ez11:=ez.lt;have hql:qsz (J5 F i+1)<=2*s+8:=by
    have h1:=EL (J5 F i) 1;have h2:qsz (1:Rat)=1:=by decide
    have h3:=MK hs (Nat.le_trans (Cz (F 0)) (hs 0)) i;omega
   obtain⟨J,hJ,hJ9⟩:∃ J,P2 (J5 F i+1) J/\J<=32*(2*s+8)+1:=P2.qsz (by have:=Kl F i;grind) hql;have HJ:=Ad (Ai hJ (show qsz (J5 F i+1)<=3000000 by omega));clear hJ hql;have hJ8:J<=100000000:=by omega
   clear hJ9;obtain⟨rr,hrr⟩:∃ r,r=J5 F i+1:=⟨_,rfl⟩
   rw[<-hrr]at HJ hl;have Hrr:=Ad hrr;clear hrr hi hiN h0 hs hs9 zF fF hd HQ HA
   go_wp2_with fail
   refine AB (JR 1 _ Aa Aa) ?_;rintro r14 w14 hr14 hx14;obtain⟨b11,A11,n11,c11,rfl⟩:=hr14.cells;replace ez:=ez.ext hx14;replace hl:=hl.ext hx14;replace hx:=hx.trans hx14;clear hx14;obtain⟨W15,eW15,eo,y15⟩:=Bh.made w14 26 #[.bool b11,.slice A11 n11 c11] (by simp[Af]);have ho:=Bp.mk eo (hr14.kd y15.kd);have hgo:=hl.lt;replace ez:=ez.ext y15;replace hl:=hl.ext y15;replace hx:=hx.trans y15;clear y15;clear eo hr14
   go_wp2;rw[<-eW15];clear eW15;generalize w14.heap.size=go at *
   go_loopw [47] (fun _ wr=>∃ j:Nat,j<=J/\Bp wr go 26 (2^j)/\DL wr gl 28 rr/\Bh wr w.heap.size 26 #[.bool false,.slice none 0 0]/\Ext w wr) (fun _ wr=>2^(J+1) - mG wr go 26)
   case atStart=>exact⟨0,Aa,ho,hl,ez,hx⟩
   case round =>
    clear ho hl ez hx;obtain⟨j,hj,⟨b7,A7,n7,c7,eo,hoz⟩,⟨bl,Al,nl,cl,bl',Al',nl',cl',el,hlz⟩,ez,hx⟩:=hrel;have Hoz:=Ad (Ai hoz (Ai eo hlz));clear hoz hlz;have hgl3:=el.lt;have hgo3:=eo.lt;have hjz:sz ((2:Int)^j).natAbs<=1+j:=JD j;have Hjz:=Ad hjz;have hjq:qsz (((2:Int)^j:Int):Rat)<=1+j:=by rw[Bi];omega
    have HS:=Ad (Ai (show sz ((2:Int)^j).natAbs<=1099511627776 by omega) (Ai (show qsz (((2:Int)^j:Int):Rat)<=274877906944 by omega) (show qsz (((2:Int)^j:Int):Rat)+qsz rr < 274877906944 by have:=HJ.out.2;omega)));clear hjz hjq;have ceo:=eo.cells2;have feo:=eo.frozen;have cel:=el.cells4;have fel:=el.frozen
    go_upto_region 12 with(fail)
    refine CP 3 [47,48,49] [9,3] [_,_] [(kv ?_),(fun γ=>γ 1),(kv ?_)] (fun γ w'=>[True,Bz w' (γ 1) (((2:Int)^j:Int):Rat),True]) ?s3 ?_
    case s3 =>
     iterate 3 refine⟨?_,?_⟩
     trivial
     iterate 1 focus
      refine AY fun _ w' he R hR=>?_;have hc:=he.cells;have cq0:=(eo.ext he).cells2;have cq1:=(el.ext he).cells4;go_simp;exact Br hR
     ·refine AY fun _ w' he R hR=>?_
      go_simp;exact Bf (Iy _ _ w' ((Hoz.out.1.has HS.out.1).ext he)) hR
     iterate 1 focus
      refine AY fun _ w' he R hR=>?_;have hc:=he.cells;have cq0:=(eo.ext he).cells2;have cq1:=(el.ext he).cells4;go_simp;exact Br hR
    intro γ w16 hx16 hF;have p1:Bz w16 (γ 1) (((2:Int)^j:Int):Rat):=Ak.get hF 1 Ab;clear hF;simp only[Bg,Nat.reduceAdd];generalize γ 1=g1 at *;clear γ
    go_wp2_with fail
    refine AB (V7 _ _ _ rr _ (p1.has HS.out.2.1) ((Hoz.out.2.2.has (by have:=HJ.out.2;omega)).ext hx16) HS.out.2.2) ?_;rintro r17 w17 rfl hx17;generalize hm:GJ ((((2:Int)^j:Int):Rat) - rr)=m;have hm1:=Tk (p:=(((2:Int)^j:Int):Rat)) (q:=rr);rw[hm]at hm1;clear hm;have x1617:=hx16.trans hx17;have HO:=Ad (Ai (Hoz.out.1.ext x1617) (Hoz.out.2.2.ext x1617));clear p1 ceo feo cel fel;replace ez:=ez.ext x1617
    replace eo:=eo.ext x1617;replace el:=el.ext x1617;replace hx:=hx.trans x1617;clear x1617;clear hx16 hx17;have hl:=DL.mk el HO.out.2;by_cases hjJ:j < J
    ·rw[decide_eq_true (show(((2:Int)^j:Int):Rat)<=rr by have:=HJ.out.1.2 j hjJ;rw[KT];exact this)]at hm1
     have ceo:=eo.cells2;have feo:=eo.frozen
     go_wp2_with fail
     refine AB (Ow _ _ _ _ _ (HO.out.1.has HS.out.1) (HO.out.1.has HS.out.1)) ?_;rintro r18 w18 hr18 hx18;obtain⟨b8,A8,n8,c8,rfl⟩:=hr18.cells;clear ceo feo el;replace ez:=ez.ext hx18;replace eo:=eo.ext hx18;replace hl:=hl.ext hx18;replace hx:=hx.trans hx18;clear hx18;have ceo:=eo.cells2;have feo:=eo.frozen;go_wp2;obtain⟨W19,eW,eo',U⟩:=eo.put2 (.bool b8) (.slice A8 n8 c8);rw[<-eW];clear eW eo;replace hr18:=hr18.kd U.kd
     replace ez:=ez.upd U Aj;replace hl:=hl.upd U Aj;replace hx:=U.from_ hx Aj;have eo:=eo';clear U eo';rw[show(2:Int)^j+2^j=2^(j+1) by rw[Int.pow_succ];omega]at hr18;have ho:=Bp.mk eo hr18;have hb1:=QL ho;have hb2:=QL (Bp.mk Hoz.out.2.1 Hoz.out.1);have hpw:2^(j+1)<=2^J:=Nat.pow_le_pow_right Ab hjJ
     go_roundw
     case rel=>exact⟨j+1,hjJ,ho,hl,ez,hx⟩
     case measure =>
      rw[hb1,hb2];rw[Int.natAbs_pow,Int.natAbs_pow];show 2^(J+1) - 2^(j+1) < 2^(J+1) - 2^j;have h1:2^(J+1)=2*2^J:=Nat.pow_succ';have h2:2^(j+1)=2*2^j:=Nat.pow_succ';have h3:=Nat.two_pow_pos j;omega
    ·obtain rfl:j=J:=by omega
     rw[decide_eq_false (show ¬ (((2:Int)^j:Int):Rat)<=rr by have:=HJ.out.1.1;rw[KT];grind)]at hm1;have ceo:=eo.cells2;have feo:=eo.frozen;have cez:=ez.cells2;have fez:=ez.frozen
     go_upto_region 14 with(fail)
     have hr:=HO.out.1;go_wp2;obtain⟨W3,eW,ez',U⟩:=ez.put2 (.bool b7) (.slice A7 n7 c7);rw[<-eW];clear eW ez;replace hr:=hr.kd U.kd;replace hx:=U.from_ hx Aj;have ez:=ez';clear U ez';clear ceo feo cez fez;have cez:=ez.cells2;have fez:=ez.frozen;refine bodyPost_ret (v := .agg #[.bool b7,.slice A7 n7 c7]) (by simp[results,Tryz.results67,go_sem,cez]) rfl ?_;have hfin:=HJ.out.1;rw[Hrr.out]at hfin;exact Ag.mk ⟨j,by rw[HN.out];exact hfin,hr⟩ hx
theorem J7(v:Value)(F:Nat->Rat)(D M:Nat)(w:World)(hv:AC 0 w v F)(hR:Pg F D M):Bc 50 #[v] w (fun r w'=>Lu w.heap.size 23 w' r (Ba F)):=by
 obtain⟨S,n,M1,T,h1⟩:=hR.sim;obtain⟨S2,h2⟩:=hR.chn;exact bA v F (Ba F) S n M1 T S2 D M w hv h1 rfl h2
theorem YQ(v:Value)(F:Nat->Rat)(D M:Nat)(w:World)(hv:AC 0 w v F)(hR:Pg F D M):Bc 67 #[v] w (fun r w'=>AP w' r (2^bx F)):=
 Ag.imp (aO v F 1000 w hv hR.z hR.f hR.n0 hR.q Aa hR.pln) fun _ _ ⟨j,h1,h2⟩=>by rw[<-h1.bx];exact h2
theorem Xx(v:Value)(F:Nat->Rat)(D M:Nat)(w:World)(hv:AC 0 w v F)(hR:Pg F D M):Bc 52 #[v] w (fun r w'=>Ic w' r (-(2:Rat)^bx F) ((2:Rat)^bx F)):=by
 have hb:=fun X (x:Ext w X)=>YQ v F D M X (hv.ext x) hR;have hbx:=Uz hR.q;obtain⟨j,hj⟩:∃ j,j=bx F:=⟨_,rfl⟩
 rw[<-hj]at hb hbx ⊢;have hz:=JD j;have hq:=(TR j).1;obtain⟨A0,c0,rfl,-⟩:=hv.shape;have HC:=Ad (Ai hb (Ai (show sz ((2:Int)^j).natAbs<=1099511627776 by omega) (show qsz ((2:Rat)^j)<=274877906944 by omega)));clear hb hbx hj hz hq hv hR
 go_enter Tryz.func52,Tryz.ntmps52
 obtain⟨W1,eW1,ez,y1⟩:=Bh.made w 30 #[.bool false,.slice none 0 0,.bool false,.slice none 0 0,.bool false,.slice none 0 0,.bool false,.slice none 0 0] (by simp[Af])
 go_upto_region 1 with(fail)
 rw[<-eW1];clear eW1;have hx:=y1;clear y1
 go_wp2_with fail
 refine AB (HC.out.1 _ hx) ?_;rintro r2 w2 hr2 hx2;obtain⟨b5,A5,n5,c5,rfl⟩:=hr2.cells;have H2:=Ad (hr2.has HC.out.2.1);clear hr2;replace ez:=ez.ext hx2;replace hx:=hx.trans hx2;clear hx2
 go_wp2_with fail
 refine AB (Iy _ _ _ H2.out) ?_;rintro r3 w3 hr3 hx3;rw[KT]at hr3;obtain⟨b6,A6,n6,c6,b7,A7,n7,c7,rfl⟩:=hr3.cells;replace ez:=ez.ext hx3;replace hx:=hx.trans hx3;clear hx3;obtain⟨W4,eW4,eb,y4⟩:=Bh.made w3 28 #[.bool b6,.slice A6 n6 c6,.bool b7,.slice A7 n7 c7] (by simp[Af]);have hb4:=hr3.ext y4;have hgb:=ez.lt;replace ez:=ez.ext y4;replace hx:=hx.trans y4;clear y4;clear hr3 H2
 go_upto_region 2 with(fail)
 rw[<-eW4];clear eW4;generalize w3.heap.size=gb at *;have HB:=Ad (Ai hb4 (hb4.has HC.out.2.2));clear hb4;have ceb:=eb.cells4;have feb:=eb.frozen;refine CP 3 [7,8,9] [3] [_] [(kv ?_),(fun γ=>γ 1),(kv ?_)] (fun γ w'=>[True,Bz w' (γ 1) (-(2:Rat)^j),True]) ?s1 ?_
 case s1 =>
  iterate 3 refine⟨?_,?_⟩
  trivial
  iterate 1 focus
   refine AY fun _ w' he R hR=>?_;have hc:=he.cells;have cq0:=(eb.ext he).cells4;go_simp;exact Br hR
  ·refine AY fun _ w' he R hR=>?_
   go_simp;exact Bf (eH _ _ w' (HB.out.2.ext he)) hR
  iterate 1 focus
   refine AY fun _ w' he R hR=>?_;have hc:=he.cells;have cq0:=(eb.ext he).cells4;go_simp;exact Br hR
 intro γ w5 hx5 hF;have p1:Bz w5 (γ 1) (-(2:Rat)^j):=Ak.get hF 1 Ab;clear hF;simp only[Bg,Nat.reduceAdd];generalize γ 1=g1 at *;clear γ;obtain⟨b8,A8,n8,c8,b9,A9,n9,c9,rfl⟩:=p1.cells;have HF:=Ad (Ai p1 (HB.out.1.ext hx5));clear ceb feb p1;replace ez:=ez.ext hx5;replace hx:=hx.trans hx5;clear hx5;have p1:=HF.out.1;have p2:=HF.out.2;clear HF;have cez:=ez.cells8;have fez:=ez.frozen;go_wp2;obtain⟨W6,eW,ez',U⟩:=ez.put8 (.bool b8) (.slice A8 n8 c8) (.bool b9) (.slice A9 n9 c9) (.bool b6) (.slice A6 n6 c6) (.bool b7) (.slice A7 n7 c7)
 rw[<-eW];clear eW ez;replace p1:=p1.kd U.kd;replace p2:=p2.kd U.kd;replace hx:=U.from_ hx Aj;have ez:=ez';clear U ez';clear cez fez;have cez:=ez.cells8;have fez:=ez.frozen;refine bodyPost_ret (v := .agg #[.bool b8,.slice A8 n8 c8,.bool b9,.slice A9 n9 c9,.bool b6,.slice A6 n6 c6,.bool b7,.slice A7 n7 c7]) (by simp[results,Tryz.results52,go_sem,cez]) rfl ?_;exact Ag.mk ⟨_,_,_,_,_,_,_,_,_,_,_,_,_,_,_,_,rfl,p1,p2⟩ hx
theorem Y0(v u0:Value)(l:List Int)(p q:Rat)(D M t:Nat)(w:World)(hv:De 0 w v l)(hu0:Jb w u0 p q)(hn:l.length<=1000000)(hR:Ct (cz l)=0->Pg (cz l) D M)(hp:qsz p<=t)(hq:qsz q<=t)(ht:t<=10000000) :
  Bc 16 #[v,u0] w (fun r _=>K7 (cz l) p q r):=by
 have HV:=Ad (Ai hv (Ai hR (Ai hp hq)));obtain⟨A,c,rfl⟩:=hv.len;obtain⟨b1,B1,m1,k1,b2,B2,m2,k2,b3,B3,m3,k3,b4,B4,m4,k4,rfl,hi1,hi2⟩:=hu0;have hsg:=Jf (p:=p) (q:=q);have HI:=Ad (Ai hi1 (Ai hi2 (show qsz p+qsz q < 274877906944 by omega)));clear hv hR hi1 hi2;obtain⟨X0,hX0⟩:∃ X,X=rc (Ba (cz l)) p q:=⟨_,rfl⟩
 have HX0:=Ad hX0;clear hX0
 go_enter Tryz.func16,Tryz.ntmps16
 obtain⟨W1,eW1,eb,y1⟩:=Bh.made w 30 #[.bool b1,.slice B1 m1 k1,.bool b2,.slice B2 m2 k2,.bool b3,.slice B3 m3 k3,.bool b4,.slice B4 m4 k4] (by simp[Af])
 go_upto_region 1 with(fail)
 rw[<-eW1];clear eW1;have hx:=y1;clear y1
 go_wp2_with fail
 refine AB (SS _ l _ (HV.out.1.ext hx) hn) ?_;rintro r2 w2 ⟨u,rfl,hu1,hu2⟩ hx2;replace eb:=eb.ext hx2;replace hx:=hx.trans hx2;clear hx2;obtain⟨E,hE⟩:∃ E,E=Ct (cz l):=⟨_,rfl⟩
 have hc:=DV (cz l);rw[<-hE]at hu1 hu2 hc ⊢;have HE:=Ad hE;clear hE;have fin:E≠0->∀ {W:World},Ext w W->Ag w (fun r _=>K7 (cz l) p q r) (.returned (.tuple #[.int .i64 0,.int .i64 E])) W:=fun hne W h=>Ag.mk (by unfold K7;rw[<-HE.out,if_neg (fun z=>hne z.1),if_neg hne]) h;have Hfin:=Ad fin;clear fin;rcases hc with⟨-,hc⟩ | ⟨-,hc⟩ | ⟨h0,hpl,-,hc⟩
 ·subst hc
  clear hu1 hu2;go_wp2;refine bodyPost_ret (v := .tuple #[.int .i64 0,.int .i64 5]) (by simp[results,Tryz.results16,go_sem]) rfl ?_;exact Hfin.out Ab hx
 ·subst hc
  clear hu1 hu2;go_wp2;refine bodyPost_ret (v := .tuple #[.int .i64 0,.int .i64 7]) (by simp[results,Tryz.results16,go_sem]) rfl ?_;exact Hfin.out Ab hx
 subst hc;have hR:=HV.out.2.1 HE.out.symm;have hu:=hu1 rfl;obtain⟨A1,c1,rfl,-⟩:=hu.shape;have HU:=Ad (Ai hu hR);clear hu1 hu2 hR h0 hu;have h22:=Ext.refl w2;have ceb:=eb.cells8;have feb:=eb.frozen
 go_wp2_with fail
 refine AB (V7 _ _ p q _ (HI.out.1.ext hx) (HI.out.2.1.ext hx) HI.out.2.2) ?_;rintro r3 w3 rfl hx3;clear ceb feb;replace eb:=eb.ext hx3;replace hx:=hx.trans hx3;replace h22:=h22.trans hx3;clear hx3;generalize GJ (p - q)=m at *;by_cases hqp:q < p
 ·rw[decide_eq_true hqp]at hsg
  have HF:=Ad (show K7 (cz l) p q (.tuple #[.int .i64 0,.int .i64 2]) by unfold K7;rw[<-HE.out,if_neg (fun z=>by have:=z.2;grind),if_pos rfl,if_neg Ah]);go_wp2;refine bodyPost_ret (v := .tuple #[.int .i64 0,.int .i64 2]) (by simp[results,Tryz.results16,go_sem]) rfl ?_;exact Ag.mk HF.out hx
 rw[decide_eq_false hqp]at hsg;have HW:=Ad (HU.out.1.ext h22);have ceb:=eb.cells8;have feb:=eb.frozen
 go_upto_region 6 with(fail)
 refine CP 6 [21,22,23,24,25,26] [0,3] [_,_] [(kv ?_),(fun γ=>γ 1),(kv ?_),(kv ?_),(kv ?_),(kv ?_)] (fun γ w'=>[True,Lu 0 23 w' (γ 1) (Ba (cz l)),True,True,True,True]) ?s1 ?_
 case s1 =>
  iterate 6 refine⟨?_,?_⟩
  trivial
  iterate 1 focus
   refine AY fun _ w' he R hR=>?_;have hc:=he.cells;go_simp;exact Br hR
  ·refine AY fun _ w' he R hR=>?_
   go_simp;exact Bf (F:=fun r w''=>Lu 0 23 w'' (r) (Ba (cz l))) (Ag.imp (J7 _ (cz l) D M w' (HW.out.ext he) HU.out.2) fun _ _ h=>h.lower (Nat.zero_le _)) hR
  iterate 4 focus
   refine AY fun _ w' he R hR=>?_;have hc:=he.cells;have cq0:=(eb.ext he).cells8;go_simp;exact Br hR
 intro γ w5 hx5 hF;have p1:Lu 0 23 w5 (γ 1) (Ba (cz l)):=Ak.get hF 1 Ab;clear hF;simp only[Bg,Nat.reduceAdd];generalize γ 1=g1 at *;clear γ;have HP1:=Ad p1;obtain⟨cA,cn,cc,rfl⟩:=p1.cell;have hlim:=HU.out.2.lim;have hin:Bc 51 #[.agg #[.slice cA cn cc],.agg #[.bool b1,.slice B1 m1 k1,.bool b2,.slice B2 m2 k2],.agg #[.bool b3,.slice B3 m3 k3,.bool b4,.slice B4 m4 k4]] w5 (fun r _=>r = .int .i64 X0):=by
  obtain⟨S,hC⟩:=HU.out.2.chn;have h9:D*(M+t+1)<=900*(M+t+1):=Nat.mul_le_mul_right _ hlim.2;have:=Xf _ _ _ (Ba (cz l)) p q 0 S D M t (kn (Ba (cz l))) w5 HP1.out (HI.out.1.ext (hx.trans hx5)) (HI.out.2.1.ext (hx.trans hx5)) hC HU.out.2.k HV.out.2.2.1 HV.out.2.2.2 Aa;have e:((V (EH (Ba (cz l)) (pd (Ba (cz l))) (kn (Ba (cz l)))) p:Nat):Int) - (V (EH (Ba (cz l)) (pd (Ba (cz l))) (kn (Ba (cz l)))) q:Nat)=X0:=by
   rw[HX0.out];exact GI HU.out.2.k _ _
  rw[e]at this;exact this
 have HIN:=Ad hin;clear hin p1
 go_wp2_with fail
 refine AB HIN.out ?_;rintro r6 w6 rfl hx6;have hx7:=(hx.trans hx5).trans hx6;clear hx5 hx6;have HF:=Ad (show K7 (cz l) p q (.tuple #[.int .i64 X0,.int .i64 0]) by unfold K7;rw[<-HE.out,if_pos ⟨rfl,Ah⟩,if_pos rfl,if_pos Ah,HX0.out]);go_wp2;refine bodyPost_ret (v := .tuple #[.int .i64 X0,.int .i64 0]) (by simp[results,Tryz.results16,go_sem]) rfl ?_;exact Ag.mk HF.out hx7
theorem Ou(v:Value)(l:List Int)(D M N:Nat)(w:World)(hv:De 0 w v l)(hn:l.length<=1000000)(hR:Ct (cz l)=0->Pg (cz l) D M)
  (hdeep:Ct (cz l)=0->∀ d p q,Hp.Node (-(2:Rat)^bx (cz l)) ((2:Rat)^bx (cz l)) d p q->N<=d->rc (Ba (cz l)) p q<=1) (hN:N<=1000000000) (hD:D<=30) :
  Bc 25 #[v] w (fun r w'=>YM w.heap.size 30 (cz l) N r w'):=by
 have HV:=Ad (Ai hv (Ai hR hdeep));obtain⟨A,c,rfl⟩:=hv.len;clear hv hR hdeep
 go_enter Tryz.func25,Tryz.ntmps25
 go_wp2_with fail
 refine AB (SS _ l _ HV.out.1 hn) ?_;rintro r2 w2 ⟨u,rfl,hu1,hu2⟩ hx;obtain⟨E,hE⟩:∃ E,E=Ct (cz l):=⟨_,rfl⟩
 have hc:=DV (cz l);rw[<-hE]at hu1 hu2 hc ⊢;have HE:=Ad hE;clear hE;have fin:E≠0->∀ {W:World},Ext w W->Ag w (fun r w'=>YM w.heap.size 30 (cz l) N r w') (.returned (.tuple #[.slice none 0 0,.int .i64 E])) W:=fun hne W h=>Ag.mk ⟨_,by rw[<-HE.out],fun e=>absurd (HE.out.trans e) hne,fun _=>rfl⟩ h;have Hfin:=Ad fin;clear fin;rcases hc with⟨-,hc⟩ | ⟨-,hc⟩ | ⟨h0,hpl,-,hc⟩
 ·subst hc
  clear hu1 hu2;go_wp2;refine bodyPost_ret (v := .tuple #[.slice none 0 0,.int .i64 5]) (by simp[results,Tryz.results25,go_sem]) rfl ?_;exact Hfin.out Ab hx
 ·subst hc
  clear hu1 hu2;go_wp2;refine bodyPost_ret (v := .tuple #[.slice none 0 0,.int .i64 7]) (by simp[results,Tryz.results25,go_sem]) rfl ?_;exact Hfin.out Ab hx
 subst hc;have hR:=HV.out.2.1 HE.out.symm;have hu:=hu1 rfl;obtain⟨A1,c1,rfl,-⟩:=hu.shape;have HU:=Ad (Ai hu hR);clear hu1 hu2 hR h0 hu
 go_wp2_with fail
 refine AB (J7 _ (cz l) D M _ HU.out.1 HU.out.2) ?_;rintro r3 w3 hr3 hx3;have hsz3:=hx3.size;have hszx:=hx.size;obtain⟨cA,cn,cc,rfl⟩:=hr3.cell;have HU3:=Ad (HU.out.1.ext hx3);have HC:=Ad hr3;replace hx:=hx.trans hx3;clear hx3;clear hr3
 go_wp2_with fail
 refine AB (Xx _ (cz l) D M _ HU3.out HU.out.2) ?_;rintro r4 w4 hr4 hx4;have hsz4:=hx4.size;obtain⟨b1,B1,m1,k1,b2,B2,m2,k2,b3,B3,m3,k3,b4,B4,m4,k4,rfl⟩:=hr4.cells;have HI:=Ad hr4;have HX4:=Ad (hx.trans hx4);clear hr4;have hcall:Calls Tryz.prog 64 #[.agg #[.slice cA cn cc],.slice none 0 0,.agg #[.bool b1,.slice B1 m1 k1,.bool b2,.slice B2 m2 k2,.bool b3,.slice B3 m3 k3,.bool b4,.slice B4 m4 k4]] w4
   (TT w3.heap.size 30 w4 (.slice none 0 0) ([] ++ iso (rc (Ba (cz l))) N (-(2:Rat)^bx (cz l)) ((2:Rat)^bx (cz l)))):=by
  obtain⟨S,hC⟩:=HU.out.2.chn;have hbx:=Uz HU.out.2.q;have hqj:=TR (bx (cz l));have hM:=HU.out.2.lim.1;have hpos:=Ce (bx (cz l));have hPQ : -(2:Rat)^bx (cz l) < (2:Rat)^bx (cz l):=by grind
  have hsf:=HU.out.2.sf;have h9:D*(M+(3*100000+N+4)+1)<=30*(M+(3*100000+N+4)+1):=Nat.mul_le_mul_right _ hD;have hdp:=HV.out.2.2 HE.out.symm;have hnodes:=Po hsf hPQ hdp N 0 _ _ (Hp.Node.root _ _) Aa;have hlen:(iso (rc (Ba (cz l))) N (-(2:Rat)^bx (cz l)) ((2:Rat)^bx (cz l))).length<=1000:=by
   have h1:=hnodes.2.1;have h2:rc (Ba (cz l)) (-(2:Rat)^bx (cz l)) ((2:Rat)^bx (cz l))<=1000:=by
    rw[<-GI HU.out.2.k];unfold rts;have h3:=Wp (EH (Ba (cz l)) (pd (Ba (cz l))) (kn (Ba (cz l)))) (-(2:Rat)^bx (cz l));rw[CL]at h3;obtain⟨K0,q1,q2⟩:=Fq hC.f (BR hC.f) hC.z (Dn hC.z) hC.s hC.d;rw[q1.uniq HU.out.2.k]at q2;have:=hC.e;omega
   omega
  exact VF w3 _ (Ba (cz l)) _ _ _ S D M (kn (Ba (cz l))) N 100000 HC.out hC HU.out.2.k hPQ Aa Aa hdp (fun d p q hn=>hsf.nonneg (Std.le_of_lt (hn.within hPQ).2.1)) Aa
   N 0 _ _ _ _ [] w4 (Hp.Node.root _ _) Aa Aa hx4 (HI.out.has Aa Aa) (EY.nil _ _ _) (by simpa using hlen)
 have HK:=Ad hcall;clear hcall
 go_wp2_with fail
 refine Calls.mono HK.out ?_;rintro e w5 ⟨r5,rfl,hown,U,-⟩;have hx5:Ext w w5:=U.from_ HX4.out (fun g hg=>by simp[blk,Value.ownBlock]at hg);have HF:=Ad (show YM w.heap.size 30 (cz l) N (.tuple #[r5,.int .i64 0]) w5 from⟨r5,by rw[<-HE.out],fun _=>EY.lower hown Aa,fun e=>absurd HE.out.symm e⟩);clear hown U hx hx4;go_wp2;refine bodyPost_ret (v := .tuple #[r5,.int .i64 0]) (by simp[results,Tryz.results25,go_sem]) rfl ?_
 exact Ag.mk HF.out hx5
theorem Yl(v u:Value)(F:Nat->Rat)(p q:Rat)(D M t k base:Nat)(w:World)(hR:Pg F D M)(hD:D<=20)(hp:qsz p<=t)(hq:qsz q<=t)(ht:3*t+k<=4500000000)(hv:Lu base 23 w v (Ba F))(hu:Jb w u (Cc (rc (Ba F)) p q k).1 (Cc (rc (Ba F)) p q k).2) :
  Bc 81 #[v,u] w (fun r w'=>Jb w' r (Cc (rc (Ba F)) p q (k+1)).1 (Cc (rc (Ba F)) p q (k+1)).2):=by
 obtain⟨S,hC⟩:=hR.chn;have hM:=hR.lim.1;obtain⟨z1,z2,z3⟩:=IB (R:=rc (Ba F)) hp hq k;have hm:D*(M+(3*t+k+5)+1)<=20*(M+(3*t+k+5)+1):=Nat.mul_le_mul_right _ hD;refine Ag.imp (fZ v u (Ba F) _ _ base S D M (3*t+k+5) (kn (Ba F)) w hv hu hC hR.k Aa Aa z3 Aa) fun r w' h=>?_;rw[GI hR.k]at h;show Jb w' r (hfp _ _).1 (hfp _ _).2;unfold hfp
 split at h
 ·rename_i h1;rw[if_pos h1];exact h
 ·rename_i h1;rw[if_neg h1];exact h
theorem fT(v u:Value)(F:Nat->Rat)(p q:Rat)(D M t base:Nat)(w:World)(hR:Pg F D M)(hD:D<=20)(hp:qsz p<=t)(hq:qsz q<=t)(ht:t<=4500000000)(hv:Lu base 23 w v (Ba F))(hu:Jb w u p q) :
  Bc 80 #[v,u] w (fun r _=>r = .bool (decide (p < q/\rc (Ba F) p q=1))):=by
 obtain⟨S,hC⟩:=hR.chn;have hM:=hR.lim.1;have hm:D*(M+t+1)<=20*(M+t+1):=Nat.mul_le_mul_right _ hD;refine Ag.imp (kP v u (Ba F) p q base S D M t (kn (Ba F)) w hv hu hC hR.k hp hq Aa) fun r w' h=>?_;rw[h,GI hR.k];congr 1;by_cases h1:p < q<;>by_cases h2:rc (Ba F) p q=1<;>simp[h1,h2]
set_option maxRecDepth 20000 in
theorem mP(v:Value)(ns:List Int)(w:World)(hv:UI w v ns)(hn:ns.length<=1000)(hs:∀ n∈ns,-4294967296 < n/\n < 4294967296):Bc 21 #[v] w (fun r w'=>Mo w.heap.size w' r ns):=by
 obtain⟨g,c,rfl,h1,h2,h3⟩:=hv;have H3:=Ad (Ai h3 hs);clear h3 hs
 go_enter Tryz.func21,Tryz.ntmps21
 go_wp2
 go_loopw [3,4] (fun ov iv wr=>∃ (k:Nat),k<=ns.length/\iv = .int .i64 k/\CK w.heap.size 26 wr ov (ns.take k)/\Ext w wr) (fun _ iv _=>ns.length - (intOf iv).toNat)
 case atStart=>exact⟨0,Nat.zero_le _,rfl,BJ.nil _ _ _ _ _,Ext.refl _⟩
 case round =>
  obtain⟨k,hk,rfl,hown,hx⟩:=hrel;have Hown0:=Ad hown;clear hown;by_cases hkl:k < ns.length
  ·have q0:=hx.cell (H3.out.1 k hkl)
   obtain⟨m,hm⟩:∃ m,m=ns[k]:=⟨_,rfl⟩
   rw[<-hm]at q0;have hb:=H3.out.2 ns[k] (List.getElem_mem hkl);rw[<-hm]at hb;have Hm:=Ad hm;clear hm
   go_wp2_with fail
   refine AB (mX m _ hb.1 hb.2) ?_;rintro r w2 hr hx2;obtain⟨b5,A5,n5,c5,rfl⟩:=hr.cells;have Hr:=Ad hr;clear hr;have hown:=Hown0.out.ext hx2;have Hown:=Ad hown;clear hown;replace hx:=hx.trans hx2;have hsz:=hx.size;have hlk:(ns.take k).length<=1000:=Nat.le_trans (List.length_take_le _ _) Aa;clear hx2 q0 Hown0
   go_wp2_with (at_builtin;refine Av rfl _ _ 22 rfl u3 (.slice (some ⟨w2.heap.size,0,none⟩) 1 1) rfl rfl (FR w2 w.heap.size _ _ _ _ _ Hown.out Hr.out (by first | (rw[AX];omega) | omega) hsz rfl) ?_)
   first | intro v' w5 hown U | rintro v' w5 ⟨hown,U⟩
   replace hx:=(Hown.out.ext ((Ext.refl w2).alloc _)).from_ U (hx.alloc _) (Nat.le_refl _);have Hown':=Ad hown;clear hown U;go_wp2
   go_roundw
   case rel=>exact⟨k+1,Aa,by go_num,by
    rw[List.take_succ_eq_append_getElem hkl,<-Hm.out];exact Hown'.out,hx⟩
   case measure=>simp[intOf]<;>omega
  ·obtain rfl:k=ns.length:=by omega
   have hq:=CK.row Hown0.out;rw[List.take_of_length_le (Nat.le_refl _)]at hq;have Hq:=Ad hq;clear hq Hown0;go_wp2
   go_ret
   exact Ag.mk Hq.out hx
theorem SY(x y:Int)(w:World)(h1 : -4294967296 < x/\x < 4294967296)(h2 : -4294967296 < y/\y < 4294967296):Bc 45 #[.int .i64 x,.int .i64 y] w (fun r w'=>Ic w' r (x:Rat) (y:Rat)):=by
 go_enter Tryz.func45,Tryz.ntmps45
 obtain⟨W1,eW1,ez,y1⟩:=Bh.made w 30 #[.bool false,.slice none 0 0,.bool false,.slice none 0 0,.bool false,.slice none 0 0,.bool false,.slice none 0 0] (by simp[Af])
 go_upto_region 1 with(fail)
 rw[<-eW1];clear eW1;have hx:=y1;clear y1
 go_wp2_with fail
 refine AB (nI x _ Aa Aa) ?_;rintro r2 w2 hr2 hx2;obtain⟨b5,A5,n5,c5,b6,A6,n6,c6,rfl⟩:=hr2.cells;have H2:=Ad hr2;clear hr2;have hgz:=ez.lt;replace ez:=ez.ext hx2;replace hx:=hx.trans hx2;clear hx2
 go_wp2_with fail
 refine AB (nI y _ Aa Aa) ?_;rintro r3 w3 hr3 hx3;obtain⟨b7,A7,n7,c7,b8,A8,n8,c8,rfl⟩:=hr3.cells;have p1:=H2.out.ext hx3;replace ez:=ez.ext hx3;replace hx:=hx.trans hx3;clear hx3;have cez:=ez.cells8;have fez:=ez.frozen;go_wp2;obtain⟨W6,eW,ez',U⟩:=ez.put8 (.bool b5) (.slice A5 n5 c5) (.bool b6) (.slice A6 n6 c6) (.bool b7) (.slice A7 n7 c7) (.bool b8) (.slice A8 n8 c8);rw[<-eW];clear eW ez;replace p1:=p1.kd U.kd
 replace hr3:=hr3.kd U.kd;replace hx:=U.from_ hx Aj;have ez:=ez';clear U ez';clear cez fez;have cez:=ez.cells8;have fez:=ez.frozen;refine bodyPost_ret (v := .agg #[.bool b5,.slice A5 n5 c5,.bool b6,.slice A6 n6 c6,.bool b7,.slice A7 n7 c7,.bool b8,.slice A8 n8 c8]) (by simp[results,Tryz.results45,go_sem,cez]) rfl ?_;exact Ag.mk ⟨_,_,_,_,_,_,_,_,_,_,_,_,_,_,_,_,rfl,p1,hr3⟩ hx
theorem Va(v u:Value)(p q p' q':Rat)(w:World)(hv:Ic w v p q)(hu:Ic w u p' q'):Bc 33 #[v,u] w (fun r _=>r = .bool (decide (p=p'/\q=q'))):=by
 obtain⟨b1,A1,n1,c1,b2,A2,n2,c2,b3,A3,n3,c3,b4,A4,n4,c4,rfl,i1,i2⟩:=hv;obtain⟨d1,B1,m1,k1,d2,B2,m2,k2,d3,B3,m3,k3,d4,B4,m4,k4,rfl,j1,j2⟩:=hu;have H:=Ad (Ai i1 (Ai i2 (Ai j1 j2)));clear i1 i2 j1 j2
 go_enter Tryz.func33,Tryz.ntmps33
 obtain⟨W1,eW1,ea,y1⟩:=Bh.made w 30 #[.bool b1,.slice A1 n1 c1,.bool b2,.slice A2 n2 c2,.bool b3,.slice A3 n3 c3,.bool b4,.slice A4 n4 c4] (by simp[Af]);obtain⟨W2,eW2,eb,y2⟩:=Bh.made W1 30 #[.bool d1,.slice B1 m1 k1,.bool d2,.slice B2 m2 k2,.bool d3,.slice B3 m3 k3,.bool d4,.slice B4 m4 k4] (by simp[Af]);have s1:W1.heap.size=w.heap.size+1:=by rw[eW1,World.size_alloc]
 rw[s1]at eb;have hx:=y1.trans y2;replace ea:=ea.ext y2
 go_upto_region 1 with(fail)
 rw[<-eW1,<-eW2];clear eW1 eW2 y1 y2 s1;have cea:=ea.cells8;have fea:=ea.frozen;have ceb:=eb.cells8;have feb:=eb.frozen
 go_wp2_with fail
 refine AB (UZ _ _ p p' _ (H.out.1.ext hx) (H.out.2.2.1.ext hx)) ?_;rintro r3 w3 rfl hx3;clear cea fea ceb feb;replace ea:=ea.ext hx3;replace eb:=eb.ext hx3;replace hx:=hx.trans hx3;clear hx3;by_cases hp:p=p'
 ·have hd:decide (p=p')=true:=decide_eq_true hp
  have hq:decide (p=p'/\q=q')=decide (q=q'):=by simp[hp]
  have HQ:=Ad hq;clear hq;rw[hd];have HP:=Ad hp;clear hp;have cea:=ea.cells8;have fea:=ea.frozen;have ceb:=eb.cells8;have feb:=eb.frozen
  go_wp2_with fail
  refine AB (UZ _ _ q q' _ (H.out.2.1.ext hx) (H.out.2.2.2.ext hx)) ?_;rintro r4 w4 rfl hx4;generalize decide (q=q')=bb at *;go_wp2
  go_ret
  exact Ag.mk (show Value.bool bb = .bool (decide (p=p'/\q=q'))from by rw[HQ.out]) (hx.trans hx4)
 ·have hd:decide (p=p')=false:=decide_eq_false hp
  have hq:decide (p=p'/\q=q')=false:=decide_eq_false fun z=>hp z.1;have HQ:=Ad hq;clear hq;rw[hd];clear hp;go_wp2
  go_ret
  exact Ag.mk (show Value.bool false = .bool (decide (p=p'/\q=q'))from by rw[HQ.out]) hx
set_option maxRecDepth 20000 in
theorem XA(w:World):Bc 12 #[] w (fun r _=>r = .bool true):=by
 have K1:=Ad (show ∀ x∈([-2,0,1]:List Int),sz x.natAbs<=1 by decide +kernel);have hcnt:∀ X v u,De 0 X v [-2,0,1]->Jb X u 0 2->Bc 16 #[v,u] X (fun r _=>r = .tuple #[.int .i64 1,.int .i64 0]):=fun X v u hv hu=>by
  refine Ag.imp (Y0 v u [-2,0,1] 0 2 _ 32768 10 X hv hu Ab (fun _=>Gs.pg) (by decide +kernel) (by decide +kernel) Ab) fun r _ h=>?_;rw[h,Gs.err,Yg,eZ.1,if_pos ⟨rfl,by decide +kernel⟩,if_pos rfl,if_pos (by decide +kernel)]
 have hiso:∀ X v,De 0 X v [-2,0,1]->Bc 25 #[v] X (fun r w'=>∃ c,r = .tuple #[c,.int .i64 0]/\EY 0 30 w' c [(-4,0),(0,4)]):=fun X v hv=>by
  obtain⟨N,h1,h2⟩:∃ N,700000000<=N+1/\N+1<=1000000000:=⟨800000000,Aa,Aa⟩
  refine Ag.imp (Ou v [-2,0,1] _ 32768 (N+1) X hv Ab (fun _=>Gs.pg) (fun _ d p q hn hd=>Gs.deep d p q hn Aa) h2 (by have:=Gs.chn.2;omega)) fun r w' ⟨c,e1,e2,_⟩=>?_;rw[Gs.err]at e1;have:=e2 Gs.err;rw[gB]at this;exact⟨c,e1,this.lower (Nat.zero_le _)⟩
 have HC:=Ad (Ai hcnt hiso);clear hcnt hiso
 go_enter Tryz.func12,Tryz.ntmps12
 go_wp2_with fail
 refine AB (mP _ [-2,0,1] _ (UI.new w _ [-2,0,1] Ab) Ab Ab) ?_;rintro r1 w1 h1 hx;have H1:=Ad (h1.has (fun x hx=>by have:=K1.out x hx;omega));clear h1;replace hx:=hx.a1
 go_wp2_with fail
 refine AB (SY 0 2 _ Aa Aa) ?_;rintro r2 w2 hr2 hx2;have H2:=Ad (Ai (H1.out.ext hx2) (show Jb w2 r2 0 2 from hr2.has (by decide +kernel) (by decide +kernel)));clear hr2 H1;replace hx:=hx.trans hx2;clear hx2
 go_wp2_with fail
 refine AB (HC.out.1 _ _ _ H2.out.1 H2.out.2) ?_;rintro r3 w3 rfl hx3;have H3:=Ad (H2.out.1.ext hx3);clear H2;replace hx:=hx.trans hx3;clear hx3
 go_wp2_with fail
 refine AB (HC.out.2 _ _ H3.out) ?_;rintro r4 w4 ⟨c4,rfl,hown⟩ hx4;replace hx:=hx.trans hx4;clear hx4;obtain⟨A,c,rfl⟩:=hown.len;obtain⟨g,o,b1,A1,n1,c1,b2,A2,n2,c2,b3,A3,n3,c3,b4,A4,n4,c4,rfl,q0,q1,q2,q3,q4,q5,q6,q7,hi0⟩:=hown.at_ (j:=0) Ab;obtain⟨g',o',d1,B1,m1,k1,d2,B2,m2,k2,d3,B3,m3,k3,d4,B4,m4,k4,e1,s0,s1,s2,s3,s4,s5,s6,s7,hi1⟩:=hown.at_ (j:=1) Ab;cases e1;have HI:=Ad (Ai (show Ic w4 _ (-4) 0 from hi0) (show Ic w4 _ 0 4 from hi1));clear hi0 hi1 hown H3
 rw[Nat.zero_mul,Nat.add_zero]at q0 q1 q2 q3 q4 q5 q6 q7;rw[Nat.one_mul]at s0 s1 s2 s3 s4 s5 s6 s7;have hl2:([(-4,0),(0,4)]:List (Rat×Rat)).length=2:=rfl;rw[hl2];clear hl2
 go_upto_region 4 with(fail)
 refine CP 27 [19,20,21,22,23,24,25,26,27,28,29,30,31,32,33,34,35,36,37,38,39,40,41,42,43,44,45] [3,2,5,4] [_,_,_,_] [(kv ?_),(kv ?_),(kv ?_),(kv ?_),(kv ?_),(kv ?_),(kv ?_),(kv ?_),(kv ?_),(kv ?_),(kv ?_),(kv ?_),(kv ?_),(kv ?_),(kv ?_),(kv ?_),(kv ?_),(kv ?_),(kv ?_),(fun γ=>γ 19),(kv (.bool true)),(kv ?_),(kv ?_),(kv ?_),(kv ?_),(kv ?_),(fun γ=>γ 26)] (fun γ w'=>[True,True,True,True,True,True,True,True,True,True,True,True,True,True,True,True,True,True,True,Ic w' (γ 19) (-4) 0,True,True,True,True,True,True,Ic w' (γ 26) 0 4]) ?s1 ?_
 case s1 =>
  iterate 27 refine⟨?_,?_⟩
  trivial
  iterate 3 focus
   refine AY fun _ w' he R hR=>?_;have hc:=he.cells;go_simp;(try go_ints);(try(rw[if_neg Aa]));(try(rw[if_pos Aa]));(try go_simp);(try go_ints)
   exact Br hR
  iterate 2 focus
   intro γ w' he hf;clear hf;refine⟨by trivial,?_⟩;intro R hR;have hc:=he.cells;go_simp;(try go_ints);(try(rw[if_neg Aa]));(try(rw[if_pos Aa]));(try go_simp);(try go_ints)
   exact Br hR
  iterate 2 focus
   refine AY fun _ w' he R hR=>?_;have hc:=he.cells;go_simp;(try go_ints);(try(rw[if_neg Aa]));(try(rw[if_pos Aa]));(try go_simp);(try go_ints)
   exact Br hR
  iterate 2 focus
   intro γ w' he hf;clear hf;refine⟨by trivial,?_⟩;intro R hR;have hc:=he.cells;go_simp;(try go_ints);(try(rw[if_neg Aa]));(try(rw[if_pos Aa]));(try go_simp);(try go_ints)
   exact Br hR
  iterate 2 focus
   refine AY fun _ w' he R hR=>?_;have hc:=he.cells;go_simp;(try go_ints);(try(rw[if_neg Aa]));(try(rw[if_pos Aa]));(try go_simp);(try go_ints)
   exact Br hR
  iterate 3 focus
   intro γ w' he hf;clear hf;refine⟨by trivial,?_⟩;intro R hR;have hc:=he.cells;go_simp;(try go_ints);(try(rw[if_neg Aa]));(try(rw[if_pos Aa]));(try go_simp);(try go_ints)
   exact Br hR
  iterate 2 focus
   refine AY fun _ w' he R hR=>?_;have hc:=he.cells;go_simp;(try go_ints);(try(rw[if_neg Aa]));(try(rw[if_pos Aa]));(try go_simp);(try go_ints)
   exact Br hR
  iterate 3 focus
   intro γ w' he hf;clear hf;refine⟨by trivial,?_⟩;intro R hR;have hc:=he.cells;have cq0:=he.cell q0;have cq1:=he.cell q1;have cq2:=he.cell q2;have cq3:=he.cell q3;have cq4:=he.cell q4;have cq5:=he.cell q5;have cq6:=he.cell q6;have cq7:=he.cell q7;have cq8:=he.cell s0;have cq9:=he.cell s1;have cq10:=he.cell s2;have cq11:=he.cell s3;have cq12:=he.cell s4;have cq13:=he.cell s5;have cq14:=he.cell s6;have cq15:=he.cell s7
   go_simp;(try go_ints);(try(rw[if_neg Aa]));(try(rw[if_pos Aa]));(try go_simp);(try go_ints)
   exact Br hR
  ·intro γ w' he hf;clear hf;refine⟨rfl,?_⟩;intro R hR
   go_simp;exact Bf (SY (-4) 0 w' Aa Aa) hR
  ·intro γ w' he hf;have f19:Ic w' (γ 19) (-4) 0:=hf 19 Ab;clear hf;refine⟨rfl,?_⟩;intro R hR
   go_simp;exact LW (Ag.imp (Va _ _ (-4) 0 (-4) 0 w' (HI.out.1.ext he) f19) fun _ _ h=>h) hR
  iterate 2 focus
   refine AY fun _ w' he R hR=>?_;have hc:=he.cells;go_simp;(try go_ints);(try(rw[if_neg Aa]));(try(rw[if_pos Aa]));(try go_simp);(try go_ints)
   exact Br hR
  iterate 3 focus
   intro γ w' he hf;clear hf;refine⟨by trivial,?_⟩;intro R hR;have hc:=he.cells;have cq0:=he.cell q0;have cq1:=he.cell q1;have cq2:=he.cell q2;have cq3:=he.cell q3;have cq4:=he.cell q4;have cq5:=he.cell q5;have cq6:=he.cell q6;have cq7:=he.cell q7;have cq8:=he.cell s0;have cq9:=he.cell s1;have cq10:=he.cell s2;have cq11:=he.cell s3;have cq12:=he.cell s4;have cq13:=he.cell s5;have cq14:=he.cell s6;have cq15:=he.cell s7
   go_simp;(try go_ints);(try(rw[if_neg Aa]));(try(rw[if_pos Aa]));(try go_simp);(try go_ints)
   exact Br hR
  ·intro γ w' he hf;clear hf;refine⟨rfl,?_⟩;intro R hR
   go_simp;exact Bf (SY 0 4 w' Aa Aa) hR
 intro γ w5 hx5 hF;have p19:Ic w5 (γ 19) (-4) 0:=Ak.get hF 19 Ab;have p26:Ic w5 (γ 26) 0 4:=Ak.get hF 26 Ab;clear hF;simp only[Bg,Nat.reduceAdd];generalize γ 19=g19 at *;generalize γ 26=g26 at *;clear γ;have H5:=Ad (Ai (HI.out.2.ext hx5) p26);clear p19 p26 q0 q1 q2 q3 q4 q5 q6 q7 s0 s1 s2 s3 s4 s5 s6 s7
 go_wp2_with fail
 refine AB (Va _ _ 0 4 0 4 _ H5.out.1 H5.out.2) ?_;rintro r6 w6 rfl hx6;have hx7:=(hx.trans hx5).trans hx6;have hd:decide ((0:Rat)=0/\(4:Rat)=4)=true:=decide_eq_true ⟨rfl,rfl⟩;rw[hd];clear hx hx5 hx6 hd;go_wp2
 go_ret
 exact Ag.mk rfl hx7
set_option maxRecDepth 20000 in
theorem bN(g c:Nat)(vs:List (Value×List Int))(w:World)(hn:vs.length<=1000)(hc:vs.length<=c)(hv:NL w g vs) :
  Bc 13 #[.slice (some ⟨g,0,none⟩) vs.length c] w (fun r _=>gI vs r):=by
 have HV:=Ad hv;clear hv
 go_enter Tryz.func13,Tryz.ntmps13
 go_wp2
 go_loopw [3] (fun iv wr=>∃ i:Nat,i<=vs.length/\iv = .int .i64 (i:Nat)/\(∀ j (h:j < vs.length),j < i->Ii vs[j].2)/\Ext w wr) (fun iv _=>vs.length - (intOf iv).toNat)
 case atStart=>exact⟨0,Nat.zero_le _,rfl,fun j h h'=>Aa,Ext.refl _⟩
 case round =>
  obtain⟨i,hi,rfl,hst,hx⟩:=hrel;have Hst:=Ad hst;clear hst;by_cases hil:i < vs.length
  ·obtain⟨q0,hp⟩:=HV.out i hil
   obtain⟨A1,c1,e1⟩:=hp.len;rw[e1]at q0 hp;obtain⟨l,hl⟩:∃ l,l=vs[i].2:=⟨_,rfl⟩
   rw[<-hl]at q0 hp;have Hl:=Ad (Ai hl hp);clear hl hp e1;have q:=hx.cell q0;by_cases hlong:12 < l.length
   ·skip
    go_wp2
    go_ret
    exact Ag.mk ⟨false,rfl,fun h=>by cases h⟩ hx
   ·have hd:∀ X,Ext w X->Bc 15 #[.slice A1 l.length c1] X (fun r _=>r = .int .i64 ((pl (cz l):Int) - 1)):=fun X x=>Ee _ l X (Hl.out.2.ext x) Aa
    have HD:=Ad hd;clear hd;have hpl:pl (cz l)<=l.length:=Bj (BG l)
    go_wp2_with fail
    refine AB (HD.out _ hx) ?_;rintro r2 w2 rfl hx2;replace hx:=hx.trans hx2;have q:=hx.cell q0;clear hx2;by_cases hdeg:7 < pl (cz l)
    ·skip
     go_wp2
     go_ret
     exact Ag.mk ⟨false,rfl,fun h=>by cases h⟩ hx
    ·go_wp2
     go_loopw [4] (fun kv wk=>∃ k:Nat,k<=l.length/\kv = .int .i64 (k:Nat)/\(∀ j,j < k->(cz l j).num.natAbs<=4095)/\Ext w wk) (fun kv _=>l.length - (intOf kv).toNat)
     case atStart=>exact⟨0,Nat.zero_le _,rfl,fun j h=>Aa,hx⟩
     case round =>
      clear hx q;obtain⟨k,hk,rfl,hsm,hx⟩:=hrel;have Hsm:=Ad hsm;clear hsm;have q:=hx.cell q0;by_cases hkl:k < l.length
      ·obtain⟨g',o',b1,B1,m1,d1,e3,-,r0,r1,hz⟩:=(Hl.out.2.ext hx).at_ hkl
       cases e3;obtain⟨y,hy⟩:∃ y,y=l[k]:=⟨_,rfl⟩
       rw[<-hy]at hz;have Hy:=Ad (Ai hz (show cz l k=(y:Rat) by rw[Cn hkl,hy]));clear hz hy
       go_wp2_with fail
       refine AB (XQ _ y _ Hy.out.1) ?_;rintro r3 w3 ⟨b,rfl,hbl⟩ hx3;have HB:=Ad hbl;clear hbl r0 r1 q;replace hx:=hx.trans hx3;have q:=hx.cell q0;clear hx3;by_cases hb:12 < b
       ·skip
        go_wp2
        go_ret
        exact Ag.mk ⟨false,rfl,fun h=>by cases h⟩ hx
       ·go_wp2
        go_roundw
        case rel=>exact⟨k+1,Aa,by go_num,fun j h1=>by
         rcases Nat.lt_or_ge j k with h | h
         ·exact Hsm.out j h
         ·obtain rfl:j=k:=by omega
          rw[Hy.out.2];have h2:=HB.out.1;have h3:2^b<=2^12:=Nat.pow_le_pow_right Ab Aa;show y.natAbs<=4095;omega,hx⟩
        case measure=>simp[intOf]<;>omega
      ·obtain rfl:k=l.length:=by omega
       go_wp2
       go_roundw
       case rel=>exact⟨i+1,Aa,by go_num,fun j h1 h2=>by
        rcases Nat.lt_or_ge j i with h | h
        ·exact Hst.out j h1 h
        ·obtain rfl:j=i:=by omega
         rw[<-Hl.out.1];exact⟨Aa,Aa,fun i=>by
          rcases Nat.lt_or_ge i l.length with h | h
          ·exact Hsm.out i h
          ·rw[IP h];decide⟩,hx⟩
       case measure=>simp[intOf]<;>omega
  ·obtain rfl:i=vs.length:=by omega
   go_wp2
   go_ret
   exact Ag.mk ⟨true,rfl,fun _ p hp=>by
    obtain⟨j,hj,rfl⟩:=List.getElem_of_mem hp;exact Hst.out j hj hj⟩ hx
open Go.Deep Go.ChangeShapes Go.ChangeAt
theorem XZ{H:Type}(d:DataW H):1<=Rows.uptoBulk d:=by
 cases d with
 | lit l=>cases l<;>simp[Rows.uptoBulk]
 | nil=>simp[Rows.uptoBulk]
 | ptr d=>simp[Rows.uptoBulk]
 | slice elems spare=>simp[Rows.uptoBulk]
 | agg parts=>simp[Rows.uptoBulk]
 | iface t d=>simp[Rows.uptoBulk]
 | map entries=>simp[Rows.uptoBulk]
 | held h=>simp[Rows.uptoBulk]
theorem I5{H:Type}{d:DataW H}{l:List (DataW H)}(h:d∈l):Rows.uptoBulk d<=Rows.uptoBulkAll l:=by
 induction l with
 | nil=>cases h
 | cons x r ih =>
  simp only[Rows.uptoBulkAll];cases List.mem_cons.1 h with
  | inl e=>subst e;omega
  | inr e=>have:=ih e;omega
theorem RI{H:Type}(l:List (DataW H)):l.length<=Rows.uptoBulkAll l:=by
 induction l with
 | nil=>simp[Rows.uptoBulkAll]
 | cons x r ih=>have:=XZ x;simp only[Rows.uptoBulkAll,List.length_cons];omega
section
variable{H:Type}{enc:TypeId×Value->H}{w:World}{spare:Nat->Bool}{held:Bool}
theorem U0{fuel:Nat}{cs:List Value}{x:DataW H×List MemPlace}(h:DataW.trod enc Tryz.prog w 0 spare held fuel 24 cs=some x):∃ A n c,cs=[.slice A n c]/\n<=Rows.uptoBulk x.1:=by
 rcases open_ints Tryz.underlying24 Tryz.underlying113 EQ h with⟨rfl,_⟩ | ⟨a,n,c,zs,rfl,_,hl,hm,hz,rfl,hcell,hwz⟩
 ·exact⟨none,0,0,rfl,Aa⟩
 ·have hzl:n<=zs.length:=by rw[hz];split<;>omega
  refine⟨some a,n,c,rfl,?_⟩;have h1:=RI (H:=H) (lits .u32 (zs.take n));have h2:(lits (H:=H) .u32 (zs.take n)).length=n:=by simp[lits];omega
  simp only[Rows.uptoBulk];omega
set_option maxRecDepth 100000 in
theorem Ud{fuel:Nat}{cs:List Value}{x:DataW H×List MemPlace}(h:DataW.trod enc Tryz.prog w 0 spare held fuel 26 cs=some x):∃ b A n c,cs=[b,.slice A n c]/\n<=Rows.uptoBulk x.1:=by
 obtain⟨y0,y1,n,rfl,hl,h0,h1⟩:=trod_struct2 Tryz.underlying26 h;rw[show Tryz.prog.cellsOf 26=2 from by kernel_rfl]at hl
 match cs,hl with
 | [c0,c1],_ =>
  rw[show Tryz.prog.cellsOf 24=1 from by kernel_rfl]at h1;obtain⟨A,m,c,e1,hd⟩:=U0 h1;simp at e1;subst e1;refine⟨c0,A,m,c,rfl,?_⟩;have:=I5 (d:=y1.1) (l:=[y0.1,y1.1]) Ac;simp only[Rows.uptoBulk];omega
set_option maxRecDepth 100000 in
theorem LA{T fuel:Nat}{v:Value}{x:DataW H×List MemPlace}(hT:Tryz.prog.underlying T=some (.slice 26))(h:DataW.trod enc Tryz.prog w 0 spare held fuel T v.cells.toList=some x)(hv:∃ a n c,v = .slice a n c){l:List Kj}(hp:Dx w v l)(hb:Rows.uptoBulk x.1<=1048576):K8 l:=by
 obtain⟨a0,n0,c0,rfl⟩:=hv;obtain⟨A,cc,e1,g2,g3,g4⟩:=hp;rcases open_slice hT h with⟨hcs,_⟩ | ⟨a,n,c,m,k,D,Pl,hcs,_,hl,hm,hmm,rfl,hel⟩
 ·simp[Value.cells]at hcs
  obtain⟨rfl,rfl,rfl⟩:=hcs;have hl0:l=[]:=by injection e1 with _ h2 _;exact List.eq_nil_of_length_eq_zero h2.symm
  subst hl0;exact⟨Ac,fun x hx=>by simp at hx⟩
 ·simp[Value.cells]at hcs
  obtain⟨rfl,rfl,rfl⟩:=hcs;have hnl:n0=l.length:=by injection e1
  have hAa:A=some a:=by injection e1 with h1;exact h1.symm
  have hnm:n0<=m:=by rw[hmm];split<;>omega
  rw[show Tryz.prog.cellsOf 26=2 from by kernel_rfl]at hel;simp only[Rows.uptoBulk]at hb;have hlen:=RI (H:=H) ((List.range n0).map D);simp only[List.length_map,List.length_range]at hlen;refine⟨Aa,fun r hr=>?_⟩;obtain⟨j,hj,rfl⟩:=List.getElem_of_mem hr;obtain⟨g,o,hA2,_,hc⟩:=g4 Aa;obtain⟨cs,q1,q2,q3⟩:=hc j hj;obtain⟨cs',h1,h2⟩:=hel j Aa;obtain⟨_,h5,h6⟩:=World.cells?_some h1;rw[hAa]at hA2;injection hA2 with hA2
  subst hA2;have hD:=I5 (d:=D j) (l:=(List.range n0).map D) (List.mem_map.2 ⟨j,List.mem_range.2 Aa,rfl⟩);obtain⟨b,A1,m1,c1,rfl,k1⟩:=Ud h2;obtain⟨s,eq,B1,d1,e2,dv⟩:=q3;subst e2;obtain rfl:=Ue eq;have t1:=q2 1 Aa;have u1:=h6 1 Aa;rw[Lt,Lt]at u1;rw[t1]at u1;simp at u1;have k1':m1<=Rows.uptoBulk (D j):=k1;omega
end
variable{H:Type}{enc:TypeId×Value->H}{w:World}{spare:Nat->Bool}{held:Bool}
end Go.Proofs.YtmhgnigpmompmaaGreat
namespace Go.Proofs.YtmhgnigpmompmaaGreat
open Go.RowKit Go.Hp
set_option maxRecDepth 20000 in
theorem VS(u z:Value)(l:List Int)(p q:Rat)(n T:Nat)(w:World)(hu:De 0 w u l)(hz:Jb w z p q)(hS:SF (Ba (cz l)))(hpq:p < q)(h1:rc (Ba (cz l)) p q=1)(hs:∀ k,k<=n->qsz (Cc (rc (Ba (cz l))) p q k).1<=T/\qsz (Cc (rc (Ba (cz l))) p q k).2<=T/\qsz (((Cc (rc (Ba (cz l))) p q k).1+(Cc (rc (Ba (cz l))) p q k).2) / 2)<=T)(hT:T<=100000000000)(hn9:n<=1000000)
  (hcf:∀ X,Ext w X->∀ z P Q,Jb X z P Q->qsz P<=T->qsz Q<=T->Bc 18 #[u,z] X (fun r _=>r = .int .i64 (if Q<=P then 0 else rc (Ba (cz l)) P Q))) :
  Bc 35 #[u,z,.int .i64 (n:Nat)] w (fun r w'=>Ic w' r (Cc (rc (Ba (cz l))) p q n).1 (Cc (rc (Ba (cz l))) p q n).2):=by
 obtain⟨A,c,rfl⟩:=hu.len;obtain⟨b1,B1,m1,k1,b2,B2,m2,k2,b3,B3,m3,k3,b4,B4,m4,k4,rfl,hi1,hi2⟩:=hz;have HI:=Ad (Ai hi1 (Ai hi2 (Ai hcf (Ai hS (Ai hpq (Ai h1 hs))))));clear hu hi1 hi2 hcf hS hpq h1 hs
 go_enter Tryz.func35,Tryz.ntmps35
 obtain⟨W1,eW1,eb,y1⟩:=Bh.made w 30 #[.bool b1,.slice B1 m1 k1,.bool b2,.slice B2 m2 k2,.bool b3,.slice B3 m3 k3,.bool b4,.slice B4 m4 k4] (by simp[Af]);obtain⟨W2,eW2,ez,y2⟩:=Bh.made W1 30 #[.bool false,.slice none 0 0,.bool false,.slice none 0 0,.bool false,.slice none 0 0,.bool false,.slice none 0 0] (by simp[Af]);have hs1:W1.heap.size=w.heap.size+1:=by rw[eW1];simp
 rw[hs1]at ez;replace eb:=eb.ext y2;have hx:=y1.trans y2
 go_upto_region 1 with(fail)
 rw[<-eW1,<-eW2];clear y1 y2 eW1 eW2 hs1;have ceb:=eb.cells8;have feb:=eb.frozen;have hgz:=ez.lt
 go_wp2_with fail
 refine CP 8 [9,10,11,12,13,14,15,7] [4] [_] [(kv ?_),(kv ?_),(fun γ=>γ 2),(kv ?_),(kv ?_),(fun γ=>γ 5),(fun γ=>γ 6),(fun γ=>γ 7)] (fun γ w'=>[True,True,Bz w' (γ 2) p,True,True,Bz w' (γ 5) q,Ic w' (γ 6) p q,Bb w' (γ 7) W2.heap.size #[.bool false,.slice none 0 0,.bool false,.slice none 0 0,.bool false,.slice none 0 0,.bool false,.slice none 0 0] 30]) ?s1 ?_
 case s1 =>
  iterate 8 refine⟨?_,?_⟩
  trivial
  iterate 2 focus
   refine AY fun _ w' he R hR=>?_;have hc:=he.cells;have cq0:=(eb.ext he).cells8;go_simp;exact Br hR
  ·refine AY fun _ w' he R hR=>?_
   go_simp;exact Bf (DI _ p w' (HI.out.1.ext (hx.trans he))) hR
  iterate 2 focus
   refine AY fun _ w' he R hR=>?_;have hc:=he.cells;have cq0:=(eb.ext he).cells8;go_simp;exact Br hR
  ·refine AY fun _ w' he R hR=>?_
   go_simp;exact Bf (DI _ q w' (HI.out.2.1.ext (hx.trans he))) hR
  ·refine EF fun γ w' he hf R hR=>?_;have f2:Bz w' (γ 2) p:=hf 2 Ab;have f5:Bz w' (γ 5) q:=hf 5 Ab;clear hf
   obtain⟨d1,D1,e1,g1,d2,D2,e2,g2,h2⟩:=f2.cells;obtain⟨d3,D3,e3,g3,d4,D4,e4,g4,h5⟩:=f5.cells;go_simp;exact hR _ _ (Ext.refl _) rfl ⟨_,_,_,_,_,_,_,_,_,_,_,_,_,_,_,_,rfl,h2▸f2,h5▸f5⟩
  ·refine AY fun _ w' he R hR=>?_
   go_simp;exact hR _ _ ((Ext.refl _).alloc _) rfl (Bb.mk (Nat.le_trans Ac he.size) (by simp[Af]))
 intro γ w3 hx3 hF;have p2:Bz w3 (γ 2) p:=Ak.get hF 2 Ab;have p5:Bz w3 (γ 5) q:=Ak.get hF 5 Ab;have p6:Ic w3 (γ 6) p q:=Ak.get hF 6 Ab;have p7:Bb w3 (γ 7) W2.heap.size #[.bool false,.slice none 0 0,.bool false,.slice none 0 0,.bool false,.slice none 0 0,.bool false,.slice none 0 0] 30:=Ak.get hF 7 Ab;clear hF;simp only[Bg,Nat.reduceAdd];generalize γ 2=g2 at *;generalize γ 5=g5 at *;generalize γ 6=g6 at *
 generalize γ 7=g7 at *;clear γ;obtain⟨g1,G1,e5,f5,g2,G2,e6,f6,g3,G3,e7,f7,g4,G4,e8,f8,rfl,j1,j2⟩:=p6;obtain⟨g9,rfl,hg9,e9⟩:=p7;clear ceb feb p2 p5 eb;replace ez:=ez.ext hx3;replace hx:=hx.trans hx3;clear hx3;have ce9:=e9.cells8;have fe9:=e9.frozen;go_wp2;obtain⟨W4,eW,e9',U⟩:=e9.put8 (.bool g1) (.slice G1 e5 f5) (.bool g2) (.slice G2 e6 f6) (.bool g3) (.slice G3 e7 f7) (.bool g4) (.slice G4 e8 f8)
 rw[<-eW];clear eW e9;replace j1:=j1.kd U.kd;replace j2:=j2.kd U.kd;replace ez:=ez.upd U Aj;replace hx:=U.from_ hx Aj;have e9:=e9';clear U e9';clear ce9 fe9;have hbx:kS W4 g9 30 (Cc (rc (Ba (cz l))) p q 0).1 (Cc (rc (Ba (cz l))) p q 0).2:=⟨_,_,_,_,_,_,_,_,_,_,_,_,_,_,_,_,e9,j1,j2⟩
 clear e9 j1 j2;go_wp2
 go_loopw [8] (fun iv wr=>∃ k:Nat,k<=n/\iv = .int .i64 (k:Nat)/\kS wr g9 30 (Cc (rc (Ba (cz l))) p q k).1 (Cc (rc (Ba (cz l))) p q k).2/\Bh wr (w.heap.size+1) 30 #[.bool false,.slice none 0 0,.bool false,.slice none 0 0,.bool false,.slice none 0 0,.bool false,.slice none 0 0]/\Ext w wr) (fun iv _=>n - (intOf iv).toNat)
 case atStart=>exact⟨0,Aa,rfl,hbx,ez,hx⟩
 case round =>
  clear hbx ez hx;obtain⟨k,hk,rfl,⟨d1,D1,e1,f1,d2,D2,e2,f2,d3,D3,e3,f3,d4,D4,e4,f4,e9,j1,j2⟩,ez,hx⟩:=hrel;by_cases hkn:k < n
  ·have z1:=HI.out.2.2.2.2.2.2 k hk
   have hw:=((CF (rc (Ba (cz l))) p q k).within HI.out.2.2.2.2.1).2.1;have hone:=KG HI.out.2.2.2.1 HI.out.2.2.2.2.1 HI.out.2.2.2.2.2.1 k;obtain⟨P2,hP2⟩:∃ P,P=Cc (rc (Ba (cz l))) p q (k+1):=⟨_,rfl⟩
   obtain⟨P,hP⟩:∃ P,P=Cc (rc (Ba (cz l))) p q k:=⟨_,rfl⟩
   have hPP:P2=hfp (rc (Ba (cz l))) P:=by rw[hP2,hP];rfl
   rw[<-hP]at j1 j2 z1 hw hone;have hlow:=Yk HI.out.2.2.2.1 hw hone;obtain⟨m,hm⟩:∃ m,m=(P.1+P.2) / 2:=⟨_,rfl⟩
   have hml:¬ m<=P.1:=by rw[hm];grind
   rw[<-hm]at hlow z1;obtain⟨X,hX⟩:∃ X,X=rc (Ba (cz l)) P.1 m:=⟨_,rfl⟩
   rw[<-hX]at hlow;have hhalf:∀ Y,Ext wr Y->∀ up,Bc 78 #[.agg #[.bool d1,.slice D1 e1 f1,.bool d2,.slice D2 e2 f2,.bool d3,.slice D3 e3 f3,.bool d4,.slice D4 e4 f4],.bool up] Y (fun r w'=>Ic w' r (if up=true then m else P.1) (if up=true then P.2 else m)):=fun Y y up=>by
    rw[hm];exact aG _ up P.1 P.2 T Y ⟨_,_,_,_,_,_,_,_,_,_,_,_,_,_,_,_,rfl,(j1.ext y).has Aa,(j2.ext y).has Aa⟩ Aa Aa Aa
   have hcnt:∀ Y,Ext wr Y->∀ v,Ic Y v P.1 m->Bc 18 #[.slice A l.length c,v] Y (fun r _=>r = .int .i64 X):=fun Y y v hv=>by
    have:=HI.out.2.2.1 Y (hx.trans y) v P.1 m (hv.has Aa Aa) Aa Aa;rw[if_neg hml,<-hX]at this;exact this
   have HC:=Ad (Ai hhalf (Ai hcnt (Ai hPP (Ai hP2 (Ai hm hX)))));clear hhalf hcnt hPP hP2 hm hX z1 hw hone hml j1 j2 hP;have ce9:=e9.cells8;have fe9:=e9.frozen
   go_wp2_with fail
   refine CP 6 [21,22,23,24,25,26] [7,0] [_,_] [(kv ?_),(kv ?_),(kv ?_),(fun γ=>γ 3),(kv (.int .i64 X)),(kv ?_)] (fun γ w'=>[True,True,True,Ic w' (γ 3) P.1 m,True,True]) ?s2 ?_
   case s2 =>
    iterate 6 refine⟨?_,?_⟩
    trivial
    iterate 3 focus
     refine AY fun _ w' he R hR=>?_;have hc:=he.cells;have cq0:=(e9.ext he).cells8;go_simp;exact Br hR
    ·refine AY fun _ w' he R hR=>?_
     have h9:=HC.out.1 w' he false;go_simp;refine AB h9 ?_;rintro v w2 hv hx;exact⟨v,rfl,hR v w2 hx rfl hv⟩
    ·refine EF fun γ w' he hf R hR=>?_;have f3:Ic w' (γ 3) P.1 m:=hf 3 Ab;clear hf
     go_simp;exact LW (HC.out.2.1 w' he _ f3) hR
    iterate 1 focus
     refine AY fun _ w' he R hR=>?_;have hc:=he.cells;go_simp;(try go_ints);(try(rw[if_neg Aa]));(try(rw[if_pos Aa]));(try go_simp);(try go_ints)
     exact Br hR
   intro γ w6 hx6 hF;have p3:Ic w6 (γ 3) P.1 m:=Ak.get hF 3 Ab;clear hF;simp only[Bg,Nat.reduceAdd];generalize γ 3=g3 at *;clear γ;clear p3 ce9 fe9;have hnext:∃ up:Bool,(X==0)=up/\(if up=true then m else P.1)=P2.1/\(if up=true then P.2 else m)=P2.2:=by
    rw[HC.out.2.2.1];unfold hfp;rw[<-HC.out.2.2.2.2.1,<-HC.out.2.2.2.2.2];rcases hlow with e | e
    ·rw[e];exact⟨true,rfl,rfl,rfl⟩
    ·rw[e];exact⟨false,rfl,rfl,rfl⟩
   obtain⟨up,hup,hn1,hn2⟩:=hnext;have hh:=HC.out.1 _ hx6 up;rw[hn1,hn2]at hh;have HH:=Ad hh;clear hh hn1 hn2 hlow;rw[hup]
   go_wp2_with fail
   refine AB HH.out ?_;rintro r7 w7 ⟨g1,G1,e5,f5,g2,G2,e6,f6,g3,G3,e7,f7,g4,G4,e8,f8,rfl,j1,j2⟩ hx7;have hx67:=hx6.trans hx7;clear hx6 hx7 hup;replace e9:=e9.ext hx67;replace ez:=ez.ext hx67;replace hx:=hx.trans hx67;clear hx67;have ce9:=e9.cells8;have fe9:=e9.frozen;go_wp2;obtain⟨W8,eW,e9',U⟩:=e9.put8 (.bool g1) (.slice G1 e5 f5) (.bool g2) (.slice G2 e6 f6) (.bool g3) (.slice G3 e7 f7) (.bool g4) (.slice G4 e8 f8)
   rw[<-eW];clear eW e9;replace j1:=j1.kd U.kd;replace j2:=j2.kd U.kd;replace ez:=ez.upd U Aj;replace hx:=U.from_ hx Aj;have e9:=e9';clear U e9';clear ce9 fe9
   go_roundw
   case rel=>exact⟨k+1,Aa,by go_num,by rw[<-HC.out.2.2.2.1];exact⟨_,_,_,_,_,_,_,_,_,_,_,_,_,_,_,_,e9,j1,j2⟩,ez,hx⟩
   case measure=>simp[intOf];omega
  ·obtain rfl:k=n:=by omega
   have ce9:=e9.cells8;have fe9:=e9.frozen;have cez:=ez.cells8;have fez:=ez.frozen;go_wp2;obtain⟨W9,eW,ez',U⟩:=ez.put8 (.bool d1) (.slice D1 e1 f1) (.bool d2) (.slice D2 e2 f2) (.bool d3) (.slice D3 e3 f3) (.bool d4) (.slice D4 e4 f4);rw[<-eW];clear eW ez;replace j1:=j1.kd U.kd;replace j2:=j2.kd U.kd;replace hx:=U.from_ hx Aj;have ez:=ez';clear U ez';clear cez fez;have cez:=ez.cells8;have fez:=ez.frozen
   refine bodyPost_ret (v := .agg #[.bool d1,.slice D1 e1 f1,.bool d2,.slice D2 e2 f2,.bool d3,.slice D3 e3 f3,.bool d4,.slice D4 e4 f4]) (by simp[results,Tryz.results35,go_sem,cez]) rfl ?_;exact Ag.mk ⟨_,_,_,_,_,_,_,_,_,_,_,_,_,_,_,_,rfl,j1,j2⟩ hx
theorem dR(v a b:Value)(F:Nat->Rat)(p q:Rat)(D M t base:Nat)(w:World)(hR:Pg F D M)(hD:D<=20)(hp:qsz p<=t)(hq:qsz q<=t)(ht:t<=4500000000)(hv:Lu base 23 w v (Ba F))(ha:BC w a p)(hb:BC w b q) :
  Bc 51 #[v,a,b] w (fun r _=>r = .int .i64 (rc (Ba F) p q)):=by
 obtain⟨S,hC⟩:=hR.chn;have hM:=hR.lim.1;have hm:D*(M+t+1)<=20*(M+t+1):=Nat.mul_le_mul_right _ hD;have:=Xf v a b (Ba F) p q base S D M t (kn (Ba F)) w hv ha hb hC hR.k hp hq Aa;rw[show((V (EH (Ba F) (pd (Ba F)) (kn (Ba F))) p:Nat):Int) - (V (EH (Ba F) (pd (Ba F)) (kn (Ba F))) q:Nat)=rc (Ba F) p q from GI hR.k p q]at this;exact this
set_option maxRecDepth 20000 in
theorem Wh(v u i0:Value)(m l:List Int)(p q:Rat)(t:Nat)(w:World)(hv:De 0 w v m)(hu:De 0 w u l)(hi:Jb w i0 p q)(hm:m.length<=1000000)(hl:l.length<=1000000)
  (hF:Ct (cz l)=0->Rm (cz l)) (hG:Ct (cz m)=0->Rm (cz m)) (hC:Ct (cz l)=0->Ct (cz m)=0->Rm (D7 (cz l) (cz m)))
  (hgcd:Ct (cz l)=0->Ct (cz m)=0->∀ X a b,AC 0 X a (cz l)->AC 0 X b (cz m)->Bc 42 #[a,b] X (fun r w'=>AC 0 w' r (D7 (cz l) (cz m))))
  (hK:Ct (cz l)=0->Ct (cz m)=0->p < q->rc (Ba (cz l)) p q=1->rc (Ba (D7 (cz l) (cz m))) p q≠1->∃ K,K<=1000001000/\rc (Ba (cz m)) (Cc (rc (Ba (cz l))) p q K).1 (Cc (rc (Ba (cz l))) p q K).2=0/\∀ j,j < K->rc (Ba (cz m)) (Cc (rc (Ba (cz l))) p q j).1 (Cc (rc (Ba (cz l))) p q j).2≠0)
  (hp:qsz p<=t) (hq:qsz q<=t) (ht:t<=1000000000) :
  Bc 40 #[v,u,i0] w (fun r _=>kK (cz l) (cz m) p q r):=by
 have HV:=Ad (Ai hv hu);have HH:=Ad (Ai hF (Ai hG (Ai hC (Ai hgcd hK))));have HP:=Ad (Ai hp hq);obtain⟨A,c,rfl⟩:=hv.len;obtain⟨A',c',rfl⟩:=hu.len;obtain⟨b1,B1,m1,k1,b2,B2,m2,k2,b3,B3,m3,k3,b4,B4,m4,k4,rfl,hi1,hi2⟩:=hi;have HI:=Ad (Ai hi1 hi2);clear hv hu hF hG hC hgcd hK hi1 hi2 hp hq
 go_enter Tryz.func40,Tryz.ntmps40
 obtain⟨W1,eW1,eb,y1⟩:=Bh.made w 30 #[.bool b1,.slice B1 m1 k1,.bool b2,.slice B2 m2 k2,.bool b3,.slice B3 m3 k3,.bool b4,.slice B4 m4 k4] (by simp[Af]);have hx:=y1
 go_upto_region 1 with(fail)
 rw[<-eW1];clear y1 eW1
 go_wp2_with fail
 refine AB (SS _ l _ (HV.out.2.ext hx) hl) ?_;rintro r2 w2 ⟨u,rfl,hu1,hu2⟩ hx2;replace eb:=eb.ext hx2;replace hx:=hx.trans hx2;clear hx2;have hgb:=eb.lt;obtain⟨E,hE⟩:∃ E,E=Ct (cz l):=⟨_,rfl⟩
 have hc:=DV (cz l);rw[<-hE]at hu1 hu2 hc ⊢;have HE:=Ad hE;clear hE;rcases hc with⟨-,hc⟩ | ⟨-,hc⟩ | ⟨h0,hpl,-,hc⟩
 ·subst hc
  clear hu1 hu2;go_wp2;refine bodyPost_ret (v := .tuple #[.int .i64 0,.int .i64 5]) (by simp[results,Tryz.results40,go_sem]) rfl ?_;exact Ag.mk ⟨0,5,rfl,fun _=>rfl,fun e=>absurd e Ab,by rw[<-HE.out];rw[if_pos Ab]⟩ hx
 ·subst hc
  clear hu1 hu2;go_wp2;refine bodyPost_ret (v := .tuple #[.int .i64 0,.int .i64 7]) (by simp[results,Tryz.results40,go_sem]) rfl ?_;exact Ag.mk ⟨0,7,rfl,fun _=>rfl,fun e=>absurd e Ab,by rw[<-HE.out];rw[if_pos Ab]⟩ hx
 subst hc;have hu:=hu1 rfl;obtain⟨A1,c1,rfl,-⟩:=hu.shape;have HU:=Ad hu;clear hu1 hu2 h0 hu hpl
 go_wp2_with fail
 refine AB (Vv _ m _ (HV.out.1.ext hx) hm) ?_;rintro r3 w3 ⟨z,rfl,hz1,hz2⟩ hx3;have HU3:=Ad (HU.out.ext hx3);clear HU;have hs23:w2.heap.size<=w3.heap.size:=hx3.size;replace eb:=eb.ext hx3;replace hx:=hx.trans hx3;clear hx3;obtain⟨E2,hE2⟩:∃ E,E=Ct (cz m):=⟨_,rfl⟩
 have hc:=DV (cz m);rw[<-hE2]at hz1 hz2 hc ⊢;have HE2:=Ad hE2;clear hE2;by_cases h7:E2=7
 ·subst h7
  clear hz1 hz2 hc;go_wp2;refine bodyPost_ret (v := .tuple #[.int .i64 0,.int .i64 7]) (by simp[results,Tryz.results40,go_sem]) rfl ?_;exact Ag.mk ⟨0,7,rfl,fun _=>rfl,fun e=>absurd e Ab,by rw[<-HE.out];rw[if_neg Ab,if_pos HE2.out.symm]⟩ hx
 have hzz:AC w2.heap.size w3 z (cz m)/\(cz m≠pz->E2=0):=by
  rcases hc with⟨a,e⟩ | ⟨a,e⟩ | ⟨a,-,-,e⟩
  ·rw[hz2 Aa,a]
   exact⟨AC.nil _ _,fun h=>absurd rfl h⟩
  ·exact absurd e h7
  ·exact⟨hz1 e,fun _=>e⟩
 have hb7:(E2==7)=false:=beq_eq_false_iff_ne.2 h7;obtain⟨A2,c2,rfl,-⟩:=hzz.1.shape;have HZ:=Ad (Ai hzz (show Ct (cz m)≠7 from fun e=>h7 (HE2.out.trans e)));clear hz1 hz2 hc hzz h7;obtain⟨D1,M1,hR1,hD1⟩:=HH.out.1 HE.out.symm;have H1:=Ad hR1;clear hR1
 go_wp2_with fail
 refine AB (J7 _ (cz l) D1 M1 _ HU3.out H1.out) ?_;rintro r4 w4 hr4 hx4;obtain⟨cA,cn,cc,rfl⟩:=hr4.cell;obtain⟨W5,eW5,ec,y5⟩:=Bh.made w4 92 #[.slice cA cn cc] (by simp[Af]);have hcn:=hr4.ext y5;have hx45:=hx4.trans y5;have hgc:w3.heap.size<=w4.heap.size:=hx4.size;have HUZ:=Ad (Ai (HU3.out.ext hx45) (HZ.out.1.1.ext hx45));clear HU3;replace eb:=eb.ext hx45;replace hx:=hx.trans hx45;clear hx45;clear hr4 hx4 y5
 go_upto_region 8 with(fail)
 rw[<-eW5];clear eW5;generalize w4.heap.size=gc at *;have ceb:=eb.cells8;have feb:=eb.frozen;have cec0:=ec.cells1;have HC:=Ad hcn;clear hcn
 go_wp2_with fail
 refine AB (fT _ _ (cz l) p q D1 M1 t _ _ H1.out hD1 HP.out.1 HP.out.2 Aa HC.out ⟨_,_,_,_,_,_,_,_,_,_,_,_,_,_,_,_,rfl,HI.out.1.ext hx,HI.out.2.ext hx⟩) ?_;rintro r6 w6 rfl hx6;have hcn:=HC.out.ext hx6;have HUZ6:=Ad (Ai (HUZ.out.1.ext hx6) (HUZ.out.2.ext hx6));clear HUZ;clear ceb feb cec0 HC;replace eb:=eb.ext hx6;replace ec:=ec.ext hx6;replace hx:=hx.trans hx6;clear hx6;by_cases hone:p < q/\rc (Ba (cz l)) p q=1
 case neg =>
  rw[decide_eq_false hone];clear hcn;go_wp2;refine bodyPost_ret (v := .tuple #[.int .i64 0,.int .i64 12]) (by simp[results,Tryz.results40,go_sem]) rfl ?_;exact Ag.mk ⟨0,12,rfl,fun _=>rfl,fun e=>absurd e Ab,by rw[<-HE.out];rw[if_neg Ab,if_neg HZ.out.2,if_neg hone]⟩ hx
 rw[decide_eq_true hone];have HO:=Ad hone;clear hone;have HE0:=Ad (show(0:Int)=if Ct (cz l)≠0 then Ct (cz l)else if Ct (cz m)=7 then 7 else if p < q/\rc (Ba (cz l)) p q=1 then 0 else 12 from by rw[<-HE.out,if_neg Ab,if_neg HZ.out.2,if_pos HO.out]);by_cases hp0:pl (cz m)=0
 ·have hmz:cz m=pz:=(Bt (Ae.cz m)).1 hp0
  have HM:=Ad hmz;clear hmz;rw[hp0];clear hcn;go_wp2;refine bodyPost_ret (v := .tuple #[.int .i64 0,.int .i64 0]) (by simp[results,Tryz.results40,go_sem]) rfl ?_;exact Ag.mk ⟨0,0,rfl,fun _=>rfl,fun _ => .inl ⟨HM.out,rfl⟩,HE0.out⟩ hx
 have hmz:cz m≠pz:=fun e=>hp0 (by rw[e,BH]);have e2:=HZ.out.1.2 hmz;have HM:=Ad (Ai hmz (HE2.out.symm.trans e2));clear hmz;have hb0:(((pl (cz m):Nat):Int)==0)=false:=beq_eq_false_iff_ne.2 Aa;obtain⟨C,hCe⟩:∃ C,C=D7 (cz l) (cz m):=⟨_,rfl⟩
 have HCe:=Ad hCe;clear hCe;have hgc0:=HH.out.2.2.2.1 HE.out.symm HM.out.2;rw[<-HCe.out]at hgc0;have HG:=Ad hgc0;clear hgc0;have HCN:=Ad hcn;clear hcn
 go_wp2_with fail
 refine AB (HG.out _ _ _ HUZ6.out.1 (HUZ6.out.2.base_le (Nat.zero_le _))) ?_;rintro r7 w7 hr7 hx7;obtain⟨A3,c3,rfl,-⟩:=hr7.shape;have HU7:=Ad (Ai hr7 (Ai (HUZ6.out.2.ext hx7) (HCN.out.ext hx7)));clear HUZ6 HCN hr7;replace eb:=eb.ext hx7;replace ec:=ec.ext hx7;replace hx:=hx.trans hx7;clear hx7;obtain⟨N3,hN3⟩:∃ N,N=pl C:=⟨_,rfl⟩
 rw[<-hN3];have HN3:=Ad hN3;clear hN3;obtain⟨D3,M3,hR3,hD3⟩:=HH.out.2.2.1 HE.out.symm HM.out.2;rw[<-HCe.out]at hR3;have H3:=Ad hR3;clear hR3;obtain⟨X,hX⟩:∃ X,X=rc (Ba C) p q:=⟨_,rfl⟩
 have HX:=Ad hX;clear hX
 go_upto_region 13 with(fail)
 have ceb:=eb.cells8;have feb:=eb.frozen
 go_cut [52] (fun bv wx=>bv = .bool (decide (X=1))/\Ext w7 wx)
 case first =>
  rename_i hJ hM';by_cases hp1:N3<=1
  ·have hX0:X=0:=by
    rw[HX.out];exact Np H3.out.z H3.out.f H3.out.n0 (by rw[<-HN3.out];exact hp1) (Std.le_of_lt HO.out.1)
   have HD:=Ad (show decide (X=1)=false from decide_eq_false Aa);clear hX0;rcases(show N3=0\/N3=1 by omega)with rfl | rfl
   all_goals
    clear hp1
    go_region
    refine hM' _ _ (Met.intro (hJ _ _ ?_))
    (repeat apply Exists.intro)
    refine⟨?rel,rfl⟩
    case rel=>exact⟨by rw[HD.out],(Ext.refl _).drew⟩
  ·have HN:=Ad (show decide (1 < (N3:Int))=true from decide_eq_true Aa);clear hp1
   have HU8:=Ad (Ai (show AC 0 w7 (.slice A3 N3 c3) C from by rw[HN3.out];exact HU7.out.1) (Ai (HI.out.1.ext hx) (HI.out.2.ext hx)));refine CP 10 [40,41,42,43,44,45,46,47,48,49] [10,5] [_,_] [(kv ?_),(kv ?_),(kv (.bool true)),(kv (.bool true)),(kv ?_),(fun γ=>γ 5),(kv ?_),(kv ?_),(kv ?_),(kv ?_)] (fun γ w'=>[True,True,True,True,True,Lu 0 23 w' (γ 5) (Ba C),True,True,True,True]) ?s1 ?_
   case s1 =>
    iterate 10 refine⟨?_,?_⟩
    trivial
    iterate 2 focus
     refine AY fun _ w' he R hR=>?_;have hc:=he.cells;go_simp;(try go_ints);(try(rw[if_neg Aa]));(try(rw[if_pos Aa]));(try go_simp);(try go_ints)
     exact Br hR
    ·refine AY fun _ w' he R hR=>?_
     have hc:=he.cells;go_simp
     (try go_ints);(try(rw[if_neg Aa]));(try(rw[if_pos Aa]));(try go_simp);(try go_ints)
     refine hR _ _ (Ext.refl _) ?_ trivial;rw[HN.out];rfl
    ·refine AY fun _ w' he R hR=>?_
     have hc:=he.cells;go_simp
     (try go_ints);(try(rw[if_neg Aa]));(try(rw[if_pos Aa]));(try go_simp);(try go_ints)
     exact Br hR
    iterate 1 focus
     intro γ w' he hf;clear hf;refine⟨by trivial,?_⟩;intro R hR;have hc:=he.cells;go_simp;exact Br hR
    ·intro γ w' he hf;clear hf;refine⟨rfl,?_⟩;intro R hR
     go_simp;exact Bf (F:=fun r w''=>Lu 0 23 w'' (r) (Ba C)) (Ag.imp (J7 _ C D3 M3 w' (HU8.out.1.ext he) H3.out) fun _ _ h=>h.lower (Nat.zero_le _)) hR
    iterate 4 focus
     intro γ w' he hf;clear hf;refine⟨by trivial,?_⟩;intro R hR;have hc:=he.cells;have cq0:=(eb.ext he).cells8;go_simp;exact Br hR
   intro γ w8 hx8 hF;have p5:Lu 0 23 w8 (γ 5) (Ba C):=Ak.get hF 5 Ab;clear hF;simp only[Bg,Nat.reduceAdd];generalize γ 5=g5 at *;clear γ;obtain⟨dA,dn,dc,rfl⟩:=p5.cell;have hin:=dR _ _ _ C p q D3 M3 t _ _ H3.out hD3 HP.out.1 HP.out.2 Aa p5 (HU8.out.2.1.ext hx8) (HU8.out.2.2.ext hx8);rw[<-HX.out]at hin;have HIN:=Ad hin;clear hin p5
   go_wp2_with fail
   refine AB HIN.out ?_;rintro r9 w9 rfl hx9;have hx10:=hx8.trans hx9;clear ceb feb HIN HU8;by_cases hX1:X=1
   ·subst hX1
    go_wp2
    go_meet
    case rel=>exact⟨rfl,hx10⟩
   ·have hbX:(X==1)=false:=beq_eq_false_iff_ne.2 hX1
    have HD:=Ad (decide_eq_false hX1);clear hX1;go_wp2
    go_meet
    case rel=>exact⟨by rw[HD.out],hx10⟩
 case rest =>
  clear ceb feb;obtain⟨rfl,hx8⟩:=hcut;have HU8:=Ad (Ai (HU7.out.2.1.ext hx8) (HU7.out.2.2.ext hx8));clear HU7;replace eb:=eb.ext hx8;replace ec:=ec.ext hx8;replace hx:=hx.trans hx8;clear hx8;by_cases hX1:X=1
  ·rw[decide_eq_true hX1]
   have HX1:=Ad hX1;clear hX1;go_wp2;refine bodyPost_ret (v := .tuple #[.int .i64 0,.int .i64 0]) (by simp[results,Tryz.results40,go_sem]) rfl ?_;exact Ag.mk ⟨0,0,rfl,fun _=>rfl,fun _ => .inr (.inl ⟨HM.out.1,by rw[<-HCe.out,<-HX.out,HX1.out],rfl⟩),HE0.out⟩ hx
  rw[decide_eq_false hX1];have HX1:=Ad (show rc (Ba (D7 (cz l) (cz m))) p q≠1 by rw[<-HCe.out,<-HX.out];exact hX1);clear hX1;obtain⟨K,hK9,hK0,hKn⟩:=HH.out.2.2.2.2 HE.out.symm HM.out.2 HO.out.1 HO.out.2 HX1.out;have HKK:=Ad (Ai hK0 hKn);clear hK0 hKn;obtain⟨D2,M2,hR2,hD2⟩:=HH.out.2.1 HM.out.2;have H2:=Ad hR2;clear hR2;have HSM:=Ad (N8 HM.out.2 (ZI.cz m))
  go_wp2_with fail
  refine AB (J7 _ (cz m) D2 M2 _ (HU8.out.1.base_le (Nat.zero_le _)) H2.out) ?_;rintro r9 w9 hr9 hx9;obtain⟨dA,dn,dc,rfl⟩:=hr9.cell;obtain⟨W10,eW10,ed,y10⟩:=Bh.made w9 92 #[.slice dA dn dc] (by simp[Af]);have hx910:=hx9.trans y10;have hb9:w.heap.size < wc.heap.size:=eb.lt;have hgd:wc.heap.size<=w9.heap.size:=hx9.size;have hc1:=HU8.out.2.ext hx910;have hc2:=hr9.ext y10;have hg0:=HU8.out.1.ext hx910;replace eb:=eb.ext hx910
  replace ec:=ec.ext hx910;replace hx:=hx.trans hx910;clear hx910;clear hr9 hx9 y10 HU8;have hbx:Ms W10 w.heap.size 30 (Cc (rc (Ba (cz l))) p q 0).1 (Cc (rc (Ba (cz l))) p q 0).2:=⟨_,_,_,_,_,_,_,_,_,_,_,_,_,_,_,_,eb,HI.out.1.ext hx,HI.out.2.ext hx⟩
  clear eb HI;go_wp2;rw[<-eW10];clear eW10;generalize w9.heap.size=gd at *
  go_loopw [] (fun wr=>∃ k:Nat,k<=K/\Ms wr w.heap.size 30 (Cc (rc (Ba (cz l))) p q k).1 (Cc (rc (Ba (cz l))) p q k).2/\Bh wr gc 92 #[.slice cA cn cc]/\Bh wr gd 92 #[.slice dA dn dc]/\Lu w3.heap.size 23 wr (.agg #[.slice cA cn cc]) (Ba (cz l))/\Lu wc.heap.size 23 wr (.agg #[.slice dA dn dc]) (Ba (cz m))/\AC w2.heap.size wr (.slice A2 (pl (cz m)) c2) (cz m)/\Ext w wr) (fun wr=>K - aH wr w.heap.size 30 (rc (Ba (cz l))) p q)
  case atStart=>exact⟨0,Aa,hbx,ec,ed,hc1,hc2,hg0,hx⟩
  case round =>
   clear hbx ec ed hc1 hc2 hg0 hx;obtain⟨k,hk,hbi,ec,ed,hc1,hc2,hg0,hx⟩:=hrel;have HPN:=Ad (MR HO.out.1 hbi);have z1:=IB (R:=rc (Ba (cz l))) HP.out.1 HP.out.2 k;obtain⟨P,hPe⟩:∃ P,P=Cc (rc (Ba (cz l))) p q k:=⟨_,rfl⟩
   rw[<-hPe]at hbi z1;obtain⟨b1,B1,m1,k1,b2,B2,m2,k2,b3,B3,m3,k3,b4,B4,m4,k4,eb,i1,i2⟩:=hbi;have HC:=Ad (Ai hc1 (Ai hc2 (Ai i1 i2)));clear hc1 hc2 i1 i2;have HG0:=Ad hg0;clear hg0;have HS:=Ad (Ai z1 hPe);clear z1 hPe;have hin:=dR _ _ _ (cz m) P.1 P.2 D2 M2 _ _ wr H2.out hD2 HS.out.1.1 HS.out.1.2.1 Aa HC.out.2.1 HC.out.2.2.1 HC.out.2.2.2;have hnn:=H2.out.sf.nonneg (p:=P.1) (q:=P.2) (by rw[HS.out.2];exact Std.le_of_lt ((CF (rc (Ba (cz l))) p q k).within HO.out.1).2.1)
   obtain⟨Y,hY⟩:∃ Y,Y=rc (Ba (cz m)) P.1 P.2:=⟨_,rfl⟩
   rw[<-hY]at hin hnn;have HIN:=Ad hin;clear hin;have HY:=Ad hY;clear hY;have ceb:=eb.cells8;have feb:=eb.frozen;have cec0:=ec.cells1;have ced0:=ed.cells1
   go_wp2_with fail
   refine AB HIN.out ?_;rintro r11 w11 rfl hx11;have HC2:=Ad (Ai (HC.out.1.ext hx11) (Ai (HC.out.2.1.ext hx11) (Ai (HC.out.2.2.1.ext hx11) (HC.out.2.2.2.ext hx11))));clear HC HIN;have HG1:=Ad (HG0.out.ext hx11);clear HG0;clear ceb feb cec0 ced0;replace eb:=eb.ext hx11;replace ec:=ec.ext hx11;replace ed:=ed.ext hx11;replace hx:=hx.trans hx11;clear hx11;by_cases hY0:0 < Y
   ·have hkK:k < K:=by
     rcases Nat.lt_or_ge k K with h | h
     ·exact h
     ·obtain rfl:k=K:=by omega
      have h1:=HKK.out.1;rw[<-HS.out.2,<-HY.out]at h1;omega
    have hI:=HC2.out.2.2;rw[HS.out.2]at hI;have HI2:=Ad hI;clear hI;have ceb:=eb.cells8;have feb:=eb.frozen;have cec0:=ec.cells1
    go_wp2_with fail
    refine AB (Yl _ _ (cz l) p q D1 M1 t k _ _ H1.out hD1 HP.out.1 HP.out.2 Aa HC2.out.1 ⟨_,_,_,_,_,_,_,_,_,_,_,_,_,_,_,_,rfl,HI2.out.1,HI2.out.2⟩) ?_;rintro r12 w12 ⟨g1,G1,e5,f5,g2,G2,e6,f6,g3,G3,e7,f7,g4,G4,e8,f8,rfl,j1,j2⟩ hx12;have hc1:=HC2.out.1.ext hx12;have hc2:=HC2.out.2.1.ext hx12;have hg0:=HG1.out.ext hx12;clear ceb feb cec0 HC2 HI2;replace eb:=eb.ext hx12;replace ec:=ec.ext hx12;replace ed:=ed.ext hx12
    replace hx:=hx.trans hx12;clear hx12;have ceb:=eb.cells8;have feb:=eb.frozen;go_wp2;obtain⟨W13,eW,eb',U⟩:=eb.put8 (.bool g1) (.slice G1 e5 f5) (.bool g2) (.slice G2 e6 f6) (.bool g3) (.slice G3 e7 f7) (.bool g4) (.slice G4 e8 f8);rw[<-eW];clear eW eb;replace j1:=j1.kd U.kd;replace j2:=j2.kd U.kd;replace ec:=ec.upd U Aj;replace ed:=ed.upd U Aj;replace hc1:=hc1.upd U Aj;replace hc2:=hc2.upd U Aj;replace hg0:=hg0.upd U Aj
    replace hx:=U.from_ hx Aj;have eb:=eb';clear U eb';clear ceb feb;have hbx:Ms W13 w.heap.size 30 (Cc (rc (Ba (cz l))) p q (k+1)).1 (Cc (rc (Ba (cz l))) p q (k+1)).2:=⟨_,_,_,_,_,_,_,_,_,_,_,_,_,_,_,_,eb,j1,j2⟩
    have HPN2:=Ad (MR HO.out.1 hbx)
    go_roundw
    case rel=>exact⟨k+1,Aa,hbx,ec,ed,hc1,hc2,hg0,hx⟩
    case measure=>rw[HPN.out,HPN2.out];omega
   ·have hkK:k=K:=by
     rcases Nat.lt_or_ge k K with h | h
     ·have h1:=HKK.out.2 k h
      rw[<-HS.out.2,<-HY.out]at h1;omega
     ·omega
    subst hkK;have hev:∀ X v u,AC 0 X v (cz m)->BC X u P.2->Bc 90 #[v,u] X (fun r w'=>Bz w' r (ev (cz m) P.2)):=fun X v u hv hu=>by
     have h9:33*(129+(3*t+k+4)+1)<=33*(129+4000001100+1):=by omega
     exact Sk v u (cz m) P.2 129 (3*t+k+4) 33 X hv hu HSM.out.2.2 HS.out.1.2.1 HSM.out.2.1 Aa Aa
    have hqe:qsz (ev (cz m) P.2)<=274877906944:=by
     have h1:=LH ((AJ (Ae.cz m)).mono HSM.out.2.1) HSM.out.2.2 HS.out.1.2.1;omega
    have HV2:=Ad (Ai hev hqe);clear hev hqe;have HF:=Ad (show Em (cz l) (cz m) p q (GJ (ev (cz m) P.2))from .inr (.inr ⟨HM.out.1,HX1.out,k,HKK.out.1,HKK.out.2,by rw[<-HS.out.2]⟩));have ceb:=eb.cells8;have feb:=eb.frozen
    go_wp2_with fail
    refine AB (HV2.out.1 _ _ _ (HG1.out.base_le (Nat.zero_le _)) HC2.out.2.2.2) ?_;rintro r12 w12 hr12 hx12;have HR:=Ad (hr12.has HV2.out.2);clear hr12
    go_wp2_with fail
    refine AB (M7 _ _ _ HR.out) ?_;rintro r13 w13 rfl hx13;have hx14:=(hx.trans hx12).trans hx13;generalize GJ (ev (cz m) P.2)=sg at *;clear hx12 hx13;go_wp2;refine bodyPost_ret (v := .tuple #[.int .i64 sg,.int .i64 0]) (by simp[results,Tryz.results40,go_sem]) rfl ?_;exact Ag.mk ⟨sg,0,rfl,fun e=>absurd rfl e,fun _=>HF.out,HE0.out⟩ hx14
theorem K6(v u:Value)(l:List Int)(p q:Rat)(t:Nat)(w:World)(hv:De 0 w v l)(hu:Jb w u p q)(hL:Mid (cz l))(hl:l.length<=1000)(hp:qsz p<=t)(hq:qsz q<=t)(ht:t<=4500000000) :
  Bc 18 #[v,u] w (fun r _=>r = .int .i64 (if q<=p then 0 else rc (Ba (cz l)) p q)):=by
 have h:=YU v u l _ p q _ _ _ _ _ _ _ _ _ t w hv hu (hL.rcr hl) hp hq (by
  have:=hL.chn.2;have h1:(pl (Ba (cz l))+pl (pd (Ba (cz l))))*(32768+t+1)<=13*(32768+t+1):=Nat.mul_le_mul_right _ this;omega)
 rw[GI (BQ hL.z hL.f hL.n0).st.k]at h;exact h
end Go.Proofs.YtmhgnigpmompmaaGreat
