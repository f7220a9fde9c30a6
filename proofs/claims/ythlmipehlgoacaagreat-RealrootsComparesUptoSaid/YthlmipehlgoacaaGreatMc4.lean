/- Lemmas. -/
import Derived.Test.YthlmipehlgoacaaGreatMc1
import Derived.Test.YthlmipehlgoacaaGreatMc2
import Derived.Test.YthlmipehlgoacaaGreatMc3
import Derived.Deep.RegionHeld3
import Derived.Test.YthlmipehlgoacaaGreatRows
import Derived.WalkKit
import Derived.ProofKit
import Derived.OpenShut
import Derived.ShutString
import Derived.ChangeOld
import Derived.Below
import Derived.JoinedCond
set_option linter.unusedVariables false
set_option linter.unusedSimpArgs false
set_option maxHeartbeats 16000000
namespace Go.Hp
open Go.RowKit
def RP(F:Nat->Rat):Prop:=∃ i b,BL (F i).num.natAbs b/\4096 < b
noncomputable def Ca(F:Nat->Rat):Int:=open Classical in if F=pz then 5 else if 33 < pl F\/RP F then 7 else 0
theorem NF{F:Nat->Rat}(h:F=pz):Ca F=5:=by unfold Ca;rw[if_pos h]
theorem Jv{F:Nat->Rat}(h0:F≠pz)(h:33 < pl F\/RP F):Ca F=7:=by unfold Ca;rw[if_neg h0,if_pos h]
theorem Lp{F:Nat->Rat}(h0:F≠pz)(h1:¬ 33 < pl F)(h2:¬ RP F):Ca F=0:=by unfold Ca;rw[if_neg h0,if_neg (fun q=>q.elim h1 h2)]
theorem DL(F:Nat->Rat):(F=pz/\Ca F=5)\/(F≠pz/\Ca F=7)\/(F≠pz/\pl F<=33/\¬ RP F/\Ca F=0):=by
 by_cases h0:F=pz
 ·exact .inl ⟨h0,NF h0⟩
 by_cases h:33 < pl F\/RP F
 ·exact .inr (.inl ⟨h0,Jv h0 h⟩)
 ·exact .inr (.inr ⟨h0,Aa,fun q=>h (.inr q),Lp h0 (fun q=>h (.inl q)) fun q=>h (.inr q)⟩)
theorem ZF{F:Nat->Rat}(z:ZI F)(h:¬ RP F)(i:Nat):qsz (F i)<=129:=by
 obtain⟨b,hb⟩:=BL.ex (F i).num.natAbs;have h1:b<=4096:=by
  rcases Nat.lt_or_ge 4096 b with q | q
  ·exact absurd ⟨i,b,hb,q⟩ h
  ·exact q
 have h2:(F i).num.natAbs < bp 129:=by
  obtain⟨E,hE⟩:∃ E,E=129:=⟨_,rfl⟩
  rw[<-hE,DN];exact Nat.lt_of_lt_of_le hb.1 (Nat.pow_le_pow_right Ab Aa)
 have h3:=Ci h2;rw[z.num i,Bp];omega
def QU(F:Nat->Rat)(w:World)(r:Value):Prop:=∃ u,r = .tuple #[u,.int .i64 (Ca F)]/\(Ca F=0->AJ 0 w u F)/\(Ca F≠0->u = .slice none 0 0)
def bP(b:Nat)(F:Nat->Rat)(w:World)(r:Value):Prop:=∃ u,r = .tuple #[u,.int .i64 (Ca F)]/\(Ca F=0->AJ b w u F)/\(Ca F≠0->u = .slice none 0 0)
theorem QU.ext{F:Nat->Rat}{w w':World}{r:Value}(h:QU F w r)(x:Ext w w'):QU F w' r:=by
 obtain⟨u,h1,h2,h3⟩:=h;exact⟨u,h1,fun e=>(h2 e).ext x,h3⟩
def dI(F:Nat->Rat)(r:Value):Prop:=∃ b A n c,r = .tuple #[.agg #[.bool b,.slice A n c],.int .i64 (Ca F)]
theorem Yt(l:List (Nat->Rat))(x:Rat):V l x<=l.length:=by
 unfold V;have:=XE (l.map fun F=>Bo (ev F x)) 0;simpa using this
def Wu(w:World)(v:Value)(x y:Int):Prop:=∃ a b,v = .tuple #[a,b]/\AR w a x/\AR w b y
theorem Wu.ext{w w':World}{v:Value}{x y:Int}(h:Wu w v x y)(k:Ext w w'):Wu w' v x y:=by
 obtain⟨a,b,h1,h2,h3⟩:=h;exact⟨a,b,h1,h2.kd k.kd,h3.kd k.kd⟩
theorem F7.lower{F G:Nat->Rat}{n s t i j:Nat}{Q R:Nat->Rat}(h:F7 F G n s t i Q R)(hj:j<=i)(hs:Bg (j+pl G - 1) R):F7 F G n s t j Q R:=
 ⟨fun m hm=>h.1 m Aa,h.2.1,hs,h.2.2.2.1,h.2.2.2.2.1,h.2.2.2.2.2.1,fun m=>by
  have h1:=h.2.2.2.2.2.2 m;have h2:(n - i)*(t+1)<=(n - j)*(t+1):=Nat.mul_le_mul_right _ Aa;omega⟩
structure RF(F G:Nat->Rat)(n s t j:Nat)(Q R:Nat->Rat):Prop where
 eq:psc (ld G^j) F=pad (cv Q G) R
 zQ:ZI Q
 zR:ZI R
 fQ:Bg n Q
 fR:Ae R
 deg:pl R+j<=pl F
 qQ:∀ i,qsz (Q i)<=s+j*(t+1)
 qR:∀ i,qsz (R i)<=s+j*(t+1)
theorem RF.start{F G:Nat->Rat}{n s t:Nat}(hF:Ae F)(hz:ZI F)(hs:∀ i,qsz (F i)<=s):RF F G n s t 0 pz F where
 eq:=by rw[Rat.pow_zero,Cn,Cv];funext m;simp only[pad,pz];grind
 zQ:=ZI.pz
 zR:=hz
 fQ:=Bg.pz n
 fR:=hF
 deg:=Nat.le_refl _
 qQ:=fun i=>by have h1:=Dh (F 0);have h2:=hs 0;show qsz 0<=_;have:qsz (0:Rat)=1:=Ab;omega
 qR:=fun i=>by have:=hs i;omega
theorem RF.step{F G:Nat->Rat}{n s t j:Nat}{Q R:Nat->Rat}(h:RF F G n s t j Q R)(hn:n=pl F+1 - pl G)(fG:Ae G)(h0:G≠pz)(zG:ZI G)(ht:∀ i,qsz (G i)<=t)(hl:pl G<=pl R){k:Nat}(hk:k=pl R - pl G){x:Int}(hx:(x:Rat)=R (pl R - 1)) :
  RF F G n s t (j+1) (pad (psc (ld G) Q) (mono k (x:Rat))) (psb (psc (ld G) R) (cv (mono k (x:Rat)) G))/\pl (psb (psc (ld G) R) (cv (mono k (x:Rat)) G)) < pl R:=by
 have hp:=AO fG h0;have hld:=CX fG h0;have zl:∃ y:Int,ld G=(y:Rat):=zG _;obtain⟨y,hy⟩:=zl;have hsup:Bg (k+pl G) (psc (ld G) R):=((AA h.fR).mono Aa).psc _;have e1:(x:Rat)=psc (ld G) R (k+pl G - 1) / ld G:=by
  show _=ld G*R (k+pl G - 1) / ld G;rw[show k+pl G - 1=pl R - 1 from Aa,<-hx];grind
 have hs2:Bg (k+pl G - 1) (psb (psc (ld G) R) (cv (mono k (x:Rat)) G)):=by
  rw[e1];exact EF fG h0 hsup
 have hle:=BK hs2;have hxq:qsz (x:Rat)<=s+j*(t+1):=by rw[hx];exact h.qR _
 have hlq:qsz (ld G)<=t:=ht _;have hj:(j+1)*(t+1)=j*(t+1)+(t+1):=Nat.succ_mul _ _;have o1:qsz (0:Rat)=1:=by decide
 have zsR:ZI (psc (ld G) R):=by rw[hy];exact h.zR.psc y
 have zsQ:ZI (psc (ld G) Q):=by rw[hy];exact h.zQ.psc y
 refine⟨⟨?_,zsQ.pad (ZI.mono k x),zsR.psb ((ZI.mono k x).cv zG),(h.fQ.psc _).pad ((EM k _).mono (by have:=h.deg;omega)),⟨_,hs2⟩,by have:=h.deg;omega,fun i=>?_,fun i=>?_⟩,Aa⟩
 ·have e2:psc (ld G^(j+1)) F=psc (ld G) (psc (ld G^j) F):=by
   rw[Ce,Rat.pow_succ,Rat.mul_comm]
  rw[e2,h.eq,CY,CP]
  funext m;simp only[psc,pad,psb];grind
 ·have a1:=VY zsQ (ZI.mono k x) i i
  have a2:qsz (psc (ld G) Q i)<=qsz (ld G)+qsz (Q i):=CR _ _;have a3:=h.qQ i;have a4:qsz (mono k (x:Rat) i)<=s+j*(t+1):=by
   unfold mono;split
   ·exact hxq
   ·have:=Dh (x:Rat);omega
  show qsz (psc (ld G) Q i+mono k (x:Rat) i)<=_;omega
 ·have a1:=MI zsR ((ZI.mono k x).cv zG) i i
  have a2:qsz (psc (ld G) R i)<=qsz (ld G)+qsz (R i):=CR _ _;have a3:=h.qR i;have a4:qsz (cv (mono k (x:Rat)) G i)<=qsz (x:Rat)+t:=by
   rw[FQ];show qsz ((x:Rat)*sh k G i)<=_;have b1:=CR (x:Rat) (sh k G i);have b2:qsz (sh k G i)<=t:=by
    unfold sh;split
    ·have:=Dh (ld G);omega
    ·exact ht _
   omega
  show qsz (psc (ld G) R i - cv (mono k (x:Rat)) G i)<=_;omega
theorem QY(a:Rat)(m:Nat):∀ n:Nat,a^(m+n)=a^m*a^n
 | 0=>by rw[Nat.add_zero,Rat.pow_zero,Rat.mul_one]
 | n+1=>by rw[<-Nat.add_assoc,Rat.pow_succ,QY a m n,Rat.pow_succ,Rat.mul_assoc]
theorem RF.end_{F G:Nat->Rat}{n s t j:Nat}{Q R:Nat->Rat}(h:RF F G n s t j Q R)(hn:n=pl F+1 - pl G)(fF:Ae F)(fG:Ae G)(h0:G≠pz)(hl:pl R < pl G)(hj:j<=n) :
  psc (ld G^(n - j)) Q=FZ F G n/\psc (ld G^(n - j)) R=CW F G n:=by
 have hp:=AO fG h0;have e1:psc (ld G^n) F=pad (cv (psc (ld G^(n - j)) Q) G) (psc (ld G^(n - j)) R):=by
  have e2:ld G^n=ld G^(n - j)*ld G^j:=by rw[<-QY];congr 1;omega
  rw[e2,<-Ce,h.eq,CP]
  funext m;simp only[psc,pad];grind
 have e3:psc (ld G^n) F=pad (cv (psc (ld G^n) (pq F G)) G) (psc (ld G^n) (pr F G)):=by
  rw[CP];have h1:=JB F G
  funext m
  have h2:=congrFun h1 m;simp only[psc,pad]at h2 ⊢;rw[h2];grind
 have h1:=LW fG (Ae.psc _ ⟨n,h.fQ⟩) ((De F G).psc _) h0 e1 e3 (((AA h.fR).mono Aa).psc _) ((Eh fF fG h0).psc _);have h2:=JP fF fG h0;rw[<-hn]at h2;exact⟨h1.1.trans h2.1.symm,h1.2.trans h2.2.symm⟩
def KU(w:World)(v:Value)(p q:Rat):Prop:=∃ b1 A1 n1 c1 b2 A2 n2 c2 b3 A3 n3 c3 b4 A4 n4 c4,v = .agg #[.bool b1,.slice A1 n1 c1,.bool b2,.slice A2 n2 c2,.bool b3,.slice A3 n3 c3,.bool b4,.slice A4 n4 c4]/\BI w (.agg #[.bool b1,.slice A1 n1 c1,.bool b2,.slice A2 n2 c2]) p/\BI w (.agg #[.bool b3,.slice A3 n3 c3,.bool b4,.slice A4 n4 c4]) q
theorem KU.ext{w w':World}{v:Value}{p q:Rat}(h:KU w v p q)(e:Ext w w'):KU w' v p q:=by
 obtain⟨b1,A1,n1,c1,b2,A2,n2,c2,b3,A3,n3,c3,b4,A4,n4,c4,h1,h2,h3⟩:=h;exact⟨b1,A1,n1,c1,b2,A2,n2,c2,b3,A3,n3,c3,b4,A4,n4,c4,h1,h2.ext e,h3.ext e⟩
theorem AX.cells8{w:World}{g:Nat}{t:TypeId}{x0 x1 x2 x3 x4 x5 x6 x7:Value}(h:AX w g t #[x0,x1,x2,x3,x4,x5,x6,x7]) :
  w.cell? ⟨g,0,none⟩=some x0/\w.cell? ⟨g,1,none⟩=some x1/\w.cell? ⟨g,2,none⟩=some x2/\w.cell? ⟨g,3,none⟩=some x3/\w.cell? ⟨g,4,none⟩=some x4/\w.cell? ⟨g,5,none⟩=some x5/\w.cell? ⟨g,6,none⟩=some x6/\w.cell? ⟨g,7,none⟩=some x7:=
 ⟨h.cell rfl,h.cell rfl,h.cell rfl,h.cell rfl,h.cell rfl,h.cell rfl,h.cell rfl,h.cell rfl⟩
noncomputable def rts(W:Nat->Rat)(K:Nat)(p q:Rat):Int:=(V (FO W (pd W) K) p:Nat) - (V (FO W (pd W) K) q:Nat)
theorem JX.cell{base:Nat}{t:TypeId}{w:World}{v:Value}{W:Nat->Rat}(h:JX base t w v W):∃ A n c,v = .agg #[.slice A n c]:=by
 obtain⟨c,us,K,rfl,h2,h3,h4⟩:=h;obtain⟨A,c,rfl⟩:=h4.shape;exact⟨_,_,_,rfl⟩
theorem AX.put8{w:World}{g:Nat}{t:TypeId}{a b c d a' b' c' d':Value}(h:AX w g t #[a,b,c,d,a',b',c',d'])(x0 x1 x2 x3 x4 x5 x6 x7:Value)(h0:Ah x0=false:=by rfl)(h1:Ah x1=false:=by rfl)(h2:Ah x2=false:=by rfl)(h3:Ah x3=false:=by rfl)(h4:Ah x4=false:=by rfl)(h5:Ah x5=false:=by rfl)(h6:Ah x6=false:=by rfl)(h7:Ah x7=false:=by rfl) :
  ∃ W,W=(((((((w.setCell ⟨g,0,none⟩ x0).setCell ⟨g,1,none⟩ x1).setCell ⟨g,2,none⟩ x2).setCell ⟨g,3,none⟩ x3).setCell ⟨g,4,none⟩ x4).setCell ⟨g,5,none⟩ x5).setCell ⟨g,6,none⟩ x6).setCell ⟨g,7,none⟩ x7/\AX W g t #[x0,x1,x2,x3,x4,x5,x6,x7]/\Ch [g] w W:=by
 have k0:AX (w.setCell ⟨g,0,none⟩ x0) g t #[x0,b,c,d,a',b',c',d']:=h.set_ 0 h0;have k1:AX ((w.setCell ⟨g,0,none⟩ x0).setCell ⟨g,1,none⟩ x1) g t #[x0,x1,c,d,a',b',c',d']:=k0.set_ 1 h1;have k2:AX (((w.setCell ⟨g,0,none⟩ x0).setCell ⟨g,1,none⟩ x1).setCell ⟨g,2,none⟩ x2) g t #[x0,x1,x2,d,a',b',c',d']:=k1.set_ 2 h2;have k3:AX ((((w.setCell ⟨g,0,none⟩ x0).setCell ⟨g,1,none⟩ x1).setCell ⟨g,2,none⟩ x2).setCell ⟨g,3,none⟩ x3) g t #[x0,x1,x2,x3,a',b',c',d']:=k2.set_ 3 h3
 have k4:AX (((((w.setCell ⟨g,0,none⟩ x0).setCell ⟨g,1,none⟩ x1).setCell ⟨g,2,none⟩ x2).setCell ⟨g,3,none⟩ x3).setCell ⟨g,4,none⟩ x4) g t #[x0,x1,x2,x3,x4,b',c',d']:=k3.set_ 4 h4;have k5:AX ((((((w.setCell ⟨g,0,none⟩ x0).setCell ⟨g,1,none⟩ x1).setCell ⟨g,2,none⟩ x2).setCell ⟨g,3,none⟩ x3).setCell ⟨g,4,none⟩ x4).setCell ⟨g,5,none⟩ x5) g t #[x0,x1,x2,x3,x4,x5,c',d']:=k4.set_ 5 h5;have k6:AX (((((((w.setCell ⟨g,0,none⟩ x0).setCell ⟨g,1,none⟩ x1).setCell ⟨g,2,none⟩ x2).setCell ⟨g,3,none⟩ x3).setCell ⟨g,4,none⟩ x4).setCell ⟨g,5,none⟩ x5).setCell ⟨g,6,none⟩ x6) g t #[x0,x1,x2,x3,x4,x5,x6,d']:=k5.set_ 6 h6
 have k7:AX ((((((((w.setCell ⟨g,0,none⟩ x0).setCell ⟨g,1,none⟩ x1).setCell ⟨g,2,none⟩ x2).setCell ⟨g,3,none⟩ x3).setCell ⟨g,4,none⟩ x4).setCell ⟨g,5,none⟩ x5).setCell ⟨g,6,none⟩ x6).setCell ⟨g,7,none⟩ x7) g t #[x0,x1,x2,x3,x4,x5,x6,x7]:=k6.set_ 7 h7;exact⟨_,rfl,k7,(((((((Ch.set_ h.nodig 0 x0).trans (Ch.set_ k0.nodig 1 x1)).trans (Ch.set_ k1.nodig 2 x2)).trans (Ch.set_ k2.nodig 3 x3)).trans (Ch.set_ k3.nodig 4 x4)).trans (Ch.set_ k4.nodig 5 x5)).trans (Ch.set_ k5.nodig 6 x6)).trans (Ch.set_ k6.nodig 7 x7)⟩
theorem KM{p q:Rat}:decide (FW (p - q) < 0)=decide (p < q):=by
 rw[F8];unfold Bo;by_cases h:p < q
 ·rw[if_neg Af,if_pos Af,decide_eq_true h];rfl
 ·rw[decide_eq_false h]
  split
  ·rfl
  ·rw[if_neg Af];rfl
def J2(w:World)(v:Value)(p q:Rat):Prop:=∃ b1 A1 n1 c1 b2 A2 n2 c2 b3 A3 n3 c3 b4 A4 n4 c4,v = .agg #[.bool b1,.slice A1 n1 c1,.bool b2,.slice A2 n2 c2,.bool b3,.slice A3 n3 c3,.bool b4,.slice A4 n4 c4]/\Cb w (.agg #[.bool b1,.slice A1 n1 c1,.bool b2,.slice A2 n2 c2]) p/\Cb w (.agg #[.bool b3,.slice A3 n3 c3,.bool b4,.slice A4 n4 c4]) q
theorem J2.ext{w w':World}{v:Value}{p q:Rat}(h:J2 w v p q)(e:Ext w w'):J2 w' v p q:=by
 obtain⟨b1,A1,n1,c1,b2,A2,n2,c2,b3,A3,n3,c3,b4,A4,n4,c4,h1,h2,h3⟩:=h;exact⟨b1,A1,n1,c1,b2,A2,n2,c2,b3,A3,n3,c3,b4,A4,n4,c4,h1,h2.ext e,h3.ext e⟩
theorem J2.has{w:World}{v:Value}{p q:Rat}(h:J2 w v p q)(hp:qsz p<=274877906944)(hq:qsz q<=274877906944):KU w v p q:=by
 obtain⟨b1,A1,n1,c1,b2,A2,n2,c2,b3,A3,n3,c3,b4,A4,n4,c4,h1,h2,h3⟩:=h;exact⟨b1,A1,n1,c1,b2,A2,n2,c2,b3,A3,n3,c3,b4,A4,n4,c4,h1,h2.has hp,h3.has hq⟩
/-! ### bounds of values -/
theorem Io(B:Rat)(hB:0<=B):∀(n:Nat) (F:Nat->Rat),∃ M,0<=M/\∀ x,ab x<=B->ab (CF n F x)<=M
 | 0,F=>⟨0,Ab,fun x _=>by show ab 0<=0;decide⟩
 | n+1,F=>by
  obtain⟨M,h0,h⟩:=Io B hB n (tl F);refine⟨ab (F 0)+B*M,by have:=Ai (F 0);have:=Rat.mul_nonneg hB h0;grind,fun x hx=>?_⟩;rw[Dq];have h1:=Fh (F 0) (x*CF n (tl F) x);have h2:ab (x*CF n (tl F) x)<=B*M:=by rw[C8];exact EA hx (h x hx) (Ai _) hB
  grind
theorem Tz(B:Rat)(hB:0<=B):∀(n:Nat) (F:Nat->Rat),∃ L,0<=L/\∀ x y,ab x<=B->ab y<=B->ab (CF n F x - CF n F y)<=L*ab (x - y)
 | 0,F=>⟨0,Ab,fun x y _ _=>by show ab (0 - 0)<=0*_;rw[Rat.zero_mul,show(0:Rat) - 0=0 by grind];decide⟩
 | n+1,F=>by
  obtain⟨L,h0,h⟩:=Tz B hB n (tl F);obtain⟨M,m0,hM⟩:=Io B hB n (tl F);refine⟨M+B*L,by have:=Rat.mul_nonneg hB h0;grind,fun x y hx hy=>?_⟩;rw[Dq,Dq];have e:F 0+x*CF n (tl F) x - (F 0+y*CF n (tl F) y)=(x - y)*CF n (tl F) x+y*(CF n (tl F) x - CF n (tl F) y):=by grind
  rw[e];have h1:=Fh ((x - y)*CF n (tl F) x) (y*(CF n (tl F) x - CF n (tl F) y));have h2:ab ((x - y)*CF n (tl F) x)<=M*ab (x - y):=by
   rw[C8];have:=EA (Std.le_refl (ab (x - y))) (hM x hx) (Ai _) (Ai _);grind
  have h3:ab (y*(CF n (tl F) x - CF n (tl F) y))<=B*(L*ab (x - y)):=by rw[C8];exact EA hy (h x y hx hy) (Ai _) hB
  grind
theorem bL(F:Nat->Rat):pd F=pad (tl F) (cs 0 (pd (tl F))):=by
 funext i
 match i with
 | 0=>show((0+1:Nat):Rat)*F 1=F 1+0;have:((0+1:Nat):Rat)=1:=rfl;rw[this];grind
 | i+1 =>
  show((i+1+1:Nat):Rat)*F (i+1+1)=F (i+1+1)+((i+1:Nat):Rat)*F (i+1+1);have:((i+1+1:Nat):Rat)=((i+1:Nat):Rat)+1:=by push_cast;rfl
  rw[this];grind
theorem Vi(n:Nat){F:Nat->Rat}(x:Rat):CF (n+1) (pd F) x=CF (n+1) (tl F) x+x*CF n (pd (tl F)) x:=by
 conv=>lhs;rw[bL F,Tw]
 congr 1;rw[Dq];show 0+x*CF n (pd (tl F)) x=_;grind
theorem TR(B:Rat)(hB:0<=B):∀(n:Nat) (F:Nat->Rat),Bg n F->∃ R,0<=R/\∀ x y,ab x<=B->ab y<=B->∃ r,ab r<=R/\CF n F y - CF n F x=(y - x)*(CF n (pd F) x+(y - x)*r)
 | 0,F,_=>⟨0,Ab,fun x y _ _=>⟨0,Ab,by show(0:Rat) - 0=_*(0+_*0);grind⟩⟩
 | n+1,F,hs=>by
  obtain⟨R,h0,h⟩:=TR B hB n (tl F) hs.tl;obtain⟨M,m0,hM⟩:=Io B hB n (pd (tl F));refine⟨M+B*R,by have:=Rat.mul_nonneg hB h0;grind,fun x y hx hy=>?_⟩;obtain⟨r,hr,e⟩:=h x y hx hy;refine⟨CF n (pd (tl F)) x+y*r,?_,?_⟩
  ·have h1:=Fh (CF n (pd (tl F)) x) (y*r)
   have h2:ab (y*r)<=B*R:=by rw[C8];exact EA hy hr (Ai _) hB
   have h3:=hM x hx;grind
  ·have e1:CF (n+1) (pd F) x=CF n (tl F) x+x*CF n (pd (tl F)) x:=by
    rw[Vi];congr 1;exact Lv hs.tl (Nat.le_succ n) x
   rw[e1,Dq,Dq];grind
theorem G8{F:Nat->Rat}(h:Ae F){B:Rat}(hB:0<=B):∃ M,0<=M/\∀ x,ab x<=B->ab (ev F x)<=M:=Io B hB (pl F) F
theorem Ps{F:Nat->Rat}(h:Ae F){B:Rat}(hB:0<=B):∃ L,0<=L/\∀ x y,ab x<=B->ab y<=B->ab (ev F x - ev F y)<=L*ab (x - y):=Tz B hB (pl F) F
theorem aF{F:Nat->Rat}(h:Ae F){B:Rat}(hB:0<=B):∃ R,0<=R/\∀ x y,ab x<=B->ab y<=B->∃ r,ab r<=R/\ev F y - ev F x=(y - x)*(ev (pd F) x+(y - x)*r):=by
 obtain⟨R,h0,k⟩:=TR B hB (pl F) F (AA h);refine⟨R,h0,fun x y hx hy=>?_⟩;obtain⟨r,hr,e⟩:=k x y hx hy;refine⟨r,hr,?_⟩;have e1:ev (pd F) x=CF (pl F) (pd F) x:=ER (Oa ((AA h).mono (Nat.le_succ _))) x;rw[e1];exact e
theorem TC(P:Nat->Rat->Prop)(mono:∀ i s t,P i s->s<=t->P i t):∀ m,(∀ i,i < m->∃ T,P i T)->∃ T,1<=T/\∀ i,i < m->P i T
 | 0,_=>⟨1,Ab,fun i hi=>Aa⟩
 | m+1,h=>by
  obtain⟨T,h1,h2⟩:=TC P mono m fun i hi=>h i Aa;obtain⟨S,hS⟩:=h m Aa;refine⟨T+ab S,by have:=Ai S;grind,fun i hi=>?_⟩;by_cases e:i=m
  ·subst e;exact mono _ _ _ hS (by have:=TP S;grind)
  ·exact mono _ _ _ (h2 i Aa) (by have:=Ai S;grind)
/-! ### the chain -/
theorem Oi{F:Nat->Rat}(zF:ZI F)(fF:Ae F)(h0:F≠pz):∃ c:Rat,0 < c/\rd F=psc c F:=by
 have h1:=J4 zF fF h0;have h2:(0:Rat) < ((cn F:Nat):Rat):=by
  have:0 < cn F:=Nat.pos_of_ne_zero h1;exact_mod_cast this
 refine⟨1 / ((cn F:Nat):Rat),?_,rfl⟩;have h3:((cn F:Nat):Rat)*(1 / ((cn F:Nat):Rat))=1:=by grind
 rcases Std.lt_trichotomy 0 (1 / ((cn F:Nat):Rat))with a | a | a
 ·exact a
 ·rw[<-a,Rat.mul_zero]at h3;exact absurd h3 Ab
 ·exfalso
  have:=Jw h2 a;grind
theorem bE{A B:Nat->Rat}(fA:Ae A)(fB:Ae B)(h0:B≠pz):nx A B=pz↔pr A B=pz:=by
 constructor
 ·intro h
  have:=(Ku fA fB h0).2.2.1;rw[h,BZ]at this;exact(BJ (EP fA fB)).1 this.symm
 ·exact JS
theorem FC.dv{F0 G0 A B:Nat->Rat}{D S:Nat}(h:FC F0 G0 D S A B){E:Nat->Rat}(hE:Ae E):(Dv E A/\Dv E B)↔(Dv E F0/\Dv E G0):=by
 obtain⟨A',B',e,d,h,rfl,rfl,he,hd⟩:=h;rw[Fu (JC he),Fu (JC hd)];exact h.dv E hE
theorem KH{F G E:Nat->Rat}(c:D7 F G)(hE:Ae E)(h1:Dv E F)(h2:Dv E G):pl E=1:=D7.self hE ((c.dv h1).symm.dv h2)
theorem FC.cop{F0 G0 A B:Nat->Rat}{D S:Nat}(h:FC F0 G0 D S A B)(c:D7 F0 G0):D7 A B:=by
 obtain⟨fA,fB,-⟩:=h.facts;obtain⟨U,V,E,fU,fV,hg,e⟩:=Xl (pl B) fA fB (Nat.le_refl _);obtain⟨d1,d2⟩:=(h.dv hg.1).1 ⟨hg.2.2.1,hg.2.2.2.1⟩;have h1:=KH c hg.1 d1 d2;have hne:E≠pz:=fun q=>by rw[q,BZ]at h1;omega
 have hl:=hg.2.1 hne;have hE:E=pone:=by
  funext i
  match i with
  | 0 =>
   have:ld E=E 0:=by unfold ld;rw[h1]
   rw[<-this,hl];rfl
  | i+1=>exact(AA hg.1) (i+1) Aa
 exact⟨U,V,fU,fV,by rw[e,hE]⟩
noncomputable def vx(F:Nat->Rat)(K:Nat)(x:Rat):Nat:=TZ (fun i=>ev (Cs F (pd F) i) x) K
noncomputable def GX(F:Nat->Rat)(x y:Rat):Nat:=open Classical in if ev F x≠0/\Bo (ev F y)≠Bo (ev F x)then 1 else 0
theorem FN{c q:Rat}(h:0 < c):Bo (c*q)=Bo q:=by
 unfold Bo;rcases Std.lt_trichotomy q 0 with a | a | a
 ·have:=Jw h a
  rw[if_neg (show ¬ 0 < c*q by grind),if_pos this,if_neg (show ¬ 0 < q by grind),if_pos a]
 ·rw[a,Rat.mul_zero]
 ·have:=Rat.mul_pos h a
  rw[if_pos this,if_pos a]
section
variable{F:Nat->Rat}{K:Nat}
structure Eb(F:Nat->Rat)(K:Nat):Prop where
 z:ZI F
 f:Ae F
 n:F≠pz
 c:D7 F (pd F)
 k:Nq F (pd F) K
theorem Eb.st(h:Eb F K){S:Nat}(hS:∀ i,qsz (F i)<=S)(hS2:∀ i,qsz (pd F i)<=S)(i:Nat)(hi:i < K):FC F (pd F) (pl F+pl (pd F)) S (Cs F (pd F) i) (Cs F (pd F) (i+1)):=
 Jt h.f (BS h.f) h.z (En h.z) hS hS2 i fun j a b=>h.k.2.2 j a Aa
theorem Eb.room(h:Eb F K):∃ S,(∀ i,qsz (F i)<=S)/\∀ i,qsz (pd F i)<=S:=by
 obtain⟨S,hS⟩:=DY h.f;obtain⟨T,hT⟩:=DY (BS h.f);exact⟨max S T,fun i=>Nat.le_trans (hS i) (Nat.le_max_left _ _),fun i=>Nat.le_trans (hT i) (Nat.le_max_right _ _)⟩
theorem Eb.ne0(h:Eb F K):Cs F (pd F) 0≠pz:=by
 obtain⟨c,hc,e⟩:=Oi h.z h.f h.n;intro q;have e2:Cs F (pd F) 0=rd F:=rfl;rw[e2,e]at q;have:=DT (show c≠0 by grind) h.f;rw[q,BZ]at this;exact h.n ((BJ h.f).1 this.symm)
theorem Eb.ne(h:Eb F K){i:Nat}(hi:i < K):Cs F (pd F) i≠pz:=by
 match i with
 | 0=>exact h.ne0
 | i+1=>exact h.k.2.2 (i+1) Aa hi
theorem Eb.fin(h:Eb F K){i:Nat}(hi:i < K):Ae (Cs F (pd F) i):=by
 obtain⟨S,a,b⟩:=h.room;exact(h.st a b i hi).facts.1
theorem Eb.last(h:Eb F K):pl (Cs F (pd F) (K - 1))=1:=by
 obtain⟨S,a,b⟩:=h.room;have hK:=h.k.1;have h1:=h.st a b (K - 1) Aa;have e:K - 1+1=K:=by omega
 rw[e,h.k.2.1]at h1;obtain⟨fA,-⟩:=h1.facts;exact KH h.c fA ((h1.dv fA).1 ⟨Dv.refl _,Dv.zero _⟩).1 ((h1.dv fA).1 ⟨Dv.refl _,Dv.zero _⟩).2
theorem Eb.recr(h:Eb F K){i:Nat}(hi:i+2 < K):∃ q c,Ae q/\0 < c/\∀ x,ev (Cs F (pd F) i) x=ev q x*ev (Cs F (pd F) (i+1)) x - c*ev (Cs F (pd F) (i+2)) x:=by
 have f0:=h.fin (show i < K by omega);have f1:=h.fin (show i+1 < K by omega);have n1:=h.ne (show i+1 < K by omega);have n2:=h.ne hi;have hp:pr (Cs F (pd F) i) (Cs F (pd F) (i+1))≠pz:=fun q=>n2 ((bE f0 f1 n1).2 q);obtain⟨-,fx,-,-,hc⟩:=Ku f0 f1 n1;obtain⟨c,hc0,e⟩:=hc hp;refine⟨pq (Cs F (pd F) i) (Cs F (pd F) (i+1)),c,De _ _,hc0,fun x=>?_⟩;have e2:=JB (Cs F (pd F) i) (Cs F (pd F) (i+1));have e3:ev (Cs F (pd F) i) x=ev (pad (cv (pq (Cs F (pd F) i) (Cs F (pd F) (i+1))) (Cs F (pd F) (i+1))) (pr (Cs F (pd F) i) (Cs F (pd F) (i+1)))) x:=by rw[<-e2]
 rw[e3,Jo ((De _ _).cv f1) (EP f0 f1),ET (De _ _) f1,e,Fw _ fx];show _ + -c*ev (nx (Cs F (pd F) i) (Cs F (pd F) (i+1))) x=_ - c*ev (Cs F (pd F) (i+2)) x;rw[M0];grind
theorem GM{c:Rat}(h:0 < c):0 < 1 / c/\1 / c*c=1:=by
 have e:1 / c*c=1:=by grind
 refine⟨?_,e⟩;rcases Std.lt_trichotomy 0 (1 / c)with p | p | p
 ·exact p
 ·rw[<-p,Rat.zero_mul]at e;exact absurd e Ab
 ·have:=Jw h p;grind
theorem Qi{p q t s:Rat}(h1:p<=t*q)(h2:0<=q)(h3:t<=s):p<=s*q:=Std.le_trans h1 (Rat.mul_le_mul_of_nonneg_right h3 h2)
theorem YE{a b c d:Rat}(ha:1<=a)(hb:1<=b)(hc:1<=c):a<=a+b+c+ab d/\b<=a+b+c+ab d/\c<=a+b+c+ab d/\d<=a+b+c+ab d/\1<=a+b+c+ab d:=by
 have h1:=Ai d;have h2:=TP d;refine⟨?_,?_,?_,?_,?_⟩<;>grind
theorem El{a b c:Rat}(h:a<=b)(hc:0<=c):a<=b+c:=by grind
theorem Dc{a b c:Rat}(h:a<=c)(hb:0<=b):a<=b+c:=by grind
theorem Eb.lipT(h:Eb F K){B:Rat}(hB:0<=B):∃ T,1<=T/\∀ i,i < K->∀ x y,ab x<=B->ab y<=B->ab (ev (Cs F (pd F) i) x - ev (Cs F (pd F) i) y)<=T*ab (x - y):=
 TC (fun i T=>∀ x y,ab x<=B->ab y<=B->ab (ev (Cs F (pd F) i) x - ev (Cs F (pd F) i) y)<=T*ab (x - y)) (fun i s t p q x y hx hy=>Qi (p x y hx hy) (Ai _) q) K fun i hi=>by
  obtain⟨L,-,hL⟩:=Ps (h.fin hi) hB;exact⟨L,hL⟩
theorem Eb.bezT(h:Eb F K){B:Rat}(hB:0<=B):∃ T,1<=T/\∀ i,i < K->∃ U W,Ae U/\Ae W/\pad (cv U (Cs F (pd F) i)) (cv W (Cs F (pd F) (i+1)))=pone/\∀ x,ab x<=B->ab (ev U x)<=T/\ab (ev W x)<=T:=by
 obtain⟨S,a,b⟩:=h.room;refine TC (fun i T=>∃ U W,Ae U/\Ae W/\pad (cv U (Cs F (pd F) i)) (cv W (Cs F (pd F) (i+1)))=pone/\∀ x,ab x<=B->ab (ev U x)<=T/\ab (ev W x)<=T) (fun i s t p q=>?_) K fun i hi=>?_
 ·obtain⟨U,W,c1,c2,c3,c4⟩:=p
  exact⟨U,W,c1,c2,c3,fun x hx=>⟨Std.le_trans (c4 x hx).1 q,Std.le_trans (c4 x hx).2 q⟩⟩
 ·obtain⟨U,W,c1,c2,c3⟩:=(h.st a b i hi).cop h.c
  obtain⟨M,m0,hM⟩:=G8 c1 hB;obtain⟨N,n0,hN⟩:=G8 c2 hB;exact⟨M+N,U,W,c1,c2,c3,fun x hx=>⟨El (hM x hx) n0,Dc (hN x hx) m0⟩⟩
theorem Eb.recT(h:Eb F K){B:Rat}(hB:0<=B):∃ T,1<=T/\∀ i,i < K->i+2 < K->∃ q c,Ae q/\0 < c/\(∀ x,ev (Cs F (pd F) i) x=ev q x*ev (Cs F (pd F) (i+1)) x - c*ev (Cs F (pd F) (i+2)) x)/\(∀ x,ab x<=B->ab (ev q x)<=T)/\1<=T*c:=by
 refine TC (fun i T=>i+2 < K->∃ q c,Ae q/\0 < c/\(∀ x,ev (Cs F (pd F) i) x=ev q x*ev (Cs F (pd F) (i+1)) x - c*ev (Cs F (pd F) (i+2)) x)/\(∀ x,ab x<=B->ab (ev q x)<=T)/\1<=T*c) (fun i s t p q hi=>?_) K fun i hi=>?_
 ·obtain⟨u,c,c1,c2,c3,c4,c5⟩:=p hi
  exact⟨u,c,c1,c2,c3,fun x hx=>Std.le_trans (c4 x hx) q,Qi c5 (Std.le_of_lt c2) q⟩
 ·by_cases hi2:i+2 < K
  ·obtain⟨q,c,c1,c2,c3⟩:=h.recr hi2
   obtain⟨M,m0,hM⟩:=G8 c1 hB;obtain⟨hp,e⟩:=GM c2;refine⟨M+1 / c,fun _=>⟨q,c,c1,c2,c3,fun x hx=>El (hM x hx) (Std.le_of_lt hp),?_⟩⟩;have h1:=Rat.mul_nonneg m0 (Std.le_of_lt c2);rw[Rat.add_mul,e];exact Dc (Std.le_refl _) h1
  ·exact⟨0,fun q=>absurd q hi2⟩
theorem Eb.topT(h:Eb F K){B:Rat}(hB:0<=B)(hK1:1 < K):∃ k T4:Rat,0 < k/\1<=T4*k/\∀ x y,ab x<=B->ab y<=B->∃ r,ab r<=T4/\ev (Cs F (pd F) 0) y - ev (Cs F (pd F) 0) x=(y - x)*(k*ev (Cs F (pd F) 1) x+(y - x)*r):=by
 obtain⟨c0,hc0,e0⟩:=Oi h.z h.f h.n;obtain⟨R,hR0,hR⟩:=aF h.f hB;have e00:Cs F (pd F) 0=rd F:=rfl;have e01:Cs F (pd F) 1=rd (pd F):=rfl;have n1:pd F≠pz:=fun q=>h.ne hK1 (by rw[e01,q,Zp]);obtain⟨c1,hc1,e1⟩:=Oi (En h.z) (BS h.f) n1;obtain⟨hp1,i1⟩:=GM hc1;have hk:0 < c0*(1 / c1):=Rat.mul_pos hc0 hp1;obtain⟨hp2,i2⟩:=GM hk;have hcR:=Rat.mul_nonneg (Std.le_of_lt hc0) hR0;obtain⟨k,hkd⟩:∃ k,k=c0*(1 / c1):=⟨_,rfl⟩
 rw[<-hkd]at hk hp2 i2;refine⟨k,1 / k+c0*R,hk,?_,fun x y hx hy=>?_⟩
 ·rw[Rat.add_mul,i2]
  exact El (Std.le_refl _) (Rat.mul_nonneg hcR (Std.le_of_lt hk))
 ·obtain⟨r,hr,e⟩:=hR x y hx hy
  refine⟨c0*r,?_,?_⟩
  ·rw[C8,Dn (Std.le_of_lt hc0)]
   exact Dc (Rat.mul_le_mul_of_nonneg_left hr (Std.le_of_lt hc0)) (Std.le_of_lt hp2)
  ·rw[e00,e01,e0,e1,Fw _ h.f,Fw _ h.f,Fw _ (BS h.f)]
   obtain⟨P,hP⟩:∃ P,P=ev (pd F) x:=⟨_,rfl⟩
   rw[<-hP]at e ⊢;have e6:c0*ev F y - c0*ev F x=c0*(ev F y - ev F x):=by rw[Rat.sub_eq_add_neg,Rat.sub_eq_add_neg,Rat.mul_add,Rat.mul_neg]
   rw[e6,e,hkd];clear hR hr e hx hy hcR h hk hp2 i2 e6;have e7:c0*(1 / c1)*(c1*P)=c0*P*(1 / c1*c1):=by grind
   rw[e7,i1];grind
theorem Eb.cells(h:Eb F K){B:Rat}(hB:0<=B):∃ T,1<=T/\∀ x y,ab x<=B->ab y<=B->x < y->4*(T*(T*(T*(T*(y - x))))) < 1->JM (K - 1) (fun i=>ev (Cs F (pd F) i) x) (fun i=>ev (Cs F (pd F) i) y) T (y - x):=by
 have hK:=h.k.1;obtain⟨T1,t1,h1⟩:=h.lipT hB;obtain⟨T2,t2,h2⟩:=h.bezT hB;obtain⟨T3,t3,h3⟩:=h.recT hB;obtain⟨k,T4,h4⟩:∃ k T4:Rat,1 < K->0 < k/\1<=T4*k/\∀ x y,ab x<=B->ab y<=B->∃ r,ab r<=T4/\ev (Cs F (pd F) 0) y - ev (Cs F (pd F) 0) x=(y - x)*(k*ev (Cs F (pd F) 1) x+(y - x)*r):=by
  by_cases hK1:1 < K
  ·obtain⟨k,T4,q⟩:=h.topT hB hK1;exact⟨k,T4,fun _=>q⟩
  ·exact⟨0,0,fun q=>absurd q hK1⟩
 obtain⟨l1,l2,l3,l4,l5⟩:=YE (d:=T4) t1 t2 t3;obtain⟨T,hT⟩:∃ T,T=T1+T2+T3+ab T4:=⟨_,rfl⟩
 rw[<-hT]at l1 l2 l3 l4 l5;refine⟨T,l5,fun x y hx hy hxy hsm=>?_⟩;have hlast:=h.last;have hcl:∀ z,ev (Cs F (pd F) (K - 1)) z=Cs F (pd F) (K - 1) 0:=fun z=>by
  unfold ev;rw[hlast,Dq];show _+z*0=_;rw[Rat.mul_zero,Rat.add_zero]
 have hd0:0 < y - x:=by clear hsm h1 h2 h3 h4 hcl;grind
 have hdxy:ab (x - y)=y - x:=by
  clear hsm h1 h2 h3 h4 hcl;unfold ab;rw[if_pos Af];grind
 have hfin:∀ i,i < K->Ae (Cs F (pd F) i):=fun i hi=>h.fin hi;have hne:=CX (hfin (K - 1) Aa) (h.ne (show K - 1 < K by omega));have hbz:∀ z,ab z<=B->∀ i,i+1 < K->∃ U W,U*ev (Cs F (pd F) i) z+W*ev (Cs F (pd F) (i+1)) z=1/\ab U<=T/\ab W<=T:=fun z hz i hi=>by
  obtain⟨U,W,c1,c2,c3,c4⟩:=h2 i Aa;refine⟨ev U z,ev W z,?_,Std.le_trans (c4 z hz).1 l2,Std.le_trans (c4 z hz).2 l2⟩;rw[<-ET c1 (hfin i Aa),<-ET c2 (hfin (i+1) hi),<-Jo (c1.cv (hfin i Aa)) (c2.cv (hfin (i+1) hi)),c3,Oe]
 have hrc:∀ z,ab z<=B->∀ i,i+2 < K->∃ q c,ev (Cs F (pd F) i) z=q*ev (Cs F (pd F) (i+1)) z - c*ev (Cs F (pd F) (i+2)) z/\ab q<=T/\0 < c/\1<=T*c:=fun z hz i hi=>by
  obtain⟨q,c,c1,c2,c3,c4,c5⟩:=h3 i Aa hi;exact⟨ev q z,c,c3 z,Std.le_trans (c4 z hz) l3,c2,Qi c5 (Std.le_of_lt c2) l3⟩
 refine⟨l5,hd0,hsm,fun i hi=>?_,fun i hi=>hbz x hx i Aa,fun i hi=>hbz y hy i Aa,fun i hi=>hrc x hx i Aa,fun i hi=>hrc y hy i Aa,⟨by rw[hcl,hcl],?_⟩,fun hm=>?_⟩
 ·have:=h1 i Aa x y hx hy
  rw[hdxy]at this;exact Qi this (Std.le_of_lt hd0) l1
 ·show ev (Cs F (pd F) (K - 1)) x≠0
  rw[hcl];unfold ld at hne;rw[hlast]at hne;exact hne
 ·obtain⟨g1,g2,g3⟩:=h4 Aa
  obtain⟨r,hr,e⟩:=g3 x y hx hy;exact⟨k,r,e,g1,Qi g2 (Std.le_of_lt g1) l4,Std.le_trans hr l4⟩
theorem R7{T:Rat}(hT:1<=T):∃ δ:Rat,0 < δ/\∀ d,d<=δ->4*(T*(T*(T*(T*d)))) < 1:=by
 have hT0:0 < T:=by grind
 have p2:=Rat.mul_pos hT0 hT0;have p3:=Rat.mul_pos hT0 p2;have p4:=Rat.mul_pos hT0 p3;obtain⟨P,hP⟩:∃ P,P=T*(T*(T*T)):=⟨_,rfl⟩
 rw[<-hP]at p4;obtain⟨hδ,hi⟩:=GM (show 0 < 8*P by grind);refine⟨1 / (8*P),hδ,fun d hd=>?_⟩;have e:T*(T*(T*(T*d)))=P*d:=by rw[hP];grind
 rw[e];have h1:=Rat.mul_le_mul_of_nonneg_left hd (show 0<=P by grind);obtain⟨X,hX⟩:∃ X,X=1 / (8*P):=⟨_,rfl⟩
 rw[<-hX]at h1 hi;have h2:X*(8*P)=8*(P*X):=by grind
 rw[h2]at hi;clear h2 hX e hP p2 p3 hδ;grind
theorem Eb.local_(h:Eb F K){B:Rat}(hB:0<=B):∃ δ:Rat,0 < δ/\∀ x y,ab x<=B->ab y<=B->x < y->y - x<=δ->vx F K x=vx F K y+GX F x y:=by
 obtain⟨T,hT,hc⟩:=h.cells hB;obtain⟨δ,hδ,hs⟩:=R7 hT;refine⟨δ,hδ,fun x y hx hy hxy hd=>?_⟩;have hs:=(hc x y hx hy hxy (hs _ hd)).sturm;have hK:=h.k.1;rw[show K - 1+1=K by omega]at hs;obtain⟨c0,hc0,e0⟩:=Oi h.z h.f h.n;have e00:∀ z,ev (Cs F (pd F) 0) z=c0*ev F z:=fun z=>by
  show ev (rd F) z=_;rw[e0,Fw _ h.f]
 have e2:(if Bo (ev (Cs F (pd F) 0) x)≠0/\Bo (ev (Cs F (pd F) 0) y)≠Bo (ev (Cs F (pd F) 0) x)then 1 else 0)=GX F x y:=by
  rw[e00,e00,FN hc0,FN hc0];unfold GX;have hz:Bo (ev F x)≠0↔ev F x≠0:=by rw[Ne,Di]
  by_cases c:ev F x≠0/\Bo (ev F y)≠Bo (ev F x)
  ·rw[if_pos ⟨hz.2 c.1,c.2⟩,if_pos c]
  ·rw[if_neg (fun q=>c ⟨hz.1 q.1,q.2⟩),if_neg c]
 rw[e2]at hs;exact hs
end
theorem eP(q:Rat):∃ n:Nat,0 < n/\q<=(n:Rat):=by
 refine⟨q.num.natAbs+1,Aa,?_⟩;have h1:(0:Rat)<=((q.num.natAbs:Nat):Rat):=by exact_mod_cast Nat.zero_le _
 have h2:(((q.num.natAbs+1:Nat)):Rat)=((q.num.natAbs:Nat):Rat)+1:=by push_cast;rfl
 rw[h2];rcases Std.lt_trichotomy 0 q with a | a | a
 ·have hd:(1:Rat)<=((q.den:Nat):Rat):=by
   have:=q.den_pos;exact_mod_cast this
  have e:q*((q.den:Nat):Rat)=((q.num:Int):Rat):=by
   have h3:=Ju q;have hd0:((q.den:Nat):Rat)≠0:=IZ q.den_pos
   conv=>lhs;rw[h3]
   grind
  have h4:q*1<=q*((q.den:Nat):Rat):=Rat.mul_le_mul_of_nonneg_left hd (Std.le_of_lt a);have h5:((q.num:Int):Rat)<=((q.num.natAbs:Nat):Rat):=by
   have h6:q.num<=((q.num.natAbs:Nat):Int):=by omega
   have h7:((q.num:Int):Rat)<=((((q.num.natAbs:Nat):Int)):Rat):=by exact_mod_cast h6
   exact h7
  grind
 ·rw[<-a];grind
 ·grind
theorem EB{a b z B:Rat}(ha:ab a<=B)(hb:ab b<=B)(h1:a<=z)(h2:z<=b):ab z<=B:=by
 rw[EJ]at *;exact⟨Std.le_trans ha.1 h1,Std.le_trans h2 hb.2⟩
noncomputable def Va(F:Nat->Rat)(a s:Rat):Nat->Nat
 | 0=>0
 | n+1=>Va F a s n+GX F (a+((n:Nat):Rat)*s) (a+((n+1:Nat):Rat)*s)
section
variable{F:Nat->Rat}{K:Nat}
theorem Cz(n:Nat):((n+1:Nat):Rat)=((n:Nat):Rat)+1:=by push_cast;rfl
theorem E8(n:Nat):(0:Rat)<=((n:Nat):Rat):=by exact_mod_cast Nat.zero_le n
theorem Ws{V:Rat->Nat}{B δ:Rat}(hl:∀ x y,ab x<=B->ab y<=B->x < y->y - x<=δ->V x=V y+GX F x y){a s:Rat}(hs:0 < s)(hsδ:s<=δ):∀ n,(∀ j,j<=n->ab (a+((j:Nat):Rat)*s)<=B)->V a=V (a+((n:Nat):Rat)*s)+Va F a s n
 | 0,_=>by
  have e:a+((0:Nat):Rat)*s=a:=by show a+0*s=a;rw[Rat.zero_mul,Rat.add_zero]
  rw[e];rfl
 | n+1,hj=>by
  have h1:=Ws hl hs hsδ n fun j h=>hj j Aa;have e:a+((n+1:Nat):Rat)*s=a+((n:Nat):Rat)*s+s:=by rw[Cz];grind
  have h2:=hl (a+((n:Nat):Rat)*s) (a+((n+1:Nat):Rat)*s) (hj n Aa) (hj (n+1) (Nat.le_refl _)) (by rw[e];grind) (by rw[e];grind);rw[h1,h2];show _=_+(Va F a s n+GX F _ _);omega
theorem cut{a b δ:Rat}(hab:a < b)(hδ:0 < δ):∃ n s,0 < n/\0 < s/\s<=δ/\a+((n:Nat):Rat)*s=b/\∀ j,j<=n->a<=a+((j:Nat):Rat)*s/\a+((j:Nat):Rat)*s<=b:=by
 obtain⟨hi,ei⟩:=GM hδ;obtain⟨n,hn,hq⟩:=eP ((b - a)*(1 / δ));have hn0:(0:Rat) < ((n:Nat):Rat):=by exact_mod_cast hn
 obtain⟨hm,em⟩:=GM hn0;have hba:0 < b - a:=by grind
 obtain⟨s,hs⟩:∃ s,s=(b - a)*(1 / ((n:Nat):Rat)):=⟨_,rfl⟩
 have hs0:0 < s:=by rw[hs];exact Rat.mul_pos hba hm
 have ens:((n:Nat):Rat)*s=b - a:=by rw[hs];grind
 refine⟨n,s,hn,hs0,?_,by rw[ens];grind,fun j hj=>?_⟩
 ·-- b - a<=n δ
  have h1:=Rat.mul_le_mul_of_nonneg_right hq (show 0<=δ by grind);have e1:(b - a)*(1 / δ)*δ=b - a:=by grind
  rw[e1,<-ens]at h1;rcases Std.lt_trichotomy s δ with c | c | c
  ·exact Std.le_of_lt c
  ·rw[c];exact Std.le_refl _
  ·exfalso
   have:=Rat.mul_lt_mul_of_pos_left c hn0;grind
 ·have h0:=Rat.mul_nonneg (E8 j) (Std.le_of_lt hs0)
  have hjn:((j:Nat):Rat)<=((n:Nat):Rat):=by exact_mod_cast hj
  have h1:=Rat.mul_le_mul_of_nonneg_right hjn (Std.le_of_lt hs0);rw[ens]at h1;refine⟨Af,Af⟩
theorem Eb.sums(h:Eb F K){a b:Rat}(hab:a < b){ε:Rat}(hε:0 < ε):∃ n s,0 < n/\0 < s/\s<=ε/\a+((n:Nat):Rat)*s=b/\(∀ j,j<=n->a<=a+((j:Nat):Rat)*s/\a+((j:Nat):Rat)*s<=b)/\vx F K a=vx F K b+Va F a s n:=by
 have hB:0<=ab a+ab b:=by have:=Ai a;have:=Ai b;grind
 obtain⟨δ,hδ,hl⟩:=h.local_ hB;have hm:∃ μ:Rat,0 < μ/\μ<=δ/\μ<=ε:=by
  rcases Std.lt_trichotomy δ ε with c | c | c
  ·exact⟨δ,hδ,Std.le_refl _,Std.le_of_lt c⟩
  ·exact⟨δ,hδ,Std.le_refl _,by rw[c];exact Std.le_refl _⟩
  ·exact⟨ε,hε,Std.le_of_lt c,Std.le_refl _⟩
 obtain⟨μ,hμ,h1,h2⟩:=hm;obtain⟨n,s,hn,hs,hsμ,e,hj⟩:=cut hab hμ;refine⟨n,s,hn,hs,Std.le_trans hsμ h2,e,hj,?_⟩;have:=Ws hl hs (Std.le_trans hsμ h1) n fun j hjn=>EB (El (Std.le_refl _) (Ai b)) (Dc (Std.le_refl _) (Ai a)) (hj j hjn).1 (hj j hjn).2;rw[e]at this;exact this
theorem Eb.mono(h:Eb F K){a b:Rat}(hab:a<=b):vx F K b<=vx F K a:=by
 rcases Std.lt_trichotomy a b with c | c | c
 ·obtain⟨n,s,-,-,-,-,-,e⟩:=h.sums c (ε:=1) Ab
  omega
 ·rw[c];exact Nat.le_refl _
 ·exfalso;grind
theorem NM{a s:Rat}:∀ n,(∀ j,j < n->GX F (a+((j:Nat):Rat)*s) (a+((j+1:Nat):Rat)*s)=0)->Va F a s n=0
 | 0,_=>rfl
 | n+1,hj=>by
  show Va F a s n+GX F _ _=0;rw[NM n fun j h=>hj j Aa,hj n Aa]
theorem Eb.flat(h:Eb F K){a b ε:Rat}(hab:a<=b)(hε:0 < ε)(hf:∀ z,a<=z->z<=b->ε<=ab (ev F z)):vx F K a=vx F K b:=by
 rcases Std.lt_trichotomy a b with c | c | c
 ·have hB:0<=ab a+ab b:=by have:=Ai a;have:=Ai b;grind
  obtain⟨L,hL0,hL⟩:=Ps h.f hB;obtain⟨hi,ei⟩:=GM (show 0 < L+1 by grind);have hμ:0 < ε*(1 / (L+1))*(1 / 2):=Rat.mul_pos (Rat.mul_pos hε hi) Af;obtain⟨n,s,hn,hs,hsμ,e,hj,hv⟩:=h.sums c hμ;have hLs:L*s < ε:=by
   have h1:=Rat.mul_le_mul_of_nonneg_left hsμ (show 0<=L+1 by grind);have e1:(L+1)*(ε*(1 / (L+1))*(1 / 2))=ε*(1 / 2):=by grind
   rw[e1]at h1;grind
  have hz:=NM (F:=F) (a:=a) (s:=s) n fun j hjn=>by
   unfold GX;refine if_neg fun q=>?_;obtain⟨x1,x2⟩:=hj j Aa;obtain⟨y1,y2⟩:=hj (j+1) Aa;have bx:=EB (El (Std.le_refl (ab a)) (Ai b)) (Dc (Std.le_refl _) (Ai a)) x1 x2;have by_:=EB (El (Std.le_refl (ab a)) (Ai b)) (Dc (Std.le_refl _) (Ai a)) y1 y2;have hl:=hL _ _ bx by_;have ed:ab (a+((j:Nat):Rat)*s - (a+((j+1:Nat):Rat)*s))=s:=by
    have:a+((j:Nat):Rat)*s - (a+((j+1:Nat):Rat)*s) = - s:=by rw[Cz];grind
    rw[this,MV,Dn (Std.le_of_lt hs)]
   rw[ed]at hl;have:=(FP hl (fun t=>q.2 t.1.symm)).1;have h3:=hf _ x1 x2;grind
  rw[hz]at hv;exact hv
 ·rw[c]
 ·exfalso;grind
theorem ZW{f:Nat->Rat}(hf:Ae f)(h0:f≠pz){B z:Rat}(hB:1<=B)(hc:∀ i,i < pl f - 1->ab (f i)<=ab (ld f)*(B - 1))(hz:B<=ab z):ab (ld f)<=ab (ev f z):=by
 have hp:=AO hf h0;have hl:=Ai (ld f);have key:∀ k,k < pl f->ab (ld f)<=ab (hor f z (pl f) (pl f - 1 - k)):=by
  intro k;induction k with
  | zero =>
   intro _;have e:=Nb f z (show pl f - 1 < pl f by omega);rw[show pl f - 1+1=pl f by omega,SL,Rat.zero_mul,Rat.zero_add]at e;rw[Nat.sub_zero,e];exact Std.le_refl _
  | succ k ih =>
   intro hk;have h1:=ih Aa;have e:=Nb f z (show pl f - 1 - (k+1) < pl f by omega);rw[show pl f - 1 - (k+1)+1=pl f - 1 - k by omega]at e;have h2:=hc (pl f - 1 - (k+1)) Aa;have h3:ab (ld f)*ab z<=ab (hor f z (pl f) (pl f - 1 - k)*z):=by rw[C8];exact Rat.mul_le_mul_of_nonneg_right h1 (Ai _)
   have h4:ab (hor f z (pl f) (pl f - 1 - k)*z)<=ab (hor f z (pl f) (pl f - 1 - (k+1)))+ab (f (pl f - 1 - (k+1))):=by
    have:=VU (hor f z (pl f) (pl f - 1 - (k+1))) (f (pl f - 1 - (k+1)));have e2:hor f z (pl f) (pl f - 1 - (k+1)) - f (pl f - 1 - (k+1))=hor f z (pl f) (pl f - 1 - k)*z:=by rw[e];grind
    rw[e2]at this;exact this
   have h5:ab (ld f)*B<=ab (ld f)*ab z:=Rat.mul_le_mul_of_nonneg_left hz hl;have h6:ab (ld f)*(B - 1)=ab (ld f)*B - ab (ld f):=by grind
   rw[h6]at h2;clear hc ih e h0 hf;grind
 have:=key (pl f - 1) Aa;rw[show pl f - 1 - (pl f - 1)=0 by omega,PR]at this;exact this
theorem Eb.beyond(h:Eb F K){f q:Nat->Rat}(hf:Ae f)(h0:f≠pz)(fq:Ae q)(e:f=cv q F){B:Rat}(hB:1<=B)(hc:∀ i,i < pl f - 1->ab (f i)<=ab (ld f)*(B - 1)){a b:Rat}(hab:a<=b)(hout:∀ z,a<=z->z<=b->B<=ab z):vx F K a=vx F K b:=by
 have hBn:0<=ab a+ab b:=by have:=Ai a;have:=Ai b;grind
 obtain⟨M,hM0,hM⟩:=G8 fq hBn;obtain⟨hi,ei⟩:=GM (show 0 < M+1 by grind);have hl:0 < ab (ld f):=Rq.2 (CX hf h0);refine h.flat hab (Rat.mul_pos hl hi) fun z h1 h2=>?_;have hc1:=ZW hf h0 hB hc (hout z h1 h2);have hb:=hM z (EB (El (Std.le_refl (ab a)) (Ai b)) (Dc (Std.le_refl _) (Ai a)) h1 h2);rw[e,ET fq h.f,C8,<-e]at hc1;have hz:=Ai (ev F z);have h3:ab (ev q z)*ab (ev F z)<=(M+1)*ab (ev F z):=Rat.mul_le_mul_of_nonneg_right Af hz
 have h4:=Std.le_trans hc1 h3;have h5:=Rat.mul_le_mul_of_nonneg_right h4 (Std.le_of_lt hi);have e2:(M+1)*ab (ev F z)*(1 / (M+1))=ab (ev F z):=by grind
 rw[e2]at h5;exact h5
theorem Eb.total(h:Eb F K){f q:Nat->Rat}(hf:Ae f)(h0:f≠pz)(fq:Ae q)(e:f=cv q F){B:Rat}(hB:1<=B)(hc:∀ i,i < pl f - 1->ab (f i)<=ab (ld f)*(B - 1)){a b:Rat}(hab:a<=b):vx F K a+vx F K B<=vx F K (-B)+vx F K b:=by
 -- the ends outside
 have h1:vx F K a<=vx F K (-B):=by
  rcases Std.lt_trichotomy a (-B)with c | c | c
  ·have:=h.beyond hf h0 fq e hB hc (Std.le_of_lt c) (fun z _ z2=>by
    unfold ab;rw[if_pos Af];grind)
   omega
  ·rw[c];exact Nat.le_refl _
  ·exact h.mono (Std.le_of_lt c)
 have h2:vx F K B<=vx F K b:=by
  rcases Std.lt_trichotomy B b with c | c | c
  ·have:=h.beyond hf h0 fq e hB hc (Std.le_of_lt c) (fun z z1 _=>by
    unfold ab;rw[if_neg Af];exact z1)
   omega
  ·rw[c];exact Nat.le_refl _
  ·exact h.mono (Std.le_of_lt c)
 omega
end
theorem LG{P:Rat->Rat->Prop}{a b δ:Rat}(hδ:0 < δ)(hab:a < b)(hc:∀ x y,a<=x->x < y->y<=b->y - x<=δ->P x y)
  (ht:∀ x y z,a<=x->x < y->y < z->z<=b->P x y->P y z->P x z):P a b:=by
 obtain⟨n,s,hn,hs,hsδ,e,hj⟩:=cut hab hδ;have key:∀ k,k < n->P a (a+((k+1:Nat):Rat)*s):=by
  intro k;induction k with
  | zero =>
   intro h;have e1:a+((0+1:Nat):Rat)*s=a+s:=by rw[Cz];show a+(0+1)*s=_;grind
   have:=(hj 1 Aa).2;rw[show((1:Nat):Rat)=((0+1:Nat):Rat)from rfl]at this;rw[e1]at this ⊢;exact hc a (a+s) (Std.le_refl _) Af this Af
  | succ k ih =>
   intro h;have e1:a+((k+1+1:Nat):Rat)*s=a+((k+1:Nat):Rat)*s+s:=by rw[Cz];grind
   have h1:=hj (k+1) Aa;have h2:=hj (k+1+1) Aa;have h3:a < a+((k+1:Nat):Rat)*s:=by
    have:=Rat.mul_nonneg (E8 k) (Std.le_of_lt hs);rw[Cz];grind
   refine ht a (a+((k+1:Nat):Rat)*s) _ (Std.le_refl _) h3 (by rw[e1];grind) h2.2 (ih Aa) ?_;exact hc _ _ h1.1 (by rw[e1];grind) h2.2 (by rw[e1];grind)
 have:=key (n - 1) Aa;rw[show n - 1+1=n by omega,e]at this;exact this
noncomputable def rt(F:Nat->Rat)(K:Nat)(p q:Rat):Int:=(vx F K p:Int) - (vx F K q:Int)
section
variable{F:Nat->Rat}{K:Nat}
theorem I4(F:Nat->Rat)(K:Nat)(p q r:Rat):rt F K p q+rt F K q r=rt F K p r:=by unfold rt;omega
theorem Lx(F:Nat->Rat)(K:Nat)(p:Rat):rt F K p p=0:=by unfold rt;omega
theorem Eb.rt_nonneg(h:Eb F K){p q:Rat}(hpq:p<=q):0<=rt F K p q:=by have:=h.mono hpq;unfold rt;omega
theorem Eb.rt_sub(h:Eb F K){p x y q:Rat}(h1:p<=x)(h2:x<=y)(h3:y<=q):rt F K x y<=rt F K p q:=by
 have:=h.rt_nonneg h1;have:=h.rt_nonneg h3;have:=I4 F K p x y;have:=I4 F K p y q;omega
theorem Eb.loc(h:Eb F K)(a b:Rat):∃ δ:Rat,0 < δ/\∀ x y,a<=x->x < y->y<=b->y - x<=δ->rt F K x y=GX F x y:=by
 have hB:0<=ab a+ab b:=by have:=Ai a;have:=Ai b;grind
 obtain⟨δ,hδ,hl⟩:=h.local_ hB;refine⟨δ,hδ,fun x y h1 h2 h3 h4=>?_⟩;have:=hl x y (EB (El (Std.le_refl (ab a)) (Ai b)) (Dc (Std.le_refl _) (Ai a)) h1 Af)
  (EB (El (Std.le_refl (ab a)) (Ai b)) (Dc (Std.le_refl _) (Ai a)) Af h3) h2 h4
 unfold rt;omega
theorem Ii{q:Rat}(h:Bo q≠0):q≠0:=fun e=>h (Di.2 e)
theorem MH{q:Rat}(h:q≠0):Bo q≠0:=fun e=>h (Di.1 e)
theorem X4{x y:Rat}(h:(GX F x y:Int)=0)(hx:ev F x≠0):Bo (ev F y)=Bo (ev F x):=by
 unfold GX at h
 split at h
 ·omega
 ·rename_i c
  exact Classical.byContradiction fun e=>c ⟨hx,e⟩
theorem Y4{x y:Rat}(hx:ev F x≠0)(h:Bo (ev F y)≠Bo (ev F x)):(GX F x y:Int)=1:=by
 unfold GX;rw[if_pos ⟨hx,h⟩];rfl
theorem aW(F:Nat->Rat)(x y:Rat):0<=(GX F x y:Int)/\(GX F x y:Int)<=1:=by
 unfold GX;split<;>simp
theorem Eb.sg_const(h:Eb F K){p q:Rat}(hpq:p<=q)(h0:rt F K p q=0)(hp:ev F p≠0):Bo (ev F q)=Bo (ev F p):=by
 rcases Std.lt_trichotomy p q with c | c | c
 ·obtain⟨δ,hδ,hl⟩:=h.loc p q
  refine LG (P:=fun x y=>rt F K x y=0->ev F x≠0->Bo (ev F y)=Bo (ev F x)) hδ c (fun x y a b c d e f=>?_) (fun x y z a b c d e f g k=>?_) h0 hp
  ·rw[hl x y a b c d]at e
   exact X4 e f
  ·have h1:=h.rt_nonneg (Std.le_of_lt b)
   have h2:=h.rt_nonneg (Std.le_of_lt c);have h3:=I4 F K x y z;have e1:=e Aa k;have e2:=f Aa (Ii (by rw[e1];exact MH k));rw[e2,e1]
 ·rw[c]
 ·exfalso;grind
theorem Nr(hf:Ae F)(h0:F≠pz){p z δ:Rat}(hp:p < z)(hδ:0 < δ):∃ x,p < x/\x < z/\z - x<=δ/\ev F x≠0:=by
 obtain⟨μ,hμ,m1,m2⟩:∃ μ:Rat,0 < μ/\μ<=δ/\μ < z - p:=by
  rcases Std.lt_trichotomy δ (z - p)with c | c | c
  ·exact⟨δ,hδ,Std.le_refl _,c⟩
  ·exact⟨δ / 2,Af,Af,Af⟩
  ·exact⟨(z - p) / 2,Af,Af,Af⟩
 refine Classical.byContradiction fun hn=>?_;have hz:∀ x,z - μ<=x->x < z->ev F x=0:=fun x a b=>Classical.byContradiction fun e=>hn ⟨x,Af,b,Af,e⟩;have hpl:=AO hf h0;obtain⟨n,hn'⟩:∃ n,n=pl F:=⟨_,rfl⟩
 have hn0:(0:Rat) < ((n:Nat):Rat):=by rw[hn'];exact_mod_cast hpl
 obtain⟨hi,ei⟩:=GM hn0;obtain⟨s,hs⟩:∃ s,s=μ*(1 / ((n:Nat):Rat)):=⟨_,rfl⟩
 have hs0:0 < s:=by rw[hs];exact Rat.mul_pos hμ hi
 have ens:((n:Nat):Rat)*s=μ:=by rw[hs];grind
 have hlist:((List.range n).map fun j:Nat=>z - μ+((j:Nat):Rat)*s).Nodup:=by
  rw[List.nodup_iff_pairwise_ne,List.pairwise_map];refine List.Pairwise.imp ?_ List.pairwise_lt_range;intro i j hij e;have hij':((i:Nat):Rat)+1<=((j:Nat):Rat):=by rw[<-Cz];exact_mod_cast hij
  have:=Rat.mul_le_mul_of_nonneg_right hij' (Std.le_of_lt hs0);grind
 refine h0 (GI (l:=(List.range n).map fun j:Nat=>z - μ+((j:Nat):Rat)*s) (by rw[List.length_map,List.length_range,hn'];exact AA hf) hlist ?_);intro x hx;obtain⟨j,hj,rfl⟩:=List.mem_map.1 hx;have hj:=List.mem_range.1 hj;have h1:=Rat.mul_nonneg (E8 j) (Std.le_of_lt hs0);have hij':((j:Nat):Rat)+1<=((n:Nat):Rat):=by rw[<-Cz];exact_mod_cast hj
 have:=Rat.mul_le_mul_of_nonneg_right hij' (Std.le_of_lt hs0);exact hz _ Af Af
theorem Eb.zero_counts(h:Eb F K){p z q:Rat}(h1:p < z)(h2:z<=q)(hz:ev F z=0):1<=rt F K p q:=by
 obtain⟨δ,hδ,hl⟩:=h.loc p z;obtain⟨x,a,b,c,d⟩:=Nr h.f h.n h1 hδ;have e1:=hl x z (Std.le_of_lt a) b (Std.le_refl _) c;rw[Y4 d (by rw[hz,Di.2 rfl];exact fun e=>MH d e.symm)]at e1;have:=h.rt_sub (Std.le_of_lt a) (Std.le_of_lt b) h2;omega
theorem Eb.change_counts(h:Eb F K){p q:Rat}(hpq:p<=q)(hp:ev F p≠0)(hc:Bo (ev F q)≠Bo (ev F p)):1<=rt F K p q:=by
 have h1:=h.rt_nonneg hpq;rcases Int.lt_or_le 0 (rt F K p q)with a | a
 ·exact a
 ·exact absurd (h.sg_const hpq Aa hp) hc
theorem Eb.free(h:Eb F K){p q x y:Rat}(h0:rt F K p q=0)(h1:p < x)(h2:x<=y)(h3:y<=q):ev F x≠0/\Bo (ev F y)=Bo (ev F x):=by
 have hx:ev F x≠0:=fun e=>by
  have:=h.zero_counts h1 (Std.le_trans h2 h3) e;omega
 have:=h.rt_sub (Std.le_of_lt h1) h2 h3;have:=h.rt_nonneg h2;exact⟨hx,h.sg_const h2 Aa hx⟩
end
theorem F6(p q:Rat):Bo (p*q)=Bo p*Bo q:=by
 rcases Std.lt_trichotomy p 0 with a | a | a
 ·rcases Std.lt_trichotomy q 0 with b | b | b
  ·have:=Qj a b
   unfold Bo;rw[if_pos this,if_neg Af,if_pos a,if_neg Af,if_pos b];rfl
  ·rw[b,Rat.mul_zero,show Bo 0=0 from Di.2 rfl];simp
  ·have:=Jw b a
   rw[Rat.mul_comm]at this;unfold Bo;rw[if_neg Af,if_pos this,if_neg Af,if_pos a,if_pos b];rfl
 ·rw[a,Rat.zero_mul,show Bo 0=0 from Di.2 rfl];simp
 ·rw[FN a]
  unfold Bo;rw[if_pos a];simp
theorem D7.cell{A B:Nat->Rat}(fA:Ae A)(fB:Ae B)(c:D7 A B)(a b:Rat):∃ δ:Rat,0 < δ/\∀ x y,a<=x->x < y->y<=b->y - x<=δ ->
  (Bo (ev A y)=Bo (ev A x)/\ev A x≠0)\/(Bo (ev B y)=Bo (ev B x)/\ev B x≠0):=by
 obtain⟨U,W,fU,fW,e⟩:=c;have hB:0<=ab a+ab b:=by have:=Ai a;have:=Ai b;grind
 obtain⟨M,hM0,hM⟩:=G8 fU hB;obtain⟨N,hN0,hN⟩:=G8 fW hB;obtain⟨L,hL0,hL⟩:=Ps fA hB;obtain⟨R,hR0,hR⟩:=Ps fB hB;obtain⟨T,hT⟩:∃ T,T=M*L+N*R+1:=⟨_,rfl⟩
 have hML:=Rat.mul_nonneg hM0 hL0;have hNR:=Rat.mul_nonneg hN0 hR0;obtain⟨hi,ei⟩:=GM (show 0 < T by grind);refine⟨1 / T*(1 / 2),Af,fun x y h1 h2 h3 h4=>?_⟩;have bx:=EB (El (Std.le_refl (ab a)) (Ai b)) (Dc (Std.le_refl _) (Ai a)) h1 (show x<=b by grind);have by_:=EB (El (Std.le_refl (ab a)) (Ai b)) (Dc (Std.le_refl _) (Ai a)) (show a<=y by grind) h3;have eab:ab (x - y)=y - x:=by rw[show x - y = -(y - x) by grind,MV,Dn Af]
 have l1:=hL x y bx by_;have l2:=hR x y bx by_;rw[eab]at l1 l2;by_cases c1:Bo (ev A x)=Bo (ev A y)/\Bo (ev A x)≠0
 ·exact .inl ⟨c1.1.symm,Ii c1.2⟩
 by_cases c2:Bo (ev B x)=Bo (ev B y)/\Bo (ev B x)≠0
 ·exact .inr ⟨c2.1.symm,Ii c2.2⟩
 exfalso;have s1:=(FP l1 c1).1;have s2:=(FP l2 c2).1;have e1:ev U x*ev A x+ev W x*ev B x=1:=by
  rw[<-ET fU fA,<-ET fW fB,<-Jo (fU.cv fA) (fW.cv fB),e];have:ev pone x=CF 1 pone x:=ER Dy x;rw[this];show pone 0+x*0=1;show(1:Rat)+x*0=1;grind
 have h5:ab (ev U x*ev A x)<=M*(L*(y - x)):=by rw[C8];exact EA (hM x bx) s1 (Ai _) hM0
 have h6:ab (ev W x*ev B x)<=N*(R*(y - x)):=by rw[C8];exact EA (hN x bx) s2 (Ai _) hN0
 have h7:=Fh (ev U x*ev A x) (ev W x*ev B x);rw[e1,show ab 1=1 from by decide]at h7;have h8:=Rat.mul_le_mul_of_nonneg_left h4 (show 0<=T by grind);have e8:T*(1 / T*(1 / 2))=1 / 2:=by grind
 rw[e8]at h8;have e9:M*(L*(y - x))+N*(R*(y - x))=T*(y - x) - (y - x):=by rw[hT];grind
 grind
theorem Eb.rt_mul{A B:Nat->Rat}{K L M:Nat}(hA:Eb A K)(hB:Eb B L)(hC:Eb (cv A B) M)(c:D7 A B){p q:Rat}(hpq:p<=q):rt (cv A B) M p q=rt A K p q+rt B L p q:=by
 rcases Std.lt_trichotomy p q with hlt | heq | hgt
 ·obtain⟨d1,g1,l1⟩:=hA.loc p q
  obtain⟨d2,g2,l2⟩:=hB.loc p q;obtain⟨d3,g3,l3⟩:=hC.loc p q;obtain⟨d4,g4,l4⟩:=c.cell hA.f hB.f p q;obtain⟨d,hd,q1,q2,q3,q4⟩:∃ d:Rat,0 < d/\d<=d1/\d<=d2/\d<=d3/\d<=d4:=by
   have two:∀ u v:Rat,0 < u->0 < v->∃ w,0 < w/\w<=u/\w<=v:=fun u v hu hv=>by
    rcases Std.lt_trichotomy u v with c | c | c
    ·exact⟨u,hu,Std.le_refl _,Std.le_of_lt c⟩
    ·exact⟨u,hu,Std.le_refl _,Af⟩
    ·exact⟨v,hv,Std.le_of_lt c,Std.le_refl _⟩
   obtain⟨u,hu,u1,u2⟩:=two d1 d2 g1 g2;obtain⟨v,hv,v1,v2⟩:=two d3 d4 g3 g4;obtain⟨w,hw,w1,w2⟩:=two u v hu hv;exact⟨w,hw,Af,Af,Af,Af⟩
  refine LG (P:=fun x y=>rt (cv A B) M x y=rt A K x y+rt B L x y) hd hlt (fun x y a1 a2 a3 a4=>?_) (fun x y z a1 a2 a3 a4 e f=>?_)
  ·rw[l1 x y a1 a2 a3 Af,l2 x y a1 a2 a3 Af,l3 x y a1 a2 a3 Af]
   have e1:=ET hA.f hB.f x;have e2:=ET hA.f hB.f y;rcases l4 x y a1 a2 a3 Af with⟨s,n⟩ | ⟨s,n⟩
   ·have j1:GX A x y=0:=by unfold GX;exact if_neg fun q=>q.2 s
    have j2:GX (cv A B) x y=GX B x y:=by
     unfold GX;rw[e1,e2,F6,F6,s];have hs:=MH n;have:(ev A x*ev B x≠0/\Bo (ev A x)*Bo (ev B y)≠Bo (ev A x)*Bo (ev B x))↔(ev B x≠0/\Bo (ev B y)≠Bo (ev B x)):=by
      refine and_congr ⟨fun h e=>h (by rw[e,Rat.mul_zero]),fun h e=>?_⟩ ⟨fun h e=>h (by rw[e]),fun h e=>h (Int.eq_of_mul_eq_mul_left hs e)⟩;rcases Rat.mul_eq_zero.1 e with k | k
      ·exact n k
      ·exact h k
     simp only[this]
    omega
   ·have j1:GX B x y=0:=by unfold GX;exact if_neg fun q=>q.2 s
    have j2:GX (cv A B) x y=GX A x y:=by
     unfold GX;rw[e1,e2,F6,F6,s];have hs:=MH n;have:(ev A x*ev B x≠0/\Bo (ev A y)*Bo (ev B x)≠Bo (ev A x)*Bo (ev B x))↔(ev A x≠0/\Bo (ev A y)≠Bo (ev A x)):=by
      refine and_congr ⟨fun h e=>h (by rw[e,Rat.zero_mul]),fun h e=>?_⟩ ⟨fun h e=>h (by rw[e]),fun h e=>h (Int.eq_of_mul_eq_mul_right hs e)⟩;rcases Rat.mul_eq_zero.1 e with k | k
      ·exact h k
      ·exact n k
     simp only[this]
    omega
  ·have h1:=I4 (cv A B) M x y z;have h2:=I4 A K x y z;have h3:=I4 B L x y z
   omega
 ·rw[heq,Lx,Lx,Lx];rfl
 ·exfalso;grind
def IY(B:Rat)(F:Nat->Rat):Prop:=∀ i,ab (F i)<=B
theorem CK{a b c:Rat}(h:a<=b)(hc:0<=c):a*c<=b*c:=Rat.mul_le_mul_of_nonneg_right h hc
theorem Ct{a b c:Rat}(h:a<=b)(hc:0<=c):c*a<=c*b:=Rat.mul_le_mul_of_nonneg_left h hc
theorem IY.lin{F:Nat->Rat}{B R a:Rat}(h:IY B F)(ha:ab a<=R):IY (B*(1+R)) (cv F (Hp.lin a)):=by
 intro i;have hB:0<=B:=by have:=h 0;have:=Ai (F 0);grind
 have e:cv F (Hp.lin a)=pad (psc (-a) F) (cs 0 F):=by rw[AV];unfold Hp.lin;rw[KT,CG]
 have e2:cv F (Hp.lin a) i = -a*F i+cs 0 F i:=by rw[e];rfl
 have h1:ab (cs 0 F i)<=B:=by
  cases i with
  | zero=>show ab 0<=B;rw[show ab 0=0 from by decide];exact hB
  | succ i=>exact h i
 rw[e2];have h2:=Fh (-a*F i) (cs 0 F i);have h3:ab (-a*F i)=ab a*ab (F i):=by rw[C8,MV]
 have h4:ab a*ab (F i)<=R*B:=by
  have:=CK ha (Ai (F i));have h0:0<=R:=by have:=Ai a;grind
  have:=Ct (h i) h0;grind
 grind
theorem aD:ab 1=1:=by decide
theorem Dl:ab 0=0:=by decide
theorem IY.lgp{X:Nat->Rat}{R:Rat}(i:Nat)(h0:0<=R):∀ n,(∀ k,k < n->ab (X k)<=R)->IY ((1+R)^n) (lgp X i n)
 | 0,_=>fun j=>by
  rw[Rat.pow_zero];show ab (pone j)<=1;unfold pone;cases j with
  | zero=>show ab 1<=1;rw[aD];grind
  | succ j=>show ab 0<=1;rw[Dl];grind
 | n+1,h=>by
  have ih:=IY.lgp i h0 n fun k hk=>h k Aa;rw[Fz,Rat.pow_succ]
  split
  ·intro j
   have h1:=ih j;have h2:0<=(1+R)^n:=by have:=ih 0;have:=Ai (Hp.lgp X i n 0);grind
   have h3:(1+R)^n*0<=(1+R)^n*R:=Ct h0 h2;grind
  ·exact ih.lin (h n Aa)
theorem Ta{a b:Rat}(h0:0<=a)(h:a<=b):∀ n:Nat,0<=a^n/\a^n<=b^n
 | 0=>by rw[Rat.pow_zero,Rat.pow_zero];exact⟨Ab,Af⟩
 | n+1=>by
  have ih:=Ta h0 h n;rw[Rat.pow_succ,Rat.pow_succ];have h1:=CK ih.2 h0;have h2:0<=b^n:=by grind
  have h3:=Ct h h2;have h4:=CK ih.1 h0;exact⟨Af,Af⟩
theorem IY.psc{F:Nat->Rat}{B:Rat}(h:IY B F){a A:Rat}(ha:ab a<=A):IY (A*B) (psc a F):=fun i=>by
 show ab (a*F i)<=_;rw[C8];have h1:=CK ha (Ai (F i));have h0:0<=A:=by have:=Ai a;grind
 have h2:=Ct (h i) h0;grind
theorem IY.pad{F G:Nat->Rat}{A B:Rat}(h:IY A F)(k:IY B G):IY (A+B) (pad F G):=fun i=>by
 show ab (F i+G i)<=_;have:=Fh (F i) (G i);have:=h i;have:=k i;grind
theorem OG{F:Nat->Rat}{B R x:Rat}(h:IY B F)(h0:0<=R)(hx:ab x<=R):∀ n,ab (CF n F x)<=B*(n:Rat)*(1+R)^n
 | 0=>by
  have hB:0<=B:=by have:=h 0;have:=Ai (F 0);grind
  show ab 0<=_;rw[Dl,Rat.pow_zero];show(0:Rat)<=B*0*1;grind
 | n+1=>by
  have hB:0<=B:=by have:=h 0;have:=Ai (F 0);grind
  have ih:=OG (F:=tl F) (fun i=>h (i+1)) h0 hx n;rw[Dq,Rat.pow_succ];have h1:=Fh (F 0) (x*CF n (tl F) x);have h2:=h 0;have h3:ab (x*CF n (tl F) x)=ab x*ab (CF n (tl F) x):=C8 _ _;have h4:=CK hx (Ai (CF n (tl F) x));have h5:=Ct ih h0;have hp:=Ta (a:=1) (b:=1+R) Ab Af n;have hp2:(1:Rat)^n=1:=by
   clear ih h1 h2 h3 h4 h5 hp;induction n with
   | zero=>rfl
   | succ n ih=>rw[Rat.pow_succ,ih];grind
  rw[hp2]at hp;have hn0:(0:Rat)<=(n:Rat):=by exact_mod_cast Nat.zero_le n
  obtain⟨P,hP⟩:∃ P,P=(1+R)^n:=⟨_,rfl⟩
  rw[<-hP]at h5 hp ⊢;have hc:(((n+1:Nat):Rat))=(n:Rat)+1:=by push_cast;rfl
  rw[hc];have hBn:0<=B*(n:Rat):=by have:=Ct hn0 hB;grind
  have q1:R*(B*(n:Rat)*P)<=B*(n:Rat)*P*(1+R):=by
   have:0<=B*(n:Rat)*P:=by have:=Ct (show(0:Rat)<=P by grind) hBn;grind
   grind
  have q2:B*1<=B*(P*(1+R)):=Ct (by
   have:=CK hp.2 (show 0<=1+R by grind);grind) hB
  grind
theorem Jn(x:Int):ab (x:Rat)=((x.natAbs:Nat):Rat):=by
 unfold ab
 split
 ·rename_i h
  have:x < 0:=by exact_mod_cast h
  have e:((x.natAbs:Nat):Int) = -x:=by omega
  rw[show((x.natAbs:Nat):Rat)=(((x.natAbs:Nat):Int):Rat)from rfl,e];simp
 ·rename_i h
  have:0<=x:=Int.not_lt.1 fun h'=>h (by exact_mod_cast h');have e:((x.natAbs:Nat):Int)=x:=by omega
  rw[show((x.natAbs:Nat):Rat)=(((x.natAbs:Nat):Int):Rat)from rfl,e]
theorem UL{y z Y:Rat}(hy:ab y<=Y)(hz:1<=ab z):ab (y / z)<=Y:=by
 have hne:z≠0:=fun e=>by rw[e,Dl]at hz;exact absurd hz Ab
 have h1:ab (y / z)*ab z=ab y:=by rw[<-C8,show y / z*z=y by grind]
 have h2:=Ct hz (Ai (y / z));grind
theorem ZI.lgp{X:Nat->Rat}(i:Nat):∀ n,(∀ k,k < n->∃ m:Int,X k=(m:Rat))->ZI (lgp X i n)
 | 0,_=>fun j=>by cases j with | zero=>exact⟨1,rfl⟩ | succ j=>exact⟨0,rfl⟩
 | n+1,h=>by
  have ih:=ZI.lgp i n fun k hk=>h k Aa;rw[Fz]
  split
  ·exact ih
  ·obtain⟨m,hm⟩:=h n Aa
   have e:Hp.cv (Hp.lgp X i n) (lin (X n))=Hp.pad (Hp.psc (-X n) (Hp.lgp X i n)) (cs 0 (Hp.lgp X i n)):=by rw[AV];unfold lin;rw[KT,CG]
   intro j;rw[e];obtain⟨a,ha⟩:=ih j;obtain⟨b,hb⟩:∃ b:Int,cs 0 (Hp.lgp X i n) j=(b:Rat):=by
    cases j with
    | zero=>exact⟨0,rfl⟩
    | succ j=>exact ih j
   refine⟨-m*a+b,?_⟩;show -X n*Hp.lgp X i n j+cs 0 (Hp.lgp X i n) j=_;rw[ha,hb,hm]
   push_cast
   rfl
theorem O6{F D:Nat->Rat}{n:Nat}{B:Rat}(zF:ZI F)(fF:Ae F)(h0:F≠pz)(zD:ZI D)(fD:Ae D)(hd:Iz F D)(hn:pl F<=n)(hB:IY B F) :
  IY ((n:Rat)*(B*(n:Rat)*(1+2*(n:Rat))^n*(1+2*(n:Rat))^n)) D:=by
 obtain⟨X,hA,hX⟩:=NT fF h0 hn;obtain⟨Q,zQ,fQ,e⟩:=hd;obtain⟨R,hR⟩:∃ R:Rat,R=2*(n:Rat):=⟨_,rfl⟩
 have hR0:0<=R:=by
  have:(0:Rat)<=(n:Rat):=by exact_mod_cast Nat.zero_le n
  grind
 rw[<-hR];have hXi:∀ k,k < n->∃ m:Int,X k=(m:Rat):=fun k hk=>by obtain⟨-,m,-,h2⟩:=hX k hk;exact⟨m,h2⟩
 have hXR:∀ k,k < n->ab (X k)<=R:=fun k hk=>by
  obtain⟨-,m,h1,h2⟩:=hX k hk;rw[h2,Jn,hR];have:((((m:Nat):Int).natAbs:Nat):Rat)=((m:Nat):Rat):=by simp
  rw[this];have h3:((m:Nat):Rat)<=((2*n:Nat):Rat):=by exact_mod_cast Nat.le_of_lt h1
  have h4:((2*n:Nat):Rat)=2*(n:Rat):=by push_cast;rfl
  grind
 obtain⟨YY,hYY⟩:∃ YY,YY=B*(n:Rat)*(1+R)^n:=⟨_,rfl⟩
 rw[<-hYY];have hY:∀ k,k < n->ab (ev D (X k))<=YY:=fun k hk=>by
  obtain⟨h3,m,-,h4⟩:=hX k hk;have h1:=OG hB hR0 (hXR k hk) n;rw[<-ER ((AA fF).mono hn),<-hYY]at h1;have h5:ev F (X k)=ev Q (X k)*ev D (X k):=by rw[e,ET fQ fD]
  rw[h4]at h1 h3 h5 ⊢;obtain⟨a,ha⟩:=MG zF (m:Int);obtain⟨b,hb⟩:=MG zQ (m:Int);obtain⟨c,hc⟩:=MG zD (m:Int);rw[ha]at h1 h3;rw[ha,hb,hc]at h5;rw[hc];have h6:a=b*c:=by exact_mod_cast h5
  have h7:a≠0:=fun e=>h3 (by rw[e];rfl);have h8:c.natAbs<=a.natAbs:=Nat.le_of_dvd Aa (Int.natAbs_dvd_natAbs.2 ⟨b,by rw[h6,Int.mul_comm]⟩);rw[Jn]at h1 ⊢;have:((c.natAbs:Nat):Rat)<=((a.natAbs:Nat):Rat):=by exact_mod_cast h8
  grind
 have hDn:D≠pz:=fun e2=>h0 (by rw[e,e2,JD]);have hDl:pl D<=pl F:=Dv.le fD fF h0 ⟨Q,fQ,e⟩;obtain⟨Y,hYe⟩:∃ Y,Y=fun k=>ev D (X k):=⟨_,rfl⟩
 have hD:D=Yu X Y n n:=Ka hA ((AA fD).mono Aa) (Pq X Y n n (Nat.le_refl _)) fun k hk=>by
  rw[WE hA hk n (Nat.le_refl _),if_pos hk,hYe]
 have hc:∀ j,j < n->IY (YY*(1+R)^n) (ZX X Y n j):=fun j hj=>by
  refine(IY.lgp (R:=R) j hR0 n hXR).psc (UL (by rw[hYe];exact hY j hj) ?_);have h1:=Wp X (i:=j) (n:=n) (x:=X j) fun k hk hne=>hA.ne hj hk hne;obtain⟨m,hm⟩:=hXi j hj;rw[hm]at h1 ⊢;obtain⟨y,hy⟩:=MG (ZI.lgp j n hXi) m;rw[hy]at h1 ⊢;rw[Jn];have:y≠0:=fun e=>h1 (by rw[e];rfl);have h2:1<=y.natAbs:=by omega
  exact_mod_cast h2
 have hl:∀ m,m<=n->IY ((m:Rat)*(YY*(1+R)^n)) (Yu X Y n m):=by
  intro m;induction m with
  | zero =>
   intro _ i;show ab 0<=(0:Rat)*_;rw[Dl];grind
  | succ m ih =>
   intro h i;have h1:=((ih Aa).pad (hc m h)) i;have hc:(((m+1:Nat):Rat))=(m:Rat)+1:=by push_cast;rfl
   rw[hc];show ab (Hp.pad (Yu X Y n m) (ZX X Y n m) i)<=_;grind
 rw[hD];exact hl n (Nat.le_refl _)
noncomputable def Gj(F:Nat->Rat):Nat->Rat
 | 0=>0
 | k+1=>if Gj F k < ab (F k / ld F)then ab (F k / ld F)else Gj F k
theorem Fy(F:Nat->Rat):∀ k,0<=Gj F k
 | 0=>by show(0:Rat)<=0;decide
 | k+1=>by
  rw[Gj]
  split
  ·exact Ai _
  ·exact Fy F k
theorem Vs(F:Nat->Rat){i:Nat}:∀ {k},i < k->ab (F i / ld F)<=Gj F k
 | 0,h=>by omega
 | k+1,h=>by
  rw[Gj];rcases Nat.lt_or_ge i k with a | a
  ·have:=Vs F (k:=k) a
   split<;>grind
  ·obtain rfl:i=k:=by omega
   split<;>grind
theorem ML(q:Rat):qsz (ab q)=qsz q:=by
 unfold ab
 split
 ·exact Ir q
 ·rfl
theorem Ls{F:Nat->Rat}{s:Nat}(h:∀ i,qsz (F i)<=s)(hs:1<=s):∀ k,qsz (Gj F k)<=2*s
 | 0=>by show qsz 0<=_;rw[Kg];omega
 | k+1=>by
  rw[Gj]
  split
  ·rw[ML]
   have h1:=Im (F k) (ld F);have h2:=h k;have h3:qsz (ld F)<=s:=h _;omega
  ·exact Ls h hs k
def P2(r:Rat)(j:Nat):Prop:=r < 2^j/\∀ i,i < j->(2:Rat)^i<=r
theorem P2.uniq{r:Rat}{i j:Nat}(h:P2 r i)(k:P2 r j):i=j:=by
 rcases Nat.lt_trichotomy i j with a | a | a
 ·have:=k.2 i a;have:=h.1;grind
 ·exact a
 ·have:=h.2 j a;have:=k.1;grind
theorem Bh(n:Nat):((2:Rat)^n)=((2^n:Nat):Rat):=by
 induction n with
 | zero=>rfl
 | succ n ih=>rw[Rat.pow_succ,ih,Nat.pow_succ];push_cast;rfl
theorem P2.ex{r:Rat}{N:Nat}(h:r<=(N:Rat)):∃ j,P2 r j/\j<=N:=by
 have hN:r < 2^N:=by
  have h1:N < 2^N:=Nat.lt_two_pow_self;have h2:(N:Rat) < ((2^N:Nat):Rat):=by exact_mod_cast h1
  rw[Bh];grind
 have key:∀ n,r < 2^n->∃ j,P2 r j/\j<=n:=by
  intro n;induction n with
  | zero=>intro h;exact⟨0,⟨h,fun i hi=>Aa⟩,Nat.le_refl _⟩
  | succ n ih =>
   intro hn;by_cases h1:r < 2^n
   ·obtain⟨j,a,b⟩:=ih h1
    exact⟨j,a,Aa⟩
   ·refine⟨n+1,⟨hn,fun i hi=>?_⟩,Nat.le_refl _⟩
    have h3:(2:Nat)^i<=2^n:=Nat.pow_le_pow_right Ab Aa;have h4:((2^i:Nat):Rat)<=((2^n:Nat):Rat):=by exact_mod_cast h3
    rw[<-Bh,<-Bh]at h4;grind
 exact key N hN
theorem Ll{m n:Nat}(h:m<=n):((m:Nat):Rat)<=((n:Nat):Rat):=by exact_mod_cast h
theorem Bn(n:Nat):(0:Rat) < 2^n:=by rw[Bh];exact_mod_cast Nat.two_pow_pos n
theorem M7(n:Nat):(1:Rat)<=2^n:=by rw[Bh];exact_mod_cast Nat.one_le_two_pow
theorem JH{m n:Nat}(h:m<=n):(2:Rat)^m<=2^n:=by rw[Bh,Bh];exact_mod_cast Nat.pow_le_pow_right Ab h
theorem D5(m n:Nat):(2:Rat)^(m+n)=2^m*2^n:=by rw[Bh,Bh,Bh,Nat.pow_add];push_cast;rfl
theorem NV(n:Nat):((n:Nat):Rat)<=2^n:=by rw[Bh];exact_mod_cast Nat.le_of_lt Nat.lt_two_pow_self
theorem Rt{a b c d:Rat}(h1:a<=b)(h2:c<=d)(hc:0<=c)(hb:0<=b):a*c<=b*d:=EA h1 h2 hc hb
theorem Mo{q:Rat}{s:Nat}(h:qsz q<=s):ab q<=2^(32*s)/\(q≠0->1<=ab q*2^(32*s)):=by
 have hn:q.num.natAbs<=2^(32*s):=by
  have:=Ex.1 (Nat.le_trans (Tc q) h);rw[DN]at this;omega
 have hd:q.den<=2^(32*s):=by
  have:=Ex.1 (Nat.le_trans (P7 q) h);rw[DN,Int.natAbs_natCast]at this;omega
 have hd0:(0:Rat) < ((q.den:Nat):Rat):=by exact_mod_cast q.den_pos
 have hd1:(1:Rat)<=((q.den:Nat):Rat):=by exact_mod_cast q.den_pos
 have e:q*((q.den:Nat):Rat)=(q.num:Rat):=by
  have:=Ju q;have h0:((q.den:Nat):Rat)≠0:=by grind
  grind
 have e2:ab q*((q.den:Nat):Rat)=((q.num.natAbs:Nat):Rat):=by
  rw[<-Jn,<-e,C8,Dn (Std.le_of_lt hd0)]
 have hq:=Ai q;rw[Bh];constructor
 ·have h1:((q.num.natAbs:Nat):Rat)<=((2^(32*s):Nat):Rat):=Ll hn
  have h2:=Rt (Std.le_refl (ab q)) hd1 Ab hq;grind
 ·intro hq0
  have h1:(1:Rat)<=((q.num.natAbs:Nat):Rat):=by
   have:1<=q.num.natAbs:=by
    have:q.num≠0:=fun e=>hq0 (Rat.num_eq_zero.1 e);omega
   exact_mod_cast this
  have h2:=Rt (Std.le_refl (ab q)) (Ll hd) (Std.le_of_lt hd0) hq;grind
theorem aB{F:Nat->Rat}(z:ZI F){i:Nat}(h:F i≠0):1<=ab (F i):=by
 obtain⟨m,hm⟩:=z i;rw[hm,Jn];have:m≠0:=fun e=>h (by rw[hm,e];rfl);have:1<=m.natAbs:=by omega
 exact_mod_cast this
theorem YU{F:Nat->Rat}(h:F≠pz):∃ i,F i≠0:=Classical.byContradiction fun e=>h (funext fun i=>Classical.byContradiction fun k=>e ⟨i,k⟩)
theorem G5(m:Nat):∀ n:Nat,((m:Nat):Rat)^n=((m^n:Nat):Rat)
 | 0=>rfl
 | n+1=>by rw[Rat.pow_succ,G5 m n,Nat.pow_succ];push_cast;rfl
theorem Rb{F:Nat->Rat}{a b n:Nat}(h:IY (2^a) F){x:Rat}(hx:ab x<=2^b - 1):ab (CF n F x)<=2^(a+n+b*n):=by
 have h1:=OG h (show(0:Rat)<=2^b - 1 by have:=M7 b;grind) hx n;have e:(1:Rat)+(2^b - 1)=2^b:=by grind
 have e2:((2:Rat)^b)^n=2^(b*n):=by
  rw[Bh,Bh,Nat.pow_mul];exact G5 (2^b) n
 rw[e,e2]at h1;rw[D5,D5];have h2:=Rt (Rt (Std.le_refl ((2:Rat)^a)) (NV n) (E8 n) (Std.le_of_lt (Bn a))) (Std.le_refl ((2:Rat)^(b*n))) (Std.le_of_lt (Bn _)) (Rat.mul_nonneg (Std.le_of_lt (Bn a)) (Std.le_of_lt (Bn n)));exact Std.le_trans h1 h2
theorem IY.tl{F:Nat->Rat}{B:Rat}(h:IY B F):IY B (Hp.tl F):=fun i=>h (i+1)
theorem Qd{a b:Nat}{x y:Rat}(hx:ab x<=2^b - 1)(hy:ab y<=2^b - 1):∀(n:Nat) (F:Nat->Rat),IY (2^a) F->ab (CF n F x - CF n F y)<=2^(a+2*n+b*n)*ab (x - y)
 | 0,F,_=>by
  show ab (0 - 0)<=_;rw[show(0:Rat) - 0=0 by grind,Dl];exact Rat.mul_nonneg (Std.le_of_lt (Bn _)) (Ai _)
 | n+1,F,h=>by
  have ih:=Qd hx hy n (tl F) h.tl;have hv:=Rb (n:=n) h.tl hx;have hd:=Ai (x - y);have e:F 0+x*CF n (tl F) x - (F 0+y*CF n (tl F) y)=(x - y)*CF n (tl F) x+y*(CF n (tl F) x - CF n (tl F) y):=by grind
  rw[Dq,Dq,e];have h1:=Fh ((x - y)*CF n (tl F) x) (y*(CF n (tl F) x - CF n (tl F) y));have h2:ab ((x - y)*CF n (tl F) x)<=2^(a+n+b*n)*ab (x - y):=by
   rw[C8,Rat.mul_comm];exact CK hv hd
  have hy2:ab y<=2^b:=by grind
  have h3:ab (y*(CF n (tl F) x - CF n (tl F) y))<=2^b*(2^(a+2*n+b*n)*ab (x - y)):=by
   rw[C8];exact Rt hy2 ih (Ai _) (Std.le_of_lt (Bn b))
  have h4:(2:Rat)^(a+n+b*n)<=2^(a+2*n+b*n+b):=JH Aa;have h5:=CK h4 hd;have e3:(2:Rat)^b*(2^(a+2*n+b*n)*ab (x - y))=2^(a+2*n+b*n+b)*ab (x - y):=by rw[D5 _ b];grind
  have e4:(2:Rat)^(a+2*(n+1)+b*(n+1))=4*2^(a+2*n+b*n+b):=by
   rw[show a+2*(n+1)+b*(n+1)=2+(a+2*n+b*n+b) by rw[Nat.mul_succ,Nat.mul_succ];omega,D5 2];congr 1
  rw[e4];have h6:=Rat.mul_nonneg (Std.le_of_lt (Bn (a+2*n+b*n+b))) hd;grind
theorem IY.pd{F:Nat->Rat}{a n:Nat}(h:IY (2^a) F)(hs:Bg (n+1) F):IY (2^(a+n)) (Hp.pd F):=fun i=>by
 show ab (((i+1:Nat):Rat)*F (i+1))<=_;by_cases hi:i+1<=n
 ·rw[C8,Dn (E8 _),D5,Rat.mul_comm ((2:Rat)^a)]
  refine Rt (Std.le_trans (Ll hi) (NV n)) (h _) (Ai _) (Std.le_of_lt (Bn n))
 ·rw[hs (i+1) Aa,Rat.mul_zero,Dl]
  exact Std.le_of_lt (Bn _)
theorem QK{a b:Nat}{x y:Rat}(hx:ab x<=2^b - 1)(hy:ab y<=2^b - 1):∀(n:Nat) (F:Nat->Rat),IY (2^a) F->Bg n F ->
  ∃ r,ab r<=2^(a+3*n+b*n)/\CF n F y - CF n F x=(y - x)*(CF n (pd F) x+(y - x)*r)
 | 0,F,_,_=>⟨0,by rw[Dl];exact Std.le_of_lt (Bn _),by show(0:Rat) - 0=_*(0+_*0);grind⟩
 | n+1,F,h,hs=>by
  obtain⟨r,hr,e⟩:=QK hx hy n (tl F) h.tl hs.tl;have hpd:IY (2^(a+n)) (pd (tl F)):=IY.pd h.tl (hs.tl.mono (Nat.le_succ n));have hv:=Rb (n:=n) hpd hx;refine⟨CF n (pd (tl F)) x+y*r,?_,?_⟩
  ·have h1:=Fh (CF n (pd (tl F)) x) (y*r)
   have hy2:ab y<=2^b:=by grind
   have h2:ab (y*r)<=2^b*2^(a+3*n+b*n):=by rw[C8];exact Rt hy2 hr (Ai _) (Std.le_of_lt (Bn b))
   have h3:(2:Rat)^(a+n+n+b*n)<=2^(a+3*n+b*n+b):=JH Aa;have e3:(2:Rat)^b*2^(a+3*n+b*n)=2^(a+3*n+b*n+b):=by rw[D5 _ b];grind
   have e4:(2:Rat)^(a+3*(n+1)+b*(n+1))=8*2^(a+3*n+b*n+b):=by
    rw[show a+3*(n+1)+b*(n+1)=3+(a+3*n+b*n+b) by rw[Nat.mul_succ,Nat.mul_succ];omega,D5 3];congr 1
   have h6:=Bn (a+3*n+b*n+b);grind
  ·have e1:CF (n+1) (pd F) x=CF n (tl F) x+x*CF n (pd (tl F)) x:=by
    rw[Vi];congr 1;exact Lv hs.tl (Nat.le_succ n) x
   rw[e1,Dq,Dq];grind
/-! ### two polynomials without a common root are not small together -/
def GN(S D b:Nat):Nat:=96*(2*((S+1)*2^D)+(D+1)*((S+1)*2^D+1))+(D+1)+b*(D+1)+1
section
variable{F0 G0 A B:Nat->Rat}{D S:Nat}
theorem FC.low1(h:FC F0 G0 D S A B)(h0:B≠pz){b:Nat}{x e:Rat}(hx:ab x<=2^b - 1)(hA:ab (ev A x)<=e)(hB:ab (ev B x)<=e):ab (ev (nx A B) x)<=e*2^(GN S D b):=by
 obtain⟨fA,fB,zA,zB,hd,qA,qB⟩:=h.facts;obtain⟨M,hM⟩:∃ M,M=(S+1)*2^D:=⟨_,rfl⟩
 have he0:0<=e:=Std.le_trans (Ai _) hA;obtain⟨cA,cB,cR⟩:=h.clear h0 (M:=M) (by rw[hM];exact qA) (by rw[hM];exact qB);obtain⟨zN,fN,-,-,hN⟩:=Ku fA fB h0;by_cases hR:pr A B=pz
 ·rw[JS hR,Qr,Dl]
  exact Rat.mul_nonneg he0 (Std.le_of_lt (Bn _))
 obtain⟨c,hc,ec⟩:=hN hR;have hq:∀ i,qsz (pq A B i)<=2*M+(D+1)*(M+1):=fun i=>by
  have h1:=OQ (n:=pl A+1 - pl B) ((AA fA).mono (by have:=AO fB h0;omega)) fB h0 cA cB i;have h2:(pl A+1 - pl B)*(M+1)<=(D+1)*(M+1):=Nat.mul_le_mul_right _ Aa;omega
 obtain⟨X,hX⟩:∃ X,X=2*M+(D+1)*(M+1):=⟨_,rfl⟩
 rw[<-hX]at hq
 -- the factor c
 have hcl:1<=c*2^(64*X):=by
  obtain⟨i,hi⟩:=YU hR;have e1:pr A B i = -c*nx A B i:=by rw[ec];rfl
  have hni:nx A B i≠0:=fun q=>hi (by rw[e1,q,Rat.mul_zero]);have h1:=(Mo (Nat.le_trans (cR.elem i) (show _<=X by omega))).2 hi;have h2:ab (nx A B i)<=2^(32*X):=(Mo (Nat.le_trans ((h.step h0).facts.2.2.2.2.2.2 i) (show _<=X by omega))).1;rw[e1,C8,MV,Dn (Std.le_of_lt hc)]at h1;have h3:=Rt (Rt (Std.le_refl c) h2 (Ai _) (Std.le_of_lt hc)) (Std.le_refl ((2:Rat)^(32*X))) (Std.le_of_lt (Bn _)) (Rat.mul_nonneg (Std.le_of_lt hc) (Std.le_of_lt (Bn _)))
  rw[show 64*X=32*X+32*X by omega,D5];grind
 -- the quotient's value
 have hqv:ab (ev (pq A B) x)<=2^(32*X+(D+1)+b*(D+1)):=by
  have hsup:Bg (D+1) (pq A B):=(Kv (n:=pl A+1 - pl B) ((AA fA).mono (by have:=AO fB h0;omega)) fB h0).mono Aa;rw[ER hsup];exact Rb (fun i=>(Mo (hq i)).1) hx
 have e2:c*ev (nx A B) x=ev (pq A B) x*ev B x - ev A x:=by
  have e3:ev A x=ev (pq A B) x*ev B x+ev (pr A B) x:=by
   conv=>lhs;rw[JB A B]
   rw[Jo ((De A B).cv fB) (EP fA fB),ET (De A B) fB]
  rw[ec,Fw _ fN]at e3;grind
 obtain⟨Q,hQ⟩:∃ Q:Rat,Q=2^(32*X+(D+1)+b*(D+1)):=⟨_,rfl⟩
 rw[<-hQ]at hqv;have hQ1:1<=Q:=by rw[hQ];exact M7 _
 have h5:c*ab (ev (nx A B) x)<=2*(Q*e):=by
  have h6:=VU (ev (pq A B) x*ev B x) (ev A x);rw[<-e2,C8,Dn (Std.le_of_lt hc),C8]at h6;have h7:=Rt hqv hB (Ai _) Af;have h8:=Rt hQ1 (Std.le_refl e) he0 Af;grind
 have h9:=Rt (Std.le_refl (ab (ev (nx A B) x))) hcl Ab (Ai _);have h10:=CK h5 (Std.le_of_lt (Bn (64*X)));have e11:(2:Rat)^(GN S D b)=2*Q*2^(64*X):=by
  rw[hQ,show GN S D b=1+(32*X+(D+1)+b*(D+1))+64*X by unfold GN;rw[<-hM,<-hX];omega,D5,D5 1];congr 1
 rw[e11];grind
theorem FC.low(c:D7 F0 G0){b:Nat}{x:Rat}(hx:ab x<=2^b - 1):∀(n:Nat) {A B:Nat->Rat} {e:Rat},FC F0 G0 D S A B->pl B<=n->ab (ev A x)<=e->ab (ev B x)<=e->1<=e*2^(n*GN S D b):=by
 intro n;induction n with
 | zero =>
  intro A B e h hn hA hB;obtain⟨fA,fB,zA,zB,hd,qA,qB⟩:=h.facts;have hBz:B=pz:=(BJ fB).1 Aa;have hc:=h.cop c;rw[hBz]at hc;have hA1:pl A=1:=KH hc fA (Dv.refl A) (Dv.zero A);have e1:ev A x=A 0:=by unfold ev;rw[hA1];show A 0+x*0=A 0;grind
  have hA0:A 0≠0:=by have:=Ey fA Aa;rwa[hA1]at this
  have h1:=aB zA hA0;rw[e1]at hA;rw[Nat.zero_mul,Rat.pow_zero];grind
 | succ n ih =>
  intro A B e h hn hA hB;have hY:=M7 (GN S D b);have he0:0<=e:=Std.le_trans (Ai _) hA;have hgrow:e<=e*2^GN S D b:=by have:=Rt (Std.le_refl e) hY Ab he0;grind
  have e3:(2:Rat)^((n+1)*GN S D b)=2^GN S D b*2^(n*GN S D b):=by rw[Nat.succ_mul,Nat.add_comm,D5]
  by_cases h0:B=pz
  ·have:=ih h (by rw[h0,BZ];omega) hA hB
   have h2:=CK hgrow (Std.le_of_lt (Bn (n*GN S D b)));rw[e3];grind
  ·have hN:=h.low1 h0 hx hA hB
   obtain⟨fA,fB,zA,zB,hd,qA,qB⟩:=h.facts;have hlt:=(Ku fA fB h0).2.2.2.1;have:=ih (h.step h0) Aa (Std.le_trans hB hgrow) hN;rw[e3];grind
end
theorem Zb{F:Nat->Rat}(zF:ZI F)(fF:Ae F)(x:Rat):ab (ev (rd F) x)<=ab (ev F x):=by
 unfold rd;rw[Fw _ fF,C8];have h1:ab (1 / ((cn F:Nat):Rat))<=1:=by
  rcases Nat.eq_zero_or_pos (cn F)with h | h
  ·rw[h,show(1:Rat) / ((0:Nat):Rat)=0 from by rw[Rat.div_def];show 1*(0:Rat)⁻¹ = 0;rw[Rat.inv_zero,Rat.mul_zero],Dl];decide
  ·have hp:(0:Rat) < ((cn F:Nat):Rat):=by exact_mod_cast h
   have h1':(1:Rat)<=((cn F:Nat):Rat):=by exact_mod_cast h
   obtain⟨hi,ei⟩:=GM hp;rw[Dn (Std.le_of_lt hi)];have:=Rt (Std.le_refl (1 / ((cn F:Nat):Rat))) h1' Ab (Std.le_of_lt hi);grind
 have:=CK h1 (Ai (ev F x));grind
def UT(S D b:Nat):Nat:=D*GN S D b
theorem D7.low{F G:Nat->Rat}{S D b:Nat}(c:D7 F G)(fF:Ae F)(fG:Ae G)(zF:ZI F)(zG:ZI G)(qF:∀ i,qsz (F i)<=S)(qG:∀ i,qsz (G i)<=S)(hD:pl F+pl G=D)
  {x e:Rat} (hx:ab x<=2^b - 1) (h1:ab (ev F x)<=e) (h2:ab (ev G x)<=e):1<=e*2^(UT S D b):=by
 have hs:=FC.start fF fG zF zG qF qG;rw[hD]at hs;have he0:0<=e:=Std.le_trans (Ai _) h1;refine hs.low c hx D ?_ (Std.le_trans (Zb zF fF x) h1) (Std.le_trans (Zb zG fG x) h2);have:=hs.facts.2.2.2.2.1;omega
structure SF(F:Nat->Rat):Prop where
 p:Bj F
 c:D7 F (pd F)
theorem Bj.eq_dv{F G:Nat->Rat}(h:Bj F)(k:Bj G)(a:Dv F G)(b:Dv G F):F=G:=by
 have e:mn F=mn G:=TS (KE h.f) (KE k.f) (fun _=>SH h.f h.n) (fun _=>SH k.f k.n) ((G6 h.f).trans (a.trans (FK G))) ((G6 k.f).trans (b.trans (FK F)));have hl:=CX h.f h.n;have kl:=CX k.f k.n;have e1:F=psc (ld F) (mn F):=by unfold mn;rw[Ce,show ld F*(1 / ld F)=1 by grind,Cn]
 have e2:mn G=psc (1 / ld G) G:=rfl;have e3:F=psc (ld F*(1 / ld G)) G:=by
  conv=>lhs;rw[e1,e,e2,Ce]
 have e4:Hp.pp F=Hp.pp G:=TE h.z k.z k.f k.n (by
  intro q;have:=Kl kl;rcases Rat.mul_eq_zero.1 q with x | x
  ·exact hl x
  ·exact this x) e3
 rw[h.self,k.self]at e4;exact e4
theorem bI{H A B:Nat->Rat}(h:Dv H A)(k:Dv H B):Dv (cv H H) (cv A B):=by
 obtain⟨Q1,f1,rfl⟩:=h;obtain⟨Q2,f2,rfl⟩:=k;refine⟨cv Q1 Q2,f1.cv f2,?_⟩;rw[Ak,Ak,<-Ak H Q2 H,AV H Q2,Ak]
theorem Vw{g:Nat->Rat}(h:Bj g):SF (y0 g):=by
 obtain⟨hC,hW,e,-,-⟩:=Ep h;refine⟨hW,?_⟩;refine Classical.byContradiction fun hn=>?_;obtain⟨hE,hP,e2,-,-⟩:=Ep hW;have h1:1 < pl (yc (y0 g)):=by
  rcases Nat.lt_or_ge 1 (pl (yc (y0 g)))with a | a
  ·exact a
  ·exact absurd (D7.of_gcd hW (En hW.z) (BS hW.f) a) hn
 obtain⟨N,hN⟩:=SQ hW;by_cases hc:pl (Bl (yc (y0 g)) (y0 (y0 g)))<=1
 ·have c1:=D7.of_gcd hE hP.z hP.f hc
  have c2:=(D7.pw hE.f hP.f c1 N).symm.symm;have:=D7.self hE.f (((c2.symm).dv hN));omega
 ·obtain⟨hH,-,-,d1,d2,-⟩:=hE.gcd hP.z hP.f
  have h2:Dv (cv (Bl (yc (y0 g)) (y0 (y0 g))) (Bl (yc (y0 g)) (y0 (y0 g)))) (y0 g):=by
   have:=bI d2 d1;rw[<-e2]at this;exact this
  have:=Yp h hH h2;omega
theorem SF.stf{F:Nat->Rat}(h:SF F):∃ K,Eb F K:=by
 obtain⟨S,hS⟩:=DY h.p.f;obtain⟨T,hT⟩:=DY (BS h.p.f);obtain⟨K,hK,-⟩:=Gi h.p.f (BS h.p.f) h.p.z (En h.p.z) (S:=max S T) (fun i=>Nat.le_trans (hS i) (Nat.le_max_left _ _)) (fun i=>Nat.le_trans (hT i) (Nat.le_max_right _ _));exact⟨K,h.p.z,h.p.f,h.p.n,h.c,hK⟩
noncomputable def kn(F:Nat->Rat):Nat:=open Classical in if h:∃ K,Nq F (pd F) K then Classical.choose h else 0
theorem Nq.kn{F:Nat->Rat}{K:Nat}(h:Nq F (pd F) K):Hp.kn F=K:=by
 have hx:∃ K,Nq F (pd F) K:=⟨K,h⟩
 unfold Hp.kn;rw[dif_pos hx];exact(Classical.choose_spec hx).uniq h
theorem SF.st{F:Nat->Rat}(h:SF F):Eb F (kn F):=by
 obtain⟨K,hK⟩:=h.stf;rw[hK.k.kn];exact hK
noncomputable def rc(F:Nat->Rat)(p q:Rat):Int:=rt F (kn F) p q
theorem AY(F:Nat->Rat)(p q r:Rat):rc F p q+rc F q r=rc F p r:=I4 F _ p q r
theorem Gs(F:Nat->Rat)(p:Rat):rc F p p=0:=Lx F _ p
theorem SF.nonneg{F:Nat->Rat}(h:SF F){p q:Rat}(hpq:p<=q):0<=rc F p q:=h.st.rt_nonneg hpq
theorem SF.sub{F:Nat->Rat}(h:SF F){p x y q:Rat}(h1:p<=x)(h2:x<=y)(h3:y<=q):rc F x y<=rc F p q:=h.st.rt_sub h1 h2 h3
theorem SF.free{F:Nat->Rat}(h:SF F){p q x y:Rat}(h0:rc F p q=0)(h1:p < x)(h2:x<=y)(h3:y<=q):ev F x≠0/\Bo (ev F y)=Bo (ev F x):=h.st.free h0 h1 h2 h3
theorem SF.mul{A B:Nat->Rat}(hA:SF A)(hB:SF B)(hC:SF (cv A B))(c:D7 A B){p q:Rat}(hpq:p<=q):rc (cv A B) p q=rc A p q+rc B p q:=Eb.rt_mul hA.st hB.st hC.st c hpq
theorem SF.split{A B:Nat->Rat}(hA:Bj A)(hB:Bj B)(h:SF (cv A B)):SF A/\SF B/\D7 A B:=by
 have half:∀ {A B:Nat->Rat},Bj A->Bj B->D7 (cv A B) (pd (cv A B))->D7 A (pd A)/\D7 A B:=by
  intro A B hA hB ⟨U,V,fU,fV,e⟩;have fA':=BS hA.f;have fB':=BS hB.f;rw[KW]at e;constructor
  ·refine⟨pad (cv U B) (cv V (pd B)),cv V B,(fU.cv hB.f).pad (fV.cv fB'),fV.cv hB.f,?_⟩
   rw[<-e,CY,Fx];have e1:cv (cv U B) A=cv U (cv A B):=by rw[Ak,AV B A]
   have e2:cv (cv V (pd B)) A=cv V (cv A (pd B)):=by rw[Ak,AV (pd B) A]
   have e3:cv (cv V B) (pd A)=cv V (cv (pd A) B):=by rw[Ak,AV B (pd A)]
   rw[e1,e2,e3]
   funext n;simp only[pad];grind
  ·refine⟨pad (cv U B) (cv V (pd B)),cv V (pd A),(fU.cv hB.f).pad (fV.cv fB'),fV.cv fA',?_⟩
   rw[<-e,CY,Fx];have e1:cv (cv U B) A=cv U (cv A B):=by rw[Ak,AV B A]
   have e2:cv (cv V (pd B)) A=cv V (cv A (pd B)):=by rw[Ak,AV (pd B) A]
   have e3:cv (cv V (pd A)) B=cv V (cv (pd A) B):=by rw[Ak]
   rw[e1,e2,e3]
   funext n;simp only[pad];grind
 obtain⟨a1,a2⟩:=half hA hB h.c;obtain⟨b1,-⟩:=half hB hA (by rw[AV];exact h.c);exact⟨⟨hA,a1⟩,⟨hB,b1⟩,a2⟩
theorem SF.factor{W A:Nat->Rat}(h:SF W)(hA:Bj A)(hd:Iz W A):SF A/\SF (pq W A)/\D7 A (pq W A)/\W=cv A (pq W A):=by
 obtain⟨q1,q2⟩:=h.p.quot hA hd;have e:W=cv A (pq W A):=by rw[AV];exact q2
 have hs:SF (cv A (pq W A)):=by rw[<-e];exact h
 obtain⟨a,b,c⟩:=SF.split hA q1 hs;exact⟨a,b,c,e⟩
theorem Bj.zdv{F D:Nat->Rat}(h:Bj F)(k:Bj D)(hd:Dv D F):Iz F D:=by
 obtain⟨Q,fQ,e⟩:=hd;exact⟨Q,Tv h.z h.f k.z k.f k.n fQ e (by rw[k.c];exact Nat.one_dvd _),fQ,e⟩
theorem SF.rc_le{W A:Nat->Rat}(h:SF W)(hA:Bj A)(hd:Dv A W){p q:Rat}(hpq:p<=q):rc A p q<=rc W p q:=by
 obtain⟨a,b,c,e⟩:=h.factor hA (h.p.zdv hA hd);have h1:=SF.mul a b (by rw[<-e];exact h) c hpq;rw[<-e]at h1;have:=b.nonneg hpq;omega
theorem Rw{E D:Nat->Rat}(hE:SF E)(hD:Bj D)(h:Dv E D):Dv E (y0 D):=by
 obtain⟨hC,hW,e,-,-⟩:=Ep hD;obtain⟨N,hN⟩:=SQ hD;have h1:Dv E (pw (y0 D) (N+1)):=by
  obtain⟨Q,fQ,eQ⟩:=hN;refine h.trans ⟨Q,fQ,?_⟩;show cv (pw (y0 D) N) (y0 D)=_
  conv=>rhs;rw[e]
  rw[eQ,Ak,AV (yc D)]
 obtain⟨hH,z1,z2,d1,d2,-⟩:=hE.p.gcd hW.z hW.f;obtain⟨f1,f2,f3,f4⟩:=hE.factor hH z1
 -- the rest of E is coprime to the square-free part
 have h2:D7 (pq E (Bl E (y0 D))) (y0 D):=by
  refine D7.of_gcd f2.p hW.z hW.f ?_;obtain⟨kG,-,-,g1,g2,-⟩:=f2.p.gcd hW.z hW.f;have g3:Dv (Bl (pq E (Bl E (y0 D))) (y0 D)) E:=g1.trans ⟨Bl E (y0 D),hH.f,f4⟩;have g4:Dv (Bl (pq E (Bl E (y0 D))) (y0 D)) (Bl E (y0 D)):=by
   have:=(Dt hE.p.f hW.f hE.p.z hW.z).2.2.2.2.2.2.2.2 _ kG.f g3 g2;exact this.trans (G6 hH.f)
  have:=D7.self kG.f ((f3.dv g4).symm.dv g1);omega
 have h3:=D7.pw f2.p.f hW.f h2 (N+1);have h4:Dv (pq E (Bl E (y0 D))) (pw (y0 D) (N+1)):=Dv.trans ⟨Bl E (y0 D),hH.f,f4⟩ h1;have h5:=f2.p.one (by have:=D7.self f2.p.f (h3.symm.dv h4);omega);rw[h5,Ip]at f4;have:Dv (Bl E (y0 D)) (y0 D):=d2;rw[<-f4]at this;exact this
noncomputable def Av(F:Nat->Rat):Nat->Rat:=y0 (pp F)
theorem Bd{F:Nat->Rat}(z:ZI F)(f:Ae F)(h0:F≠pz):SF (Av F):=Vw (Bj.pp z f h0)
theorem Ew{F:Nat->Rat}(z:ZI F)(f:Ae F)(h0:F≠pz):Dv (Av F) F:=by
 obtain⟨hC,hW,e,-,-⟩:=Ep (Bj.pp z f h0);have h1:Dv (Av F) (pp F):=⟨yc (pp F),hC.f,by rw[AV];exact e⟩
 conv=>arg 2;rw[ND z f h0]
 exact h1.psc _
theorem FR{E F:Nat->Rat}(z:ZI F)(f:Ae F)(h0:F≠pz)(hE:SF E)(h:Dv E F):Dv E (Av F):=
 Rw hE (Bj.pp z f h0) ((DW z f).2 h)
theorem FY{F G:Nat->Rat}(zF:ZI F)(fF:Ae F)(zG:ZI G)(fG:Ae G)(h0:F≠pz):Bl F G≠pz:=fun e=>by
 have h:=(Dt fF fG zF zG).2.2.2.2.2.2.1;rw[e,KX]at h;exact h0 (L6 h)
theorem Y5{F G:Nat->Rat}(zF:ZI F)(fF:Ae F)(hF:F≠pz)(zG:ZI G)(fG:Ae G)(hG:G≠pz):Av (Bl F G)=Bl (Av F) (Av G):=by
 have k:=Dt fF fG zF zG;have n:=FY zF fF zG fG hF;have s1:=Bd zF fF hF;have s2:=Bd zG fG hG;have s3:=Bd k.2.1 k.1 n;obtain⟨p4,z1,z2,d1,d2,-⟩:=s1.p.gcd s2.p.z s2.p.f;have s4:=(s1.factor p4 z1).1;have dF:Dv (Bl F G) F:=(FK _).trans k.2.2.2.2.2.2.1;have dG:Dv (Bl F G) G:=(FK _).trans k.2.2.2.2.2.2.2.1;have hd:=Ew k.2.1 k.1 n;refine s3.p.eq_dv p4 ?_ ?_
 ·have a1:=FR zF fF hF s3 (hd.trans dF)
  have a2:=FR zG fG hG s3 (hd.trans dG);exact((Dt s1.p.f s2.p.f s1.p.z s2.p.z).2.2.2.2.2.2.2.2 _ s3.p.f a1 a2).trans (G6 p4.f)
 ·refine FR k.2.1 k.1 n s4 ?_
  exact(k.2.2.2.2.2.2.2.2 _ p4.f (d1.trans (Ew zF fF hF)) (d2.trans (Ew zG fG hG))).trans (G6 k.1)
theorem SF.meet{W X:Nat->Rat}(hW:SF W)(hX:SF X):∃ U V,SF (Bl W X)/\SF U/\SF V/\W=cv (Bl W X) U/\X=cv (Bl W X) V/\D7 (Bl W X) U/\D7 (Bl W X) V/\D7 U V/\D7 U X /\
  (∀ p q:Rat,p<=q->rc W p q=rc (Bl W X) p q+rc U p q)/\(∀ p q:Rat,p<=q->rc X p q=rc (Bl W X) p q+rc V p q):=by
 obtain⟨p1,z1,z2,d1,d2,-⟩:=hW.p.gcd hX.p.z hX.p.f;obtain⟨a1,a2,a3,a4⟩:=hW.factor p1 z1;obtain⟨b1,b2,b3,b4⟩:=hX.factor p1 z2;have k:=Dt hW.p.f hX.p.f hW.p.z hX.p.z;have cUV:D7 (pq W (Bl W X)) (pq X (Bl W X)):=by
  refine D7.of_gcd a2.p b2.p.z b2.p.f ?_;obtain⟨kG,-,-,g1,g2,-⟩:=a2.p.gcd b2.p.z b2.p.f;have g3:=k.2.2.2.2.2.2.2.2 _ kG.f (g1.trans ⟨Bl W X,p1.f,a4⟩) (g2.trans ⟨Bl W X,p1.f,b4⟩);have:=D7.self kG.f ((a3.dv (g3.trans (G6 p1.f))).symm.dv g1);omega
 refine⟨pq W (Bl W X),pq X (Bl W X),a1,a2,b2,a4,b4,a3,b3,cUV,?_,fun p q hpq=>?_,fun p q hpq=>?_⟩
 ·have:=D7.mul a2.p.f p1.f b2.p.f a3.symm cUV
  rw[<-b4]at this;exact this
 ·have h1:=SF.mul a1 a2 (by rw[<-a4];exact hW) a3 hpq
  rw[<-a4]at h1;exact h1
 ·have h1:=SF.mul b1 b2 (by rw[<-b4];exact hX) b3 hpq
  rw[<-b4]at h1;exact h1
def Po(S D b:Nat):Nat:=32*S+(3+b)*D
def Mv(S D b:Nat):Nat:=Po S D b+UT S D b+2
theorem TJ{F:Nat->Rat}{S:Nat}(h:∀ i,qsz (F i)<=S):IY (2^(32*S)) F:=fun i=>(Mo (h i)).1
theorem SB{F:Nat->Rat}{S D b:Nat}(qF:∀ i,qsz (F i)<=S)(hD:pl F<=D){x y:Rat}(hx:ab x<=2^b - 1)(hy:ab y<=2^b - 1):ab (ev F x - ev F y)<=2^(Po S D b)*ab (x - y):=by
 have h:=Qd hx hy (pl F) F (TJ qF);refine Std.le_trans h (CK (JH ?_) (Ai _));unfold Po;have h1:b*pl F<=b*D:=Nat.mul_le_mul_left _ hD;rw[Nat.add_mul];omega
theorem aN{F:Nat->Rat}{S D b:Nat}(fF:Ae F)(qF:∀ i,qsz (F i)<=S)(hD:pl F<=D){x y:Rat}(hx:ab x<=2^b - 1)(hy:ab y<=2^b - 1):∃ r,ab r<=2^(Po S D b)/\ev F y - ev F x=(y - x)*(ev (pd F) x+(y - x)*r):=by
 obtain⟨r,hr,e⟩:=QK hx hy (pl F) F (TJ qF) (AA fF);refine⟨r,Std.le_trans hr (JH ?_),?_⟩
 ·unfold Po
  have h1:b*pl F<=b*D:=Nat.mul_le_mul_left _ hD;rw[Nat.add_mul];omega
 ·have e1:ev (pd F) x=CF (pl F) (pd F) x:=ER (Oa ((AA fF).mono (Nat.le_succ _))) x
  rw[e1];exact e
theorem Eb.small_pt{F:Nat->Rat}{K:Nat}(h:Eb F K){x y ε:Rat}(hxy:x<=y)(hε:0 < ε)(hr:1<=rt F K x y):∃ z,x<=z/\z<=y/\ab (ev F z) < ε:=by
 refine Classical.byContradiction fun hn=>?_;have:=h.flat hxy hε fun z a b=>by
  rcases Std.lt_trichotomy ε (ab (ev F z))with c | c | c
  ·exact Std.le_of_lt c
  ·rw[c];exact Std.le_refl _
  ·exact absurd ⟨z,a,b,c⟩ hn
 unfold rt at hr;omega
theorem NP{q:Rat}(h:0 < q):Bo q=1:=by unfold Bo;rw[if_pos h]
theorem NN{q:Rat}(h:q < 0):Bo q = -1:=by unfold Bo;rw[if_neg Af,if_pos h]
theorem Qb:Bo 0=0:=by decide
theorem Yl{F:Nat->Rat}{u v w:Rat}(h:(ev F u < ev F v/\ev F v < ev F w)\/(ev F w < ev F v/\ev F v < ev F u)):GX F u w=GX F u v+GX F v w:=by
 unfold GX;generalize ev F u=a at *;generalize ev F v=b at *;generalize ev F w=c at *;rcases Std.lt_trichotomy a 0 with ha | ha | ha<;>rcases Std.lt_trichotomy b 0 with hb | hb | hb<;>rcases Std.lt_trichotomy c 0 with hc | hc | hc
 all_goals first
  | (exfalso;grind)
  | skip
 all_goals(try have ea:=NN ha);(try have ea:=NP ha);(try have eb:=NN hb);(try have eb:=NP hb);(try have ec:=NN hc);(try have ec:=NP hc)
 all_goals(try(have na:a≠0:=by grind));(try(have nb:b≠0:=by grind));(try(have nc:c≠0:=by grind))
 all_goals(try subst ha);(try subst hb);(try subst hc);simp_all [Qb]
theorem Eb.sep{F:Nat->Rat}{K S D b:Nat}(h:Eb F K)(qF:∀ i,qsz (F i)<=S)(qG:∀ i,qsz (pd F i)<=S)(hD:pl F+pl (pd F)=D){x y:Rat}(hx:ab x<=2^b - 1)(hy:ab y<=2^b - 1)(hxy:x < y)(hd:(y - x)*2^(Mv S D b)<=1):rt F K x y<=1:=by
 refine Classical.byContradiction fun hn=>?_;obtain⟨d,hdd⟩:∃ d,d=y - x:=⟨_,rfl⟩
 have hd0:0 < d:=by grind
 obtain⟨L,hL⟩:∃ L:Rat,L=2^(Po S D b):=⟨_,rfl⟩
 have hL0:0 < L:=by rw[hL];exact Bn _
 obtain⟨E,hE⟩:∃ E:Rat,E=2^(UT S D b):=⟨_,rfl⟩
 have hE0:0 < E:=by rw[hE];exact Bn _
 have hLd:=Rat.mul_pos hL0 hd0;have hsmall:4*(L*d*E)<=1:=by
  have e:(2:Rat)^(Mv S D b)=L*E*4:=by
   unfold Mv;rw[D5,D5,<-hL,<-hE];congr 1
  rw[e,<-hdd]at hd;grind
 have hin:∀ z,x<=z->z<=y->ab z<=2^b - 1:=fun z a c=>EB hx hy a c;have hdist:∀ z z',x<=z->z<=y->x<=z'->z'<=y->ab (z - z')<=d:=fun z z' a c a' c'=>EJ.2 ⟨Af,Af⟩;have lF:∀ z z',x<=z->z<=y->x<=z'->z'<=y->ab (ev F z - ev F z')<=L*d:=fun z z' a c a' c'=>by
  have:=SB qF (show pl F<=D by omega) (hin z a c) (hin z' a' c');rw[<-hL]at this;exact Std.le_trans this (Ct (hdist z z' a c a' c') (Std.le_of_lt hL0))
 have lG:∀ z z',x<=z->z<=y->x<=z'->z'<=y->ab (ev (pd F) z - ev (pd F) z')<=L*d:=fun z z' a c a' c'=>by
  have:=SB qG (show pl (pd F)<=D by omega) (hin z a c) (hin z' a' c');rw[<-hL]at this;exact Std.le_trans this (Ct (hdist z z' a c a' c') (Std.le_of_lt hL0))
 obtain⟨z0,z1,z2,z3⟩:=h.small_pt (Std.le_of_lt hxy) hLd Aa;have hall:∀ z,x<=z->z<=y->ab (ev F z)<=2*(L*d):=fun z a c=>by
  have h1:=lF z z0 a c z1 z2;have h2:=Fh (ev F z - ev F z0) (ev F z0);have e:ev F z - ev F z0+ev F z0=ev F z:=by grind
  rw[e]at h2;grind
 have hbig:∀ z,x<=z->z<=y->L*d < ab (ev (pd F) z):=fun z a c=>by
  rcases Std.lt_trichotomy (L*d) (ab (ev (pd F) z))with q | q | q
  ·exact q
  all_goals
   exfalso;have:=D7.low h.c h.f (BS h.f) h.z (En h.z) qF qG hD (hin z a c) (hall z a c) (show ab (ev (pd F) z)<=2*(L*d) by grind);rw[<-hE]at this;grind
 have hs0:Bo (ev (pd F) x)≠0:=by
  have:=hbig x (Std.le_refl _) (Std.le_of_lt hxy);intro q;rw[Di.1 q,Dl]at this;grind
 have hmono:∀ u v,x<=u->u < v->v<=y->Bo (ev F v - ev F u)=Bo (ev (pd F) x):=fun u v a c a'=>by
  have hu:u<=y:=by grind
  have b1:=hbig u a hu;have s1:=O5 (p:=ev (pd F) u) (q:=ev (pd F) x) (by
   have:=lG u x a hu (Std.le_refl _) (Std.le_of_lt hxy);grind)
  obtain⟨r,hr,e⟩:=aN h.f qF (show pl F<=D by omega) (hin u a hu) (hin v Af a');rw[e,FN (show 0 < v - u by grind),<-s1.1];refine(O5 ?_).1.symm;have e2:ev (pd F) u - (ev (pd F) u+(v - u)*r) = -((v - u)*r):=by grind
  rw[e2,MV,C8];rw[<-hL]at hr;have h4:=Rt (show ab (v - u)<=d from EJ.2 ⟨Af,Af⟩) hr (Ai _) (Std.le_of_lt hd0);grind
 obtain⟨δ,hδ,hl⟩:=h.loc x y;have key:rt F K x y=GX F x y:=by
  refine LG (P:=fun u v=>rt F K u v=GX F u v) hδ hxy (fun u v a1 a2 a3 a4=>hl u v a1 a2 a3 a4) (fun u v w a1 a2 a3 a4 e f=>?_);have m1:=hmono u v a1 a2 Af;have m2:=hmono v w Af a3 a4;have m3:=I4 F K u v w;have m4:GX F u w=GX F u v+GX F v w:=by
   refine Yl ?_;rcases Std.lt_trichotomy (ev (pd F) x) 0 with c | c | c
   ·rw[NN c]at m1 m2
    refine .inr ⟨?_,?_⟩
    ·rcases Std.lt_trichotomy (ev F w - ev F v) 0 with q | q | q
     ·grind
     ·rw[q,Qb]at m2;exact absurd m2 Ab
     ·rw[NP q]at m2;exact absurd m2 Ab
    ·rcases Std.lt_trichotomy (ev F v - ev F u) 0 with q | q | q
     ·grind
     ·rw[q,Qb]at m1;exact absurd m1 Ab
     ·rw[NP q]at m1;exact absurd m1 Ab
   ·exact absurd (Di.2 c) hs0
   ·rw[NP c]at m1 m2
    refine .inl ⟨?_,?_⟩
    ·rcases Std.lt_trichotomy (ev F v - ev F u) 0 with q | q | q
     ·rw[NN q]at m1;exact absurd m1 Ab
     ·rw[q,Qb]at m1;exact absurd m1 Ab
     ·grind
    ·rcases Std.lt_trichotomy (ev F w - ev F v) 0 with q | q | q
     ·rw[NN q]at m2;exact absurd m2 Ab
     ·rw[q,Qb]at m2;exact absurd m2 Ab
     ·grind
  omega
 have:=(aW F x y).2;omega
theorem D7.sep{A B:Nat->Rat}{S D b:Nat}(hA:SF A)(hB:SF B)(c:D7 A B)(qA:∀ i,qsz (A i)<=S)(qB:∀ i,qsz (B i)<=S)(hD:pl A+pl B=D){x y:Rat}(hx:ab x<=2^b - 1)(hy:ab y<=2^b - 1)(hxy:x < y)(hd:(y - x)*2^(Mv S D b)<=1) :
  rc A x y=0\/rc B x y=0:=by
 refine Classical.byContradiction fun hn=>?_;have n1:=hA.nonneg (Std.le_of_lt hxy);have n2:=hB.nonneg (Std.le_of_lt hxy);obtain⟨d,hdd⟩:∃ d,d=y - x:=⟨_,rfl⟩
 have hd0:0 < d:=by grind
 obtain⟨L,hL⟩:∃ L:Rat,L=2^(Po S D b):=⟨_,rfl⟩
 have hL0:0 < L:=by rw[hL];exact Bn _
 obtain⟨E,hE⟩:∃ E:Rat,E=2^(UT S D b):=⟨_,rfl⟩
 have hE0:0 < E:=by rw[hE];exact Bn _
 have hLd:=Rat.mul_pos hL0 hd0;have hsmall:4*(L*d*E)<=1:=by
  have e:(2:Rat)^(Mv S D b)=L*E*4:=by
   unfold Mv;rw[D5,D5,<-hL,<-hE];congr 1
  rw[e,<-hdd]at hd;grind
 have one:∀ {P:Nat->Rat},SF P->(∀ i,qsz (P i)<=S)->pl P<=D->1<=rc P x y->ab (ev P x)<=2*(L*d):=fun {P} hP qP hp h1=>by
  obtain⟨z,z1,z2,z3⟩:=hP.st.small_pt (Std.le_of_lt hxy) hLd h1;have h2:=SB qP hp hx (EB hx hy z1 z2);rw[<-hL]at h2;have h3:=Ct (show ab (x - z)<=d from EJ.2 ⟨Af,Af⟩) (Std.le_of_lt hL0);have h4:=Fh (ev P x - ev P z) (ev P z);have e:ev P x - ev P z+ev P z=ev P x:=by grind
  rw[e]at h4;grind
 have a1:=one hA qA Aa Aa;have a2:=one hB qB Aa Aa;have:=D7.low c hA.p.f hB.p.f hA.p.z hB.p.z qA qB hD hx a1 a2;rw[<-hE]at this;grind
section
variable{P:Program}
theorem Nj(w:World)(k base:Nat)(t ty e:TypeId)(i:TypeInfo)(z:Value)(bytes:Nat)(ht:P.underlying t=some (.slice e))(hi:P.info? e=some i)(hz:i.zero=some z)
  (hsize:i.size=k) (hby:i.bytes=bytes) (hzs:z.cells.size=k) (hzd:nodig z.cells=true) (hsz:0 < k)
  (v:Value) (n:Nat) (xs:List Value) (hown:Lf k base e w v n xs)
  (a:Addr) (c:Nat) (news:List Value) (hl:news.length=k) (hnews:∀ j u,news[j]? = some u->w.cell? (a.add j)=some u) (h1:∀ u∈news,u.oneCell'=true) (hnd:∀ u∈news,Ah u=false)
  (h63:n+1<=maxLen) (hbytes:(n+1)*bytes<=140737488355328) (hbase:base<=w.heap.size) :
  ∃ v' w',(Builtin.append_ #[t,t] ty #[v,.slice (some a) 1 c]).run P w = .ok v' w'/\Lf k base e w' v' (n+1) (xs ++ news)/\Ch (blk v) w w'/\∀ g∈blk v',g∈blk v\/w.heap.size<=g:=by
 subst hsize;subst hby;have hl':news.length=1*i.size:=by rw[Nat.one_mul];exact hl
 have hlen:(xs ++ news).length=(n+1)*i.size:=by rw[List.length_append,hown.1,hl,Nat.succ_mul]
 have hsmall:n+1<=9223372036854775807:=by simp only[maxLen]at h63;omega
 have hzl:=BR.1 hzd;have hzc:∀ m,∀ u∈(Builtin.zeroCells z.cells m).toList,Ah u=false:=by
  intro m u hu;simp only[Builtin.zeroCells,Array.toList_map,Array.toList_range,List.mem_map,List.mem_range]at hu;obtain⟨j,hj,rfl⟩:=hu;have:j % z.cells.size < z.cells.size:=Nat.mod_lt _ Aa;rw[getElem!_pos z.cells _ this];exact hzl _ Ac
 have hxd:∀ u∈xs,Ah u=false:=by
  rcases hown.2 with⟨_,h0⟩ | ⟨g,cap,cur,_,_,hb,_,_,_,htake⟩
  ·intro u hu
   have:xs=[]:=List.eq_nil_of_length_eq_zero (by rw[hown.1,h0,Nat.zero_mul]);rw[this]at hu;cases hu
  ·intro u hu
   rw[<-htake]at hu;exact BR.1 hb.2 _ (List.mem_of_mem_take hu)
 have grown:∀(old:Nat),old < n+1 ->
   Lf i.size base e (w.drew.alloc (.cells (xs.toArray ++ news.toArray ++ Builtin.zeroCells z.cells (grownCap w (n+1) old e - (n+1))) e)) (.slice (some ⟨w.heap.size,0,none⟩) (n+1) (grownCap w (n+1) old e)) (n+1) (xs ++ news) /\
   ∀ G,Ch G w (w.drew.alloc (.cells (xs.toArray ++ news.toArray ++ Builtin.zeroCells z.cells (grownCap w (n+1) old e - (n+1))) e)):=by
  intro old ho;have hge:=grownCap_ge w (n+1) old e;have hcm:grownCap w (n+1) old e<=maxLen:=grownCap_le_maxLen w (n+1) old e h63;refine⟨⟨hlen,.inr ⟨w.heap.size,_,_,rfl,hbase,⟨heap_alloc_new w.drew _,?_⟩,hge,hcm,?_,?_⟩⟩,fun G=>Ch.of_ext ((Ext.refl w).drew.alloc _)⟩
  ·rw[BR]
   intro u hu;simp only[Array.toList_append,List.mem_append]at hu;rcases hu with(hu | hu) | hu
   ·exact hxd u (by simpa using hu)
   ·exact hnd u (by simpa using hu)
   ·exact hzc _ u hu
  ·simp only[Array.size_append,List.size_toArray,size_zeroCells,hzs,hown.1,hl]
   rw[<-Nat.succ_mul,<-Nat.add_mul];congr 1;omega
  ·simp only[Array.toList_append,List.append_assoc]
   rw[<-List.append_assoc,<-hlen];exact List.take_left
 rcases hown.2 with⟨rfl,rfl⟩ | ⟨g,cap,cur,rfl,hbg,hb,hnc,hcm,hcs,htake⟩
 ·have hx:xs=[]:=List.eq_nil_of_length_eq_zero (by simpa using hown.1)
  subst hx;have hr:=run_append_nil (P:=P) w t ty e i z ht hi hz a 1 c news hl' hnews Aa Aa (by have hb:=hbytes;simp only[Nat.zero_add]at hb;omega);have hgr:=grown 0 Aa;simp only[Nat.zero_add,List.nil_append,Array.empty_append]at hgr ⊢;exact⟨_,_,hr,hgr.1,hgr.2 _,fun g' hg' => .inr (by simp[blk,Value.ownBlock]at hg';omega)⟩
 ·have hg:=hb.1
  by_cases hroom:n+1<=cap
  ·have hfit:n*i.size+news.length<=cur.size:=by rw[hl,hcs,<-Nat.succ_mul];exact Nat.mul_le_mul_right _ hroom
   have hr:=run_append_room (P:=P) w t ty e i ht hi g n cap cur hg a 1 c news hl' hnews h1 hroom hfit;have hnew:∀ u∈cur.toList.take (n*i.size) ++ news ++ cur.toList.drop (n*i.size+news.length),Ah u=false:=by
    intro u hu;simp only[List.mem_append]at hu;rcases hu with(hu | hu) | hu
    ·exact BR.1 hb.2 _ (List.mem_of_mem_take hu)
    ·exact hnd u hu
    ·exact BR.1 hb.2 _ (List.mem_of_mem_drop hu)
   have hbx:AX (w.setRow g (cur.toList.take (n*i.size) ++ news ++ cur.toList.drop (n*i.size+news.length)).toArray) g e _:=⟨setRow_heap w g cur _ e _ hg,BR.2 (by simpa using hnew)⟩
   refine⟨_,_,hr,⟨hlen,.inr ⟨g,cap,_,rfl,hbg,hbx,hroom,hcm,?_,?_⟩⟩,⟨fun g' o hg' ho=>?_,Ng hb fun h hne _=>setRow_other w g h _ hne,fun a' ha hG=>?_⟩,fun g' hg' => .inl hg'⟩
   ·simp only[List.size_toArray,List.length_append,List.length_take,List.length_drop,Array.length_toList]
    omega
   ·rw[htake,<-hlen]
    exact List.take_left
   ·rw[setRow_other w g g' _ (fun e=>hg' (by simp[blk,Value.ownBlock,e]))];exact ho
   ·have hga:a'.heap.size<=g:=hG g (by simp[blk,Value.ownBlock])
    exact ha.grown (row:=some g) ⟨rfl,rfl,rfl,by simp[World.setRow],fun k _ hk=>setRow_other w g k _ (fun e=>hk (by rw[e]))⟩ (fun k hk=>by cases hk;exact hga)
  ·have holds:∀ j u,xs[j]? = some u->w.cell? ((⟨g,0,none⟩:Addr).add j)=some u:=hown.owns.cells (g:=g) rfl
   have hr:=run_append_grow (P:=P) w t ty e i z ht hi hz ⟨g,0,none⟩ n cap xs hown.1 holds a 1 c news hl' hnews Aa Aa (growslice_fits Aa hbytes);have hgr:=grown cap Aa;exact⟨_,_,hr,hgr.1,hgr.2 _,fun g' hg' => .inr (by simp[blk,Value.ownBlock]at hg';omega)⟩
end
section
variable{α:Type}{k:Nat}{rd:World->Value->α->Prop}{base:Nat}{e:TypeId}{w w':World}{v:Value}{l:List α}
theorem BF.append_at{P:Program}(h:BF k rd base e w v l)(t ty:TypeId)(i:TypeInfo)(z:Value)(bytes:Nat)(ht:P.underlying t=some (.slice e))(hi:P.info? e=some i)(hz:i.zero=some z)
  (hsize:i.size=k) (hby:i.bytes=bytes) (hzs:z.cells.size=k) (hzd:nodig z.cells=true) (hsz:0 < k) {x:α}
  (a:Addr) (c:Nat) (news:Array Value) (hl:news.size=k) (hx:rd w (.agg news) x) (hnews:∀ j u,news.toList[j]? = some u->w.cell? (a.add j)=some u) (h1:∀ u∈news.toList,u.oneCell'=true) (hnd:nodig news=true)
  (h63:l.length+1<=maxLen) (hbytes:(l.length+1)*bytes<=140737488355328) (hbase:base<=w.heap.size) (hr:∀ w' u y,KD w w'->rd w u y->rd w' u y) :
  ∃ v' w',(Builtin.append_ #[t,t] ty #[v,.slice (some a) 1 c]).run P w = .ok v' w'/\BF k rd base e w' v' (l ++ [x])/\Ch (blk v) w w'/\∀ g∈blk v',g∈blk v\/w.heap.size<=g:=by
 obtain⟨ess,g1,g2,g3,g5⟩:=h;obtain⟨v',w',hrun,hown,hupd,hat⟩:=Nj (P:=P) w k base t ty e i z bytes ht hi hz hsize hby hzs hzd hsz v l.length _ g3 a c news.toList (by simpa using hl) hnews h1 (BR.1 hnd) h63 hbytes hbase;refine⟨v',w',hrun,⟨ess ++ [news],by simp[g1],?_,?_,?_⟩,hupd,hat⟩
 ·intro d hd
  rcases List.mem_append.1 hd with hd | hd
  ·exact g2 d hd
  ·simp at hd;subst hd;exact hl
 ·have e1:(ess ++ [news]).flatMap Array.toList=ess.flatMap Array.toList ++ news.toList:=by simp
  rw[e1,List.length_append];exact hown
 ·intro j hj hj'
  rcases Nat.lt_or_ge j l.length with hlt | hge
  ·rw[List.getElem_append_left hlt,List.getElem_append_left Aa]
   exact hr _ _ _ hupd.kd (g5 j hlt Aa)
  ·have:j=l.length:=by simp at hj;omega
   subst this;rw[List.getElem_append_right Aa,List.getElem_append_right Aa];simpa using hr _ _ _ hupd.kd hx
end
theorem Ch.new_trans{G G':List Nat}{w w' w'':World}(h:Ch G w w')(k:Ch G' w' w'')(hG:∀ g∈G',g∈G\/w.heap.size<=g):Ch G w w'':=by
 refine⟨fun g o hg ho=>k.1 g o (fun hm=>?_) (h.1 g o hg ho),h.kd.trans k.kd,fun a e hg=>k.2.2 a (h.2.2 a e hg) fun g hm=>?_⟩
 ·rcases hG g hm with q | q
  ·exact hg q
  ·have:=(Array.getElem?_eq_some_iff.1 ho).1;omega
 ·rcases hG g hm with q | q
  ·exact hg g q
  ·have:=e.size;omega
theorem Ch.none{w w':World}(x:Ext w w')(G:List Nat):Ch G w w':=Ch.of_ext x
theorem J2.kd{w w':World}{v:Value}{p q:Rat}(h:J2 w v p q)(k:KD w w'):J2 w' v p q:=by
 obtain⟨b1,A1,n1,c1,b2,A2,n2,c2,b3,A3,n3,c3,b4,A4,n4,c4,h1,h2,h3⟩:=h;exact⟨b1,A1,n1,c1,b2,A2,n2,c2,b3,A3,n3,c3,b4,A4,n4,c4,h1,h2.kd k,h3.kd k⟩
theorem KU.kd{w w':World}{v:Value}{p q:Rat}(h:KU w v p q)(k:KD w w'):KU w' v p q:=by
 obtain⟨b1,A1,n1,c1,b2,A2,n2,c2,b3,A3,n3,c3,b4,A4,n4,c4,h1,h2,h3⟩:=h;exact⟨b1,A1,n1,c1,b2,A2,n2,c2,b3,A3,n3,c3,b4,A4,n4,c4,h1,h2.kd k,h3.kd k⟩
def fZ:World->Value->Rat×Rat->Prop:=fun w u y=>J2 w u y.1 y.2
def Df(base:Nat)(e:TypeId)(w:World)(v:Value)(l:List (Rat×Rat)):Prop:=BF 8 fZ base e w v l
theorem Df.ext{base:Nat}{e:TypeId}{w w':World}{v:Value}{l:List (Rat×Rat)}(h:Df base e w v l)(x:Ext w w'):Df base e w' v l:=BF.ext h x fun _ _ q=>q.ext x
theorem Df.upd{base:Nat}{e:TypeId}{w w':World}{v:Value}{l:List (Rat×Rat)}{G:List Nat}(h:Df base e w v l)(U:Ch G w w')(hg:∀ g∈blk v,g∉G):Df base e w' v l:=
 BF.upd h U hg fun _ _ q=>q.kd U.kd
theorem Df.nil(base:Nat)(e:TypeId)(w:World):Df base e w (.slice none 0 0) []:=BF.nil 8 fZ base e w
theorem Df.len{base:Nat}{e:TypeId}{w:World}{v:Value}{l:List (Rat×Rat)}(h:Df base e w v l):∃ A c,v = .slice A l.length c:=BF.len h
theorem J2.cells{w:World}{v:Value}{p q:Rat}(h:J2 w v p q):∃ b1 A1 n1 c1 b2 A2 n2 c2 b3 A3 n3 c3 b4 A4 n4 c4,v = .agg #[.bool b1,.slice A1 n1 c1,.bool b2,.slice A2 n2 c2,.bool b3,.slice A3 n3 c3,.bool b4,.slice A4 n4 c4]:=by
 obtain⟨b1,A1,n1,c1,b2,A2,n2,c2,b3,A3,n3,c3,b4,A4,n4,c4,h1,h2,h3⟩:=h;exact⟨b1,A1,n1,c1,b2,A2,n2,c2,b3,A3,n3,c3,b4,A4,n4,c4,h1⟩
noncomputable def iso(R:Rat->Rat->Int):Nat->Rat->Rat->List (Rat×Rat)
 | 0,p,q=>if R p q=0 then [] else [(p,q)]
 | n+1,p,q=>if R p q=0 then [] else if R p q=1 then [(p,q)] else iso R n p ((p+q) / 2) ++ iso R n ((p+q) / 2) q
theorem I9{R:Rat->Rat->Int}{p q:Rat}(h:R p q=0):∀ n,iso R n p q=[]
 | 0=>by unfold iso;rw[if_pos h]
 | n+1=>by unfold iso;rw[if_pos h]
theorem GH{R:Rat->Rat->Int}{p q:Rat}(h:R p q=1):∀ n,iso R n p q=[(p,q)]
 | 0=>by unfold iso;rw[if_neg Aa]
 | n+1=>by unfold iso;rw[if_neg Aa,if_pos h]
theorem K5{R:Rat->Rat->Int}{p q:Rat}{n:Nat}(h0:R p q≠0)(h1:R p q≠1):iso R (n+1) p q=iso R n p ((p+q) / 2) ++ iso R n ((p+q) / 2) q:=by
 rw[iso,if_neg h0,if_neg h1]
def Node(P Q:Rat)(d:Nat)(p q:Rat):Prop:=∃ k:Nat,k < 2^d/\p=P+(Q - P)*(((k:Nat):Rat) / 2^d)/\q=P+(Q - P)*(((k+1:Nat):Rat) / 2^d)
theorem Vt{k d:Nat}(h:k<=2^d):qsz (((k:Nat):Rat) / 2^d)<=d+1:=by
 have e:((k:Nat):Rat) / 2^d=Rat.divInt ((k:Nat):Int) ((2^d:Nat):Int):=by
  rw[Bh,Rat.divInt_eq_div];rfl
 rw[e];have h2:sz (2^d)<=d+1:=by
  have:=IJ 2 1 Ab d;rw[Int.natAbs_pow]at this;have e3:((2:Int).natAbs)^d=2^d:=rfl;rw[e3]at this;omega
 refine Da ?_ ?_ Aa
 ·rw[Int.natAbs_natCast];exact Nat.le_trans (Bw h) h2
 ·rw[Int.natAbs_natCast];exact h2
theorem Node.root(P Q:Rat):Node P Q 0 P Q:=by
 refine⟨0,Ab,?_,?_⟩
 ·rw[show((0:Nat):Rat)=0 from rfl,Rat.pow_zero];grind
 ·rw[show((0+1:Nat):Rat)=1 from rfl,Rat.pow_zero];grind
theorem Node.half{P Q p q:Rat}{d:Nat}(h:Node P Q d p q):Node P Q (d+1) p ((p+q) / 2)/\Node P Q (d+1) ((p+q) / 2) q:=by
 obtain⟨k,hk,rfl,rfl⟩:=h;have h2:(2:Rat)^d≠0:=by have:=Bn d;grind
 have e1:(2:Rat)^(d+1)=2^d*2:=Rat.pow_succ _ _;have c1:((2*k:Nat):Rat)=2*((k:Nat):Rat):=by push_cast;rfl
 have c2:((2*k+1:Nat):Rat)=2*((k:Nat):Rat)+1:=by rw[Cz,c1]
 have c3:((2*k+1+1:Nat):Rat)=2*((k:Nat):Rat)+2:=by rw[Cz,c2];grind
 have c4:((k+1:Nat):Rat)=((k:Nat):Rat)+1:=Cz k;have hkk:2*k+1 < 2^(d+1):=by rw[Nat.pow_succ];omega
 constructor
 ·refine⟨2*k,Aa,?_,?_⟩
  ·rw[e1,c1];grind
  ·rw[e1,c2,c4];grind
 ·refine⟨2*k+1,hkk,?_,?_⟩
  ·rw[e1,c2,c4];grind
  ·rw[e1,c3,c4];grind
theorem Node.width{P Q p q:Rat}{d:Nat}(h:Node P Q d p q):(q - p)*2^d=Q - P:=by
 obtain⟨k,hk,rfl,rfl⟩:=h;have h2:(2:Rat)^d≠0:=by have:=Bn d;grind
 rw[Cz];grind
theorem Node.within{P Q p q:Rat}{d:Nat}(h:Node P Q d p q)(hPQ:P < Q):P<=p/\p < q/\q<=Q:=by
 obtain⟨k,hk,rfl,rfl⟩:=h;have h2:=Bn d;obtain⟨hi,ei⟩:=GM h2;have hd:0 < Q - P:=by grind
 obtain⟨z,hz⟩:∃ z:Rat,z=1 / 2^d:=⟨_,rfl⟩
 rw[<-hz]at hi ei;have e:∀ x:Rat,x / 2^d=x*z:=fun x=>by rw[hz];grind
 rw[e,e];have k0:=E8 k;have k1:((k+1:Nat):Rat)<=((2^d:Nat):Rat):=Ll hk;rw[<-Bh]at k1;have a0:=Rat.mul_nonneg (Std.le_of_lt hd) (Rat.mul_nonneg k0 (Std.le_of_lt hi));have a1:=CK k1 (Std.le_of_lt hi);have a2:(2:Rat)^d*z=1:=by grind
 rw[a2]at a1;have a3:=Ct a1 (Std.le_of_lt hd);have a4:=Rat.mul_pos hd hi;rw[Cz]at a3 ⊢;refine⟨Af,Af,Af⟩
theorem Node.qsz{P Q p q:Rat}{d a:Nat}(h:Node P Q d p q)(hP:Hp.qsz P<=a)(hQ:Hp.qsz Q<=a):Hp.qsz p<=3*a+d+4/\Hp.qsz q<=3*a+d+4:=by
 obtain⟨k,hk,rfl,rfl⟩:=h;have key:∀ m:Nat,m<=2^d->Hp.qsz (P+(Q - P)*(((m:Nat):Rat) / 2^d))<=3*a+d+4:=fun m hm=>by
  have h1:=Tn Q P;have h2:=CR (Q - P) (((m:Nat):Rat) / 2^d);have h3:=Vt hm;have h4:=EW P ((Q - P)*(((m:Nat):Rat) / 2^d));omega
 exact⟨key k Aa,key (k+1) hk⟩
theorem Kw{F:Nat->Rat}(hF:SF F){P Q:Rat}(hPQ:P < Q){N:Nat}(hdeep:∀ d p q,Node P Q d p q->N<=d->rc F p q<=1) :
  ∀(n d:Nat) (p q:Rat),Node P Q d p q->N<=n+d->(∀ x∈iso (rc F) n p q,rc F x.1 x.2=1/\(∃ d',d<=d'/\d'<=n+d/\Node P Q d' x.1 x.2)/\p<=x.1/\x.2<=q) /\
   ((iso (rc F) n p q).length:Int)=rc F p q/\(iso (rc F) n p q).Pairwise fun x y=>x.2<=y.1:=by
 intro n;induction n with
 | zero =>
  intro d p q hn hN;have h1:=hdeep d p q hn Aa;have hw:=hn.within hPQ;have h0:=hF.nonneg (Std.le_of_lt hw.2.1);by_cases hz:rc F p q=0
  ·rw[I9 hz];exact⟨fun x hx=>by simp at hx,by simp[hz],List.Pairwise.nil⟩
  ·rw[GH (show rc F p q=1 by omega)]
   refine⟨fun x hx=>?_,D8,Ac⟩;have:x=(p,q):=by simpa using hx
   subst this;exact⟨show rc F p q=1 by omega,⟨d,Nat.le_refl _,Aa,hn⟩,Std.le_refl _,Std.le_refl _⟩
 | succ n ih =>
  intro d p q hn hN;have hw:=hn.within hPQ;have h0:=hF.nonneg (Std.le_of_lt hw.2.1);by_cases hz:rc F p q=0
  ·rw[I9 hz];exact⟨fun x hx=>by simp at hx,by simp[hz],List.Pairwise.nil⟩
  by_cases ho:rc F p q=1
  ·rw[GH ho]
   refine⟨fun x hx=>?_,by simp[ho],Ac⟩;have:x=(p,q):=by simpa using hx
   subst this;exact⟨ho,⟨d,Nat.le_refl _,Aa,hn⟩,Std.le_refl _,Std.le_refl _⟩
  ·rw[K5 hz ho]
   obtain⟨n1,n2⟩:=hn.half;obtain⟨a1,a2,a3⟩:=ih (d+1) _ _ n1 Aa;obtain⟨b1,b2,b3⟩:=ih (d+1) _ _ n2 Aa;have w1:=(n1.within hPQ).2.1;have w2:=(n2.within hPQ).2.1;have hsum:=AY F p ((p+q) / 2) q;refine⟨fun x hx=>?_,?_,?_⟩
   ·rcases List.mem_append.1 hx with hx | hx
    ·obtain⟨c1,⟨d',c2,c3,c4⟩,c5,c6⟩:=a1 x hx
     exact⟨c1,⟨d',Aa,Aa,c4⟩,c5,Af⟩
    ·obtain⟨c1,⟨d',c2,c3,c4⟩,c5,c6⟩:=b1 x hx
     exact⟨c1,⟨d',Aa,Aa,c4⟩,Af,c6⟩
   ·rw[List.length_append];push_cast;omega
   ·rw[List.pairwise_append]
    refine⟨a3,b3,fun x hx y hy=>?_⟩;obtain⟨-,-,-,c6⟩:=a1 x hx;obtain⟨-,-,c5,-⟩:=b1 y hy;exact Std.le_trans c6 c5
theorem Zz(W:Nat->Rat)(K:Nat)(p q:Rat):rts W K p q=rt W K p q:=by
 have e:∀ x,V (FO W (pd W) K) x=vx W K x:=fun x=>by
  unfold V vx TZ FO;rw[List.map_map];rfl
 unfold rts rt;rw[e,e]
theorem GG{W:Nat->Rat}{K:Nat}(hK:Nq W (pd W) K)(p q:Rat):rts W K p q=rc W p q:=by rw[Zz];unfold rc;rw[hK.kn]
theorem UC{G:List Nat}{X Y:World}(U:Ch G X Y){g i:Nat}{x:Value}(hg:g∉G)(h:X.cell? ⟨g,i,none⟩=some x):Y.cell? ⟨g,i,none⟩=some x:=by
 have hb:=World.block_lt_of_cell? X _ h;have ho:X.heap[g]? = some X.heap[g]:=Array.getElem?_eq_getElem hb;have:=U.1 g _ hg ho;rw[World.cell?_of_block (this.trans ho.symm)];exact h
def RV(base:Nat)(t:TypeId)(w:World)(o:Value)(l:List (Rat×Rat))(e:Ending)(w':World):Prop:=∃ r,e = .returned r/\Df base t w' r l/\Ch (blk o) w w'/\∀ g∈blk r,g∈blk o\/w.heap.size<=g
theorem bC(q:Rat):(ab q).num=(q.num.natAbs:Nat)/\(ab q).den=q.den:=by
 unfold ab
 split
 ·rename_i h
  have h1:=Ke (q:=-q);have h2:(-q).num = -q.num:=rfl;have h3:0 < -q:=by grind
  have:=h1.2 h3;exact⟨Aa,rfl⟩
 ·rename_i h
  have:0<=q.num:=Rat.num_nonneg.2 Af;exact⟨Aa,rfl⟩
theorem AX.put42{w:World}{g:Nat}{t:TypeId}{a b c d:Value}(h:AX w g t #[a,b,c,d])(u v:Value)(hu:Ah u=false)(hv:Ah v=false) :
  ∃ W,W=(w.setCell ⟨g,0,none⟩ u).setCell ⟨g,1,none⟩ v/\AX W g t #[u,v,c,d]/\Ch [g] w W:=
 ⟨_,rfl,(h.set_ 0 hu).set_ 1 hv,(Ch.set_ h.nodig 0 u).trans (Ch.set_ (h.set_ 0 hu).nodig 1 v)⟩
theorem Wi(p q:Rat):ab (p / q)=ab p / ab q:=by
 by_cases h:q=0
 ·rw[h,Dl,Rat.div_def,Rat.div_def,Rat.inv_zero,Rat.mul_zero,Rat.mul_zero];decide
 ·have h1:p / q*q=p:=by grind
  have h2:ab (p / q)*ab q=ab p:=by rw[<-C8,h1]
  have h3:ab q≠0:=fun e=>h (Td.1 e);grind
theorem Sb{p q:Rat}:decide (FW (p - q)<=0)=decide (p<=q):=by
 rw[F8];unfold Bo;by_cases h:p<=q
 ·rw[if_neg Af,decide_eq_true h]
  split<;>rfl
 ·rw[decide_eq_false h,if_pos Af];rfl
theorem Kb(n:Nat):(((2:Int)^n:Int):Rat)=2^n:=by push_cast;rfl
theorem EG{p q:Rat}:decide (FW (p - q) > 0)=decide (q < p):=by
 rw[F8];unfold Bo;by_cases h:q < p
 ·rw[if_pos Af,decide_eq_true h];rfl
 ·rw[decide_eq_false h,if_neg Af]
  split<;>rfl
theorem P2.qsz{r:Rat}{s:Nat}(h0:0<=r)(h:Hp.qsz r<=s):∃ J,P2 r J/\J<=32*s+1:=by
 have h1:=(Mo h).1;rw[Dn h0,Bh]at h1;have key:∀ m,r < 2^m->∃ J,P2 r J/\J<=m:=by
  intro m;induction m with
  | zero=>intro h;exact⟨0,⟨h,fun i hi=>Aa⟩,Nat.le_refl _⟩
  | succ m ih =>
   intro h;by_cases h2:r < 2^m
   ·obtain⟨J,a,b⟩:=ih h2;exact⟨J,a,Aa⟩
   ·exact⟨m+1,⟨h,fun i hi=>by have:=JH (show i<=m by omega);grind⟩,Nat.le_refl _⟩
 refine key (32*s+1) ?_;rw[Rat.pow_succ];have:=Bn (32*s);rw[Bh]at this ⊢;grind
noncomputable def bx(F:Nat->Rat):Nat:=open Classical in if h:∃ j,P2 (Gj F (pl F - 1)+1) j then Classical.choose h else 0
theorem P2.bx{F:Nat->Rat}{j:Nat}(h:P2 (Gj F (pl F - 1)+1) j):j=Hp.bx F:=by
 have hx:∃ j,P2 (Gj F (pl F - 1)+1) j:=⟨j,h⟩
 unfold Hp.bx;rw[dif_pos hx];exact h.uniq (Classical.choose_spec hx)
theorem dA(F:Nat->Rat):P2 (Gj F (pl F - 1)+1) (bx F):=by
 have h0:0<=Gj F (pl F - 1)+1:=by have:=Fy F (pl F - 1);grind
 obtain⟨j,hj,-⟩:=P2.qsz h0 (Nat.le_refl _);rw[<-hj.bx];exact hj
theorem R4{F:Nat->Rat}{s:Nat}(h:∀ i,qsz (F i)<=s):bx F<=32*(2*s+2)+1:=by
 have h0:0<=Gj F (pl F - 1)+1:=by have:=Fy F (pl F - 1);grind
 have h1:=EW (Gj F (pl F - 1)) 1;have h2:qsz (1:Rat)=1:=by decide
 have h3:=Ls h (Nat.le_trans (Dh (F 0)) (h 0)) (pl F - 1);obtain⟨j,hj,hj2⟩:=P2.qsz h0 (show qsz (Gj F (pl F - 1)+1)<=2*s+2 by omega);rw[<-hj.bx];exact hj2
theorem OH(j:Nat):qsz ((2:Rat)^j)<=j+1/\qsz (-(2:Rat)^j)<=j+1:=by
 have h1:=IL j;have e:((2:Rat)^j)=(((2:Int)^j:Int):Rat):=(Kb j).symm;have h2:qsz ((2:Rat)^j)<=j+1:=by rw[e,Bp];omega
 exact⟨h2,by rw[Ir];exact h2⟩
structure Pg(F:Nat->Rat)(D M:Nat):Prop where
 z:ZI F
 f:Ae F
 n0:F≠pz
 e:Ca F=0
 q:∀ i,qsz (F i)<=1000
 pln:pl F<=1000
 sim:∃ S n M T,Si F S n M T
 chn:∃ S,GR (Av F) S D M
theorem Pg.sf{F:Nat->Rat}{D M:Nat}(h:Pg F D M):SF (Av F):=Bd h.z h.f h.n0
theorem Pg.k{F:Nat->Rat}{D M:Nat}(h:Pg F D M):Nq (Av F) (pd (Av F)) (kn (Av F)):=h.sf.st.k
theorem Pg.lim{F:Nat->Rat}{D M:Nat}(h:Pg F D M):M<=1000000/\D<=900:=by
 obtain⟨S,h⟩:=h.chn;exact⟨by have:=h.b;omega,h.D9⟩
theorem JX.lower{base b:Nat}{t:TypeId}{w:World}{v:Value}{W:Nat->Rat}(h:JX base t w v W)(hb:b<=base):JX b t w v W:=by
 obtain⟨c,us,K,h1,h2,h3,h4⟩:=h;exact⟨c,us,K,h1,h2,h3,(h4.base_le hb).el_le hb⟩
theorem Df.lower{base b:Nat}{e:TypeId}{w:World}{v:Value}{l:List (Rat×Rat)}(h:Df base e w v l)(hb:b<=base):Df b e w v l:=by
 obtain⟨ess,g1,g2,⟨g3,g4⟩,g5⟩:=h;refine⟨ess,g1,g2,⟨g3,?_⟩,g5⟩;rcases g4 with h4 | ⟨g,cap,cur,a,c,d⟩
 ·exact .inl h4
 ·exact .inr ⟨g,cap,cur,a,Nat.le_trans hb c,d⟩
def Vo(base:Nat)(t:TypeId)(F:Nat->Rat)(N:Nat)(r:Value)(w:World):Prop:=∃ c,r = .tuple #[c,.int .i64 (Ca F)]/\(Ca F=0->Df base t w c (iso (rc (Av F)) N (-(2:Rat)^bx F) ((2:Rat)^bx F)))/\(Ca F≠0->c = .slice none 0 0)
def Jz(F:Nat->Rat)(p q:Rat)(r:Value):Prop:=r = .tuple #[.int .i64 (if Ca F=0/\p<=q then rc (Av F) p q else 0),.int .i64 (if Ca F=0 then(if p<=q then 0 else 2)else Ca F)]
structure Cj(F:Nat->Rat):Prop where
 z:ZI F
 f:Ae F
 n0:F≠pz
 p:pl F<=7
 b:∀ i,(F i).num.natAbs<=4095
theorem CS{F:Nat->Rat}(z:ZI F){i s:Nat}(hs:1<=s)(h:(F i).num.natAbs < bp s):qsz (F i)<=s:=by
 have h3:=Ci h;rw[z.num i,Bp];omega
theorem Cj.q{F:Nat->Rat}(h:Cj F)(i:Nat):qsz (F i)<=1:=CS h.z Ab (Nat.lt_of_le_of_lt (h.b i) Ab)
theorem Mx{F:Nat->Rat}(z:ZI F)(f:Ae F){n X:Nat}(hp:pl F<=n+1)(h:∀ i,(F i).num.natAbs<=X)(i:Nat):(pd F i).num.natAbs<=n*X:=by
 have e:pd F i=((((i+1:Nat):Int)*(F (i+1)).num:Int):Rat):=by
  show((i+1:Nat):Rat)*F (i+1)=_
  conv=>lhs;rw[z.num (i+1)]
  push_cast;rfl
 rw[e];show(((i+1:Nat):Int)*(F (i+1)).num).natAbs<=_;rw[Int.natAbs_mul];by_cases hi:i+1<=n
 ·exact Nat.mul_le_mul hi (h _)
 ·have:F (i+1)=0:=(AA f) _ Aa
  rw[this];simp
theorem PG{F:Nat->Rat}(z:ZI F)(f:Ae F)(h0:F≠pz){X:Nat}(h:∀ i,(F i).num.natAbs<=X)(i:Nat):(pp F i).num.natAbs<=X:=by
 rw[Mi z f h0];show((F i).num / pcn F).natAbs<=X;exact Nat.le_trans (Int.natAbs_ediv_le_natAbs _ _) (h i)
theorem Pb{F:Nat->Rat}(z:ZI F){X:Nat}(h:∀ i,(F i).num.natAbs<=X):IY ((X:Nat):Rat) F:=fun i=>by
 rw[z.num i,Jn];exact_mod_cast h i
theorem OU{F:Nat->Rat}(z:ZI F){X:Nat}(h:IY ((X:Nat):Rat) F)(i:Nat):(F i).num.natAbs<=X:=by
 have:=h i;rw[z.num i,Jn]at this;exact_mod_cast this
theorem MR(a b c d:Nat):((a:Nat):Rat)*(((b:Nat):Rat)*((c:Nat):Rat)*((d:Nat):Rat)*((d:Nat):Rat))=((a*(b*c*d*d):Nat):Rat):=by push_cast;rfl
theorem Cj.w{F:Nat->Rat}(h:Cj F):(∀ i,(Av F i).num.natAbs<=7*(4095*7*15^7*15^7))/\pl (Av F)<=7:=by
 have hP:=Bj.pp h.z h.f h.n0;have hS:=Bd h.z h.f h.n0;have hpl:=Et h.z h.f;have hd:Iz (pp F) (Av F):=by
  obtain⟨hC,hW,e,-,-⟩:=Ep hP;exact⟨yc (pp F),hC.z,hC.f,by rw[AV];exact e⟩
 have h1:=O6 hP.z hP.f hP.n hS.p.z hS.p.f hd (n:=7) (by rw[hpl];exact h.p) (Pb hP.z (PG h.z h.f h.n0 h.b));refine⟨OU hS.p.z ?_,?_⟩
 ·intro i
  have:=h1 i;refine Std.le_trans this ?_;have e:(1:Rat)+2*((7:Nat):Rat)=((15:Nat):Rat):=by exact_mod_cast(rfl:1+2*7=15)
  rw[e,G5];have:((7:Nat):Rat)*(((4095:Nat):Rat)*((7:Nat):Rat)*((15^7:Nat):Rat)*((15^7:Nat):Rat))=((7*(4095*7*15^7*15^7):Nat):Rat):=MR 7 4095 7 _;rw[this];exact Std.le_refl _
 ·have:=Dv.le hS.p.f hP.f hP.n (MW hd)
  rw[hpl]at this;have:=h.p;omega
theorem Cj.chn{F:Nat->Rat}(h:Cj F):GR (Av F) 3 (pl (Av F)+pl (pd (Av F))) 32768/\pl (Av F)+pl (pd (Av F))<=13:=by
 obtain⟨h1,h2⟩:=h.w;have hS:=Bd h.z h.f h.n0;have h3:=LD hS.p.f;have h4:=AO hS.p.f hS.p.n;have hD:pl (Av F)+pl (pd (Av F))<=13:=by omega
 have hp:2^(pl (Av F)+pl (pd (Av F)))<=2^13:=Nat.pow_le_pow_right Ab hD;have hm:(pl (Av F)+pl (pd (Av F))+1)*(32768+1)<=14*32769:=Nat.mul_le_mul_right _ Aa;refine⟨GR.of2 hS.p.z hS.p.f (fun i=>CS hS.p.z Ab (Nat.lt_of_le_of_lt (h1 i) (by decide +kernel))) (fun i=>CS (En hS.p.z) Ab (Nat.lt_of_le_of_lt (Mx hS.p.z hS.p.f (n:=6) Aa h1 i) (by decide +kernel))) rfl Aa Aa Aa,hD⟩
theorem Cj.sim{F:Nat->Rat}(h:Cj F):Si F 1 7 16384 36000:=by
 have hP:=Bj.pp h.z h.f h.n0;have hpl:=Et h.z h.f;have hpn:=PG h.z h.f h.n0 h.b;exact⟨h.z,h.f,h.n0,h.q,fun i=>CS (En hP.z) Ab (Nat.lt_of_le_of_lt (Mx hP.z hP.f (n:=6) (by rw[hpl];exact h.p) hpn i) Ab),
  fun i=>TV hP (n:=7) (s:=1) (by rw[hpl];exact h.p) Ab (fun i=>CS hP.z Ab (Nat.lt_of_le_of_lt (hpn i) Ab)) Ab i,h.p,Ab,Ab,Ab,Ab⟩
theorem Cj.err{F:Nat->Rat}(h:Cj F):Ca F=0:=by
 refine Lp h.n0 (by have:=h.p;omega) fun⟨i,b,h1,h2⟩=>?_;have:=h1.le (m:=12) (Nat.lt_of_le_of_lt (h.b i) Ab);omega
theorem Cj.pg{F:Nat->Rat}(h:Cj F):Pg F (pl (Av F)+pl (pd (Av F))) 32768:=
 ⟨h.z,h.f,h.n0,h.err,fun i=>Nat.le_trans (h.q i) Ab,by have:=h.p;omega,⟨1,7,16384,36000,h.sim⟩,⟨3,h.chn.1⟩⟩
theorem Ya{S D b:Nat}(hS:S<=3)(hD:D<=13)(hb:b<=400):Mv S D b<=660000000:=by
 have hp:2^D<=8192:=Nat.le_trans (Nat.pow_le_pow_right Ab hD) Ab;have h1:(S+1)*2^D<=4*8192:=Nat.mul_le_mul Aa hp;have h2:(D+1)*((S+1)*2^D+1)<=14*32769:=Nat.mul_le_mul Aa Aa;have h3:b*(D+1)<=400*14:=Nat.mul_le_mul hb Aa;have h4:(3+b)*D<=403*13:=Nat.mul_le_mul Aa hD;have h5:GN S D b<=50338607:=by unfold GN;omega
 have h6:D*GN S D b<=13*50338607:=Nat.mul_le_mul hD h5;unfold Mv Po UT;omega
theorem Cj.sep{F:Nat->Rat}(h:Cj F){p q:Rat}{E:Nat}(hE:660000000<=E)(hp:ab p<=2^400 - 1)(hq:ab q<=2^400 - 1)(hpq:p < q)(hd:(q - p)*2^E<=1):rc (Av F) p q<=1:=by
 obtain⟨hC,hD⟩:=h.chn;have hS:=Bd h.z h.f h.n0;have h1:=Ya (S:=3) (b:=400) Ab hD Ab;have h2:=Ct (JH (show Mv 3 (pl (Av F)+pl (pd (Av F))) 400<=E by omega)) (show 0<=q - p by grind);exact hS.st.sep hC.s hC.d rfl hp hq hpq (Std.le_trans h2 hd)
theorem XL{b:Nat}(j:Nat)(h:j+1<=b):(2:Rat)^j<=2^b - 1:=by
 have h1:=JH h;rw[Rat.pow_succ]at h1;have:=M7 j;grind
theorem Cj.deep{F:Nat->Rat}(h:Cj F)(d:Nat)(p q:Rat)(hn:Node (-(2:Rat)^bx F) ((2:Rat)^bx F) d p q)(hd:700000000<=d):rc (Av F) p q<=1:=by
 have hb:=R4 h.q;have hpos:=Bn (bx F);have hPQ : -(2:Rat)^bx F < (2:Rat)^bx F:=by grind
 obtain⟨w1,w2,w3⟩:=hn.within hPQ;have hB:=XL (b:=400) (bx F) Aa;have hap:ab p<=2^400 - 1:=EJ.2 ⟨Af,Af⟩;have haq:ab q<=2^400 - 1:=EJ.2 ⟨Af,Af⟩;obtain⟨E,hE⟩:∃ E,d=E+(bx F+1):=⟨d - (bx F+1),Aa⟩
 refine h.sep (E:=E) Aa hap haq w2 ?_;have hw:=hn.width;rw[hE,D5,Rat.pow_succ]at hw;have:(q - p)*2^E*(2^bx F*2)=1*(2^bx F*2):=by grind
 have hne:(2:Rat)^bx F*2≠0:=by grind
 have:(q - p)*2^E=1:=by grind
 rw[this];exact Std.le_refl _
theorem Tg:∀ l:List Int,Kk 0 l<=l.length - 1
 | []=>Nat.le_refl _
 | s::l=>by
  rw[Kk]
  split
  ·have:=Tg l;simp;omega
  ·rename_i h
   rw[if_neg (show ¬ (0:Int) = -s by omega)];have:=XE l s;simp;omega
theorem QI:pl (cz [-2,0,1])=3:=KS (CO [-2,0,1]) (fun _=>by decide +kernel)
theorem Zc:cz [-2,0,1]≠pz:=fun e=>by have:=QI;rw[e,BZ]at this;omega
theorem FJ:Cj (cz [-2,0,1]):=by
 refine⟨ZI.cz _,Ae.cz _,Zc,by rw[QI];decide,fun i=>?_⟩
 match i with
 | 0=>decide +kernel
 | 1=>decide +kernel
 | 2=>decide +kernel
 | i+3=>rw[JK Ac];decide
theorem SG(x:Rat):ev (cz [-2,0,1]) x = -2+x*x:=by
 rw[ER (CO [-2,0,1]) x];show cz [-2,0,1] 0+x*(cz [-2,0,1] 1+x*(cz [-2,0,1] 2+x*0))=_;have h0:cz [-2,0,1] 0 = -2:=by decide +kernel
 have h1:cz [-2,0,1] 1=0:=by decide +kernel
 have h2:cz [-2,0,1] 2=1:=by decide +kernel
 rw[h0,h1,h2];grind
theorem VT:ld (cz [-2,0,1])=1:=by unfold ld;rw[QI];decide +kernel
theorem Z4:SF (cz [-2,0,1]):=by
 refine⟨⟨ZI.cz _,Ae.cz _,Zc,by rw[VT];decide,?_⟩,?_⟩
 ·have h:=FJ
  have h1:cn (cz [-2,0,1])∣1:=by
   have h2:=Ij (F:=cz [-2,0,1]) (Ae.cz _) 2;have h3:(cz [-2,0,1] 2).num=1:=by decide +kernel
   rw[h3]at h2;exact Int.natCast_dvd_natCast.1 h2
  exact Nat.dvd_one.1 h1
 ·have e:∀ i,pd (cz [-2,0,1]) i=cs 0 (cs 2 pz) i:=fun i=>by
   match i with
   | 0=>decide +kernel
   | 1=>decide +kernel
   | i+2 =>
    show((i+2+1:Nat):Rat)*cz [-2,0,1] (i+3)=pz i;rw[JK Ac,Rat.mul_zero];rfl
  have e':pd (cz [-2,0,1])=cs 0 (cs 2 pz):=funext e;have f':cz [-2,0,1]=cs (-2) (cs 0 (cs 1 pz)):=funext fun i=>by
   match i with
   | 0=>decide +kernel
   | 1=>decide +kernel
   | 2=>decide +kernel
   | i+3=>rw[JK Ac];rfl
  refine⟨cs (-(1 / 2)) pz,cs 0 (cs (1 / 4) pz),Ae.pz.cs _,(Ae.pz.cs _).cs _,?_⟩;rw[e',f'];simp only[KT,Cv]
  funext i
  match i with
  | 0=>simp only[pad,psc,cs,pz,pone];grind
  | 1=>simp only[pad,psc,cs,pz,pone];grind
  | 2=>simp only[pad,psc,cs,pz,pone];grind
  | 3=>simp only[pad,psc,cs,pz,pone];grind
  | i+4=>simp only[pad,psc,cs,pz,pone];grind
theorem YW{F:Nat->Rat}(h:SF F):Av F=F:=by
 have e:pp F=F:=h.p.self;have h2:=Rw h h.p (Dv.refl F);have h3:=Ep h.p;unfold Av;rw[e];refine h3.2.1.eq_dv h.p ⟨yc F,h3.1.f,?_⟩ h2;rw[AV];exact h3.2.2.1
theorem Wd:Av (cz [-2,0,1])=cz [-2,0,1]:=YW Z4
theorem cO:bx (cz [-2,0,1])=2:=by
 refine(P2.bx ?_).symm;rw[QI];have h0:cz [-2,0,1] 0 = -2:=by decide +kernel
 have h1:cz [-2,0,1] 1=0:=by decide +kernel
 have e1:Gj (cz [-2,0,1]) 1=2:=by
  show(if (0:Rat) < ab (cz [-2,0,1] 0 / ld (cz [-2,0,1]))then ab (cz [-2,0,1] 0 / ld (cz [-2,0,1]))else 0)=2;rw[h0,VT];decide +kernel
 have e2:Gj (cz [-2,0,1]) (3 - 1)=2:=by
  show(if Gj (cz [-2,0,1]) 1 < ab (cz [-2,0,1] 1 / ld (cz [-2,0,1]))then ab (cz [-2,0,1] 1 / ld (cz [-2,0,1]))else Gj (cz [-2,0,1]) 1)=2;rw[e1,h1,VT];decide +kernel
 rw[e2];refine⟨by decide +kernel,fun i hi=>?_⟩
 match i with
 | 0=>decide +kernel
 | 1=>decide +kernel
theorem Zq:rc (cz [-2,0,1]) 0 2=1/\rc (cz [-2,0,1]) (-4) 4=2/\rc (cz [-2,0,1]) (-4) 0=1/\rc (cz [-2,0,1]) 0 4=1:=by
 have hs:=Z4;have e0:ev (cz [-2,0,1]) 0 = -2:=by rw[SG];decide +kernel
 have e2:ev (cz [-2,0,1]) 2=2:=by rw[SG];decide +kernel
 have e4:ev (cz [-2,0,1]) 4=14:=by rw[SG];decide +kernel
 have em:ev (cz [-2,0,1]) (-4)=14:=by rw[SG];decide +kernel
 have h1:1<=rc (cz [-2,0,1]) 0 2:=hs.st.change_counts (by decide +kernel) (by rw[e0];decide +kernel) (by rw[e0,e2];decide +kernel);have h2:1<=rc (cz [-2,0,1]) (-4) 0:=hs.st.change_counts (by decide +kernel) (by rw[em];decide +kernel) (by rw[e0,em];decide +kernel);have h3:=hs.sub (p:=0) (x:=0) (y:=2) (q:=4) (by decide +kernel) (by decide +kernel) (by decide +kernel);have h4:=AY (cz [-2,0,1]) (-4) 0 4
 have h5:rc (cz [-2,0,1]) (-4) 4<=2:=by
  rw[<-GG hs.st.k];unfold rts;have h6:V (FO (cz [-2,0,1]) (pd (cz [-2,0,1])) (kn (cz [-2,0,1]))) (-4)<=kn (cz [-2,0,1]) - 1:=by
   have:=Tg ((FO (cz [-2,0,1]) (pd (cz [-2,0,1])) (kn (cz [-2,0,1]))).map fun F=>Bo (ev F (-4)));rw[List.length_map,Ee]at this;exact this
  obtain⟨S,hS⟩:=DY hs.p.f;obtain⟨T,hT⟩:=DY (BS hs.p.f);obtain⟨K,q1,q2⟩:=Gi hs.p.f (BS hs.p.f) hs.p.z (En hs.p.z) (S:=max S T) (fun i=>Nat.le_trans (hS i) (Nat.le_max_left _ _)) (fun i=>Nat.le_trans (hT i) (Nat.le_max_right _ _));rw[LD hs.p.f,QI]at q2;rw[q1.kn]at h6 ⊢;omega
 omega
theorem ZP(N:Nat):iso (rc (Av (cz [-2,0,1]))) (N+1) (-(2:Rat)^bx (cz [-2,0,1])) ((2:Rat)^bx (cz [-2,0,1]))=[(-4,0),(0,4)]:=by
 rw[Wd,cO];have e1:(2:Rat)^2=4:=by decide +kernel
 have e2 : -(2:Rat)^2 = -4:=by decide +kernel
 obtain⟨-,r1,r2,r3⟩:=Zq;rw[e2,e1,K5 Aa Aa];have e3:((-4:Rat)+4) / 2=0:=by decide +kernel
 rw[e3,GH r2,GH r3];rfl
theorem ZT{F:Nat->Rat}(z:ZI F)(f:Ae F)(h0:F≠pz):pl (Av F)<=pl F:=Dv.le (Bd z f h0).p.f f h0 (Ew z f h0)
noncomputable def hfp(R:Rat->Rat->Int)(c:Rat×Rat):Rat×Rat:=if R c.1 ((c.1+c.2) / 2)=1 then(c.1,(c.1+c.2) / 2)else((c.1+c.2) / 2,c.2)
noncomputable def Cw(R:Rat->Rat->Int)(p q:Rat):Nat->Rat×Rat
 | 0=>(p,q)
 | k+1=>hfp R (Cw R p q k)
theorem CJ(R:Rat->Rat->Int)(p q:Rat):∀ k,Node p q k (Cw R p q k).1 (Cw R p q k).2
 | 0=>Node.root p q
 | k+1=>by
  have h:=(CJ R p q k).half;show Node p q (k+1) (hfp R (Cw R p q k)).1 (hfp R (Cw R p q k)).2;unfold hfp
  split
  ·exact h.1
  ·exact h.2
theorem Yc{F:Nat->Rat}(h:SF F){c:Rat×Rat}(hc:c.1 < c.2)(h1:rc F c.1 c.2=1):rc F (hfp (rc F) c).1 (hfp (rc F) c).2=1:=by
 have a:=AY F c.1 ((c.1+c.2) / 2) c.2;have b1:=h.nonneg (p:=c.1) (q:=(c.1+c.2) / 2) Af;have b2:=h.nonneg (p:=(c.1+c.2) / 2) (q:=c.2) Af;unfold hfp
 split
 ·assumption
 ·show rc F ((c.1+c.2) / 2) c.2=1
  omega
theorem Lt{F:Nat->Rat}(h:SF F){p q:Rat}(hpq:p < q)(h1:rc F p q=1):∀ k,rc F (Cw (rc F) p q k).1 (Cw (rc F) p q k).2=1
 | 0=>h1
 | k+1=>Yc h ((CJ (rc F) p q k).within hpq).2.1 (Lt h hpq h1 k)
theorem KI{p q:Rat}{E b k:Nat}(hpq:p < q)(hp:ab p<=2^b - 1)(hq:ab q<=2^b - 1){x y:Rat}(hn:Node p q k x y)(hk:E+b+1<=k):ab x<=2^b - 1/\ab y<=2^b - 1/\x < y/\(y - x)*2^E<=1:=by
 obtain⟨w1,w2,w3⟩:=hn.within hpq;obtain⟨p1,p2⟩:=EJ.1 hp;obtain⟨q1,q2⟩:=EJ.1 hq;refine⟨EJ.2 ⟨Af,Af⟩,EJ.2 ⟨Af,Af⟩,w2,?_⟩;have hw:=hn.width;obtain⟨r,rfl⟩:∃ r,k=E+(b+1)+r:=⟨k - (E+(b+1)),Aa⟩
 rw[D5,D5,Rat.pow_succ]at hw;have h1:=M7 r;have h2:=Bn b;have h3:=Bn E;have hd:0 < (y - x)*2^E:=Rat.mul_pos Af h3;have e1:(y - x)*2^E*(2^b*2)*2^r<=1*(2^b*2):=by
  have:(y - x)*2^E*(2^b*2)*2^r=q - p:=by rw[<-hw];grind
  rw[this];grind
 have hd2:0<=(y - x)*2^E*(2^b*2):=Rat.mul_nonneg (Std.le_of_lt hd) Af;have e2:(y - x)*2^E*(2^b*2)<=(y - x)*2^E*(2^b*2)*2^r:=by
  have:=Rat.mul_le_mul_of_nonneg_left h1 hd2;rw[Rat.mul_one]at this;exact this
 exact Rat.le_of_mul_le_mul_right (Std.le_trans e2 e1) Af
structure Q3(F:Nat->Rat):Prop where
 z:ZI F
 f:Ae F
 n0:F≠pz
 d:∀ E,SF E->Dv E F->∀ i,qsz (E i)<=5
theorem UV{D:Nat}(hD:D<=13):Mv 5 D 400<=1000000000:=by
 have hp:2^D<=8192:=Nat.le_trans (Nat.pow_le_pow_right Ab hD) Ab;have h1:(5+1)*2^D<=6*8192:=Nat.mul_le_mul Aa hp;have h2:(D+1)*((5+1)*2^D+1)<=14*49153:=Nat.mul_le_mul Aa Aa;have h5:GN 5 D 400<=75509000:=by unfold GN;omega
 have h6:D*GN 5 D 400<=13*75509000:=Nat.mul_le_mul hD h5;unfold Mv Po UT;omega
theorem Cj.nice{F:Nat->Rat}(h:Cj F):Q3 F:=⟨h.z,h.f,h.n0,fun E hE hd i=>by
 have hP:=Bj.pp h.z h.f h.n0;have hpl:=Et h.z h.f;have h1:=O6 hP.z hP.f hP.n hE.p.z hE.p.f (hP.zdv hE.p ((DW h.z h.f).2 hd)) (n:=7) (by rw[hpl];exact h.p) (Pb hP.z (PG h.z h.f h.n0 h.b));have h2:(E i).num.natAbs<=7*(4095*7*15^7*15^7):=OU hE.p.z (fun i=>by
  refine Std.le_trans (h1 i) ?_;have e:(1:Rat)+2*((7:Nat):Rat)=((15:Nat):Rat):=by exact_mod_cast(rfl:1+2*7=15)
  rw[e,G5];have:((7:Nat):Rat)*(((4095:Nat):Rat)*((7:Nat):Rat)*((15^7:Nat):Rat)*((15^7:Nat):Rat))=((7*(4095*7*15^7*15^7):Nat):Rat):=MR 7 4095 7 _;rw[this];exact Std.le_refl _) i
 exact CS hE.p.z Ab (Nat.lt_of_le_of_lt h2 (by decide +kernel))⟩
theorem Q3.apart{F G:Nat->Rat}(hF:Q3 F)(hG:Q3 G)(hD:pl F+pl G<=13){x y:Rat}(hx:ab x<=2^400 - 1)(hy:ab y<=2^400 - 1)(hxy:x < y)(hd:(y - x)*2^1000000000<=1)(h1:rc (Av F) x y=1)(h0:rc (Av (Bl F G)) x y=0):rc (Av G) x y=0:=by
 have sF:=Bd hF.z hF.f hF.n0;have sG:=Bd hG.z hG.f hG.n0;rw[Y5 hF.z hF.f hF.n0 hG.z hG.f hG.n0]at h0;obtain⟨U,V,sC,sU,sV,eW,eX,-,-,-,cUX,a1,a2⟩:=sF.meet sG;have b1:=a1 x y (Std.le_of_lt hxy);have dU:Dv U F:=Dv.trans ⟨Bl (Av F) (Av G),sC.p.f,eW⟩ (Ew hF.z hF.f hF.n0);have dG:=Ew hG.z hG.f hG.n0;have pU:=Dv.le sU.p.f hF.f hF.n0 dU;have pG:=Dv.le sG.p.f hG.f hG.n0 dG;have hs:=UV (D:=pl U+pl (Av G)) Aa
 have h2:=Ct (JH hs) (show 0<=y - x by grind);rcases D7.sep sU sG cUX (hF.d U sU dU) (hG.d _ sG dG) rfl hx hy hxy (Std.le_trans h2 hd)with e | e
 ·omega
 ·exact e
theorem Q3.stop{F G:Nat->Rat}(hF:Q3 F)(hG:Q3 G)(hD:pl F+pl G<=13){p q:Rat}(hpq:p < q)(hp:ab p<=2^400 - 1)(hq:ab q<=2^400 - 1)(h1:rc (Av F) p q=1)(h0:rc (Av (Bl F G)) p q=0) :
  ∃ K,K<=1000001000/\rc (Av G) (Cw (rc (Av F)) p q K).1 (Cw (rc (Av F)) p q K).2=0/\∀ j,j < K->rc (Av G) (Cw (rc (Av F)) p q j).1 (Cw (rc (Av F)) p q j).2≠0:=by
 have hx:∃ K,K<=1000001000/\rc (Av G) (Cw (rc (Av F)) p q K).1 (Cw (rc (Av F)) p q K).2=0:=by
  obtain⟨M,hM⟩:∃ M,M=1000001000:=⟨_,rfl⟩
  refine⟨M,Aa,?_⟩;have hn:=CJ (rc (Av F)) p q M;obtain⟨E,hE⟩:∃ E,E=1000000000:=⟨_,rfl⟩
  obtain⟨t1,t2,t3,t4⟩:=KI (E:=E) hpq hp hq hn Aa;rw[hE]at t4;have o:=Lt (Bd hF.z hF.f hF.n0) hpq h1 M;obtain⟨w1,w2,w3⟩:=hn.within hpq;have kC:=Dt hF.f hG.f hF.z hG.z;have sC:=Bd kC.2.1 kC.1 (FY hF.z hF.f hG.z hG.f hF.n0);have c1:=sC.sub w1 (Std.le_of_lt w2) w3;have c2:=sC.nonneg (Std.le_of_lt w2);exact hF.apart hG hD t1 t2 t3 t4 o Aa
 obtain⟨K,hK,e⟩:=hx;induction K using Nat.strongRecOn with
 | _ K ih =>
  by_cases hj:∃ j,j < K/\rc (Av G) (Cw (rc (Av F)) p q j).1 (Cw (rc (Av F)) p q j).2=0
  ·obtain⟨j,h1,h2⟩:=hj
   exact ih j h1 Aa h2
  ·exact⟨K,hK,e,fun j hj' he=>hj ⟨j,hj',he⟩⟩
theorem JX.upd{base:Nat}{G:List Nat}{t:TypeId}{w w':World}{v:Value}{W:Nat->Rat}(h:JX base t w v W)(U:Ch G w w')(hG:∀ g∈G,g < base):JX base t w' v W:=by
 obtain⟨c,us,K,h1,h2,h3,h4⟩:=h;refine⟨c,us,K,h1,h2,h3,?_⟩;have hb:=BF.blk_ge h4.out;have hne:∀ g'∈blk c,g'∉G:=fun g' hg' hm=>by
  have:=hb g' hg';have:=hG g' hm;omega
 refine⟨BF.upd h4.out U hne fun _ _ q=>q,h4.len,fun g' hg' i c hc=>?_,fun i a b=>(h4.el i a b).upd U hG⟩;obtain⟨o,ho⟩:∃ o,w.heap[g']? = some o:=⟨_,Array.getElem?_eq_getElem (hb g' hg').2⟩
 have hk:=U.1 g' o (hne g' hg') ho;rw[World.cell?_of_block (hk.trans ho.symm)]at hc;exact h4.nb g' hg' i c hc
def Lb(w:World)(g:Nat)(t:TypeId)(p q:Rat):Prop:=∃ b1 A1 n1 c1 b2 A2 n2 c2 b3 A3 n3 c3 b4 A4 n4 c4,AX w g t #[.bool b1,.slice A1 n1 c1,.bool b2,.slice A2 n2 c2,.bool b3,.slice A3 n3 c3,.bool b4,.slice A4 n4 c4]/\BI w (.agg #[.bool b1,.slice A1 n1 c1,.bool b2,.slice A2 n2 c2]) p/\BI w (.agg #[.bool b3,.slice A3 n3 c3,.bool b4,.slice A4 n4 c4]) q
theorem P6{R:Rat->Rat->Int}{p q:Rat}{t:Nat}(hp:qsz p<=t)(hq:qsz q<=t)(k:Nat):qsz (Cw R p q k).1<=3*t+k+4/\qsz (Cw R p q k).2<=3*t+k+4/\qsz (((Cw R p q k).1+(Cw R p q k).2) / 2)<=3*t+k+5:=by
 have h:=(CJ R p q k).qsz hp hq;have h2:=(CJ R p q k).half.1.qsz hp hq;exact⟨h.1,h.2,Aa⟩
theorem J2.one{w:World}{cs:Array Value}{p q:Rat}(h:J2 w (.agg cs) p q):∃ b1 A1 n1 c1 b2 A2 n2 c2 b3 A3 n3 c3 b4 A4 n4 c4,cs=#[.bool b1,.slice A1 n1 c1,.bool b2,.slice A2 n2 c2,.bool b3,.slice A3 n3 c3,.bool b4,.slice A4 n4 c4]:=by
 obtain⟨b1,A1,n1,c1,b2,A2,n2,c2,b3,A3,n3,c3,b4,A4,n4,c4,h1⟩:=h.cells;injection h1 with h1;exact⟨_,_,_,_,_,_,_,_,_,_,_,_,_,_,_,_,h1⟩
theorem Df.at_{base n c:Nat}{e:TypeId}{w:World}{A:Option Addr}{l:List (Rat×Rat)}(h:Df base e w (.slice A n c) l){j:Nat}(hj:j < l.length) :
  ∃ g o b1 A1 n1 c1 b2 A2 n2 c2 b3 A3 n3 c3 b4 A4 n4 c4,A=some ⟨g,o,none⟩/\w.cell? ⟨g,o+j*8,none⟩=some (.bool b1)/\w.cell? ⟨g,o+j*8+1,none⟩=some (.slice A1 n1 c1)/\w.cell? ⟨g,o+j*8+2,none⟩=some (.bool b2)/\w.cell? ⟨g,o+j*8+3,none⟩=some (.slice A2 n2 c2) /\
   w.cell? ⟨g,o+j*8+4,none⟩=some (.bool b3)/\w.cell? ⟨g,o+j*8+5,none⟩=some (.slice A3 n3 c3)/\w.cell? ⟨g,o+j*8+6,none⟩=some (.bool b4)/\w.cell? ⟨g,o+j*8+7,none⟩=some (.slice A4 n4 c4) /\
   J2 w (.agg #[.bool b1,.slice A1 n1 c1,.bool b2,.slice A2 n2 c2,.bool b3,.slice A3 n3 c3,.bool b4,.slice A4 n4 c4]) l[j].1 l[j].2:=by
 obtain⟨A',c',e1,-,-,hA⟩:=BF.row h;have eA:A'=A:=by injection e1 with h1;exact h1.symm
 subst eA;obtain⟨g,o,ha,hb,hc⟩:=hA Aa;obtain⟨cs,q1,q2,q3⟩:=hc j hj;obtain⟨b1,A1,n1,c1,b2,A2,n2,c2,b3,A3,n3,c3,b4,A4,n4,c4,rfl⟩:=J2.one q3;refine⟨g,o,b1,A1,n1,c1,b2,A2,n2,c2,b3,A3,n3,c3,b4,A4,n4,c4,ha,?_,?_,?_,?_,?_,?_,?_,?_,q3⟩
 ·exact q2 0 Ab
 ·exact q2 1 Ab
 ·exact q2 2 Ab
 ·exact q2 3 Ab
 ·exact q2 4 Ab
 ·exact q2 5 Ab
 ·exact q2 6 Ab
 ·exact q2 7 Ab
def N9(w:World)(g:Nat)(vs:List (Value×List Int)):Prop:=∀ j (h:j < vs.length),w.cell? ⟨g,j,none⟩=some vs[j].1/\F9 0 w vs[j].1 vs[j].2
theorem N9.ext{w w':World}{g:Nat}{vs:List (Value×List Int)}(h:N9 w g vs)(e:Ext w w'):N9 w' g vs:=fun j hj=>⟨e.cell (h j hj).1,(h j hj).2.ext e⟩
def OD(m:List Int):Prop:=m.length<=12/\pl (cz m)<=7/\∀ i,(cz m i).num.natAbs<=4095
def ZG(vs:List (Value×List Int))(r:Value):Prop:=∃ b:Bool,r = .bool b/\(b=true->∀ p∈vs,OD p.2)
theorem OD.lite{m:List Int}(h:OD m)(h0:cz m≠pz):Cj (cz m):=⟨ZI.cz m,Ae.cz m,h0,h.2.1,h.2.2⟩
theorem RS(w:World)(t:TypeId){v u:Value}{l m:List Int}(h1:F9 0 w v l)(h2:F9 0 w u m){g:Nat}(hg:g=w.heap.size):N9 (w.alloc (.cells #[v,u] t)) g [(v,l),(u,m)]:=by
 subst hg;intro j hj;have hj2:j < 2:=by simpa using hj
 match j,hj2 with
 | 0,_=>exact⟨by rw[cell_of_row _ w.heap.size 0 _ t (0,0) (heap_alloc_new w _)];rfl,h1.ext ((Ext.refl w).alloc _)⟩
 | 1,_=>exact⟨by rw[cell_of_row _ w.heap.size 1 _ t (0,0) (heap_alloc_new w _)];rfl,h2.ext ((Ext.refl w).alloc _)⟩
def MO(l:List Jy):Prop:=l.length<=1048576/\∀ x∈l,x.2.length<=1048576
theorem Cj.chnF{F:Nat->Rat}(h:Cj F):GR F 1 (pl F+pl (pd F)) 16384:=by
 have h3:=LD h.f;have h4:=AO h.f h.n0;have hD:pl F+pl (pd F)<=13:=by have:=h.p;omega
 have hp:2^(pl F+pl (pd F))<=2^13:=Nat.pow_le_pow_right Ab hD;have hm:(pl F+pl (pd F)+1)*(16384+1)<=14*16385:=Nat.mul_le_mul_right _ Aa;exact GR.of2 h.z h.f h.q (fun i=>CS (En h.z) Ab (Nat.lt_of_le_of_lt (Mx h.z h.f (n:=6) (by have:=h.p;omega) h.b i) Ab)) rfl Aa Aa Aa
theorem Cj.k{F:Nat->Rat}(h:Cj F):Nq F (pd F) (kn F)/\kn F<=8:=by
 obtain⟨K,q1,q2⟩:=Gi h.f (BS h.f) h.z (En h.z) h.chnF.s h.chnF.d;rw[q1.kn];have h3:=LD h.f;have:=h.p;exact⟨q1,Aa⟩
theorem rc_all{F:Nat->Rat}(z:ZI F)(f:Ae F)(h0:F≠pz){p q:Rat}(hpq:p<=q):rc (Av F) p q<=rc (Av F) (-(2:Rat)^bx F) ((2:Rat)^bx F):=by
 obtain⟨Q,fQ,e⟩:=Ew z f h0;have hb:=(dA F).1;have hld:=CX f h0;have hpos:=Rq.2 hld;have hc:∀ i,i < pl F - 1->ab (F i)<=ab (ld F)*((2:Rat)^bx F - 1):=fun i hi=>by
  have h1:=Vs F hi;have e1:F i=ld F*(F i / ld F):=by grind
  have e2:ab (F i)=ab (ld F)*ab (F i / ld F):=by rw[<-C8,<-e1]
  rw[e2];exact Rat.mul_le_mul_of_nonneg_left Af (Ai _)
 have h1:(1:Rat)<=(2:Rat)^bx F:=by have:=Fy F (pl F - 1);grind
 have:=(Bd z f h0).st.total f h0 fQ e h1 hc hpq;unfold rc rt;omega
theorem Cj.rc_all{F:Nat->Rat}(h:Cj F){p q:Rat}(hpq:p<=q):rc (Av F) p q<=rc (Av F) (-(2:Rat)^bx F) ((2:Rat)^bx F):=Hp.rc_all h.z h.f h.n0 hpq
theorem Cj.rc_bd{F:Nat->Rat}(h:Cj F)(p q:Rat):rc (Av F) p q<=1000:=by
 have hk:=(Bd h.z h.f h.n0).st.k;have hC:=h.chn.1;have hC2:=h.chn.2;rw[<-GG hk];unfold rts;have h3:=Yt (FO (Av F) (pd (Av F)) (kn (Av F))) p;rw[Ee]at h3;obtain⟨K0,q1,q2⟩:=Gi hC.f (BS hC.f) hC.z (En hC.z) hC.s hC.d;rw[q1.uniq hk]at q2;omega
theorem Br.inj{w:World}{v:Value}{x y:Int}(h:Br w v x)(k:Br w v y):x=y:=by
 obtain⟨n,ds,⟨s,rfl,hd⟩,rfl,-⟩:=h;obtain⟨m,es,⟨t,e,he⟩,rfl,-⟩:=k;cases e;rw[hd.uniq he]
theorem BI.inj{w:World}{v:Value}{p q:Rat}(h:BI w v p)(k:BI w v q):p=q:=by
 obtain⟨b,A,n,c,b',A',n',c',x,y,rfl,h1,h2,-,-,rfl⟩:=h;obtain⟨d,B,m,e,d',B',m',e',x',y',k0,k1,k2,-,-,rfl⟩:=k;cases k0;rw[h1.inj k1,h2.inj k2]
theorem Lb.inj{w:World}{g:Nat}{t:TypeId}{p q p' q':Rat}(h:Lb w g t p q)(k:Lb w g t p' q'):p=p'/\q=q':=by
 obtain⟨b1,A1,n1,c1,b2,A2,n2,c2,b3,A3,n3,c3,b4,A4,n4,c4,h1,h2,h3⟩:=h;obtain⟨d1,B1,m1,e1,d2,B2,m2,e2,d3,B3,m3,e3,d4,B4,m4,e4,k1,k2,k3⟩:=k;have e:=h1.1.symm.trans k1.1;cases e;exact⟨h2.inj k2,h3.inj k3⟩
theorem Yh{R:Rat->Rat->Int}{p q:Rat}(hpq:p < q){j k:Nat}(h1:(Cw R p q j).1=(Cw R p q k).1)(h2:(Cw R p q j).2=(Cw R p q k).2):j=k:=by
 have a:=(CJ R p q j).width;have b:=(CJ R p q k).width;have c:=((CJ R p q k).within hpq).2.1;rw[h1,h2]at a;have e:(2:Rat)^j=2^k:=by
  have hne:(Cw R p q k).2 - (Cw R p q k).1≠0:=by grind
  have:((Cw R p q k).2 - (Cw R p q k).1)*(2^j - 2^k)=0:=by grind
  rcases Rat.mul_eq_zero.1 this with z | z
  ·exact absurd z hne
  ·grind
 have key:∀ {m n:Nat},m < n->(2:Rat)^m≠2^n:=fun {m n} h e=>by
  have h1:=JH (show m+1<=n from h);rw[Rat.pow_succ]at h1;have:=Bn m;grind
 rcases Nat.lt_trichotomy j k with z | z | z
 ·exact absurd e (key z)
 ·exact z
 ·exact absurd e.symm (key z)
noncomputable def aO(w:World)(g:Nat)(t:TypeId)(R:Rat->Rat->Int)(p q:Rat):Nat:=open Classical in if h:∃ k,Lb w g t (Cw R p q k).1 (Cw R p q k).2 then Classical.choose h else 0
theorem Ty{w:World}{g:Nat}{t:TypeId}{R:Rat->Rat->Int}{p q:Rat}(hpq:p < q){k:Nat}(h:Lb w g t (Cw R p q k).1 (Cw R p q k).2):aO w g t R p q=k:=by
 have hx:∃ k,Lb w g t (Cw R p q k).1 (Cw R p q k).2:=⟨k,h⟩
 unfold aO;rw[dif_pos hx];have:=(Classical.choose_spec hx).inj h;exact Yh hpq this.1 this.2
def KV(F G:Nat->Rat)(p q:Rat)(s:Int):Prop:=(G=pz/\s=0)\/(G≠pz/\rc (Av (Bl F G)) p q=1/\s=0) \/
 (G≠pz/\rc (Av (Bl F G)) p q≠1/\∃ K,rc (Av G) (Cw (rc (Av F)) p q K).1 (Cw (rc (Av F)) p q K).2=0/\(∀ j,j < K->rc (Av G) (Cw (rc (Av F)) p q j).1 (Cw (rc (Av F)) p q j).2≠0)/\s=FW (ev G (Cw (rc (Av F)) p q K).2))
theorem KV.uniq{F G:Nat->Rat}{p q:Rat}{s s':Int}(h:KV F G p q s)(k:KV F G p q s'):s=s':=by
 rcases h with⟨a,b⟩ | ⟨a,b,c⟩ | ⟨a,b,K,c,d,e⟩<;>rcases k with⟨a',b'⟩ | ⟨a',b',c'⟩ | ⟨a',b',K',c',d',e'⟩
 ·rw[b,b']
 ·exact absurd a a'
 ·exact absurd a a'
 ·exact absurd a' a
 ·rw[c,c']
 ·exact absurd b b'
 ·exact absurd a' a
 ·exact absurd b' b
 ·rcases Nat.lt_trichotomy K K' with z | z | z
  ·exact absurd c (d' K z)
  ·subst z;rw[e,e']
  ·exact absurd c' (d K' z)
def Rm(F:Nat->Rat):Prop:=∃ D M,Pg F D M/\D<=20
def LC(x y:Rat):Rat:=if x < y then y else x
def N8(x y:Rat):Rat:=if y < x then y else x
def Stp(C:Nat->Rat)(a b:Rat×Rat)(s:Int):Prop:=(a.2<=b.1/\s = -1)\/(¬ a.2<=b.1/\b.2<=a.1/\s=1)\/(¬ a.2<=b.1/\¬ b.2<=a.1/\rc (Av C) (LC a.1 b.1) (N8 a.2 b.2)=1/\s=0)
def DF(F G:Nat->Rat)(p q p' q':Rat)(s:Int):Prop:=∃ K,Stp (Bl F G) (Cw (rc (Av F)) p q K) (Cw (rc (Av G)) p' q' K) s/\∀ j,j < K->∀ s',¬ Stp (Bl F G) (Cw (rc (Av F)) p q j) (Cw (rc (Av G)) p' q' j) s'
def eZ(F G:Nat->Rat)(p q p' q':Rat)(r:Value):Prop:=∃ s E,r = .tuple #[.int .i64 s,.int .i64 E]/\(E≠0->s=0)/\(E=0->DF F G p q p' q' s) /\
 E=if Ca F≠0 then Ca F else if ¬ (p < q/\rc (Av F) p q=1)then 12 else if Ca G≠0 then Ca G else if p' < q'/\rc (Av G) p' q'=1 then 0 else 12
structure bD(w:World)(v:Value)(P:Rat×Rat):Prop where
 out:KU w v P.1 P.2
theorem bD.ext{w w':World}{v:Value}{P:Rat×Rat}(h:bD w v P)(e:Ext w w'):bD w' v P:=⟨h.out.ext e⟩
def dK(w:World)(g:Nat)(t:TypeId)(q:Rat):Prop:=∃ b A n c b' A' n' c',AX w g t #[.bool b,.slice A n c,.bool b',.slice A' n' c']/\BI w (.agg #[.bool b,.slice A n c,.bool b',.slice A' n' c']) q
theorem Gx{p q:Rat}:FW (p - q)<=0↔p<=q:=by
 have h:=EG (p:=p) (q:=q);by_cases hq:q < p
 ·rw[decide_eq_true hq]at h
  have:=of_decide_eq_true h;exact⟨fun _=>Aa,fun _=>Af⟩
 ·rw[decide_eq_false hq]at h
  have:=of_decide_eq_false h;exact⟨fun _=>Af,fun _=>Aa⟩
theorem LU{p q:Rat}:FW (p - q) > 0↔q < p:=by
 have h:=EG (p:=p) (q:=q);exact⟨fun h1=>of_decide_eq_true (h▸decide_eq_true h1),fun h1=>of_decide_eq_true (h▸decide_eq_true h1)⟩
theorem LP{p q:Rat}:FW (p - q) < 0↔p < q:=by
 have h:=KM (p:=p) (q:=q);exact⟨fun h1=>of_decide_eq_true (h▸decide_eq_true h1),fun h1=>of_decide_eq_true (h▸decide_eq_true h1)⟩
def B7:Nat:=7*(4095*7*15^7*15^7)
theorem Cj.div{F E:Nat->Rat}(h:Cj F)(hE:Bj E)(hd:Dv E F)(i:Nat):(E i).num.natAbs<=B7:=by
 have hP:=Bj.pp h.z h.f h.n0;have hpl:=Et h.z h.f;have h1:=O6 hP.z hP.f hP.n hE.z hE.f (hP.zdv hE ((DW h.z h.f).2 hd)) (n:=7) (by rw[hpl];exact h.p) (Pb hP.z (PG h.z h.f h.n0 h.b));refine OU hE.z (fun i=>?_) i;refine Std.le_trans (h1 i) ?_;have e:(1:Rat)+2*((7:Nat):Rat)=((15:Nat):Rat):=by exact_mod_cast(rfl:1+2*7=15)
 rw[e,G5];have:((7:Nat):Rat)*(((4095:Nat):Rat)*((7:Nat):Rat)*((15^7:Nat):Rat)*((15^7:Nat):Rat))=((7*(4095*7*15^7*15^7):Nat):Rat):=MR 7 4095 7 _;rw[this];exact Std.le_refl _
structure Mid(F:Nat->Rat):Prop where
 z:ZI F
 f:Ae F
 n0:F≠pz
 p:pl F<=7
 c:cn F<=4095
 d:∀ E,Bj E->Dv E F->∀ i,(E i).num.natAbs<=B7
theorem Cj.cnt{F:Nat->Rat}(h:Cj F):cn F<=4095:=by
 have hp:=AO h.f h.n0;have ht:=Ey h.f hp;have hd:=Ij h.f (pl F - 1);have hn:(F (pl F - 1)).num≠0:=fun e=>ht (by rw[h.z.num,e];rfl);have h1:Hp.cn F<=(F (pl F - 1)).num.natAbs:=Nat.le_of_dvd Aa (by have:=Int.natAbs_dvd_natAbs.2 hd;simpa using this);exact Nat.le_trans h1 (h.b _)
theorem Cj.mid{F:Nat->Rat}(h:Cj F):Mid F:=⟨h.z,h.f,h.n0,h.p,h.cnt,fun _ a b=>h.div a b⟩
theorem Lj{F G:Nat->Rat}(zF:ZI F)(fF:Ae F)(zG:ZI G)(fG:Ae G):Dv (Bl F G) F:=(FK _).trans (Dt fF fG zF zG).2.2.2.2.2.2.1
theorem Mid.gcd{F G:Nat->Rat}(h:Mid F)(zG:ZI G)(fG:Ae G):Mid (Bl F G):=by
 have k:=Dt h.f fG h.z zG;have hd:=Lj h.z h.f zG fG;refine⟨k.2.1,k.1,FY h.z h.f zG fG h.n0,Nat.le_trans (Dv.le k.1 h.f h.n0 hd) h.p,?_,fun E a b=>h.d E a (b.trans hd)⟩;rw[k.2.2.2.1];exact Nat.le_trans (Nat.le_of_dvd (Nat.pos_of_ne_zero (J4 h.z h.f h.n0)) (Nat.gcd_dvd_left _ _)) h.c
theorem Mid.ppn{F:Nat->Rat}(h:Mid F)(i:Nat):(pp F i).num.natAbs<=B7:=h.d _ (Bj.pp h.z h.f h.n0) ((DW h.z h.f).1 (Dv.refl _)) i
theorem Mid.coef{F:Nat->Rat}(h:Mid F)(i:Nat):(F i).num.natAbs<=4095*B7:=by
 have e:(F i).num=pcn F*(pp F i).num:=by
  have h1:=Mi h.z h.f h.n0 i;have h2:(pp F i).num=(F i).num / pcn F:=by rw[h1];rfl
  rw[h2,Int.mul_ediv_cancel' (IQ h.f i)]
 rw[e,Int.natAbs_mul,EY];exact Nat.mul_le_mul h.c (h.ppn i)
theorem Mid.q{F:Nat->Rat}(h:Mid F)(i:Nat):qsz (F i)<=3:=CS h.z Ab (Nat.lt_of_le_of_lt (h.coef i) (by decide +kernel))
theorem Mid.sqn{F:Nat->Rat}(h:Mid F)(i:Nat):(Av F i).num.natAbs<=B7:=h.d _ (Bd h.z h.f h.n0).p (Ew h.z h.f h.n0) i
theorem Mid.chn{F:Nat->Rat}(h:Mid F):GR (Av F) 3 (pl (Av F)+pl (pd (Av F))) 32768/\pl (Av F)+pl (pd (Av F))<=13:=by
 have h1:=h.sqn;have h2:=Nat.le_trans (ZT h.z h.f h.n0) h.p;have hS:=Bd h.z h.f h.n0;have h3:=LD hS.p.f;have h4:=AO hS.p.f hS.p.n;have hD:pl (Av F)+pl (pd (Av F))<=13:=by omega
 have hp:2^(pl (Av F)+pl (pd (Av F)))<=2^13:=Nat.pow_le_pow_right Ab hD;have hm:(pl (Av F)+pl (pd (Av F))+1)*(32768+1)<=14*32769:=Nat.mul_le_mul_right _ Aa;refine⟨GR.of2 hS.p.z hS.p.f (fun i=>CS hS.p.z Ab (Nat.lt_of_le_of_lt (h1 i) (by decide +kernel))) (fun i=>CS (En hS.p.z) Ab (Nat.lt_of_le_of_lt (Mx hS.p.z hS.p.f (n:=6) Aa h1 i) (by decide +kernel))) rfl Aa Aa Aa,hD⟩
theorem Mid.sim{F:Nat->Rat}(h:Mid F):Si F 3 7 32768 36000:=by
 have hP:=Bj.pp h.z h.f h.n0;have hpl:=Et h.z h.f;have hpn:=h.ppn;exact⟨h.z,h.f,h.n0,h.q,fun i=>CS (En hP.z) Ab (Nat.lt_of_le_of_lt (Mx hP.z hP.f (n:=6) (by rw[hpl];exact h.p) hpn i) (by decide +kernel)),
  fun i=>TV hP (n:=7) (s:=3) (by rw[hpl];exact h.p) Ab (fun i=>CS hP.z Ab (Nat.lt_of_le_of_lt (hpn i) (by decide +kernel))) Ab i,h.p,Ab,Ab,Ab,Ab⟩
theorem Mid.err{F:Nat->Rat}(h:Mid F):Ca F=0:=by
 refine Lp h.n0 (by have:=h.p;omega) fun⟨i,b,h1,h2⟩=>?_;have:=h1.le (m:=96) (Nat.lt_of_le_of_lt (h.coef i) (by decide +kernel));omega
theorem Mid.pg{F:Nat->Rat}(h:Mid F):Pg F (pl (Av F)+pl (pd (Av F))) 32768:=
 ⟨h.z,h.f,h.n0,h.err,fun i=>Nat.le_trans (h.q i) Ab,by have:=h.p;omega,⟨3,7,32768,36000,h.sim⟩,⟨3,h.chn.1⟩⟩
theorem Mid.rm{F:Nat->Rat}(h:Mid F):Rm F:=⟨_,_,h.pg,by have:=h.chn.2;omega⟩
theorem Mid.nice{F:Nat->Rat}(h:Mid F):Q3 F:=⟨h.z,h.f,h.n0,fun E hE hd i=>CS hE.p.z Ab (Nat.lt_of_le_of_lt (h.d E hE.p hd i) (by decide +kernel))⟩
theorem KC{F G:Nat->Rat}(hF:Mid F)(zG:ZI G)(fG:Ae G){p q:Rat}(hpq:p<=q):0<=rc (Av (Bl F G)) p q/\rc (Av (Bl F G)) p q<=rc (Av F) p q:=by
 have hC:=hF.gcd zG fG;have sC:=Bd hC.z hC.f hC.n0;have sF:=Bd hF.z hF.f hF.n0;exact⟨sC.nonneg hpq,sF.rc_le sC.p (FR hF.z hF.f hF.n0 sC ((Ew hC.z hC.f hC.n0).trans (Lj hF.z hF.f zG fG))) hpq⟩
section
variable{P:Program}
end
theorem Cj.iso{F:Nat->Rat}(h:Cj F){N:Nat}(hN:700000000<=N)(hN9:N<=700000001):(iso (rc (Av F)) N (-(2:Rat)^bx F) ((2:Rat)^bx F)).length<=1000 /\
  ∀ x∈iso (rc (Av F)) N (-(2:Rat)^bx F) ((2:Rat)^bx F),rc (Av F) x.1 x.2=1/\x.1 < x.2/\qsz x.1<=700400000/\qsz x.2<=700400000/\ab x.1<=2^400 - 1/\ab x.2<=2^400 - 1:=by
 have hbx:=R4 h.q;have hqj:=OH (bx F);have hpos:=Bn (bx F);have hPQ : -(2:Rat)^bx F < (2:Rat)^bx F:=by grind
 have hsf:=Bd h.z h.f h.n0;have hn:=Kw hsf hPQ (fun d p q hn hd=>h.deep d p q hn Aa) N 0 _ _ (Hp.Node.root _ _) Aa;have hb:=h.rc_bd (-(2:Rat)^bx F) (2^bx F);refine⟨by have:=hn.2.1;omega,fun x hx=>?_⟩;obtain⟨a,⟨d,_,hd,hn'⟩,b1,b2⟩:=hn.1 x hx;obtain⟨s1,s2⟩:=hn'.qsz (a:=100000) Aa Aa;have hlt:=(hn'.within hPQ).2.1;obtain⟨E,hE⟩:∃ E,E=400:=⟨_,rfl⟩
 have hB:=XL (b:=E) (bx F) Aa;rw[hE]at hB;exact⟨a,hlt,Aa,Aa,EJ.2 ⟨Af,Af⟩,EJ.2 ⟨Af,Af⟩⟩
theorem Xw{p q:Rat}(hpq:p < q):∀(n:Nat) {P:Nat->Rat},Bj P->pl P<=n->rc (y0 P) p q=0->∀ x y,p < x->x<=y->y<=q->ev P x≠0/\Bo (ev P y)=Bo (ev P x):=by
 intro n;induction n with
 | zero=>intro P hP hn;have:=hP.pos;omega
 | succ n ih =>
  intro P hP hn h0 x y hx hxy hy;obtain⟨hC,hW,e,-,-⟩:=Ep hP;obtain⟨N,hN⟩:=SQ hP;have sW:=Vw hP;obtain⟨a1,a2⟩:=sW.free h0 hx hxy hy;by_cases h1:pl (yc P)<=1
  ·have e1:=hC.one h1
   have e2:P=y0 P:=by
    conv=>lhs;rw[e,e1,AV,CG]
   rw[e2];exact⟨a1,a2⟩
  ·have hl:pl (yc P)<=n:=by
    have h2:=Fe hW.f hC.f hW.n hC.n;rw[<-e]at h2;have h3:1 < pl (y0 P):=by
     rcases Nat.lt_or_ge 1 (pl (y0 P))with z | z
     ·exact z
     ·exfalso
      rw[hW.one z,Yk]at hN;have h4:=Dv.le hC.f CZ (fun e=>by have:=I6.pos;rw[e,BZ]at this;omega) hN;have h5:pl pone<=1:=BK Dy;omega
    omega
   have sE:=Vw hC;obtain⟨gC,gW,eC,-,-⟩:=Ep hC;have d1:Dv (y0 (yc P)) P:=by
    refine Dv.trans (E:=yc P) ⟨yc (yc P),gC.f,?_⟩ ⟨y0 P,hW.f,e⟩
    conv=>lhs;rw[eC,AV]
   have d2:=Rw sE hP d1;have r1:=sW.rc_le sE.p d2 (Std.le_of_lt hpq);have r2:=sE.nonneg (Std.le_of_lt hpq);obtain⟨b1,b2⟩:=ih hC hl Aa x y hx hxy hy;have ee:∀ z,ev P z=ev (y0 P) z*ev (yc P) z:=fun z=>by
    conv=>lhs;rw[e]
    exact ET hW.f hC.f z
   rw[ee,ee];refine⟨fun h=>?_,?_⟩
   ·rcases Rat.mul_eq_zero.1 h with z | z
    ·exact a1 z
    ·exact b1 z
   ·rw[F6,F6,a2,b2]
theorem VB{F:Nat->Rat}(z:ZI F)(f:Ae F)(n0:F≠pz){p q:Rat}(hpq:p < q)(h0:rc (Av F) p q=0){x y:Rat}(hx:p < x)(hxy:x<=y)(hy:y<=q):ev F x≠0/\FW (ev F y)=FW (ev F x):=by
 have hP:=Bj.pp z f n0;obtain⟨a1,a2⟩:=Xw hpq _ hP (Nat.le_refl _) h0 x y hx hxy hy;have hn:(1:Rat) / (pcn F:Rat)≠0:=Kl (by have:=Ei z f n0;exact_mod_cast this);have e:∀ t,ev (pp F) t=(1:Rat) / (pcn F:Rat)*ev F t:=fun t=>Fw _ f t;rw[e]at a1;rw[e,e,F6,F6]at a2;rw[F8,F8];exact⟨fun h=>a1 (by rw[h,Rat.mul_zero]),Int.eq_of_mul_eq_mul_left (MH hn) a2⟩
theorem Zo{F G:Nat->Rat}(f:Ae F)(g:Ae G)(n:F≠pz)(m:G≠pz):cv F G≠pz:=fun e=>by
 have h:=Fe f g n m;have h1:=AO f n;have h2:=AO g m;rw[e,BZ]at h;omega
theorem XX{G H:Nat->Rat}(zG:ZI G)(fG:Ae G)(nG:G≠pz)(zH:ZI H)(fH:Ae H)(nH:H≠pz){p q:Rat}(hpq:p<=q)(h1:rc (Av G) p q=0)(h2:rc (Av H) p q=0):rc (Av (cv G H)) p q=0:=by
 have zP:=zG.cv zH;have fP:=fG.cv fH;have nP:=Zo fG fH nG nH;have sW:=Bd zP fP nP;have sX:=Bd zG fG nG;have sH:=Bd zH fH nH;obtain⟨U,V,sC,sU,sV,eW,eX,cCU,-,-,cUX,-⟩:=sW.meet sX;have hP:=Bj.pp zG fG nG;obtain⟨hC,hW,e,-,-⟩:=Ep hP;obtain⟨N,Q,fQ,eQ⟩:=SQ hP;have dG:Dv G (pw (Av G) (N+1)):=by
  refine Dv.trans ((DW zG fG).2 (Dv.refl G)) ⟨Q,fQ,?_⟩;show cv (pw (y0 (pp G)) N) (y0 (pp G))=cv Q (pp G);rw[eQ,Ak];congr 1;rw[AV,<-e]
 have dU:Dv U (cv G H):=Dv.trans ⟨Bl (Av (cv G H)) (Av G),sC.p.f,eW⟩ (Ew zP fP nP);have dU2:Dv U (cv (pw (Av G) (N+1)) H):=by
  obtain⟨R,fR,eR⟩:=dG;refine dU.trans ⟨R,fR,?_⟩;rw[eR,Ak]
 have fpw:=OO sX.p.f (N+1);have cU:=D7.pw sU.p.f sX.p.f cUX (N+1);have dUH:=cU.euclid fH dU2;have hr:=SF.mul sC sU (by rw[<-eW];exact sW) cCU hpq;rw[<-eW]at hr;have r1:=sX.rc_le sC.p ⟨V,sV.p.f,by rw[AV];exact eX⟩ hpq;have r2:=sH.rc_le sU.p (FR zH fH nH sU dUH) hpq;have r3:=sC.nonneg hpq;have r4:=sU.nonneg hpq;omega
theorem TF(R:Rat->Rat->Int)(p q:Rat)(k:Nat):∀ d,Cw R p q (k+d)=Cw R (Cw R p q k).1 (Cw R p q k).2 d
 | 0=>rfl
 | d+1=>by
  show hfp R (Cw R p q (k+d))=hfp R (Cw R (Cw R p q k).1 (Cw R p q k).2 d);rw[TF R p q k d]
theorem OY{R:Rat->Rat->Int}{p q:Rat}(hpq:p < q){k n:Nat}(h:k<=n):(Cw R p q k).1<=(Cw R p q n).1/\(Cw R p q n).1 < (Cw R p q n).2/\(Cw R p q n).2<=(Cw R p q k).2:=by
 obtain⟨d,rfl⟩:∃ d,n=k+d:=⟨n - k,Aa⟩
 rw[TF];exact(CJ R _ _ d).within ((CJ R p q k).within hpq).2.1
theorem LF{W C:Nat->Rat}(sW:SF W)(hc:∀ x y,x<=y->0<=rc C x y/\rc C x y<=rc W x y){p q:Rat}(hpq:p < q)(h1:rc W p q=1)(hC:rc C p q=1):∀ k,rc C (Cw (rc W) p q k).1 (Cw (rc W) p q k).2=1
 | 0=>hC
 | k+1=>by
  have ih:=LF sW hc hpq h1 hC k;have ho:=Lt sW hpq h1 k;have hw:=((CJ (rc W) p q k).within hpq).2.1;show rc C (hfp (rc W) (Cw (rc W) p q k)).1 (hfp (rc W) (Cw (rc W) p q k)).2=1;obtain⟨c,hce⟩:∃ c,c=Cw (rc W) p q k:=⟨_,rfl⟩
  rw[<-hce]at ih ho hw ⊢;have a1:=AY C c.1 ((c.1+c.2) / 2) c.2;have a2:=AY W c.1 ((c.1+c.2) / 2) c.2;have b1:=hc c.1 ((c.1+c.2) / 2) Af;have b2:=hc ((c.1+c.2) / 2) c.2 Af;unfold hfp
  split
  ·show rc C c.1 ((c.1+c.2) / 2)=1
   omega
  ·show rc C ((c.1+c.2) / 2) c.2=1
   omega
theorem Ti{F G H:Nat->Rat}(zF:ZI F)(fF:Ae F)(nF:F≠pz)(zG:ZI G)(fG:Ae G)(zH:ZI H)(fH:Ae H)(hd:Dv G H){p q:Rat}(hpq:p<=q):rc (Av (Bl F G)) p q<=rc (Av (Bl F H)) p q:=by
 have k1:=Dt fF fG zF zG;have k2:=Dt fF fH zF zH;have n1:=FY zF fF zG fG nF;have n2:=FY zF fF zH fH nF;have s1:=Bd k1.2.1 k1.1 n1;have s2:=Bd k2.2.1 k2.1 n2;refine s2.rc_le s1.p (FR k2.2.1 k2.1 n2 s1 ?_) hpq;have d0:=Ew k1.2.1 k1.1 n1;have d1:=d0.trans (Lj zF fF zG fG);have d2:=d0.trans ((FK _).trans k1.2.2.2.2.2.2.2.1) |>.trans hd
 exact(k2.2.2.2.2.2.2.2.2 _ s1.p.f d1 d2).trans (G6 k2.1)
theorem KV.mul{F G H:Nat->Rat}(hF:Mid F)(zG:ZI G)(fG:Ae G)(zH:ZI H)(fH:Ae H){p q:Rat}(hpq:p < q)(h1:rc (Av F) p q=1){s t u:Int}(hs:KV F G p q s)(ht:KV F H p q t)(hu:KV F (cv G H) p q u):u=s*t:=by
 have sF:=Bd hF.z hF.f hF.n0;have z0:∀ {u:Int},KV F pz p q u->u=0:=fun {u} h=>by
  rcases h with⟨_,b⟩ | ⟨a,_,_⟩ | ⟨a,_⟩
  ·exact b
  ·exact absurd rfl a
  ·exact absurd rfl a
 by_cases nG:G=pz
 ·subst nG
  rw[Cv]at hu;rw[z0 hs,z0 hu,Int.zero_mul]
 by_cases nH:H=pz
 ·subst nH
  rw[JD]at hu;rw[z0 ht,z0 hu,Int.mul_zero]
 have zP:=zG.cv zH;have fP:=fG.cv fH;have nP:=Zo fG fH nG nH;have dG:Dv G (cv G H):=⟨H,fH,AV G H⟩
 have dH:Dv H (cv G H):=⟨G,fG,rfl⟩
 have le:=Std.le_of_lt hpq;have gG:=KC hF zG fG le;have gH:=KC hF zH fH le;have gP:=KC hF zP fP le;rw[h1]at gG gH gP;have cG:=Ti hF.z hF.f hF.n0 zG fG zP fP dG le;have cH:=Ti hF.z hF.f hF.n0 zH fH zP fP dH le;rcases hu with⟨a,-⟩ | ⟨-,b,rfl⟩ | ⟨-,b,K,k1,-,rfl⟩
 ·exact absurd a nP
 ·rcases hs with⟨a,-⟩ | ⟨-,-,rfl⟩ | ⟨-,bG,K1,r1,-,rfl⟩
  ·exact absurd a nG
  ·rw[Int.zero_mul]
  rcases ht with⟨a,-⟩ | ⟨-,-,rfl⟩ | ⟨-,bH,K2,r2,-,rfl⟩
  ·exact absurd a nH
  ·rw[Int.mul_zero]
  exfalso;obtain⟨K,hK⟩:∃ K,K=max K1 K2:=⟨_,rfl⟩
  obtain⟨w1,w2,w3⟩:=OY (R:=rc (Av F)) hpq (show K1<=K by omega);obtain⟨v1,v2,v3⟩:=OY (R:=rc (Av F)) hpq (show K2<=K by omega);have sG:=Bd zG fG nG;have sH:=Bd zH fH nH;have e1:=sG.sub w1 (Std.le_of_lt w2) w3;have e2:=sH.sub v1 (Std.le_of_lt v2) v3;have e3:=sG.nonneg (Std.le_of_lt w2);have e4:=sH.nonneg (Std.le_of_lt w2);have e5:=XX zG fG nG zH fH nH (Std.le_of_lt w2) Aa Aa;have kC:=Dt hF.f fP hF.z zP
  have nC:=FY hF.z hF.f zP fP hF.n0;have sC:=Bd kC.2.1 kC.1 nC;have sP:=Bd zP fP nP;have e6:=LF sF (fun x y hxy=>KC hF zP fP hxy) hpq h1 b K;have e7:=sP.rc_le sC.p (FR zP fP nP sC ((Ew kC.2.1 kC.1 nC).trans ((FK _).trans kC.2.2.2.2.2.2.2.1))) (Std.le_of_lt w2);omega
 ·rcases hs with⟨a,-⟩ | ⟨-,bG,-⟩ | ⟨-,bG,K1,r1,-,rfl⟩
  ·exact absurd a nG
  ·omega
  rcases ht with⟨a,-⟩ | ⟨-,bH,-⟩ | ⟨-,bH,K2,r2,-,rfl⟩
  ·exact absurd a nH
  ·omega
  obtain⟨n,hn⟩:∃ n,n=max K (max K1 K2):=⟨_,rfl⟩
  have key:∀(E:Nat->Rat) (k:Nat),ZI E->Ae E->E≠pz->k<=n->rc (Av E) (Cw (rc (Av F)) p q k).1 (Cw (rc (Av F)) p q k).2=0->FW (ev E (Cw (rc (Av F)) p q k).2)=FW (ev E (Cw (rc (Av F)) p q n).2):=fun E k zE fE nE hk h0=>by
   obtain⟨w1,w2,w3⟩:=OY (R:=rc (Av F)) hpq hk;have w0:=((CJ (rc (Av F)) p q k).within hpq).2.1;exact(VB zE fE nE w0 h0 (x:=(Cw (rc (Av F)) p q n).2) Af w3 (Std.le_refl _)).2
  rw[key _ K zP fP nP Aa k1,key G K1 zG fG nG Aa r1,key H K2 zH fH nH Aa r2,ET fG fH,F8,F8,F8,F6]
theorem Mc{F G:Nat->Rat}(zF:ZI F)(fF:Ae F)(nF:F≠pz)(zG:ZI G)(fG:Ae G)(nG:G≠pz):Av (Bl F G)=Av (Bl G F):=by
 have key:∀ {F G:Nat->Rat},ZI F->Ae F->F≠pz->ZI G->Ae G->G≠pz->Dv (Av (Bl F G)) (Av (Bl G F)):=fun {F G} zF fF nF zG fG nG=>by
  have k1:=Dt fF fG zF zG;have k2:=Dt fG fF zG zF;have n1:=FY zF fF zG fG nF;have n2:=FY zG fG zF fF nG;have s1:=Bd k1.2.1 k1.1 n1;have d0:=Ew k1.2.1 k1.1 n1;have d1:=d0.trans (Lj zF fF zG fG);have d2:=d0.trans ((FK _).trans k1.2.2.2.2.2.2.2.1);exact FR k2.2.1 k2.1 n2 s1 ((k2.2.2.2.2.2.2.2.2 _ s1.p.f d2 d1).trans (G6 k2.1))
 have k1:=Dt fF fG zF zG;have k2:=Dt fG fF zG zF;exact(Bd k1.2.1 k1.1 (FY zF fF zG fG nF)).p.eq_dv (Bd k2.2.1 k2.1 (FY zG fG zF fF nG)).p (key zF fF nF zG fG nG) (key zG fG nG zF fF nF)
def Du(a:Rat×Rat)(x:Rat):Rat:=if x < a.1 then a.1 else if a.2 < x then a.2 else x
theorem GY{a:Rat×Rat}(h:a.1<=a.2)(x:Rat):a.1<=Du a x/\Du a x<=a.2:=by unfold Du;split<;>(try split)<;>grind
theorem Ji{a:Rat×Rat}(h:a.1<=a.2){x y:Rat}(hxy:x<=y):Du a x<=Du a y:=by unfold Du;split<;>split<;>(try split)<;>grind
noncomputable def Le(C:Nat->Rat)(a b:Rat×Rat):Int:=rc (Av C) (Du a b.1) (Du a b.2)
theorem Fq{C:Nat->Rat}{a b:Rat×Rat}(ha:a.1 < a.2)(hb:b.1 < b.2)(h:a.2<=b.1):Le C a b=0:=by
 have e1:Du a b.1=a.2:=by unfold Du;split<;>(try split)<;>grind
 have e2:Du a b.2=a.2:=by unfold Du;split<;>(try split)<;>grind
 unfold Le;rw[e1,e2,Gs]
theorem Eu{C:Nat->Rat}{a b:Rat×Rat}(ha:a.1 < a.2)(hb:b.1 < b.2)(h:b.2<=a.1):Le C a b=0:=by
 have e1:Du a b.1=a.1:=by unfold Du;split<;>(try split)<;>grind
 have e2:Du a b.2=a.1:=by unfold Du;split<;>(try split)<;>grind
 unfold Le;rw[e1,e2,Gs]
theorem IB{C:Nat->Rat}{a b:Rat×Rat}(ha:a.1 < a.2)(hb:b.1 < b.2)(h1:¬ a.2<=b.1)(h2:¬ b.2<=a.1):Le C a b=rc (Av C) (LC a.1 b.1) (N8 a.2 b.2):=by
 have e1:Du a b.1=LC a.1 b.1:=by unfold Du LC;split<;>(try split)<;>(try split)<;>grind
 have e2:Du a b.2=N8 a.2 b.2:=by unfold Du N8;split<;>(try split)<;>(try split)<;>grind
 unfold Le;rw[e1,e2]
theorem IC{C:Nat->Rat}{a b:Rat×Rat}(ha:a.1 < a.2)(hb:b.1 < b.2)(s:Int):Stp C a b s↔(a.2<=b.1/\s = -1)\/(b.2<=a.1/\s=1)\/(Le C a b=1/\s=0):=by
 constructor
 ·rintro(⟨h,e⟩ | ⟨-,h,e⟩ | ⟨h1,h2,h,e⟩)
  ·exact .inl ⟨h,e⟩
  ·exact .inr (.inl ⟨h,e⟩)
  ·exact .inr (.inr ⟨by rw[IB ha hb h1 h2];exact h,e⟩)
 ·rintro(⟨h,e⟩ | ⟨h,e⟩ | ⟨h,e⟩)
  ·exact .inl ⟨h,e⟩
  ·exact .inr (.inl ⟨Af,h,e⟩)
  ·have h1:¬ a.2<=b.1:=fun q=>by rw[Fq ha hb q]at h;omega
   have h2:¬ b.2<=a.1:=fun q=>by rw[Eu ha hb q]at h;omega
   exact .inr (.inr ⟨h1,h2,by rw[<-IB ha hb h1 h2];exact h,e⟩)
structure Pr(F G:Nat->Rat)(a b:Rat×Rat):Prop where
 hF:Mid F
 hG:Mid G
 a1:a.1 < a.2
 b1:b.1 < b.2
 ra:rc (Av F) a.1 a.2=1
 rb:rc (Av G) b.1 b.2=1
section
variable{F G:Nat->Rat}{a b:Rat×Rat}
theorem Mid.both(hF:Mid F)(hG:Mid G){u v:Rat}(h:u<=v):0<=rc (Av (Bl F G)) u v/\rc (Av (Bl F G)) u v<=rc (Av F) u v/\rc (Av (Bl F G)) u v<=rc (Av G) u v:=by
 have h1:=KC hF hG.z hG.f h;have h2:=KC hG hF.z hF.f h;rw[Mc hG.z hG.f hG.n0 hF.z hF.f hF.n0]at h2;exact⟨h1.1,h1.2,h2.2⟩
theorem Pr.swap(h:Pr F G a b):Pr G F b a:=⟨h.hG,h.hF,h.b1,h.a1,h.rb,h.ra⟩
theorem Pr.both(h:Pr F G a b){u v:Rat}(huv:u<=v):0<=rc (Av (Bl F G)) u v/\rc (Av (Bl F G)) u v<=rc (Av F) u v/\rc (Av (Bl F G)) u v<=rc (Av G) u v:=h.hF.both h.hG huv
noncomputable def Cr(F:Nat->Rat)(a:Rat×Rat)(k:Nat):Rat×Rat:=Cw (rc (Av F)) a.1 a.2 k
theorem Pr.pin(h:Pr F G a b){k n:Nat}(hk:k<=n):(Cr F a k).1<=(Cr F a n).1/\(Cr F a n).1 < (Cr F a n).2/\(Cr F a n).2<=(Cr F a k).2:=OY h.a1 hk
theorem Pr.prc(h:Pr F G a b)(k:Nat):rc (Av F) (Cr F a k).1 (Cr F a k).2=1:=Lt (Bd h.hF.z h.hF.f h.hF.n0) h.a1 h.ra k
theorem Pr.at_(h:Pr F G a b)(k:Nat):Pr F G (Cr F a k) (Cr G b k):=⟨h.hF,h.hG,(h.pin (Nat.le_refl k)).2.1,(h.swap.pin (Nat.le_refl k)).2.1,h.prc k,h.swap.prc k⟩
theorem Ky(F:Nat->Rat)(a:Rat×Rat):Cr F a 0=a:=rfl
theorem Pr.ceq_le(h:Pr F G a b):0<=Le (Bl F G) a b/\Le (Bl F G) a b<=rc (Av (Bl F G)) a.1 a.2/\rc (Av (Bl F G)) a.1 a.2<=1:=by
 have hl:=Std.le_of_lt h.a1;have i1:=GY hl b.1;have i2:=GY hl b.2;have i3:=Ji hl (Std.le_of_lt h.b1);have c1:=(h.both i1.1).1;have c2:=(h.both i2.2).1;have c3:=(h.both i3).1;have c4:=(h.both hl).2.1;have e1:=AY (Av (Bl F G)) a.1 (Du a b.1) a.2;have e2:=AY (Av (Bl F G)) (Du a b.1) (Du a b.2) a.2;rw[h.ra]at c4;unfold Le;omega
theorem Pr.ceq_swap(h:Pr F G a b):Le (Bl G F) b a=Le (Bl F G) a b:=by
 by_cases h1:a.2<=b.1
 ·rw[Fq h.a1 h.b1 h1,Eu h.b1 h.a1 h1]
 by_cases h2:b.2<=a.1
 ·rw[Eu h.a1 h.b1 h2,Fq h.b1 h.a1 h2]
 rw[IB h.a1 h.b1 h1 h2,IB h.b1 h.a1 h2 h1,Mc h.hG.z h.hG.f h.hG.n0 h.hF.z h.hF.f h.hF.n0];have e1:LC b.1 a.1=LC a.1 b.1:=by unfold LC;split<;>split<;>grind
 have e2:N8 b.2 a.2=N8 a.2 b.2:=by unfold N8;split<;>split<;>grind
 rw[e1,e2]
theorem Pr.hull(h:Pr F G a b)(h1:Le (Bl F G) a b=1){x y u v:Rat}(hx:a.1<=x\/b.1<=x)(hxy:x<=y)(hyu:y<=u)(huv:u<=v)(hv:v<=a.2\/v<=b.2):rc (Av (Bl F G)) x y+rc (Av (Bl F G)) u v<=1:=by
 have n1:¬ a.2<=b.1:=fun q=>by rw[Fq h.a1 h.b1 q]at h1;omega
 have n2:¬ b.2<=a.1:=fun q=>by rw[Eu h.a1 h.b1 q]at h1;omega
 rw[IB h.a1 h.b1 n1 n2]at h1;obtain⟨m,hm⟩:∃ m,m=LC a.1 b.1:=⟨_,rfl⟩
 obtain⟨M,hM⟩:∃ M,M=N8 a.2 b.2:=⟨_,rfl⟩
 rw[<-hm,<-hM]at h1;have m1:a.1<=m/\b.1<=m/\(m=a.1\/m=b.1):=by rw[hm];unfold LC;split<;>grind
 have m2:M<=a.2/\M<=b.2/\(M=a.2\/M=b.2):=by rw[hM];unfold N8;split<;>grind
 have ha1:=h.a1;have hb1:=h.b1;have hmM:m < M:=by grind
 have ra:=(h.both (Std.le_of_lt h.a1)).2.1;have rb:=(h.both (Std.le_of_lt h.b1)).2.2;rw[h.ra]at ra;rw[h.rb]at rb
 -- outside of the common part there is no root
 have oa:=AY (Av (Bl F G)) a.1 m a.2;have oa2:=AY (Av (Bl F G)) m M a.2;have ob:=AY (Av (Bl F G)) b.1 m b.2;have ob2:=AY (Av (Bl F G)) m M b.2;have q1:=(h.both m1.1).1;have q2:=(h.both m1.2.1).1;have q3:=(h.both m2.1).1;have q4:=(h.both m2.2.1).1;have lo:∀ t,(a.1<=t\/b.1<=t)->t<=m->rc (Av (Bl F G)) t m=0:=fun t ht htm=>by
  have p0:=(h.both htm).1;rcases ht with z | z
  ·have:=AY (Av (Bl F G)) a.1 t m;have:=(h.both z).1;omega
  ·have:=AY (Av (Bl F G)) b.1 t m;have:=(h.both z).1;omega
 have hi:∀ t,(t<=a.2\/t<=b.2)->M<=t->rc (Av (Bl F G)) M t=0:=fun t ht htm=>by
  have p0:=(h.both htm).1;rcases ht with z | z
  ·have:=AY (Av (Bl F G)) M t a.2;have:=(h.both z).1;omega
  ·have:=AY (Av (Bl F G)) M t b.2;have:=(h.both z).1;omega
 have all:rc (Av (Bl F G)) x v<=1:=by
  have g1:rc (Av (Bl F G)) x M<=1:=by
   rcases Rat.le_total (a:=x) (b:=m)with z | z
   ·have:=AY (Av (Bl F G)) x m M;have:=lo x hx z;omega
   ·rcases Rat.le_total (a:=x) (b:=M)with y' | y'
    ·have:=AY (Av (Bl F G)) m x M;have:=(h.both z).1;omega
    ·have:=AY (Av (Bl F G)) x M x
     have:=(h.both y').1;have e:=Gs (Av (Bl F G)) x;omega
  have g2:rc (Av (Bl F G)) M v<=0:=by
   rcases Rat.le_total (a:=M) (b:=v)with z | z
   ·have:=hi v hv z;omega
   ·have:=AY (Av (Bl F G)) M v M
    have:=(h.both z).1;have e:=Gs (Av (Bl F G)) M;omega
  have:=AY (Av (Bl F G)) x M v;omega
 have e1:=AY (Av (Bl F G)) x y v;have e2:=AY (Av (Bl F G)) y u v;have e3:=(h.both hyu).1;omega
end
end Go.Hp
namespace Go.Proofs.YthlmipehlgoacaaGreat
open Go.RowKit Go.Hp
theorem Yy(v:Value)(l:List Int)(w:World)(hv:F9 0 w v l)(hn:l.length<=1000000):Be 62 #[v] w (fun r w'=>QU (cz l) w' r):=by
 have HV:=Ad hv;have hq:∀ i,qsz (cz l i)<=1099511627776:=Py hv.sz Aa;have hpl:pl (cz l)<=l.length:=BK (CO l);have fF:Ae (cz l):=⟨_,CO l⟩
 obtain⟨A,c,rfl⟩:=hv.len;clear hv
 go_enter Tryz.func62,Tryz.ntmps62
 go_wp2_with fail
 refine AQ (KJ _ l _ HV.out Aa) ?_;rintro r1 w1 hr1 hx1;have HR:=Ad (hr1.base_le (Nat.zero_le _));obtain⟨A1,c1,m,rfl,k1,k2,hA,k3,k4,k5⟩:=hr1.form;have HA:=Ad (Au hA (Au k3 k5));clear hA k3 k4 k5 hr1;have HQ:=Ad hq;clear hq;by_cases h0:cz l=pz
 ·have hp:pl (cz l)=0:=(BJ fF).2 h0
  have hr:=NF h0;have H:=Ad (Au hr h0);clear hr h0;rw[hp];go_wp2;refine bodyPost_ret (v := .tuple #[.slice none 0 0,.int .i64 5]) (by simp[results,Tryz.results62,go_sem]) rfl ?_;exact Ag.mk ⟨_,by rw[H.out.1],fun e=>by rw[H.out.1]at e;exact absurd e Ab,fun _=>rfl⟩ hx1
 have hp:=AO fF h0;obtain⟨N,hN⟩:∃ N,N=pl (cz l):=⟨_,rfl⟩
 rw[<-hN]at hp hpl k1 ⊢;have hb:(((N:Nat):Int)==0)=false:=beq_eq_false_iff_ne.2 Aa;have HN:=Ad (Au hN h0);clear hN h0;by_cases h33:33 < N
 ·have hr:Ca (cz l)=7:=Jv HN.out.2 (.inl (by rw[<-HN.out.1];exact h33))
  have H:=Ad hr;clear hr;go_wp2;refine bodyPost_ret (v := .tuple #[.slice none 0 0,.int .i64 7]) (by simp[results,Tryz.results62,go_sem]) rfl ?_;exact Ag.mk ⟨_,by rw[H.out],fun e=>by rw[H.out]at e;exact absurd e Ab,fun _=>rfl⟩ hx1
 go_wp2
 go_loopw [17] (fun iv wr=>∃ i:Nat,i<=N/\iv = .int .i64 (i:Nat)/\(∀ j,j < i->∀ b,BL (cz l j).num.natAbs b->b<=4096)/\Ext w1 wr) (fun iv _=>N - (intOf iv).toNat)
 case atStart=>exact⟨0,Aa,rfl,fun j hj=>Aa,Ext.refl _⟩
 case round =>
  obtain⟨i,hi,rfl,hlow,hx⟩:=hrel;have HL:=Ad hlow;clear hlow;by_cases hiN:i < N
  ·have hlt:i < m.length:=by have:=HA.out.2.1;have:=HN.out.1;omega
   have hli:cz l i=(m[i]:Rat):=by rw[<-Dx hlt,HA.out.2.2]
   have hqi:=HQ.out i;rw[hli,Bp]at hqi;obtain⟨g,o,b3,A3,n3,c3,e3,-,q0,q1,hq⟩:=HA.out.1.at_ hlt;cases e3;have hqh:=hq.has (by omega:sz (m[i]).natAbs<=1099511627776);obtain⟨y,hy⟩:∃ y,y=m[i]:=⟨_,rfl⟩
   rw[<-hy]at hqh hli;have HI:=Ad (Au hqh hli);clear hqh hq hqi hli hy hlt;replace q0:=hx.cell q0;replace q1:=hx.cell q1
   go_wp2_with fail
   refine AQ (SA _ y _ (HI.out.1.ext (hx.alloc _))) ?_;rintro r w2 ⟨b,rfl,hbl⟩ hx2;have hx':=hx2.a1;have HB:=Ad hbl;clear hbl;have hcast:(cz l i).num.natAbs=y.natAbs:=by rw[HI.out.2];rfl
   have HC:=Ad hcast;clear hcast;by_cases hbb:4096 < b
   ·have hr:Ca (cz l)=7:=Jv HN.out.2 (.inr ⟨i,b,by rw[HC.out];exact HB.out,hbb⟩)
    have H:=Ad hr;clear hr;go_wp2;refine bodyPost_ret (v := .tuple #[.slice none 0 0,.int .i64 7]) (by simp[results,Tryz.results62,go_sem]) rfl ?_;exact Ag.mk ⟨_,by rw[H.out],fun e=>by rw[H.out]at e;exact absurd e Ab,fun _=>rfl⟩ ((hx1.trans hx).trans hx')
   ·clear hx2
    go_wp2
    go_roundw
    case rel=>exact⟨i+1,Aa,by go_num,fun j hj b' hb'=>by
     rcases Nat.lt_or_ge j i with q | q
     ·exact HL.out j q b' hb'
     ·obtain rfl:j=i:=by omega
      rw[HC.out]at hb';have:=hb'.uniq HB.out;omega,hx.trans hx'⟩
    case measure=>simp[intOf];omega
  ·obtain rfl:i=N:=by omega
   have hnw:¬ RP (cz l):=fun⟨j,b,h1,h2⟩=>by
    rcases Nat.lt_or_ge j i with q | q
    ·have:=HL.out j q b h1;omega
    ·have hz:cz l j=0:=(AA fF) j (by have:=HN.out.1;omega)
     rw[hz]at h1;have:=h1.uniq BL.zero;omega
   have hr:=Lp HN.out.2 (by rw[<-HN.out.1];exact h33) hnw;have H:=Ad hr;clear hr hnw;have HF:=Ad (HR.out.ext hx);rw[<-HN.out.1]at HF;go_wp2;refine bodyPost_ret (v := .tuple #[.slice A1 i c1,.int .i64 0]) (by simp[results,Tryz.results62,go_sem]) rfl ?_;exact Ag.mk ⟨_,by rw[H.out],fun _=>HF.out,fun e=>absurd H.out e⟩ (hx1.trans hx)
theorem XF(v:Value)(F:Nat->Rat)(w:World)(hv:AJ 0 w v F)(fF:Ae F)(h0:F≠pz)(hn:pl F<=33)(hs:∀ i,qsz (F i)<=129):Be 63 #[v] w (fun r w'=>∃ x,AR w' r x):=by
 have hp:=AO fF h0;obtain⟨A,c,l,rfl,k1,k2,hA,k3,k4,k5⟩:=hv.form;have htop:=Ey fF hp;obtain⟨N,hN⟩:∃ N,N=pl F:=⟨_,rfl⟩
 rw[<-hN]at hp hn k1 k3 htop ⊢;have HA:=Ad (Au hA (Au k3 (Au k5 (Au htop hs))));clear hA k3 k4 k5 htop hs hv hN
 go_enter Tryz.func63,Tryz.ntmps63
 obtain⟨W1,eW1,ez,y1⟩:=AX.made w 37 #[.bool false,.slice none 0 0] (by simp[Ah])
 go_upto_region 1 with(fail)
 rw[<-eW1];clear eW1;have hx:=y1
 go_wp2_with fail
 refine AQ (IW 0 _ Aa Aa) ?_;rintro r2 w2 hr2 hx2;obtain⟨b5,A5,n5,c5,rfl⟩:=hr2.cells;replace ez:=ez.ext hx2;replace hx:=hx.trans hx2;clear hx2;obtain⟨W3,eW3,es,y3⟩:=AX.made w2 37 #[.bool b5,.slice A5 n5 c5] (by simp[Ah]);have hsm:=Bt.mk es (hr2.kd y3.kd);have hgs:=ez.lt;replace ez:=ez.ext y3;replace hx:=hx.trans y3;clear y3;clear hr2 es
 go_upto_region 2 with(fail)
 rw[<-eW3];clear eW3;generalize w2.heap.size=gs at *;go_wp2
 go_loopw [14] (fun iv wr=>∃ (i:Nat) (x:Int),i<=N/\iv = .int .i64 (i:Nat)/\0<=x/\sz x.natAbs<=260+i/\((∃ j,j < i/\F j≠0)->0 < x)/\Bt wr gs 37 x/\AX wr w.heap.size 37 #[.bool false,.slice none 0 0]/\Ext w wr) (fun iv _=>N - (intOf iv).toNat)
 case atStart=>exact⟨0,0,Aa,rfl,Aa,Ab,fun⟨j,hj,_⟩=>Aa,hsm,ez,hx⟩
 case round =>
  clear hsm ez hx;obtain⟨i,x,hi,rfl,hx0,hxs,hxp,⟨b1,A1,n1,c1,es,hsz⟩,ez,hx⟩:=hrel;have HX:=Ad (Au hx0 (Au hxs (Au hxp hsz)));clear hx0 hxs hxp hsz;by_cases hiN:i < N
  ·have hlt:i < l.length:=by have:=HA.out.2.1;omega
   have hli:F i=(l[i]:Rat):=by rw[<-Dx hlt,HA.out.2.2.1]
   have hqi:=HA.out.2.2.2.2 i;rw[hli,Bp]at hqi;obtain⟨g,o,b3,A3,n3,c3,e3,-,q0,q1,hq⟩:=HA.out.1.at_ hlt;cases e3;obtain⟨y,hy⟩:∃ y,y=l[i]:=⟨_,rfl⟩
   rw[<-hy]at hq hli hqi;have HI:=Ad (Au (hq.has Aa) (Au hli (show sz y.natAbs<=129 by omega)));clear hq hqi hli hy hlt;replace q0:=hx.cell q0;replace q1:=hx.cell q1;obtain⟨W7,eW7,e6,y7⟩:=AX.made wr 37 #[.bool b3,.slice A3 n3 c3] (by simp[Ah]);have hg6:=es.lt;have hgz:=ez.lt
   go_upto_region 5 with(fail)
   rw[<-eW7];clear eW7 q0 q1;replace HX:=Ad (Au HX.out.1 (Au HX.out.2.1 (Au HX.out.2.2.1 (HX.out.2.2.2.ext_ y7))));replace ez:=ez.ext y7;replace es:=es.ext y7;replace hx:=hx.trans y7;clear y7;generalize wr.heap.size=g6 at *;have ce6:=e6.cells2;have fe6:=e6.frozen;obtain⟨ces0,ces1⟩:=es.cells2;have fes:=es.frozen;refine Er 4 [18,19,20,21] [3,5] [_,_] [(kv ?_),(kv ?_),(kv ?_),(fun γ=>γ 3)] (fun γ w'=>[True,True,True,AR w' (γ 3) (y*y)]) ?s1 ?_
   case s1 =>
    iterate 4 refine⟨?_,?_⟩
    trivial
    iterate 3 focus
     refine Bf fun _ w' he R hR=>?_;have hc:=he.cells;have cq0:=(e6.ext he).cells2;have cq1:=he.cell ces0;have cq2:=he.cell ces1;go_simp;exact BV hR
    ·refine Bf fun _ w' he R hR=>?_
     go_simp;exact BG (Dj _ _ y y w' (HI.out.1.ext (hx.trans he)) (HI.out.1.ext (hx.trans he))) hR
   intro γ w8 hx8 hF;have p3:AR w8 (γ 3) (y*y):=AB.get hF 3 Ab;clear hF;simp only[Bu,Nat.reduceAdd];generalize γ 3=g3 at *;clear γ;have hyy:sz (y*y).natAbs<=258:=by
    rw[Int.natAbs_mul];have:=BU y.natAbs y.natAbs;have:=HI.out.2.2;omega
   have hsum:sz (x+y*y).natAbs<=260+(i+1):=by
    have h1:=Bw (Int.natAbs_add_le x (y*y));have h2:=Gn x.natAbs (y*y).natAbs;have:=HX.out.2.1;omega
   have hyn:0<=y*y:=by
    rcases Int.le_total 0 y with h | h
    ·exact Int.mul_nonneg h h
    ·have:=Int.mul_nonneg (show 0 <= -y by omega) (show 0 <= -y by omega)
     rw[Int.neg_mul_neg]at this;exact this
   have hyp:F i≠0->0 < y*y:=fun hne=>by
    have hy0:y≠0:=fun e=>hne (by rw[HI.out.2.1,e];rfl);have:y*y≠0:=fun e=>by rcases Int.mul_eq_zero.1 e with q | q<;>exact hy0 q
    omega
   have HS:=Ad (Au hsum (Au hyn (Au hyp (Au hyy HX.out.2.1))));clear hsum hyn hyp hyy
   go_wp2_with fail
   refine AQ (MC _ _ x (y*y) _ ((HX.out.2.2.2.ext_ hx8).has (by have:=HS.out.2.2.2.2;omega)) (p3.has (by have:=HS.out.2.2.2.1;omega))) ?_;rintro r9 w9 hr9 hx9;obtain⟨b9,A9,n9,c9,rfl⟩:=hr9.cells;have x89:=hx8.trans hx9;clear ce6 ces0 ces1 fe6 fes p3 e6;replace ez:=ez.ext x89;replace es:=es.ext x89;replace hx:=hx.trans x89;clear x89;clear hx8 hx9;obtain⟨ces0,ces1⟩:=es.cells2;have fes:=es.frozen
   go_upto_region 6 with(fail)
   obtain⟨W10,eW,es',U⟩:=es.put2 (.bool b9) (.slice A9 n9 c9);rw[<-eW];clear eW es;replace hr9:=hr9.kd U.kd;replace ez:=ez.upd U Aj;replace hx:=U.from_ hx Aj;have es:=es';clear U es';clear ces0 ces1 fes;go_wp2
   go_roundw
   case rel=>exact⟨i+1,x+y*y,Aa,by go_num,by have:=HX.out.1;have:=HS.out.2.1;omega,HS.out.1,fun⟨j,hj,hne⟩=>by
    have h1:=HX.out.1;have h2:=HS.out.2.1;rcases Nat.lt_or_ge j i with q | q
    ·have:=HX.out.2.2.1 ⟨j,q,hne⟩;omega
    ·obtain rfl:j=i:=by omega
     have:=HS.out.2.2.1 hne;omega,Bt.mk es hr9,ez,hx⟩
   case measure=>simp[intOf];omega
  ·obtain rfl:i=N:=by omega
   have hpos:0 < x:=HX.out.2.2.1 ⟨i - 1,Aa,HA.out.2.2.2.1⟩;have HP:=Ad (Au hpos (show sz x.natAbs<=1000 by have:=HX.out.2.1;omega));clear hpos;have hgz:=ez.lt;obtain⟨ces0,ces1⟩:=es.cells2;have fes:=es.frozen
   go_wp2_with fail
   refine AQ (WO _ x _ (HX.out.2.2.2.has (by have:=HP.out.2;omega)) HP.out.1 HP.out.2) ?_;rintro r11 w11 ⟨r0,q,bq,rfl,hr0,hq0,hqs⟩ hx11;obtain⟨b12,A12,n12,c12,rfl⟩:=hr0.cells;have HQ:=Ad hqs;clear hqs hq0 ces0 ces1 fes es;replace ez:=ez.ext hx11;replace hx:=hx.trans hx11;clear hx11;obtain⟨W12,eW12,er,y12⟩:=AX.made w11 37 #[.bool b12,.slice A12 n12 c12] (by simp[Ah]);have hrr:=Bt.mk er (hr0.kd y12.kd)
   have hgr:=ez.lt;replace ez:=ez.ext y12;replace hx:=hx.trans y12;clear y12;clear er hr0
   go_upto_region 8 with(fail)
   rw[<-eW12];clear eW12;generalize w11.heap.size=gr at *
   go_wp2_with fail
   refine AQ (IW 2 _ Aa Aa) ?_;rintro r13 w13 hr13 hx13;replace ez:=ez.ext hx13;replace hrr:=hrr.ext hx13;replace hx:=hx.trans hx13;clear hx13;obtain⟨k,hk⟩:∃ k,i=k+1:=⟨i - 1,Aa⟩
   have hki:((i:Nat):Int) - 1=(k:Nat):=by omega
   go_wp2_with fail
   refine Calls.mono (show Be 88 _ _ (fun r w'=>EN w' r (2^k) 0)from by
    first
     | (rw[hki];exact Sk _ k _ (hr13.has Ab) Aa)
     | exact Sk _ k _ (hr13.has Ab) Aa) ?_
   rintro e w14 ⟨r14,rfl,⟨r15,rfl,hr15⟩,hx14⟩;obtain⟨b15,A15,n15,c15,rfl⟩:=hr15.cells;clear hr13;replace ez:=ez.ext hx14;replace hrr:=hrr.ext hx14;replace hx:=hx.trans hx14;clear hx14;obtain⟨W16,eW16,et,y16⟩:=AX.made w14 37 #[.bool b15,.slice A15 n15 c15] (by simp[Ah]);have htt:=hr15.kd y16.kd;have hgt:=hrr.lt;replace ez:=ez.ext y16;replace hrr:=hrr.ext y16;replace hx:=hx.trans y16;clear y16;clear hr15
   go_upto_region 9 with(fail)
   rw[<-eW16];clear eW16;generalize w14.heap.size=gt at *;obtain⟨b17,A17,n17,c17,er,hrz⟩:=hrr;have hk9:=IL k;have HT:=Ad (Au htt (Au hrz (show sz ((2:Int)^k).natAbs<=1099511627776 by omega)));clear htt hrz hk9;have hs1:sz (q+1).natAbs<=1099511627776:=by
    have h1:=Bw (Int.natAbs_add_le q 1);have h2:=Gn q.natAbs (1:Int).natAbs;have h3:sz (1:Int).natAbs=1:=by decide
    have:=HQ.out;omega
   have HS1:=Ad hs1;clear hs1;have cet:=et.cells2;have fet:=et.frozen;have cer:=er.cells2;have fer:=er.frozen;have cez:=ez.cells2;have fez:=ez.frozen;refine Er 4 [38,39,40,41] [9,6] [_,_] [(kv ?_),(kv ?_),(fun γ=>γ 2),(fun γ=>γ 3)] (fun γ w'=>[True,True,AR w' (γ 2) 1,AR w' (γ 3) (q+1)]) ?s2 ?_
   case s2 =>
    iterate 4 refine⟨?_,?_⟩
    trivial
    iterate 2 focus
     refine Bf fun _ w' he R hR=>?_;have hc:=he.cells;have cq0:=(et.ext he).cells2;have cq1:=(er.ext he).cells2;go_simp;exact BV hR
    ·refine Bf fun _ w' he R hR=>?_
     go_simp;exact BG (IW 1 w' Aa Aa) hR
    ·refine Gp fun γ w' he hf R hR=>?_;have f2:AR w' (γ 2) 1:=hf 2 Ab;clear hf
     go_simp;exact BG (MC _ _ q 1 w' ((HT.out.2.1.ext_ he).has (by have:=HQ.out;omega)) (f2.has Ab)) hR
   intro γ w18 hx18 hF;have p2:AR w18 (γ 2) 1:=AB.get hF 2 Ab;have p3:AR w18 (γ 3) (q+1):=AB.get hF 3 Ab;clear hF;simp only[Bu,Nat.reduceAdd];generalize γ 2=g2 at *;generalize γ 3=g3 at *;clear γ
   go_wp2_with fail
   refine AQ (Dj _ _ (2^k) (q+1) _ ((HT.out.1.ext_ hx18).has HT.out.2.2) (p3.has HS1.out)) ?_;rintro r19 w19 hr19 hx19;obtain⟨b19,A19,n19,c19,rfl⟩:=hr19.cells;have x1819:=hx18.trans hx19;clear cet cer cez fet fer fez p2 p3;replace ez:=ez.ext x1819;replace hx:=hx.trans x1819;clear x1819;clear hx18 hx19;have cez:=ez.cells2;have fez:=ez.frozen;go_wp2;obtain⟨W20,eW,ez',U⟩:=ez.put2 (.bool b19) (.slice A19 n19 c19)
   rw[<-eW];clear eW ez;replace hr19:=hr19.kd U.kd;replace hx:=U.from_ hx Aj;have ez:=ez';clear U ez';clear cez fez;have cez:=ez.cells2;have fez:=ez.frozen;refine bodyPost_ret (v := .agg #[.bool b19,.slice A19 n19 c19]) (by simp[results,Tryz.results63,go_sem,cez]) rfl ?_;exact Ag.mk ⟨_,hr19⟩ hx
theorem VM(v:Value)(l:List Int)(w:World)(hv:F9 0 w v l)(hn:l.length<=1000000):Be 36 #[v] w (fun r _=>dI (cz l) r):=by
 have HV:=Ad hv;have fF:Ae (cz l):=⟨_,CO l⟩
 have zF:ZI (cz l):=ZI.cz l;obtain⟨A,c,rfl⟩:=hv.len;clear hv
 go_enter Tryz.func36,Tryz.ntmps36
 obtain⟨W1,eW1,ez,y1⟩:=AX.made w 37 #[.bool false,.slice none 0 0] (by simp[Ah])
 go_upto_region 1 with(fail)
 rw[<-eW1];clear eW1;have hx:=y1;clear y1
 go_wp2_with fail
 refine AQ (Yy _ l _ (HV.out.ext hx) hn) ?_;rintro r2 w2 ⟨u,rfl,hu1,hu2⟩ hx2;replace ez:=ez.ext hx2;replace hx:=hx.trans hx2;clear hx2;have hgz:=ez.lt;obtain⟨E,hE⟩:∃ E,E=Ca (cz l):=⟨_,rfl⟩
 have hc:=DL (cz l);rw[<-hE]at hu1 hu2 hc ⊢;have HE:=Ad hE;clear hE;have fin:∀(W:World) (b:Bool) (A:Option Addr) (n c:Nat),Ext w W->Ag w (fun r _=>dI (cz l) r) (.returned (.tuple #[.agg #[.bool b,.slice A n c],.int .i64 E])) W:=fun W b A n c h=>Ag.mk ⟨_,_,_,_,by rw[HE.out]⟩ h;have Hfin:=Ad fin;clear fin;rcases hc with⟨-,hc⟩ | ⟨-,hc⟩ | ⟨h0,hp,hw,hc⟩
 ·subst hc
  clear hu1 hu2;have cez:=ez.cells2;have fez:=ez.frozen;go_wp2;obtain⟨W3,eW,ez',U⟩:=ez.put2 (.bool false) (.slice none 0 0);rw[<-eW];clear eW ez;replace hx:=U.from_ hx Aj;have ez:=ez';clear U ez';clear cez fez;have cez:=ez.cells2;have fez:=ez.frozen;refine bodyPost_ret (v := .tuple #[.agg #[.bool false,.slice none 0 0],.int .i64 5]) (by simp[results,Tryz.results36,go_sem,cez]) rfl ?_;exact Hfin.out _ _ _ _ _ hx
 ·subst hc
  clear hu1 hu2;have cez:=ez.cells2;have fez:=ez.frozen;go_wp2;obtain⟨W3,eW,ez',U⟩:=ez.put2 (.bool false) (.slice none 0 0);rw[<-eW];clear eW ez;replace hx:=U.from_ hx Aj;have ez:=ez';clear U ez';clear cez fez;have cez:=ez.cells2;have fez:=ez.frozen;refine bodyPost_ret (v := .tuple #[.agg #[.bool false,.slice none 0 0],.int .i64 7]) (by simp[results,Tryz.results36,go_sem,cez]) rfl ?_;exact Hfin.out _ _ _ _ _ hx
 ·subst hc
  have hq:=ZF zF hw;have hu:=hu1 rfl;obtain⟨A1,c1,rfl,-⟩:=hu.shape;clear hu1 hu2
  go_wp2_with fail
  refine AQ (XF _ (cz l) _ hu fF h0 hp hq) ?_;rintro r4 w4 ⟨x4,hr4⟩ hx4;obtain⟨b5,A5,n5,c5,rfl⟩:=hr4.cells;clear hu;replace ez:=ez.ext hx4;replace hx:=hx.trans hx4;clear hx4;have cez:=ez.cells2;have fez:=ez.frozen;go_wp2;obtain⟨W3,eW,ez',U⟩:=ez.put2 (.bool b5) (.slice A5 n5 c5);rw[<-eW];clear eW ez;replace hx:=U.from_ hx Aj;have ez:=ez';clear U ez';clear cez fez;have cez:=ez.cells2;have fez:=ez.frozen
  refine bodyPost_ret (v := .tuple #[.agg #[.bool b5,.slice A5 n5 c5],.int .i64 0]) (by simp[results,Tryz.results36,go_sem,cez]) rfl ?_;exact Hfin.out _ _ _ _ _ hx
theorem YA(v:Value)(l:List Int)(w:World)(hv:F9 0 w v l)(hn:l.length<=1000000):Be 17 #[v] w (fun r w'=>bP w.heap.size (cz l) w' r):=by
 have HV:=Ad hv;obtain⟨A,c,rfl⟩:=hv.len;clear hv
 go_enter Tryz.func17,Tryz.ntmps17
 go_wp2_with fail
 refine AQ (VM _ l _ HV.out hn) ?_;rintro r2 w2 ⟨b5,A5,n5,c5,rfl⟩ hx2;obtain⟨W1,eW1,-,y1⟩:=AX.made w2 37 #[.bool b5,.slice A5 n5 c5] (by simp[Ah]);have hx:=hx2.trans y1;clear hx2 y1
 go_upto_region 2 with(fail)
 rw[<-eW1];clear eW1;obtain⟨E,hE⟩:∃ E,E=Ca (cz l):=⟨_,rfl⟩
 have hc:=DL (cz l);rw[<-hE]at hc ⊢;have HE:=Ad hE;clear hE;rcases hc with⟨-,hc⟩ | ⟨-,hc⟩ | ⟨-,-,-,hc⟩
 ·subst hc
  go_wp2;refine bodyPost_ret (v := .tuple #[.slice none 0 0,.int .i64 5]) (by simp[results,Tryz.results17,go_sem]) rfl ?_;exact Ag.mk ⟨_,by rw[<-HE.out],fun e=>by rw[<-HE.out]at e;exact absurd e Ab,fun _=>rfl⟩ hx
 ·subst hc
  go_wp2;refine bodyPost_ret (v := .tuple #[.slice none 0 0,.int .i64 7]) (by simp[results,Tryz.results17,go_sem]) rfl ?_;exact Ag.mk ⟨_,by rw[<-HE.out],fun e=>by rw[<-HE.out]at e;exact absurd e Ab,fun _=>rfl⟩ hx
 ·subst hc
  go_wp2_with fail
  refine AQ (KJ _ l _ (HV.out.ext hx) Aa) ?_;rintro r4 w4 hr4 hx4;obtain⟨A1,c1,rfl,-⟩:=hr4.shape;have hx5:=hx.trans hx4;have HR:=Ad (hr4.base_le hx.size);clear hr4;go_wp2;refine bodyPost_ret (v := .tuple #[.slice A1 (pl (cz l)) c1,.int .i64 0]) (by simp[results,Tryz.results17,go_sem]) rfl ?_;exact Ag.mk ⟨_,by rw[<-HE.out],fun _=>HR.out,fun e=>by rw[<-HE.out]at e;exact absurd rfl e⟩ hx5
theorem MQ(v:Value)(l:List Int)(w:World)(hv:F9 0 w v l)(hn:l.length<=1000000):Be 17 #[v] w (fun r w'=>QU (cz l) w' r):=
 Ag.imp (YA v l w hv hn) fun _ _ ⟨u,h1,h2,h3⟩=>⟨u,h1,fun e=>(h2 e).base_le (Nat.zero_le _),h3⟩
theorem Ui(v u z:Value)(W:Nat->Rat)(p q:Rat)(base S D M t K:Nat)(w:World)(hv:JX base 23 w v W)(hu:BI w u p)(hz:BI w z q)(hC:GR W S D M)(hK:Nq W (pd W) K)(hp:qsz p<=t)(hq:qsz q<=t)
  (ht:1+D*(M+t+1)+M+t+1<=274877906944) :
  Be 26 #[v,u,z] w (fun r _=>r = .int .i64 ((V (FO W (pd W) K) p:Nat) - (V (FO W (pd W) K) q:Nat):Int)):=by
 obtain⟨c,us,K',rfl,h1,h2,h3⟩:=hv;obtain rfl:=h1.uniq hK;have hl:(FO W (pd W) K').length=K':=Ee _ _ _;have hK9:K'<=1000:=by have:=hC.e;have:=hC.D9;omega
 have hch:∀ X (x:Ext w X) a r,BI X a r->qsz r<=t->Be 58 #[c,a] X (fun o _=>o = .int .i64 (V (FO W (pd W) K') r:Nat)):=fun X x a r ha hr =>
  UY c a us _ r base M t D X (h3.ext x) ha (hC.mem h1) hr ht (by have:=hC.D9;omega) (by rw[hl];omega)
 have b1:=Yt (FO W (pd W) K') p;have b2:=Yt (FO W (pd W) K') q;rw[hl]at b1 b2;obtain⟨Vp,hVp⟩:∃ n,n=V (FO W (pd W) K') p:=⟨_,rfl⟩
 obtain⟨Vq,hVq⟩:∃ n,n=V (FO W (pd W) K') q:=⟨_,rfl⟩
 have hc1:∀ X (x:Ext w X),Be 58 #[c,u] X (fun o _=>o = .int .i64 (Vp:Nat)):=fun X x=>by rw[hVp];exact hch X x u p (hu.ext x) hp
 have hc2:∀ X (x:Ext w X),Be 58 #[c,z] X (fun o _=>o = .int .i64 (Vq:Nat)):=fun X x=>by rw[hVq];exact hch X x z q (hz.ext x) hq
 rw[<-hVp]at b1 ⊢;rw[<-hVq]at b2 ⊢;have HP:=Ad (Au hc1 hc2);obtain⟨A0,c0,rfl⟩:=h3.shape;rw[hl]at HP ⊢;obtain⟨b,B,n1,c1,b',B',n1',c1',x0,y0,rfl,-⟩:=hu.form;obtain⟨d,E,n2,c2,d',E',n2',c2',x1,y1,rfl,-⟩:=hz.form;clear hch hu hz hp hq h1 h2 h3 hC hK ht hl hc1 hc2 hVp hVq
 go_enter Tryz.func26,Tryz.ntmps26
 go_upto_region 1 with(fail)
 refine Er 8 [7,8,9,10,11,12,13,14] [3,4,5] [_,_,_] [(kv ?_),(kv ?_),(kv ?_),(kv (.int .i64 (Vp:Nat))),(kv ?_),(kv ?_),(kv ?_),(kv (.int .i64 (Vq:Nat)))] (fun γ w'=>[True,True,True,True,True,True,True,True]) ?s1 ?_
 case s1 =>
  iterate 8 refine⟨?_,?_⟩
  trivial
  iterate 3 focus
   refine Bf fun _ w' he R hR=>?_;have hc:=he.cells;go_simp;exact BV hR
  ·refine Bf fun _ w' he R hR=>?_
   go_simp;exact Nn (HP.out.1 w' he.a3) hR
  iterate 3 focus
   refine Bf fun _ w' he R hR=>?_;have hc:=he.cells;go_simp;exact BV hR
  ·refine Bf fun _ w' he R hR=>?_
   go_simp;exact Nn (HP.out.2 w' he.a3) hR
 intro γ w1 hx1 hF;clear hF;simp only[Bu,Nat.reduceAdd];clear γ;go_wp2
 go_ret
 exact Ag.mk rfl hx1.a3
end Go.Proofs.YthlmipehlgoacaaGreat

namespace Go.Proofs.YthlmipehlgoacaaGreat
open Go.RowKit Go.Hp
set_option maxRecDepth 20000 in
theorem PM(v:Value)(p q:Rat)(t:Nat)(w:World)(hv:KU w v p q)(hp:qsz p<=t)(hq:qsz q<=t)(ht:t<=100000000000) :
  Be 42 #[v] w (fun r w'=>Cb w' r ((p+q) / 2)):=by
 have hsum:qsz (p+q)<=274877906944:=by have:=EW p q;omega
 obtain⟨d1,A1,n1,c1,d2,A2,n2,c2,d3,A3,n3,c3,d4,A4,n4,c4,rfl,hu1,hu2⟩:=hv;have HC:=Ad (Au hu1 (Au hu2 hsum));clear hu1 hu2 hsum hp hq ht
 go_enter Tryz.func42,Tryz.ntmps42
 have ea:=(AX.new w 41 #[.bool d1,.slice A1 n1 c1,.bool d2,.slice A2 n2 c2,.bool d3,.slice A3 n3 c3,.bool d4,.slice A4 n4 c4] (by simp[Ah])).alloc (.cells #[.bool false,.slice none 0 0,.bool false,.slice none 0 0] 39);have ez:=AX.new (w.alloc (.cells #[.bool d1,.slice A1 n1 c1,.bool d2,.slice A2 n2 c2,.bool d3,.slice A3 n3 c3,.bool d4,.slice A4 n4 c4] 41)) 39 #[.bool false,.slice none 0 0,.bool false,.slice none 0 0] (by simp[Ah])
 rw[World.size_alloc]at ez;have hx:=((Ext.refl w).alloc (.cells #[.bool d1,.slice A1 n1 c1,.bool d2,.slice A2 n2 c2,.bool d3,.slice A3 n3 c3,.bool d4,.slice A4 n4 c4] 41)).alloc (.cells #[.bool false,.slice none 0 0,.bool false,.slice none 0 0] 39)
 go_upto_region 1 with(fail)
 generalize (w.alloc (.cells #[.bool d1,.slice A1 n1 c1,.bool d2,.slice A2 n2 c2,.bool d3,.slice A3 n3 c3,.bool d4,.slice A4 n4 c4] 41)).alloc (.cells #[.bool false,.slice none 0 0,.bool false,.slice none 0 0] 39)=W0 at *;have cea:=ea.cells8;have fea:=ea.frozen
 go_wp2_with fail
 refine AQ (TL _ _ p q _ (HC.out.1.ext hx) (HC.out.2.1.ext hx)) ?_;rintro r1 w1 hr1 hx1;clear cea fea ea;replace ez:=ez.ext hx1;replace hx:=hx.trans hx1
 go_wp2_with fail
 refine AQ (VN 2 _ Aa Aa) ?_;rintro r2 w2 hr2 hx2;replace ez:=ez.ext hx2;replace hx:=hx.trans hx2;have H2:=Ad (Au (hr1.ext hx2) hr2);clear hr1 hr2 hx1 hx2
 go_wp2_with fail
 refine AQ (XM _ _ (p+q) ((2:Int):Rat) _ (H2.out.1.has HC.out.2.2) (H2.out.2.has Ab) Ab) ?_;rintro r3 w3 ⟨q3,rfl,hq3⟩ hx3;obtain⟨b5,B5,m5,e5,b6,B6,m6,e6,rfl⟩:=hq3.cells;replace ez:=ez.ext hx3;replace hx:=hx.trans hx3;obtain⟨W4,eW,e4,x4⟩:=AX.made w3 39 #[.bool b5,.slice B5 m5 e5,.bool b6,.slice B6 m6 e6] (by simp[Ah]);have hr:=hq3.ext x4;have hltz:=ez.lt;replace ez:=ez.ext x4;replace hx:=hx.trans x4
 clear hq3 hx3 x4 H2
 go_upto_region 2 with(fail)
 rw[<-eW];clear eW;generalize w3.heap.size=gc at *;have cez:=ez.cells4;have fez:=ez.frozen;have ce4:=e4.cells4;have fe4:=e4.frozen;go_wp2;obtain⟨W5,eW,ez',U⟩:=ez.put4 (.bool b5) (.slice B5 m5 e5) (.bool b6) (.slice B6 m6 e6);rw[<-eW];clear eW ez;replace hr:=hr.kd U.kd;replace hx:=U.from_ hx Aj;have ez:=ez';clear U ez';clear cez fez;have cez:=ez.cells4;have fez:=ez.frozen;refine bodyPost_ret (v := .agg #[.bool b5,.slice B5 m5 e5,.bool b6,.slice B6 m6 e6]) (by simp[results,Tryz.results42,go_sem,cez]) rfl ?_
 exact Ag.mk hr hx
set_option maxRecDepth 20000 in
theorem bS(v u:Value)(W:Nat->Rat)(p q:Rat)(base S D M t K:Nat)(w:World)(hv:JX base 23 w v W)(hu:KU w u p q)(hC:GR W S D M)(hK:Nq W (pd W) K)(hp:qsz p<=t)(hq:qsz q<=t)
  (ht:1+D*(M+t+1)+M+t+1<=100000000000) :
  Be 27 #[v,u] w (fun r _=>r = .bool (decide (p < q)&&(rts W K p q==1))):=by
 have hin:∀ X (x:Ext w X) a b,BI X a p->BI X b q->Be 26 #[v,a,b] X (fun r _=>r = .int .i64 (rts W K p q)):=fun X x a b ha hb =>
  Ui v a b W p q base S D M t K X (hv.ext x) ha hb hC hK hp hq Aa
 have hcm:∀ X a b,BI X a p->BI X b q->Be 28 #[a,b] X (fun o _=>o = .int .i64 (FW (p - q))):=fun X a b ha hb=>KP a b p q X ha hb Aa;obtain⟨A0,n0,c0,rfl⟩:=hv.cell;obtain⟨d1,A1,n1,c1,d2,A2,n2,c2,d3,A3,n3,c3,d4,A4,n4,c4,rfl,hu1,hu2⟩:=hu;obtain⟨R,hR⟩:∃ R,R=rts W K p q:=⟨_,rfl⟩
 simp only[<-hR]at hin ⊢;have HC:=Ad (Au hin (Au hcm (Au hu1 hu2)));clear hin hcm hu1 hu2 hv hC hK hp hq ht hR;have hsd:=KM (p:=p) (q:=q);obtain⟨res,hres⟩:∃ res,res=(decide (p < q)&&(R==1)):=⟨_,rfl⟩
 rw[<-hres];have Hres:=Ad hres;clear hres
 go_enter Tryz.func27,Tryz.ntmps27
 have ec:=(AX.new w 54 #[.slice A0 n0 c0] (by simp[Ah])).alloc (.cells #[.bool d1,.slice A1 n1 c1,.bool d2,.slice A2 n2 c2,.bool d3,.slice A3 n3 c3,.bool d4,.slice A4 n4 c4] 41);have ea:=AX.new (w.alloc (.cells #[.slice A0 n0 c0] 54)) 41 #[.bool d1,.slice A1 n1 c1,.bool d2,.slice A2 n2 c2,.bool d3,.slice A3 n3 c3,.bool d4,.slice A4 n4 c4] (by simp[Ah]);rw[World.size_alloc]at ea;have hx:=((Ext.refl w).alloc (.cells #[.slice A0 n0 c0] 54)).alloc (.cells #[.bool d1,.slice A1 n1 c1,.bool d2,.slice A2 n2 c2,.bool d3,.slice A3 n3 c3,.bool d4,.slice A4 n4 c4] 41)
 go_upto_region 1 with(fail)
 generalize (w.alloc (.cells #[.slice A0 n0 c0] 54)).alloc (.cells #[.bool d1,.slice A1 n1 c1,.bool d2,.slice A2 n2 c2,.bool d3,.slice A3 n3 c3,.bool d4,.slice A4 n4 c4] 41)=W0 at *;have cea:=ea.cells8;have fea:=ea.frozen;have cec0:=ec.cells1;by_cases hpq:p < q
 ·have hd:decide (p < q)=true:=decide_eq_true hpq
  rw[hd]at hsd;have HF:=Ad (show res=(R==1) by rw[Hres.out,hd];rfl);clear hpq hd
  go_wp2_with fail
  refine AQ (HC.out.2.1 _ _ _ (HC.out.2.2.1.ext hx) (HC.out.2.2.2.ext hx)) ?_;rintro r1 w1 rfl hx1;clear cea fea cec0;replace ea:=ea.ext hx1;replace ec:=ec.ext hx1;replace hx:=hx.trans hx1;clear hx1;have cea:=ea.cells8;have fea:=ea.frozen;have cec0:=ec.cells1
  go_wp2_with fail
  refine AQ (HC.out.1 _ hx _ _ (HC.out.2.2.1.ext hx) (HC.out.2.2.2.ext hx)) ?_;rintro r2 w2 rfl hx2;go_wp2
  go_ret
  exact Ag.mk (by rw[HF.out];rfl) (hx.trans hx2)
 ·have hd:decide (p < q)=false:=decide_eq_false hpq
  rw[hd]at hsd;have HF:=Ad (show res=false by rw[Hres.out,hd];rfl);clear hpq hd
  go_wp2_with fail
  refine AQ (HC.out.2.1 _ _ _ (HC.out.2.2.1.ext hx) (HC.out.2.2.2.ext hx)) ?_;rintro r1 w1 rfl hx1;go_wp2
  go_ret
  exact Ag.mk (by rw[HF.out];rfl) (hx.trans hx1)
set_option maxRecDepth 20000 in
theorem bA(v u:Value)(W:Nat->Rat)(p q:Rat)(base S D M t K:Nat)(w:World)(hv:JX base 23 w v W)(hu:KU w u p q)(hC:GR W S D M)(hK:Nq W (pd W) K)(hp:qsz p<=t)(hq:qsz q<=t)(hm:qsz ((p+q) / 2)<=t)
  (ht:1+D*(M+t+1)+M+t+1<=100000000000) :
  Be 29 #[v,u] w (fun r w'=>if rts W K p ((p+q) / 2)=1 then KU w' r p ((p+q) / 2)else KU w' r ((p+q) / 2) q):=by
 obtain⟨m,hmm⟩:∃ m,m=(p+q) / 2:=⟨_,rfl⟩
 have hin:∀ X (x:Ext w X) a b,BI X a p->BI X b m->Be 26 #[v,a,b] X (fun r _=>r = .int .i64 (rts W K p m)):=fun X x a b ha hb =>
  Ui v a b W p m base S D M t K X (hv.ext x) ha hb hC hK hp (by rw[hmm];exact hm) Aa
 have hmid:=fun X (x:Ext w X)=>PM u p q t X (hu.ext x) hp hq Aa;simp only[<-hmm]at hmid hm ⊢;have hm9:qsz m<=274877906944:=by omega
 obtain⟨A0,n0,c0,rfl⟩:=hv.cell;obtain⟨d1,A1,n1,c1,d2,A2,n2,c2,d3,A3,n3,c3,d4,A4,n4,c4,rfl,hu1,hu2⟩:=hu;obtain⟨R,hR⟩:∃ R,R=rts W K p m:=⟨_,rfl⟩
 simp only[<-hR]at hin ⊢;have HC:=Ad (Au hin (Au hmid (Au hu1 (Au hu2 hm9))));clear hin hmid hu1 hu2 hv hC hK hp hq ht hR hm hm9 hmm
 go_enter Tryz.func29,Tryz.ntmps29
 obtain⟨W1,eW1,ec,y1⟩:=AX.made w 54 #[.slice A0 n0 c0] (by simp[Ah]);obtain⟨W2,eW2,ea,y2⟩:=AX.made W1 41 #[.bool d1,.slice A1 n1 c1,.bool d2,.slice A2 n2 c2,.bool d3,.slice A3 n3 c3,.bool d4,.slice A4 n4 c4] (by simp[Ah]);obtain⟨W3,eW3,ez,y3⟩:=AX.made W2 41 #[.bool false,.slice none 0 0,.bool false,.slice none 0 0,.bool false,.slice none 0 0,.bool false,.slice none 0 0] (by simp[Ah]);have s1:W1.heap.size=w.heap.size+1:=by rw[eW1,World.size_alloc]
 have s2:W2.heap.size=w.heap.size+1+1:=by rw[eW2,World.size_alloc,s1]
 rw[s1]at ea;rw[s2]at ez;have hx:=(y1.trans y2).trans y3;replace ec:=ec.ext (y2.trans y3);replace ea:=ea.ext y3
 go_upto_region 1 with(fail)
 rw[<-eW1,<-eW2,<-eW3];clear eW1 eW2 eW3 y1 y2 y3 s1 s2;have cea:=ea.cells8;have fea:=ea.frozen
 go_wp2_with fail
 refine AQ (HC.out.2.1 _ hx) ?_;rintro r4 w4 hr4 hx4;obtain⟨b5,B5,m5,e5,b6,B6,m6,e6,rfl⟩:=hr4.cells;obtain⟨W5,eW,e4,x4⟩:=AX.made w4 39 #[.bool b5,.slice B5 m5 e5,.bool b6,.slice B6 m6 e6] (by simp[Ah]);have Hr:=Ad ((hr4.ext x4).has HC.out.2.2.2.2);clear cea fea hr4;have x45:=hx4.trans x4;replace ea:=ea.ext x45;replace ez:=ez.ext x45;replace ec:=ec.ext x45;replace hx:=hx.trans x45;clear x45;clear hx4 x4
 go_upto_region 2 with(fail)
 rw[<-eW];clear eW;generalize w4.heap.size=gc at *;have cea:=ea.cells8;have fea:=ea.frozen;have ce4:=e4.cells4;have fe4:=e4.frozen;have cec0:=ec.cells1
 go_wp2_with fail
 refine AQ (HC.out.1 _ hx _ _ (HC.out.2.2.1.ext hx) Hr.out) ?_;rintro r6 w6 rfl hx6;have Hr6:=Ad (Hr.out.ext hx6);clear cea fea ce4 fe4 cec0 Hr;replace ea:=ea.ext hx6;replace ez:=ez.ext hx6;replace ec:=ec.ext hx6;replace e4:=e4.ext hx6;replace hx:=hx.trans hx6;clear hx6;have cea:=ea.cells8;have fea:=ea.frozen;have ce4:=e4.cells4;have fe4:=e4.frozen;have cez:=ez.cells8;have fez:=ez.frozen;by_cases h1:R=1
 ·have hb:(R==1)=true:=by simpa using h1
  have H1:=Ad h1;clear h1;have Q1:=HC.out.2.2.1.ext hx;have Q2:=Hr6.out;have HQ:=Ad (Au Q1 Q2);clear Q1 Q2;go_wp2;obtain⟨W6,eW6,ez',U⟩:=ez.put8 (.bool d1) (.slice A1 n1 c1) (.bool d2) (.slice A2 n2 c2) (.bool b5) (.slice B5 m5 e5) (.bool b6) (.slice B6 m6 e6) rfl rfl rfl rfl rfl rfl rfl rfl;rw[<-eW6];have hr1:=BI.kd HQ.out.1 U.kd;have hr2:=BI.kd HQ.out.2 U.kd;replace hx:=U.from_ hx D8;clear eW6 ez cez fez
  have ez:=ez';have cez:=ez.cells8;have fez:=ez.frozen;refine bodyPost_ret (v := .agg #[.bool d1,.slice A1 n1 c1,.bool d2,.slice A2 n2 c2,.bool b5,.slice B5 m5 e5,.bool b6,.slice B6 m6 e6]) (by simp[results,Tryz.results29,go_sem,cez]) rfl ?_;exact Ag.mk (by first | exact⟨_,_,_,_,_,_,_,_,_,_,_,_,_,_,_,_,rfl,hr1,hr2⟩ | (rw[(if_pos H1.out)];exact⟨_,_,_,_,_,_,_,_,_,_,_,_,_,_,_,_,rfl,hr1,hr2⟩)) hx
 ·have hb:(R==1)=false:=by simpa using h1
  have H1:=Ad h1;clear h1;have Q1:=Hr6.out;have Q2:=HC.out.2.2.2.1.ext hx;have HQ:=Ad (Au Q1 Q2);clear Q1 Q2;go_wp2;obtain⟨W6,eW6,ez',U⟩:=ez.put8 (.bool b5) (.slice B5 m5 e5) (.bool b6) (.slice B6 m6 e6) (.bool d3) (.slice A3 n3 c3) (.bool d4) (.slice A4 n4 c4) rfl rfl rfl rfl rfl rfl rfl rfl;rw[<-eW6];have hr1:=BI.kd HQ.out.1 U.kd;have hr2:=BI.kd HQ.out.2 U.kd;replace hx:=U.from_ hx D8;clear eW6 ez cez fez
  have ez:=ez';have cez:=ez.cells8;have fez:=ez.frozen;refine bodyPost_ret (v := .agg #[.bool b5,.slice B5 m5 e5,.bool b6,.slice B6 m6 e6,.bool d3,.slice A3 n3 c3,.bool d4,.slice A4 n4 c4]) (by simp[results,Tryz.results29,go_sem,cez]) rfl ?_;exact Ag.mk (by first | exact⟨_,_,_,_,_,_,_,_,_,_,_,_,_,_,_,_,rfl,hr1,hr2⟩ | (rw[(if_neg H1.out)];exact⟨_,_,_,_,_,_,_,_,_,_,_,_,_,_,_,_,rfl,hr1,hr2⟩)) hx
set_option maxRecDepth 20000 in
theorem VQ(v u:Value)(p q:Rat)(w:World)(hv:BI w v p)(hu:BI w u q) :
  Be 41 #[v,u] w (fun r w'=>J2 w' r p q):=by
 have HC:=Ad (Au hv hu);obtain⟨b,B,m1,e1,b',B',m1',e1',x0,y0,rfl,-⟩:=hv.form;obtain⟨d,E,m2,e2,d',E',m2',e2',x1,y1,rfl,-⟩:=hu.form;clear hv hu
 go_enter Tryz.func41,Tryz.ntmps41
 obtain⟨W1,eW1,ea,y1⟩:=AX.made w 39 #[.bool b,.slice B m1 e1,.bool b',.slice B' m1' e1'] (by simp[Ah]);obtain⟨W2,eW2,ec,y2⟩:=AX.made W1 39 #[.bool d,.slice E m2 e2,.bool d',.slice E' m2' e2'] (by simp[Ah]);obtain⟨W3,eW3,ez,y3⟩:=AX.made W2 41 #[.bool false,.slice none 0 0,.bool false,.slice none 0 0,.bool false,.slice none 0 0,.bool false,.slice none 0 0] (by simp[Ah]);have s1:W1.heap.size=w.heap.size+1:=by rw[eW1,World.size_alloc]
 have s2:W2.heap.size=w.heap.size+1+1:=by rw[eW2,World.size_alloc,s1]
 rw[s1]at ec;rw[s2]at ez;have hx:=(y1.trans y2).trans y3;replace ea:=ea.ext (y2.trans y3);replace ec:=ec.ext y3
 go_upto_region 1 with(fail)
 rw[<-eW1,<-eW2,<-eW3];clear eW1 eW2 eW3 y1 y2 y3 s1 s2;have cea:=ea.cells4;have fea:=ea.frozen;have cec:=ec.cells4;have fec:=ec.frozen
 go_wp2_with fail
 refine Er 4 [5,6,7,8] [2,3] [_,_] [(kv ?_),(fun γ=>γ 1),(kv ?_),(fun γ=>γ 3)] (fun γ w'=>[True,Cb w' (γ 1) p,True,Cb w' (γ 3) q]) ?s1 ?_
 case s1 =>
  iterate 4 refine⟨?_,?_⟩
  trivial
  iterate 1 focus
   refine Bf fun _ w' he R hR=>?_;have hc:=he.cells;have cq0:=(ea.ext he).cells4;have cq1:=(ec.ext he).cells4;go_simp;exact BV hR
  ·refine Bf fun _ w' he R hR=>?_
   go_simp;exact BG (Gc _ p w' (HC.out.1.ext (hx.trans he))) hR
  iterate 1 focus
   refine Bf fun _ w' he R hR=>?_;have hc:=he.cells;have cq0:=(ea.ext he).cells4;have cq1:=(ec.ext he).cells4;go_simp;exact BV hR
  ·refine Bf fun _ w' he R hR=>?_
   go_simp;exact BG (Gc _ q w' (HC.out.2.ext (hx.trans he))) hR
 intro γ w8 hx8 hF;have p1:Cb w8 (γ 1) p:=AB.get hF 1 Ab;have p3:Cb w8 (γ 3) q:=AB.get hF 3 Ab;clear hF;simp only[Bu,Nat.reduceAdd];generalize γ 1=g1 at *;generalize γ 3=g3 at *;clear γ;obtain⟨b5,A5,n5,c5,b6,A6,n6,c6,rfl⟩:=p1.cells;obtain⟨b7,A7,n7,c7,b8,A8,n8,c8,rfl⟩:=p3.cells;have HQ:=Ad (Au p1 p3);replace hx:=hx.trans hx8;replace ez:=ez.ext hx8;clear p1 p3 cea cec fea fec;have cez:=ez.cells8;have fez:=ez.frozen
 go_wp2;obtain⟨W6,eW6,ez',U⟩:=ez.put8 (.bool b5) (.slice A5 n5 c5) (.bool b6) (.slice A6 n6 c6) (.bool b7) (.slice A7 n7 c7) (.bool b8) (.slice A8 n8 c8) rfl rfl rfl rfl rfl rfl rfl rfl;rw[<-eW6];have hr1:=Cb.kd HQ.out.1 U.kd;have hr2:=Cb.kd HQ.out.2 U.kd;replace hx:=U.from_ hx Aj;clear eW6 ez cez fez;have ez:=ez';have cez:=ez.cells8;have fez:=ez.frozen;refine bodyPost_ret (v := .agg #[.bool b5,.slice A5 n5 c5,.bool b6,.slice A6 n6 c6,.bool b7,.slice A7 n7 c7,.bool b8,.slice A8 n8 c8]) (by simp[results,Tryz.results41,go_sem,cez]) rfl ?_
 exact Ag.mk ⟨_,_,_,_,_,_,_,_,_,_,_,_,_,_,_,_,rfl,hr1,hr2⟩ hx
theorem ZL:(Tryz.prog.info? 41).map (fun i=>(i.zero,i.size,i.bytes))=some (some (.agg #[.bool false,.slice none 0 0,.bool false,.slice none 0 0,.bool false,.slice none 0 0,.bool false,.slice none 0 0]),8,128):=by kernel_rfl
theorem V4(W:World)(base ty g:Nat)(v:Value)(l:List (Rat×Rat))(p q:Rat){b1 b2 b3 b4:Bool}{A1 A2 A3 A4:Option Addr}{n1 n2 n3 n4 c1 c2 c3 c4:Nat}(h:Df base 41 W v l)
  (hq:J2 W (.agg #[.bool b1,.slice A1 n1 c1,.bool b2,.slice A2 n2 c2,.bool b3,.slice A3 n3 c3,.bool b4,.slice A4 n4 c4]) p q) (hn:l.length<=1000000) (hb:base<=W.heap.size) (hg:g=W.heap.size) :
  ∃ v' w',(Builtin.append_ #[27,27] ty #[v,.slice (some ⟨g,0,none⟩) 1 1]).run Tryz.prog (W.alloc (.cells #[.bool b1,.slice A1 n1 c1,.bool b2,.slice A2 n2 c2,.bool b3,.slice A3 n3 c3,.bool b4,.slice A4 n4 c4] 41)) = .ok v' w' /\
   (Df base 41 w' v' (l ++ [(p,q)])/\Ch (blk v) W w'/\∀ g∈blk v',g∈blk v\/W.heap.size<=g):=by
 subst hg;obtain⟨i0,hi,hz0,hz1,hz2⟩:=info_parts ZL;have hB:=AX.new W 41 #[.bool b1,.slice A1 n1 c1,.bool b2,.slice A2 n2 c2,.bool b3,.slice A3 n3 c3,.bool b4,.slice A4 n4 c4] (by simp[Ah]);have hx:=(Ext.refl W).alloc (.cells #[.bool b1,.slice A1 n1 c1,.bool b2,.slice A2 n2 c2,.bool b3,.slice A3 n3 c3,.bool b4,.slice A4 n4 c4] 41);obtain⟨v',w',a,b,c,d⟩:=BF.append_at (P:=Tryz.prog) (x:=(p,q)) (Df.ext h hx) 27 ty i0 _ 128 Tryz.underlying27 hi hz0 hz1 hz2 rfl (by simp[nodig,Ah,Value.cells]) Ab ⟨W.heap.size,0,none⟩ 1
  #[.bool b1,.slice A1 n1 c1,.bool b2,.slice A2 n2 c2,.bool b3,.slice A3 n3 c3,.bool b4,.slice A4 n4 c4] rfl (hq.ext hx) hB.news (by simp[Value.oneCell']) (by simp[nodig,Ah]) (by simp only[maxLen];omega) Aa (Nat.le_trans hb hx.size) (fun _ _ _ k hq=>J2.kd hq k)
 refine⟨v',w',a,b,(Ch.of_ext hx).trans c,fun g hg=>?_⟩;rcases d g hg with q | q
 ·exact .inl q
 ·right;have:=hx.size;omega
set_option maxRecDepth 20000 in
theorem Ud(a:World)(v:Value)(W:Nat->Rat)(P Q:Rat)(base S D M K N aP:Nat)(hv:JX base 23 a v W)(hC:GR W S D M)(hK:Nq W (pd W) K)(hPQ:P < Q)(hP:qsz P<=aP)(hQ:qsz Q<=aP)
  (hdeep:∀ d p q,Hp.Node P Q d p q->N<=d->rc W p q<=1) (h0:∀ d p q,Hp.Node P Q d p q->0<=rc W p q) (ht:1+D*(M+(3*aP+N+4)+1)+M+(3*aP+N+4)+1<=100000000000) :
  ∀(n d:Nat) (p q:Rat) (u o:Value) (l:List (Rat×Rat)) (w:World),Hp.Node P Q d p q->N<=n+d->d<=N->Ext a w->KU w u p q->Df a.heap.size 41 w o l->l.length+(iso (rc W) n p q).length<=1000 ->
   Calls Tryz.prog 19 #[v,o,u] w (RV a.heap.size 41 w o (l ++ iso (rc W) n p q)):=by
 intro nn;induction nn using Nat.strongRecOn with
 | _ nn ih =>
  intro d p q u o l w hn hN hd hx hu ho hl;obtain⟨hp,hq⟩:=hn.qsz hP hQ;have hin:∀ X (x:Ext w X) y z,BI X y p->BI X z q->Be 26 #[v,y,z] X (fun r _=>r = .int .i64 (rc W p q)):=fun X x y z hy hz=>by
   have:=Ui v y z W p q base S D M (3*aP+N+4) K X (hv.ext (hx.trans x)) hy hz hC hK Aa Aa Aa;have e:((V (FO W (pd W) K) p:Nat):Int) - (V (FO W (pd W) K) q:Nat)=rc W p q:=GG hK p q;rw[e]at this;exact this
  obtain⟨A0,n0,c0,rfl⟩:=hv.cell;have hu':=hu;obtain⟨d1,A1,n1,c1,d2,A2,n2,c2,d3,A3,n3,c3,d4,A4,n4,c4,rfl,hu1,hu2⟩:=hu;obtain⟨Ao,co,rfl⟩:=ho.len;obtain⟨R,hR⟩:∃ R,R=rc W p q:=⟨_,rfl⟩
  have hR0:=h0 d p q hn;have hRd:=hdeep d p q hn;rw[<-hR]at hin hR0 hRd;have HC:=Ad (Au hin (Au hu1 (Au hu2 (Au hR (Au ho (Au hu' hx))))));clear hin hu1 hu2 hR ho hu' hx
  go_enter Tryz.func19,Tryz.ntmps19
  obtain⟨W1,eW1,ec,y1⟩:=AX.made w 54 #[.slice A0 n0 c0] (by simp[Ah]);obtain⟨W2,eW2,ea,y2⟩:=AX.made W1 41 #[.bool d1,.slice A1 n1 c1,.bool d2,.slice A2 n2 c2,.bool d3,.slice A3 n3 c3,.bool d4,.slice A4 n4 c4] (by simp[Ah]);have s1:W1.heap.size=w.heap.size+1:=by rw[eW1,World.size_alloc]
  rw[s1]at ea;have hx:=y1.trans y2;replace ec:=ec.ext y2
  go_upto_region 1 with(fail)
  rw[<-eW1,<-eW2];clear eW1 eW2 y1 y2 s1;obtain⟨cea0,cea1,cea2,cea3,cea4,cea5,cea6,cea7⟩:=ea.cells8;have fea:=ea.frozen;have cec0:=ec.cells1
  go_wp2_with fail
  refine AQ (HC.out.1 _ hx _ _ (HC.out.2.1.ext hx) (HC.out.2.2.1.ext hx)) ?_;rintro r4 w4 rfl hx4;clear cea0 cea1 cea2 cea3 cea4 cea5 cea6 cea7 fea cec0;replace ea:=ea.ext hx4;replace ec:=ec.ext hx4;replace hx:=hx.trans hx4;clear hx4;have fin0:R=0->RV a.heap.size 41 w (.slice Ao l.length co) (l ++ iso (rc W) nn p q) (.returned (.slice Ao l.length co)) w4:=fun h=>by
   rw[I9 (by rw[<-HC.out.2.2.2.1];exact h),List.append_nil];exact⟨_,rfl,HC.out.2.2.2.2.1.ext hx,Ch.of_ext hx,fun g hg => .inl hg⟩
  have H0:=Ad fin0;clear fin0;by_cases hz:R=0
  ·have hb:(R==0)=true:=by simpa using hz
   have HF:=Ad (H0.out hz);clear hz;go_wp2
   go_ret
   exact HF.out
  clear H0;have hb0:(R==0)=false:=by simpa using hz
  by_cases hone:R=1
  ·have hb1:(R==1)=true:=by simpa using hone
   have H1:=Ad hone;have hl9:l.length<=1000000:=by omega
   clear hone hz hl;have hsz4:=hx.size;have has:=HC.out.2.2.2.2.2.2.size;obtain⟨cea0,cea1,cea2,cea3,cea4,cea5,cea6,cea7⟩:=ea.cells8;have fea:=ea.frozen
   go_wp2_with fail
   refine AQ (VQ _ _ p q _ (HC.out.2.1.ext hx) (HC.out.2.2.1.ext hx)) ?_;rintro r5 w5 hr5 hx5;have hx6:=hx.trans hx5;clear cea0 cea1 cea2 cea3 cea4 cea5 cea6 cea7 fea ea ec hx5 hx;obtain⟨e1,B1,m1,k1,e2,B2,m2,k2,e3,B3,m3,k3,e4,B4,m4,k4,rfl⟩:=hr5.cells;have H5:=Ad hr5;clear hr5;have hsz5:=hx6.size
   go_wp2_with (at_builtin;refine BO rfl _ _ 27 rfl (.slice Ao l.length co) (.slice (some ⟨w5.heap.size,0,none⟩) 1 1) rfl rfl (V4 w5 a.heap.size _ _ _ l p q (HC.out.2.2.2.2.1.ext hx6) H5.out hl9 Aa rfl) ?_)
   intro v' w7 hown U hat;have HF:RV a.heap.size 41 w (.slice Ao l.length co) (l ++ iso (rc W) nn p q) (.returned v') w7:=by
    rw[GH (by rw[<-HC.out.2.2.2.1];exact H1.out)];exact⟨_,rfl,hown,(Ch.of_ext hx6).trans U,fun g hg=>(hat g hg).imp id fun q=>Aa⟩
   have HF:=Ad HF;clear hown U hat;go_wp2
   go_ret
   exact HF.out
  ·have hb1:(R==1)=false:=by simpa using hone
   have hR2:2<=R:=by omega
   have hdN:d < N:=by
    rcases Nat.lt_or_ge d N with q | q
    ·exact q
    ·have:=hRd q;omega
   obtain⟨n,rfl⟩:∃ n,nn=n+1:=⟨nn - 1,Aa⟩
   replace ih:=ih n Aa;obtain⟨m,hm⟩:∃ m,m=(p+q) / 2:=⟨_,rfl⟩
   have hiso:iso (rc W) (n+1) p q=iso (rc W) n p m ++ iso (rc W) n m q:=by
    rw[hm];exact K5 (by rw[<-HC.out.2.2.2.1];exact hz) (by rw[<-HC.out.2.2.2.1];exact hone)
   obtain⟨n1',n2'⟩:=hn.half;rw[<-hm]at n1' n2';obtain⟨hmq,-⟩:=n2'.qsz hP hQ;have hmid:∀ X (x:Ext w X),Be 42 #[.agg #[.bool d1,.slice A1 n1 c1,.bool d2,.slice A2 n2 c2,.bool d3,.slice A3 n3 c3,.bool d4,.slice A4 n4 c4]] X (fun r w'=>Cb w' r m):=fun X x=>by
    have:=PM _ p q (3*aP+N+4) X (HC.out.2.2.2.2.2.1.ext x) Aa Aa Aa;rw[<-hm]at this;exact this
   have HM:=Ad (Au hmid (Au hiso (Au n1' (Au n2' (show qsz m<=274877906944 by omega)))));clear hmid hiso n1' n2' hmq hm;have HL:=Ad hl;clear hR0 hRd hz hone hl hp hq hn hR2;obtain⟨cea0,cea1,cea2,cea3,cea4,cea5,cea6,cea7⟩:=ea.cells8;have fea:=ea.frozen
   go_wp2_with fail
   refine AQ (HM.out.1 _ hx) ?_;rintro r5 w5 hr5 hx5;obtain⟨e1,B1,m1,k1,e2,B2,m2,k2,rfl⟩:=hr5.cells;clear cea0 cea1 cea2 cea3 cea4 cea5 cea6 cea7 fea;replace ea:=ea.ext hx5;replace ec:=ec.ext hx5;replace hx:=hx.trans hx5;clear hx5;obtain⟨W6,eW6,em,y6⟩:=AX.made w5 39 #[.bool e1,.slice B1 m1 k1,.bool e2,.slice B2 m2 k2] (by simp[Ah]);have hmm:=(hr5.ext y6).has HM.out.2.2.2.2;have hgm:=ea.lt;replace ea:=ea.ext y6
   replace ec:=ec.ext y6;replace hx:=hx.trans y6;clear y6
   go_upto_region 7 with(fail)
   rw[<-eW6];clear eW6 hr5;generalize w5.heap.size=gm at *;have HX:=Ad (Au hmm hx);clear hmm;have hos:∀ g∈blk (.slice Ao l.length co),g < w.heap.size:=fun g hg=>(BF.blk_ge HC.out.2.2.2.2.1 g hg).2;have HO:=Ad hos;clear hos;have hsz6:=hx.size;have ha6:=HC.out.2.2.2.2.2.2.size;have hlen:(iso (rc W) n p m).length+(iso (rc W) n m q).length+l.length<=1000:=by
    have h1:=HL.out;rw[HM.out.2.1,List.length_append]at h1;omega
   have HLn:=Ad hlen;clear hlen;have hcall1:∀ X,Ext W6 X->Calls Tryz.prog 19 #[.agg #[.slice A0 n0 c0],.slice Ao l.length co,.agg #[.bool d1,.slice A1 n1 c1,.bool d2,.slice A2 n2 c2,.bool e1,.slice B1 m1 k1,.bool e2,.slice B2 m2 k2]] X
     (RV a.heap.size 41 X (.slice Ao l.length co) (l ++ iso (rc W) n p m)):=fun X x =>
    ih (d+1) p m _ _ l X HM.out.2.2.1 Aa Aa (HC.out.2.2.2.2.2.2.trans (HX.out.2.trans x)) ⟨_,_,_,_,_,_,_,_,_,_,_,_,_,_,_,_,rfl,HC.out.2.1.ext (HX.out.2.trans x),HX.out.1.ext x⟩ (HC.out.2.2.2.2.1.ext (HX.out.2.trans x)) (by have:=HLn.out;omega)
   have hcall2:∀ X r,KD W6 X->Ext a X->Df a.heap.size 41 X r (l ++ iso (rc W) n p m)->Calls Tryz.prog 19 #[.agg #[.slice A0 n0 c0],r,.agg #[.bool e1,.slice B1 m1 k1,.bool e2,.slice B2 m2 k2,.bool d3,.slice A3 n3 c3,.bool d4,.slice A4 n4 c4]] X
     (RV a.heap.size 41 X r (l ++ iso (rc W) n p m ++ iso (rc W) n m q)):=fun X r k x hr =>
    ih (d+1) m q _ _ _ X HM.out.2.2.2.1 Aa Aa x ⟨_,_,_,_,_,_,_,_,_,_,_,_,_,_,_,_,rfl,HX.out.1.kd k,(HC.out.2.2.1.ext HX.out.2).kd k⟩ hr (by have:=HLn.out;rw[List.length_append];omega)
   have HK:=Ad (Au hcall1 hcall2);clear hcall1 hcall2;obtain⟨cea0,cea1,cea2,cea3,cea4,cea5,cea6,cea7⟩:=ea.cells8;have fea:=ea.frozen;obtain⟨cem0,cem1,cem2,cem3⟩:=em.cells4;have fem:=em.frozen;have cec0:=ec.cells1;have hkeep:∀(G:List Nat) (X Y:World),Ch G X Y->(∀ g∈G,g < w.heap.size\/W6.heap.size<=g)->(X.cell? ⟨w.heap.size+1,0,none⟩=some (.bool d1)/\X.cell? ⟨w.heap.size+1,1,none⟩=some (.slice A1 n1 c1)/\X.cell? ⟨w.heap.size+1,2,none⟩=some (.bool d2)/\X.cell? ⟨w.heap.size+1,3,none⟩=some (.slice A2 n2 c2)/\X.cell? ⟨w.heap.size+1,4,none⟩=some (.bool d3)/\X.cell? ⟨w.heap.size+1,5,none⟩=some (.slice A3 n3 c3)/\X.cell? ⟨w.heap.size+1,6,none⟩=some (.bool d4)/\X.cell? ⟨w.heap.size+1,7,none⟩=some (.slice A4 n4 c4)/\X.cell? ⟨gm,0,none⟩=some (.bool e1)/\X.cell? ⟨gm,1,none⟩=some (.slice B1 m1 k1)/\X.cell? ⟨gm,2,none⟩=some (.bool e2)/\X.cell? ⟨gm,3,none⟩=some (.slice B2 m2 k2)/\X.cell? ⟨w.heap.size,0,none⟩=some (.slice A0 n0 c0))->(Y.cell? ⟨w.heap.size+1,0,none⟩=some (.bool d1)/\Y.cell? ⟨w.heap.size+1,1,none⟩=some (.slice A1 n1 c1)/\Y.cell? ⟨w.heap.size+1,2,none⟩=some (.bool d2)/\Y.cell? ⟨w.heap.size+1,3,none⟩=some (.slice A2 n2 c2)/\Y.cell? ⟨w.heap.size+1,4,none⟩=some (.bool d3)/\Y.cell? ⟨w.heap.size+1,5,none⟩=some (.slice A3 n3 c3)/\Y.cell? ⟨w.heap.size+1,6,none⟩=some (.bool d4)/\Y.cell? ⟨w.heap.size+1,7,none⟩=some (.slice A4 n4 c4)/\Y.cell? ⟨gm,0,none⟩=some (.bool e1)/\Y.cell? ⟨gm,1,none⟩=some (.slice B1 m1 k1)/\Y.cell? ⟨gm,2,none⟩=some (.bool e2)/\Y.cell? ⟨gm,3,none⟩=some (.slice B2 m2 k2)/\Y.cell? ⟨w.heap.size,0,none⟩=some (.slice A0 n0 c0)):=fun G X Y U hG ⟨a0,a1,a2,a3,a4,a5,a6,a7,b0,b1,b2,b3,c0⟩=>by
    have gl1:=ea.lt;have gl2:=em.lt;have gl3:=ec.lt;have q:∀ g i x,(w.heap.size<=g/\g < W6.heap.size)->X.cell? ⟨g,i,none⟩=some x->Y.cell? ⟨g,i,none⟩=some x:=fun g i x hg hc=>UC U (fun hm=>by rcases hG g hm with z | z<;>omega) hc;exact⟨q _ _ _ Aa a0,q _ _ _ Aa a1,q _ _ _ Aa a2,q _ _ _ Aa a3,q _ _ _ Aa a4,q _ _ _ Aa a5,q _ _ _ Aa a6,q _ _ _ Aa a7,q _ _ _ Aa b0,q _ _ _ Aa b1,q _ _ _ Aa b2,q _ _ _ Aa b3,q _ _ _ Aa c0⟩
   have HE:=Ad hkeep;clear hkeep;have hS0:W6.cell? ⟨w.heap.size+1,0,none⟩=some (.bool d1)/\W6.cell? ⟨w.heap.size+1,1,none⟩=some (.slice A1 n1 c1)/\W6.cell? ⟨w.heap.size+1,2,none⟩=some (.bool d2)/\W6.cell? ⟨w.heap.size+1,3,none⟩=some (.slice A2 n2 c2)/\W6.cell? ⟨w.heap.size+1,4,none⟩=some (.bool d3)/\W6.cell? ⟨w.heap.size+1,5,none⟩=some (.slice A3 n3 c3)/\W6.cell? ⟨w.heap.size+1,6,none⟩=some (.bool d4)/\W6.cell? ⟨w.heap.size+1,7,none⟩=some (.slice A4 n4 c4)/\W6.cell? ⟨gm,0,none⟩=some (.bool e1)/\W6.cell? ⟨gm,1,none⟩=some (.slice B1 m1 k1)/\W6.cell? ⟨gm,2,none⟩=some (.bool e2)/\W6.cell? ⟨gm,3,none⟩=some (.slice B2 m2 k2)/\W6.cell? ⟨w.heap.size,0,none⟩=some (.slice A0 n0 c0):=⟨cea0,cea1,cea2,cea3,cea4,cea5,cea6,cea7,cem0,cem1,cem2,cem3,cec0⟩
   have hS1:W6.drew.cell? ⟨w.heap.size+1,0,none⟩=some (.bool d1)/\W6.drew.cell? ⟨w.heap.size+1,1,none⟩=some (.slice A1 n1 c1)/\W6.drew.cell? ⟨w.heap.size+1,2,none⟩=some (.bool d2)/\W6.drew.cell? ⟨w.heap.size+1,3,none⟩=some (.slice A2 n2 c2)/\W6.drew.cell? ⟨w.heap.size+1,4,none⟩=some (.bool d3)/\W6.drew.cell? ⟨w.heap.size+1,5,none⟩=some (.slice A3 n3 c3)/\W6.drew.cell? ⟨w.heap.size+1,6,none⟩=some (.bool d4)/\W6.drew.cell? ⟨w.heap.size+1,7,none⟩=some (.slice A4 n4 c4)/\W6.drew.cell? ⟨gm,0,none⟩=some (.bool e1)/\W6.drew.cell? ⟨gm,1,none⟩=some (.slice B1 m1 k1)/\W6.drew.cell? ⟨gm,2,none⟩=some (.bool e2)/\W6.drew.cell? ⟨gm,3,none⟩=some (.slice B2 m2 k2)/\W6.drew.cell? ⟨w.heap.size,0,none⟩=some (.slice A0 n0 c0):=HE.out [] W6 W6.drew (Ch.of_ext (Ext.refl W6).drew) (fun g hg=>by cases hg) hS0
   clear hS0 cea0 cea1 cea2 cea3 cea4 cea5 cea6 cea7 cem0 cem1 cem2 cem3 cec0 fea fem;clear ih hC hK hPQ hP hQ hdeep h0 ht hN hd hdN hv
   go_region_held3 (fun w'=>w'.cell? ⟨w.heap.size+1,0,none⟩=some (.bool d1)/\w'.cell? ⟨w.heap.size+1,1,none⟩=some (.slice A1 n1 c1)/\w'.cell? ⟨w.heap.size+1,2,none⟩=some (.bool d2)/\w'.cell? ⟨w.heap.size+1,3,none⟩=some (.slice A2 n2 c2)/\w'.cell? ⟨w.heap.size+1,4,none⟩=some (.bool d3)/\w'.cell? ⟨w.heap.size+1,5,none⟩=some (.slice A3 n3 c3)/\w'.cell? ⟨w.heap.size+1,6,none⟩=some (.bool d4)/\w'.cell? ⟨w.heap.size+1,7,none⟩=some (.slice A4 n4 c4)/\w'.cell? ⟨gm,0,none⟩=some (.bool e1)/\w'.cell? ⟨gm,1,none⟩=some (.slice B1 m1 k1)/\w'.cell? ⟨gm,2,none⟩=some (.bool e2)/\w'.cell? ⟨gm,3,none⟩=some (.slice B2 m2 k2)/\w'.cell? ⟨w.heap.size,0,none⟩=some (.slice A0 n0 c0))
    (first | (exact HE.out _ _ _ U2 hG2 (by assumption)) | (exact HE.out _ _ _ U1 hG1 (by assumption)) | (exact hS1))
    ((first
     | (have hU1:=U1;clear hU1;go_at_call 19;refine Calls.mono (HK.out.2 _ _ (((KD.refl W6).drew).trans U1.kd) (U1.from_ (HC.out.2.2.2.2.2.2.trans hx).drew fun g hg=>(BF.blk_ge HC.out.2.2.2.2.1 g hg).1) hown1) ?_;rintro e w2 ⟨r2,rfl,hown2,U2,hat2⟩;have hG2:∀ g∈blk r1,g < w.heap.size\/W6.heap.size<=g:=fun g hg=>(hat1 g hg).imp (HO.out g) id)
     | (go_at_call 19;refine Calls.mono (HK.out.1 W6.drew (Ext.refl W6).drew) ?_;rintro e w1 ⟨r1,rfl,hown1,U1,hat1⟩;have hG1:∀ g∈blk (.slice Ao l.length co),g < w.heap.size\/W6.heap.size<=g:=fun g hg=>Or.inl (HO.out g hg))))
   have hgm1:w1.heap.size > gm:=by
    have hne:gm∉blk (.slice Ao l.length co):=fun hm=>by have:=HO.out _ hm;omega
    exact(Array.getElem?_eq_some_iff.1 (U1.1 gm _ hne em.1)).1
   have UA:Ch (blk (.slice Ao l.length co)) w w1:=(Ch.of_ext hx.drew).trans U1;have HF:RV a.heap.size 41 w (.slice Ao l.length co) (l ++ iso (rc W) (n+1) p q) (.returned r2) w2:=by
    rw[HM.out.2.1,<-List.append_assoc];refine⟨r2,rfl,hown2,UA.new_trans U2 fun g hg=>(hat1 g hg).imp id fun z=>Nat.le_trans hsz6 z,fun g hg=>?_⟩;rcases hat2 g hg with z | z
    ·exact(hat1 g z).imp id fun z=>Nat.le_trans hsz6 z
    ·right;omega
   have HFF:=Ad HF;clear HF UA hown1 hown2 U1 U2 hat1 hat2 hG1 hG2;go_wp2
   go_ret
   exact HFF.out
set_option maxRecDepth 20000 in
theorem Zf(v:Value)(q:Rat)(w:World)(hv:BI w v q)(hs:qsz q<=274877906944):Be 74 #[v] w (fun r w'=>Cb w' r (ab q)):=by
 have HV:=Ad hv;obtain⟨b,B,m1,e1,b',B',m1',e1',x0,y0,rfl,-⟩:=hv.form;clear hv;have hsn:sz q.num.natAbs<=274877906944:=by have:=Fs q;omega
 have HS:=Ad hsn;clear hs hsn
 go_enter Tryz.func74,Tryz.ntmps74
 obtain⟨W1,eW1,ea,y1⟩:=AX.made w 39 #[.bool b,.slice B m1 e1,.bool b',.slice B' m1' e1'] (by simp[Ah]);obtain⟨W2,eW2,ez,y2⟩:=AX.made W1 39 #[.bool false,.slice none 0 0,.bool false,.slice none 0 0] (by simp[Ah]);have s1:W1.heap.size=w.heap.size+1:=by rw[eW1,World.size_alloc]
 rw[s1]at ez;have hx:=y1.trans y2;replace ea:=ea.ext y2
 go_upto_region 1 with(fail)
 rw[<-eW1,<-eW2];clear eW1 eW2 y1 y2 s1;have cea:=ea.cells4;have fea:=ea.frozen
 go_wp2_with fail
 refine AQ (Gc _ q _ (HV.out.ext hx)) ?_;rintro r3 w3 hr3 hx3;obtain⟨b5,A5,n5,c5,b6,A6,n6,c6,rfl⟩:=hr3.cells;clear cea fea;replace ea:=ea.ext hx3;replace ez:=ez.ext hx3;replace hx:=hx.trans hx3;clear hx3;have cea:=ea.cells4;have fea:=ea.frozen
 go_upto_region 2 with(fail)
 obtain⟨W4,eW,ea',U⟩:=ea.put4 (.bool b5) (.slice A5 n5 c5) (.bool b6) (.slice A6 n6 c6);rw[<-eW];clear eW ea;replace hr3:=hr3.kd U.kd;replace ez:=ez.upd U Aj;replace hx:=U.from_ hx Aj;have ea:=ea';clear U ea';have hnd:AR W4 (.agg #[.bool b5,.slice A5 n5 c5]) q.num/\AR W4 (.agg #[.bool b6,.slice A6 n6 c6]) (q.den:Nat):=by
  obtain⟨_,_,_,_,_,_,_,_,e,h1,h2⟩:=hr3;cases e;exact⟨h1,h2⟩
 have HN:=Ad hnd;clear hnd hr3;clear cea fea;have cea:=ea.cells4;have fea:=ea.frozen
 go_wp2_with fail
 refine AQ (cZ _ q.num _ (HN.out.1.has (by have:=HS.out;omega))) ?_;rintro r5 w5 hr5 hx5;obtain⟨b7,A7,n7,c7,rfl⟩:=hr5.cells;have HD:=Ad (Au hr5 (HN.out.2.ext hx5));clear cea fea HN hr5;replace ea:=ea.ext hx5;replace ez:=ez.ext hx5;replace hx:=hx.trans hx5;clear hx5;have cea:=ea.cells4;have fea:=ea.frozen
 go_upto_region 3 with(fail)
 obtain⟨W6,eW6,ea',U⟩:=ea.put42 (.bool b7) (.slice A7 n7 c7) rfl rfl;rw[<-eW6];have HE:=Ad (Au (HD.out.1.kd U.kd) (HD.out.2.kd U.kd));replace ez:=ez.upd U Ac;replace hx:=U.from_ hx Ac;clear eW6 ea cea fea HD U;have ea:=ea';clear ea';have cea:=ea.cells4;have fea:=ea.frozen;have cez:=ez.cells4;have fez:=ez.frozen;have hq:Cb W6 (.agg #[.bool b7,.slice A7 n7 c7,.bool b6,.slice A6 n6 c6]) (ab q):=by
  obtain⟨h1,h2⟩:=bC q;exact⟨_,_,_,_,_,_,_,_,rfl,by rw[h1];exact HE.out.1,by rw[h2];exact HE.out.2⟩
 have Hq:=Ad hq;clear hq HE;go_wp2;have hr:=Hq.out;obtain⟨W8,eW,ez',U⟩:=ez.put4 (.bool b7) (.slice A7 n7 c7) (.bool b6) (.slice A6 n6 c6);rw[<-eW];clear eW ez;replace hr:=hr.kd U.kd;replace hx:=U.from_ hx Aj;have ez:=ez';clear U ez';clear cez fez;have cez:=ez.cells4;have fez:=ez.frozen;refine bodyPost_ret (v := .agg #[.bool b7,.slice A7 n7 c7,.bool b6,.slice A6 n6 c6]) (by simp[results,Tryz.results74,go_sem,cez]) rfl ?_
 exact Ag.mk hr hx
set_option maxRecDepth 20000 in
theorem Ym(v:Value)(F:Nat->Rat)(s:Nat)(w:World)(hv:AJ 0 w v F)(zF:ZI F)(fF:Ae F)(h0:F≠pz)(hs:∀ i,qsz (F i)<=s)(hs9:s<=1000000)(hn:pl F<=1000) :
  Be 44 #[v] w (fun r w'=>∃ j,P2 (Gj F (pl F - 1)+1) j/\AR w' r (2^j)):=by
 have hp:=AO fF h0;obtain⟨A,c,l,rfl,k1,k2,hA,k3,k4,k5⟩:=hv.form;have HA:=Ad (Au hA (Au k3 k5));clear hA k3 k4 k5 hv
 go_enter Tryz.func44,Tryz.ntmps44
 obtain⟨W1,eW1,ez,y1⟩:=AX.made w 37 #[.bool false,.slice none 0 0] (by simp[Ah])
 go_upto_region 1 with(fail)
 rw[<-eW1];clear eW1;have hx:=y1
 go_wp2_with fail
 refine AQ (VN 1 _ Aa Aa) ?_;rintro r2 w2 hr2 hx2;obtain⟨b5,A5,n5,c5,b6,A6,n6,c6,rfl⟩:=hr2.cells;replace ez:=ez.ext hx2;replace hx:=hx.trans hx2;clear hx2;obtain⟨W3,eW3,el,y3⟩:=AX.made w2 39 #[.bool b5,.slice A5 n5 c5,.bool b6,.slice A6 n6 c6] (by simp[Ah]);have hl:=DR.mk el (hr2.ext y3);have hgl:=ez.lt;replace ez:=ez.ext y3;replace hx:=hx.trans y3;clear y3;clear hr2 el
 go_upto_region 2 with(fail)
 rw[<-eW3];clear eW3;generalize w2.heap.size=gl at *;have hld:ld F=(l[pl F - 1]'(by have:=HA.out.2.1;omega):Rat):=by rw[<-Dx,HA.out.2.2];rfl
 have hls:=hs (pl F - 1);obtain⟨g,o,b,A2,n2,c2,rfl,h64,q0,q1,hq⟩:=HA.out.1.at_ (j:=pl F - 1) (by have:=HA.out.2.1;omega);have hqh:Br w (.agg #[.bool b,.slice A2 n2 c2]) (l[pl F - 1]'(by have:=HA.out.2.1;omega)):=hq.has (by
  have h1:F (pl F - 1)=(l[pl F - 1]'(by have:=HA.out.2.1;omega):Rat):=hld;rw[h1,Bp]at hls;omega)
 have hqq:qsz ((l[pl F - 1]'(by have:=HA.out.2.1;omega):Rat))<=274877906944:=by
  have h1:F (pl F - 1)=(l[pl F - 1]'(by have:=HA.out.2.1;omega):Rat):=hld;rw[h1]at hls;omega
 obtain⟨y,hy⟩:∃ y,y=(l[pl F - 1]'(by have:=HA.out.2.1;omega)):=⟨_,rfl⟩
 rw[<-hy]at hld hqh hqq;have HQ:=Ad (Au hqh (Au hqq hld));clear hqh hqq hld hy hq hls;replace q0:=hx.cell q0;replace q1:=hx.cell q1
 go_wp2_with fail
 refine AQ (Gr _ y _ (HQ.out.1.ext hx)) ?_;rintro r4 w4 hr4 hx4;clear q0 q1;replace ez:=ez.ext hx4;replace hl:=hl.ext hx4;replace hx:=hx.trans hx4;clear hx4
 go_wp2_with fail
 refine AQ (Zf _ _ _ (hr4.has HQ.out.2.1) HQ.out.2.1) ?_;rintro r5 w5 hr5 hx5;obtain⟨b7,A7,n7,c7,b8,A8,n8,c8,rfl⟩:=hr5.cells;replace ez:=ez.ext hx5;replace hl:=hl.ext hx5;replace hx:=hx.trans hx5;clear hx5;obtain⟨W6,eW6,ed,y6⟩:=AX.made w5 39 #[.bool b7,.slice A7 n7 c7,.bool b8,.slice A8 n8 c8] (by simp[Ah]);have hd:=DR.mk ed (hr5.ext y6);rw[<-HQ.out.2.2]at hd;have hgd:=hl.lt;replace ez:=ez.ext y6;replace hl:=hl.ext y6
 replace hx:=hx.trans y6;clear y6;clear hr4 hr5 ed
 go_upto_region 3 with(fail)
 rw[<-eW6];clear eW6;generalize w5.heap.size=gd at *;obtain⟨N,hN⟩:∃ N,pl F=N+1:=⟨pl F - 1,Aa⟩
 have e1:Gj F 0+1=((1:Int):Rat):=by show(0:Rat)+1=1;grind
 rw[<-e1]at hl;have HN:=Ad hN;rw[hN]at hn k1 ⊢;rw[Nat.add_sub_cancel,show(((N+1:Nat):Int))=(N:Int)+1 from Aa,show((N:Int)+1 - 1)=(N:Int)from by omega];clear hN hp e1;go_wp2
 go_loopw [25] (fun iv wr=>∃ i:Nat,i<=N/\iv = .int .i64 (i:Nat)/\DR wr gl 39 (Gj F i+1)/\DR wr gd 39 (ab (ld F))/\AX wr w.heap.size 37 #[.bool false,.slice none 0 0]/\Ext w wr) (fun iv _=>N - (intOf iv).toNat)
 case atStart=>exact⟨0,Aa,rfl,hl,hd,ez,hx⟩
 case round =>
  clear hl hd ez hx;obtain⟨i,hi,rfl,hl,hd,ez,hx⟩:=hrel;by_cases hiN:i < N
  ·have hls:=hs i
   have hlt:i < l.length:=by have:=HA.out.2.1;have:=HN.out;omega
   have hli:F i=(l[i]:Rat):=by rw[<-Dx hlt,HA.out.2.2]
   obtain⟨g',o',b3,A3,n3,c3,e3,-,q0,q1,hq⟩:=HA.out.1.at_ hlt;cases e3;have hqh:Br w (.agg #[.bool b3,.slice A3 n3 c3]) l[i]:=hq.has (by rw[hli,Bp]at hls;omega);have hqq:qsz (l[i]:Rat)<=s:=by rw[hli]at hls;exact hls
   obtain⟨yi,hy⟩:∃ y,y=l[i]:=⟨_,rfl⟩
   rw[<-hy]at hli hqh hqq;have HI:=Ad (Au hqh (Au hqq hli));clear hqh hqq hli hy hq hls hlt;replace q0:=hx.cell q0;replace q1:=hx.cell q1;obtain⟨W7,eW7,e6,y7⟩:=AX.made wr 37 #[.bool b3,.slice A3 n3 c3] (by simp[Ah])
   go_upto_region 6 with(fail)
   rw[<-eW7];clear eW7 q0 q1;have hg6:=ez.lt;replace ez:=ez.ext y7;replace hl:=hl.ext y7;replace hd:=hd.ext y7;replace hx:=hx.trans y7;clear y7;generalize wr.heap.size=g6 at *;have HDq:=Ad hd;obtain⟨b9,A9,n9,c9,b10,A10,n10,c10,ed,hdq⟩:=hd;have hqa:qsz (ab (ld F))<=274877906944:=by rw[ML];have:qsz (ld F)<=s:=hs _;omega
   have hqi:qsz (ab (yi:Rat))<=274877906944:=by rw[ML];have:=HI.out.2.1;omega
   have hne:ab (ld F)≠0:=fun e=>CX fF h0 (Td.1 e);have HB:=Ad (Au (hdq.has hqa) (Au hqi hne));clear hqa hqi hne;have hgd2:=ed.lt;have ce6:=e6.cells2;have fe6:=e6.frozen;have ced:=ed.cells4;have fed:=ed.frozen
   go_cut [7,8] (fun pv ev wx=>∃ gc,pv = .pointer (some ⟨gc,0,none⟩)/\ev = .int .i64 0/\DR wx gc 39 (ab (yi:Rat) / ab (ld F))/\W7.heap.size<=gc/\Ext W7 wx)
   case first =>
    refine BC 9 [7] (fun x=>10) [30,31,32,33,34,29,35,36,7] [[],[0],[0,1],[],[0,1,2,3],[0,1,2,3,4],[0,1,2,3,4,5],[0,1,2,3,4,5],[],[0,1,2,3,4,5,6,8],[0,1,2,3,4,5,6,7,8,9]] [6,4] [_,_] [(kv ?_),(fun γ=>γ 1),(fun γ=>γ 2),(kv ?_),(fun γ=>γ 4),(fun γ=>γ 4),(fun γ=>γ 6),(kv ?_),(fun γ=>γ 8)] (fun γ w'=>[True,Cb w' (γ 1) (yi:Rat),Cb w' (γ 2) (ab (yi:Rat)),True,Jh w' (γ 4) (ab (yi:Rat) / ab (ld F)),True,Cb w' (γ 6) (ab (yi:Rat) / ab (ld F)),True,Bi w' (γ 8) W7.heap.size #[.bool false,.slice none 0 0,.bool false,.slice none 0 0] 39]) Ns Cf Cf Cf Cf Cf Ph Cf Nv ?m1 ?s1 ?_ ?l1
    case s1 =>
     iterate 9 refine⟨?_,?_⟩
     trivial
     iterate 1 focus
      refine Bf fun _ w' he R hR=>?_;have hc:=he.cells;have cq0:=(e6.ext he).cells2;have cq1:=(ed.ext he).cells4;go_simp;exact BV hR
     ·refine Bf fun _ w' he R hR=>?_
      go_simp;exact BG (Gr _ yi w' (HI.out.1.ext (hx.trans he))) hR
     ·refine Gp fun γ w' he hf R hR=>?_;have f1:Cb w' (γ 1) (yi:Rat):=hf 1 Ab;clear hf
      go_simp;exact BG (Zf _ _ w' (f1.has (by have:=HI.out.2.1;omega)) (by have:=HI.out.2.1;omega)) hR
     iterate 1 focus
      refine Bf fun _ w' he R hR=>?_;have hc:=he.cells;have cq0:=(e6.ext he).cells2;have cq1:=(ed.ext he).cells4;go_simp;exact BV hR
     ·refine Gp fun γ w' he hf R hR=>?_;have f2:Cb w' (γ 2) (ab (yi:Rat)):=hf 2 Ab;clear hf
      go_simp;exact BG (XM _ _ _ _ w' (f2.has HB.out.2.1) (HB.out.1.ext he) HB.out.2.2) hR
     ·refine Bf fun _ w' he R hR=>?_
      have hc:=he.cells;go_simp
      (try go_ints);(try(rw[if_neg Aa]));(try(rw[if_pos Aa]));(try go_simp);(try go_ints)
      exact BV hR
     ·refine Gp fun γ w' he hf R hR=>?_;have f4:Jh w' (γ 4) (ab (yi:Rat) / ab (ld F)):=hf 4 Ab;clear hf
      obtain⟨a,e,ha⟩:=f4;go_simp;exact hR _ _ (Ext.refl _) rfl ha
     ·refine Gp fun γ w' he hf R hR=>?_;have f4:Jh w' (γ 4) (ab (yi:Rat) / ab (ld F)):=hf 4 Ab;clear hf
      obtain⟨a,e,ha⟩:=f4;have hc:=he.cells;go_simp
      (try go_ints);(try(rw[if_neg Aa]));(try(rw[if_pos Aa]));(try go_simp);(try go_ints)
      exact BV hR
     ·refine Bf fun _ w' he R hR=>?_
      go_simp;exact hR _ _ ((Ext.refl _).alloc _) rfl (Bi.mk (Nat.le_trans Ac he.size) (by simp[Ah]))
    case m1 =>
     exact⟨⟨⟨⟨⟨⟨⟨⟨⟨trivial,(fun γ wA w' e h=>h)⟩,(fun γ wA w' e h=>(show Cb wA (γ 1) (yi:Rat)from h).ext e)⟩,(fun γ wA w' e h=>(show Cb wA (γ 2) (ab (yi:Rat))from h).ext e)⟩,(fun γ wA w' e h=>h)⟩,(fun γ wA w' e h=>(show Jh wA (γ 4) (ab (yi:Rat) / ab (ld F))from h).ext e)⟩,(fun γ wA w' e h=>h)⟩,(fun γ w w' e h=>Cb.ext h e)⟩,(fun γ wA w' e h=>h)⟩,(fun γ wA w' e h=>(show Bi wA (γ 8) W7.heap.size #[.bool false,.slice none 0 0,.bool false,.slice none 0 0] 39 from h).ext e)⟩
    case l1 =>
     intro Pn hPs hPn;obtain rfl:=J3 hPs hPn;clear hPs hPn
     ·intro γ w8 hx8 hF hA
      clear hA;have p1:Cb w8 (γ 1) (yi:Rat):=(AB.get hF 1 Ab).resolve_left Ab;have p2:Cb w8 (γ 2) (ab (yi:Rat)):=(AB.get hF 2 Ab).resolve_left Ab;have p4:Jh w8 (γ 4) (ab (yi:Rat) / ab (ld F)):=(AB.get hF 4 Ab).resolve_left Ab;have p6:Cb w8 (γ 6) (ab (yi:Rat) / ab (ld F)):=(AB.get hF 6 Ab).resolve_left Ab;have p8:Bi w8 (γ 8) W7.heap.size #[.bool false,.slice none 0 0,.bool false,.slice none 0 0] 39:=(AB.get hF 8 Ab).resolve_left Ab
      clear hF;show AC _ _ _ _ 3 [7] 9 _ _;simp only[Bu,Nat.reduceAdd,Cq,Xj];generalize γ 1=g1 at *;generalize γ 2=g2 at *;generalize γ 4=g4 at *;generalize γ 6=g6 at *;generalize γ 8=g8 at *;clear γ;obtain⟨a4,rfl,-⟩:=p4;obtain⟨gc,rfl,hgc,ec⟩:=p8;obtain⟨bx,Ax,nx',cx,by',Ay,ny,cy,rfl⟩:=p6.cells;clear ce6 ced p1 p2;have cec:=ec.cells4;have fec:=ec.frozen
      repeat' first
       | (refine AC.nil ?_;simp only[IG];go_wp2;done)
       | (refine AC.nil ?_;(try simp only[IG]);go_wp2)
       | (refine AC.mk _ ⟨?_,trivial⟩ (fun h=>?_)<;>first | exact absurd h Ab | ((try clear h);simp only[D6,IG];go_wp2;first | show AC _ _ _ _ _ [7] _ _ _ | show AC _ _ _ _ _ [] _ _ _))
      all_goals
       skip;obtain⟨W9,eW,ec',U⟩:=ec.put4 (.bool bx) (.slice Ax nx' cx) (.bool by') (.slice Ay ny cy);rw[<-eW];clear eW ec;replace p6:=p6.kd U.kd;replace hx8:=U.from_ hx8 Aj;have ec:=ec';clear U ec'
       go_meet
       case rel=>exact⟨gc,rfl,rfl,DR.mk ec p6,hgc,hx8⟩
    intro γ w8 hx8 hF hA;clear hA;have p1:Cb w8 (γ 1) (yi:Rat):=AB.get hF 1 Ab;have p2:Cb w8 (γ 2) (ab (yi:Rat)):=AB.get hF 2 Ab;have p4:Jh w8 (γ 4) (ab (yi:Rat) / ab (ld F)):=AB.get hF 4 Ab;have p6:Cb w8 (γ 6) (ab (yi:Rat) / ab (ld F)):=AB.get hF 6 Ab;have p8:Bi w8 (γ 8) W7.heap.size #[.bool false,.slice none 0 0,.bool false,.slice none 0 0] 39:=AB.get hF 8 Ab;clear hF;simp only[Bu,Nat.reduceAdd]
    generalize γ 1=g1 at *;generalize γ 2=g2 at *;generalize γ 4=g4 at *;generalize γ 6=g6 at *;generalize γ 8=g8 at *;clear γ;obtain⟨a4,rfl,-⟩:=p4;obtain⟨gc,rfl,hgc,ec⟩:=p8;obtain⟨bx,Ax,nx',cx,by',Ay,ny,cy,rfl⟩:=p6.cells;clear ce6 ced p1 p2;have cec:=ec.cells4;have fec:=ec.frozen;go_wp2;skip;obtain⟨W9,eW,ec',U⟩:=ec.put4 (.bool bx) (.slice Ax nx' cx) (.bool by') (.slice Ay ny cy);rw[<-eW];clear eW ec
    replace p6:=p6.kd U.kd;replace hx8:=U.from_ hx8 Aj;have ec:=ec';clear U ec'
    go_meet
    case rel=>exact⟨gc,rfl,rfl,DR.mk ec p6,hgc,hx8⟩
   case rest =>
   clear ce6 ced fe6 fed e6 ed hdq;obtain⟨gc,rfl,rfl,hcq,hgc,hx8⟩:=hcut;have hd:DR W7 gd 39 (ab (ld F)):=HDq.out;have hgl7:=hl.lt;have hgd7:=hd.lt;have hez7:=ez.lt;replace ez:=ez.ext hx8;replace hl:=hl.ext hx8;replace hd:=hd.ext hx8;replace hx:=hx.trans hx8;clear hx8;obtain⟨bx,Ax,nx',cx,by',Ay,ny,cy,ec,hcz⟩:=hcq;have hqq:qsz (ab (yi:Rat) / ab (ld F))<=4*s+4:=by
    have h1:=Im (ab (yi:Rat)) (ab (ld F));have h2:qsz (ld F)<=s:=hs _;rw[ML,ML]at h1;have:=HI.out.2.1;omega
   have HZ:=Ad (Au (hcz.has Aa) hqq);clear hcz hqq;have cec:=ec.cells4;have fec:=ec.frozen
   go_upto_region 7 with(fail)
   refine Er 2 [37,38] [7] [_] [(kv ?_),(fun γ=>γ 1)] (fun γ w'=>[True,Cb w' (γ 1) ((1:Int):Rat)]) ?s2 ?_
   case s2 =>
    iterate 2 refine⟨?_,?_⟩
    trivial
    iterate 1 focus
     refine Bf fun _ w' he R hR=>?_;have hc:=he.cells;have cq0:=(ec.ext he).cells4;go_simp;exact BV hR
    ·refine Bf fun _ w' he R hR=>?_
     go_simp;exact BG (VN 1 w' Aa Aa) hR
   intro γ w10 hx10 hF;have p1:Cb w10 (γ 1) ((1:Int):Rat):=AB.get hF 1 Ab;clear hF;simp only[Bu,Nat.reduceAdd];generalize γ 1=g1 at *;clear γ
   go_wp2_with fail
   refine AQ (TL _ _ (ab (yi:Rat) / ab (ld F)) ((1:Int):Rat) _ (HZ.out.1.ext hx10) (p1.has Ab)) ?_;rintro r11 w11 hr11 hx11;obtain⟨bz,Az,nz,cz',bw,Aw,nw,cw,rfl⟩:=hr11.cells;have x1011:=hx10.trans hx11;clear p1 cec fec;replace ez:=ez.ext x1011;replace hl:=hl.ext x1011;replace hd:=hd.ext x1011;replace ec:=ec.ext x1011;replace hx:=hx.trans x1011;clear x1011;clear hx10 hx11;have cec:=ec.cells4;have fec:=ec.frozen
   go_upto_region 8 with(fail)
   obtain⟨W12,eW,ec',U⟩:=ec.put4 (.bool bz) (.slice Az nz cz') (.bool bw) (.slice Aw nw cw);rw[<-eW];clear eW ec;replace hr11:=hr11.kd U.kd;replace ez:=ez.upd U Aj;replace hl:=hl.upd U Aj;replace hd:=hd.upd U Aj;replace hx:=U.from_ hx Aj;have ec:=ec';clear U ec';obtain⟨bl,Al,nl,cl,bl',Al',nl',cl',el,hlz⟩:=hl;have hqx:qsz (ab (yi:Rat) / ab (ld F)+((1:Int):Rat))<=4*s+8:=by
    have h1:=EW (ab (yi:Rat) / ab (ld F)) ((1:Int):Rat);have h2:qsz (((1:Int):Rat))=1:=by decide
    have h3:=HZ.out.2;omega
   have hql:qsz (Gj F i+1)<=2*s+8:=by
    have h1:=EW (Gj F i) 1;have h2:qsz (1:Rat)=1:=by decide
    have h3:=Ls hs (Nat.le_trans (Dh (F 0)) (hs 0)) i;omega
   have HX:=Ad (Au (hr11.has Aa) (Au (hlz.has Aa) (show qsz (ab (yi:Rat) / ab (ld F)+((1:Int):Rat))+qsz (Gj F i+1) < 274877906944 by omega)));clear hqx hql;have HR:=Ad (Au hr11 hlz);clear hr11 hlz;have cec:=ec.cells4;have fec:=ec.frozen;have cel:=el.cells4;have fel:=el.frozen
   go_wp2_with fail
   refine AQ (KP _ _ _ _ _ HX.out.1 HX.out.2.1 HX.out.2.2) ?_;rintro r13 w13 rfl hx13;clear HX cec fec cel fel;have e13:ab (yi:Rat) / ab (ld F)+((1:Int):Rat) - (Gj F i+1)=ab (F i / ld F) - Gj F i:=by
    rw[Wi,HI.out.2.2];show _+(1:Rat) - _=_;grind
   rw[e13];have hnext:Gj F (i+1)=if Gj F i < ab (F i / ld F)then ab (F i / ld F)else Gj F i:=rfl;replace HR:=Ad (Au (HR.out.1.ext hx13) (HR.out.2.ext hx13));replace ez:=ez.ext hx13;replace hd:=hd.ext hx13;replace ec:=ec.ext hx13;replace el:=el.ext hx13;replace hx:=hx.trans hx13;clear hx13;by_cases hgt:Gj F i < ab (F i / ld F)
   ·have hdec:decide (FW (ab (F i / ld F) - Gj F i) > 0)=true:=by rw[EG,decide_eq_true hgt]
    rw[if_pos hgt]at hnext;have cec:=ec.cells4;have fec:=ec.frozen;have cel:=el.cells4;have fel:=el.frozen
    go_upto_region 10 with(fail)
    have hr13:=HR.out.1;obtain⟨W14,eW,el',U⟩:=el.put4 (.bool bz) (.slice Az nz cz') (.bool bw) (.slice Aw nw cw);rw[<-eW];clear eW el;replace hr13:=hr13.kd U.kd;replace ez:=ez.upd U Aj;replace hd:=hd.upd U Aj;replace hx:=U.from_ hx Aj;have el:=el';clear U el';have hl:=DR.mk el hr13;rw[show ab (yi:Rat) / ab (ld F)+((1:Int):Rat)=Gj F (i+1)+1 from by rw[hnext,Wi,HI.out.2.2];rfl]at hl;clear hdec hnext HR HZ e13 hr13
    go_wp2
    go_roundw
    case rel=>exact⟨i+1,Aa,by go_num,hl,hd,ez,hx⟩
    case measure=>simp[intOf];omega
   ·have hdec:decide (FW (ab (F i / ld F) - Gj F i) > 0)=false:=by rw[EG,decide_eq_false hgt]
    rw[if_neg hgt]at hnext;have hl:=DR.mk el HR.out.2;rw[<-hnext]at hl;clear hnext HR HZ e13;go_wp2
    go_roundw
    case rel=>exact⟨i+1,Aa,by go_num,hl,hd,ez,hx⟩
    case measure=>simp[intOf];omega
  ·obtain rfl:i=N:=by omega
   have ez11:=ez.lt;have hql:qsz (Gj F i+1)<=2*s+8:=by
    have h1:=EW (Gj F i) 1;have h2:qsz (1:Rat)=1:=by decide
    have h3:=Ls hs (Nat.le_trans (Dh (F 0)) (hs 0)) i;omega
   obtain⟨J,hJ,hJ9⟩:∃ J,P2 (Gj F i+1) J/\J<=32*(2*s+8)+1:=P2.qsz (by have:=Fy F i;grind) hql;have HJ:=Ad (Au hJ (show qsz (Gj F i+1)<=3000000 by omega));clear hJ hql;have hJ8:J<=100000000:=by omega
   clear hJ9;obtain⟨rr,hrr⟩:∃ r,r=Gj F i+1:=⟨_,rfl⟩
   rw[<-hrr]at HJ hl;have Hrr:=Ad hrr;clear hrr hi hiN h0 hs hs9 zF fF hd HQ HA
   go_wp2_with fail
   refine AQ (IW 1 _ Aa Aa) ?_;rintro r14 w14 hr14 hx14;obtain⟨b11,A11,n11,c11,rfl⟩:=hr14.cells;replace ez:=ez.ext hx14;replace hl:=hl.ext hx14;replace hx:=hx.trans hx14;clear hx14;obtain⟨W15,eW15,eo,y15⟩:=AX.made w14 37 #[.bool b11,.slice A11 n11 c11] (by simp[Ah]);have ho:=Bt.mk eo (hr14.kd y15.kd);have hgo:=hl.lt;replace ez:=ez.ext y15;replace hl:=hl.ext y15;replace hx:=hx.trans y15;clear y15;clear eo hr14
   go_wp2;rw[<-eW15];clear eW15;generalize w14.heap.size=go at *
   go_loopw [47] (fun _ wr=>∃ j:Nat,j<=J/\Bt wr go 37 (2^j)/\DR wr gl 39 rr/\AX wr w.heap.size 37 #[.bool false,.slice none 0 0]/\Ext w wr) (fun _ wr=>2^(J+1) - eF wr go 37)
   case atStart=>exact⟨0,Aa,ho,hl,ez,hx⟩
   case round =>
    clear ho hl ez hx;obtain⟨j,hj,⟨b7,A7,n7,c7,eo,hoz⟩,⟨bl,Al,nl,cl,bl',Al',nl',cl',el,hlz⟩,ez,hx⟩:=hrel;have Hoz:=Ad (Au hoz (Au eo hlz));clear hoz hlz;have hgl3:=el.lt;have hgo3:=eo.lt;have hjz:sz ((2:Int)^j).natAbs<=1+j:=IL j;have Hjz:=Ad hjz;have hjq:qsz (((2:Int)^j:Int):Rat)<=1+j:=by rw[Bp];omega
    have HS:=Ad (Au (show sz ((2:Int)^j).natAbs<=1099511627776 by omega) (Au (show qsz (((2:Int)^j:Int):Rat)<=274877906944 by omega) (show qsz (((2:Int)^j:Int):Rat)+qsz rr < 274877906944 by have:=HJ.out.2;omega)));clear hjz hjq;have ceo:=eo.cells2;have feo:=eo.frozen;have cel:=el.cells4;have fel:=el.frozen
    go_upto_region 12 with(fail)
    refine Er 3 [47,48,49] [9,3] [_,_] [(kv ?_),(fun γ=>γ 1),(kv ?_)] (fun γ w'=>[True,Cb w' (γ 1) (((2:Int)^j:Int):Rat),True]) ?s3 ?_
    case s3 =>
     iterate 3 refine⟨?_,?_⟩
     trivial
     iterate 1 focus
      refine Bf fun _ w' he R hR=>?_;have hc:=he.cells;have cq0:=(eo.ext he).cells2;have cq1:=(el.ext he).cells4;go_simp;exact BV hR
     ·refine Bf fun _ w' he R hR=>?_
      go_simp;exact BG (Gr _ _ w' ((Hoz.out.1.has HS.out.1).ext he)) hR
     iterate 1 focus
      refine Bf fun _ w' he R hR=>?_;have hc:=he.cells;have cq0:=(eo.ext he).cells2;have cq1:=(el.ext he).cells4;go_simp;exact BV hR
    intro γ w16 hx16 hF;have p1:Cb w16 (γ 1) (((2:Int)^j:Int):Rat):=AB.get hF 1 Ab;clear hF;simp only[Bu,Nat.reduceAdd];generalize γ 1=g1 at *;clear γ
    go_wp2_with fail
    refine AQ (KP _ _ _ rr _ (p1.has HS.out.2.1) ((Hoz.out.2.2.has (by have:=HJ.out.2;omega)).ext hx16) HS.out.2.2) ?_;rintro r17 w17 rfl hx17;generalize hm:FW ((((2:Int)^j:Int):Rat) - rr)=m;have hm1:=Sb (p:=(((2:Int)^j:Int):Rat)) (q:=rr);rw[hm]at hm1;clear hm;have x1617:=hx16.trans hx17;have HO:=Ad (Au (Hoz.out.1.ext x1617) (Hoz.out.2.2.ext x1617));clear p1 ceo feo cel fel;replace ez:=ez.ext x1617
    replace eo:=eo.ext x1617;replace el:=el.ext x1617;replace hx:=hx.trans x1617;clear x1617;clear hx16 hx17;have hl:=DR.mk el HO.out.2;by_cases hjJ:j < J
    ·rw[decide_eq_true (show(((2:Int)^j:Int):Rat)<=rr by have:=HJ.out.1.2 j hjJ;rw[Kb];exact this)]at hm1
     have ceo:=eo.cells2;have feo:=eo.frozen
     go_wp2_with fail
     refine AQ (MC _ _ _ _ _ (HO.out.1.has HS.out.1) (HO.out.1.has HS.out.1)) ?_;rintro r18 w18 hr18 hx18;obtain⟨b8,A8,n8,c8,rfl⟩:=hr18.cells;clear ceo feo el;replace ez:=ez.ext hx18;replace eo:=eo.ext hx18;replace hl:=hl.ext hx18;replace hx:=hx.trans hx18;clear hx18;have ceo:=eo.cells2;have feo:=eo.frozen;go_wp2;obtain⟨W19,eW,eo',U⟩:=eo.put2 (.bool b8) (.slice A8 n8 c8);rw[<-eW];clear eW eo;replace hr18:=hr18.kd U.kd
     replace ez:=ez.upd U Aj;replace hl:=hl.upd U Aj;replace hx:=U.from_ hx Aj;have eo:=eo';clear U eo';rw[show(2:Int)^j+2^j=2^(j+1) by rw[Int.pow_succ];omega]at hr18;have ho:=Bt.mk eo hr18;have hb1:=OV ho;have hb2:=OV (Bt.mk Hoz.out.2.1 Hoz.out.1);have hpw:2^(j+1)<=2^J:=Nat.pow_le_pow_right Ab hjJ
     go_roundw
     case rel=>exact⟨j+1,hjJ,ho,hl,ez,hx⟩
     case measure =>
      rw[hb1,hb2];rw[Int.natAbs_pow,Int.natAbs_pow];show 2^(J+1) - 2^(j+1) < 2^(J+1) - 2^j;have h1:2^(J+1)=2*2^J:=Nat.pow_succ';have h2:2^(j+1)=2*2^j:=Nat.pow_succ';have h3:=Nat.two_pow_pos j;omega
    ·obtain rfl:j=J:=by omega
     rw[decide_eq_false (show ¬ (((2:Int)^j:Int):Rat)<=rr by have:=HJ.out.1.1;rw[Kb];grind)]at hm1;have ceo:=eo.cells2;have feo:=eo.frozen;have cez:=ez.cells2;have fez:=ez.frozen
     go_upto_region 14 with(fail)
     have hr:=HO.out.1;go_wp2;obtain⟨W3,eW,ez',U⟩:=ez.put2 (.bool b7) (.slice A7 n7 c7);rw[<-eW];clear eW ez;replace hr:=hr.kd U.kd;replace hx:=U.from_ hx Aj;have ez:=ez';clear U ez';clear ceo feo cez fez;have cez:=ez.cells2;have fez:=ez.frozen;refine bodyPost_ret (v := .agg #[.bool b7,.slice A7 n7 c7]) (by simp[results,Tryz.results44,go_sem,cez]) rfl ?_;have hfin:=HJ.out.1;rw[Hrr.out]at hfin;exact Ag.mk ⟨j,by rw[HN.out];exact hfin,hr⟩ hx
theorem Gh(v:Value)(F:Nat->Rat)(D M:Nat)(w:World)(hv:AJ 0 w v F)(hR:Pg F D M):Be 18 #[v] w (fun r w'=>JX w.heap.size 23 w' r (Av F)):=by
 obtain⟨S,n,M1,T,h1⟩:=hR.sim;obtain⟨S2,h2⟩:=hR.chn;exact Yx v F (Av F) S n M1 T S2 D M w hv h1 rfl h2
theorem Vj(v:Value)(F:Nat->Rat)(D M:Nat)(w:World)(hv:AJ 0 w v F)(hR:Pg F D M):Be 44 #[v] w (fun r w'=>AR w' r (2^bx F)):=
 Ag.imp (Ym v F 1000 w hv hR.z hR.f hR.n0 hR.q Aa hR.pln) fun _ _ ⟨j,h1,h2⟩=>by rw[<-h1.bx];exact h2
theorem QM(v:Value)(F:Nat->Rat)(D M:Nat)(w:World)(hv:AJ 0 w v F)(hR:Pg F D M):Be 20 #[v] w (fun r w'=>J2 w' r (-(2:Rat)^bx F) ((2:Rat)^bx F)):=by
 have hb:=fun X (x:Ext w X)=>Vj v F D M X (hv.ext x) hR;have hbx:=R4 hR.q;obtain⟨j,hj⟩:∃ j,j=bx F:=⟨_,rfl⟩
 rw[<-hj]at hb hbx ⊢;have hz:=IL j;have hq:=(OH j).1;obtain⟨A0,c0,rfl,-⟩:=hv.shape;have HC:=Ad (Au hb (Au (show sz ((2:Int)^j).natAbs<=1099511627776 by omega) (show qsz ((2:Rat)^j)<=274877906944 by omega)));clear hb hbx hj hz hq hv hR
 go_enter Tryz.func20,Tryz.ntmps20
 obtain⟨W1,eW1,ez,y1⟩:=AX.made w 41 #[.bool false,.slice none 0 0,.bool false,.slice none 0 0,.bool false,.slice none 0 0,.bool false,.slice none 0 0] (by simp[Ah])
 go_upto_region 1 with(fail)
 rw[<-eW1];clear eW1;have hx:=y1;clear y1
 go_wp2_with fail
 refine AQ (HC.out.1 _ hx) ?_;rintro r2 w2 hr2 hx2;obtain⟨b5,A5,n5,c5,rfl⟩:=hr2.cells;have H2:=Ad (hr2.has HC.out.2.1);clear hr2;replace ez:=ez.ext hx2;replace hx:=hx.trans hx2;clear hx2
 go_wp2_with fail
 refine AQ (Gr _ _ _ H2.out) ?_;rintro r3 w3 hr3 hx3;rw[Kb]at hr3;obtain⟨b6,A6,n6,c6,b7,A7,n7,c7,rfl⟩:=hr3.cells;replace ez:=ez.ext hx3;replace hx:=hx.trans hx3;clear hx3;obtain⟨W4,eW4,eb,y4⟩:=AX.made w3 39 #[.bool b6,.slice A6 n6 c6,.bool b7,.slice A7 n7 c7] (by simp[Ah]);have hb4:=hr3.ext y4;have hgb:=ez.lt;replace ez:=ez.ext y4;replace hx:=hx.trans y4;clear y4;clear hr3 H2
 go_upto_region 2 with(fail)
 rw[<-eW4];clear eW4;generalize w3.heap.size=gb at *;have HB:=Ad (Au hb4 (hb4.has HC.out.2.2));clear hb4;have ceb:=eb.cells4;have feb:=eb.frozen;refine Er 3 [7,8,9] [3] [_] [(kv ?_),(fun γ=>γ 1),(kv ?_)] (fun γ w'=>[True,Cb w' (γ 1) (-(2:Rat)^j),True]) ?s1 ?_
 case s1 =>
  iterate 3 refine⟨?_,?_⟩
  trivial
  iterate 1 focus
   refine Bf fun _ w' he R hR=>?_;have hc:=he.cells;have cq0:=(eb.ext he).cells4;go_simp;exact BV hR
  ·refine Bf fun _ w' he R hR=>?_
   go_simp;exact BG (Zk _ _ w' (HB.out.2.ext he)) hR
  iterate 1 focus
   refine Bf fun _ w' he R hR=>?_;have hc:=he.cells;have cq0:=(eb.ext he).cells4;go_simp;exact BV hR
 intro γ w5 hx5 hF;have p1:Cb w5 (γ 1) (-(2:Rat)^j):=AB.get hF 1 Ab;clear hF;simp only[Bu,Nat.reduceAdd];generalize γ 1=g1 at *;clear γ;obtain⟨b8,A8,n8,c8,b9,A9,n9,c9,rfl⟩:=p1.cells;have HF:=Ad (Au p1 (HB.out.1.ext hx5));clear ceb feb p1;replace ez:=ez.ext hx5;replace hx:=hx.trans hx5;clear hx5;have p1:=HF.out.1;have p2:=HF.out.2;clear HF;have cez:=ez.cells8;have fez:=ez.frozen;go_wp2;obtain⟨W6,eW,ez',U⟩:=ez.put8 (.bool b8) (.slice A8 n8 c8) (.bool b9) (.slice A9 n9 c9) (.bool b6) (.slice A6 n6 c6) (.bool b7) (.slice A7 n7 c7)
 rw[<-eW];clear eW ez;replace p1:=p1.kd U.kd;replace p2:=p2.kd U.kd;replace hx:=U.from_ hx Aj;have ez:=ez';clear U ez';clear cez fez;have cez:=ez.cells8;have fez:=ez.frozen;refine bodyPost_ret (v := .agg #[.bool b8,.slice A8 n8 c8,.bool b9,.slice A9 n9 c9,.bool b6,.slice A6 n6 c6,.bool b7,.slice A7 n7 c7]) (by simp[results,Tryz.results20,go_sem,cez]) rfl ?_;exact Ag.mk ⟨_,_,_,_,_,_,_,_,_,_,_,_,_,_,_,_,rfl,p1,p2⟩ hx
def Ug(F:Nat->Rat)(x:Int)(r:Value):Prop:=r = .tuple #[.int .i64 (if Ca F=0 then x else 0),.int .i64 (Ca F)]
theorem Xt(v:Value)(l:List Int)(D M:Nat)(w:World)(hv:F9 0 w v l)(hn:l.length<=1000000)(hR:Ca (cz l)=0->Pg (cz l) D M) :
  Be 9 #[v] w (fun r _=>Ug (cz l) (rc (Av (cz l)) (-(2:Rat)^bx (cz l)) ((2:Rat)^bx (cz l))) r):=by
 have HV:=Ad (Au hv hR);obtain⟨A,c,rfl⟩:=hv.len;clear hv hR;obtain⟨X0,hX0⟩:∃ X,X=rc (Av (cz l)) (-(2:Rat)^bx (cz l)) ((2:Rat)^bx (cz l)):=⟨_,rfl⟩
 rw[<-hX0];have HX0:=Ad hX0;clear hX0
 go_enter Tryz.func9,Tryz.ntmps9
 go_wp2_with fail
 refine AQ (MQ _ l _ HV.out.1 hn) ?_;rintro r2 w2 ⟨u,rfl,hu1,hu2⟩ hx;obtain⟨E,hE⟩:∃ E,E=Ca (cz l):=⟨_,rfl⟩
 have hc:=DL (cz l);rw[<-hE]at hu1 hu2 hc ⊢;have HE:=Ad hE;clear hE;have fin:E≠0->∀ {W:World},Ext w W->Ag w (fun r _=>Ug (cz l) X0 r) (.returned (.tuple #[.int .i64 0,.int .i64 E])) W:=fun hne W h=>Ag.mk (by unfold Ug;rw[<-HE.out,if_neg hne]) h;have Hfin:=Ad fin;clear fin;rcases hc with⟨-,hc⟩ | ⟨-,hc⟩ | ⟨h0,hp,-,hc⟩
 ·subst hc
  clear hu1 hu2;go_wp2;refine bodyPost_ret (v := .tuple #[.int .i64 0,.int .i64 5]) (by simp[results,Tryz.results9,go_sem]) rfl ?_;exact Hfin.out Ab hx
 ·subst hc
  clear hu1 hu2;go_wp2;refine bodyPost_ret (v := .tuple #[.int .i64 0,.int .i64 7]) (by simp[results,Tryz.results9,go_sem]) rfl ?_;exact Hfin.out Ab hx
 subst hc;have hR:=HV.out.2 HE.out.symm;have hu:=hu1 rfl;have hlim:=hR.lim;have hbx:=R4 hR.q;obtain⟨A1,c1,rfl,-⟩:=hu.shape;have HU:=Ad (Au hu hR);clear hu1 hu2 hR h0 hu;have h22:=Ext.refl w2;obtain⟨j,hj⟩:∃ j,j=bx (cz l):=⟨_,rfl⟩
 have hqj:=OH j;rw[<-hj]at hbx;have HJ:=Ad (Au hj (Au hqj hbx));clear hqj
 go_wp2_with fail
 refine AQ (QM _ (cz l) D M _ HU.out.1 HU.out.2) ?_;rintro r3 w3 hr3 hx3;obtain⟨b1,B1,m1,k1,b2,B2,m2,k2,b3,B3,m3,k3,b4,B4,m4,k4,rfl,hi1,hi2⟩:=hr3;rw[<-hj]at hi1 hi2;clear hj;replace hx:=hx.trans hx3;replace h22:=h22.trans hx3;clear hx3;obtain⟨W4,eW4,eb,y4⟩:=AX.made w3 41 #[.bool b1,.slice B1 m1 k1,.bool b2,.slice B2 m2 k2,.bool b3,.slice B3 m3 k3,.bool b4,.slice B4 m4 k4] (by simp[Ah]);have H3:=Ad (Au ((hi1.has (by have:=HJ.out.2.1.2;omega)).ext y4) (Au ((hi2.has (by have:=HJ.out.2.1.1;omega)).ext y4) (hx.trans y4)))
 clear hi1 hi2;replace hx:=hx.trans y4;replace h22:=h22.trans y4;clear y4
 go_upto_region 5 with(fail)
 rw[<-eW4];clear eW4;generalize w3.heap.size=gb at *;have ceb:=eb.cells8;have feb:=eb.frozen;have HW:=Ad (show AJ 0 W4 (.slice A1 (pl (cz l)) c1) (cz l)from HU.out.1.ext h22);refine Er 6 [16,17,18,19,20,21] [0,5] [_,_] [(kv ?_),(fun γ=>γ 1),(kv ?_),(kv ?_),(kv ?_),(kv ?_)] (fun γ w'=>[True,JX 0 23 w' (γ 1) (Av (cz l)),True,True,True,True]) ?s2 ?_
 case s2 =>
  iterate 6 refine⟨?_,?_⟩
  trivial
  iterate 1 focus
   refine Bf fun _ w' he R hR=>?_;have hc:=he.cells;go_simp;exact BV hR
  ·refine Bf fun _ w' he R hR=>?_
   go_simp;exact BG (F:=fun r w''=>JX 0 23 w'' (r) (Av (cz l))) (Ag.imp (Gh _ (cz l) D M w' (HW.out.ext he) HU.out.2) fun _ _ h=>h.lower (Nat.zero_le _)) hR
  iterate 4 focus
   refine Bf fun _ w' he R hR=>?_;have hc:=he.cells;have cq0:=(eb.ext he).cells8;go_simp;exact BV hR
 intro γ w5 hx5 hF;have p1:JX 0 23 w5 (γ 1) (Av (cz l)):=AB.get hF 1 Ab;clear hF;simp only[Bu,Nat.reduceAdd];generalize γ 1=g1 at *;clear γ;have HP1:=Ad p1;obtain⟨cA,cn,cc,rfl⟩:=p1.cell;have hlim:=HU.out.2.lim;have hin:Be 26 #[.agg #[.slice cA cn cc],.agg #[.bool b1,.slice B1 m1 k1,.bool b2,.slice B2 m2 k2],.agg #[.bool b3,.slice B3 m3 k3,.bool b4,.slice B4 m4 k4]] w5 (fun r _=>r = .int .i64 X0):=by
  obtain⟨S,hC⟩:=HU.out.2.chn;have hq:=HJ.out.2;have h9:D*(M+100000+1)<=900*(M+100000+1):=Nat.mul_le_mul_right _ hlim.2;have:=Ui _ _ _ (Av (cz l)) (-(2:Rat)^j) ((2:Rat)^j) 0 S D M 100000 (kn (Av (cz l))) w5 HP1.out (H3.out.1.ext hx5) (H3.out.2.1.ext hx5) hC HU.out.2.k Aa Aa Aa;have e:((V (FO (Av (cz l)) (pd (Av (cz l))) (kn (Av (cz l)))) (-(2:Rat)^j):Nat):Int) - (V (FO (Av (cz l)) (pd (Av (cz l))) (kn (Av (cz l)))) ((2:Rat)^j):Nat)=X0:=by
   rw[HX0.out,<-HJ.out.1];exact GG HU.out.2.k _ _
  rw[e]at this;exact this
 have HI:=Ad hin;clear hin p1
 go_wp2_with fail
 refine AQ HI.out ?_;rintro r6 w6 rfl hx6;have hx7:=(hx.trans hx5).trans hx6;clear hx5 hx6;have HF:=Ad (show Ug (cz l) X0 (.tuple #[.int .i64 X0,.int .i64 0]) by unfold Ug;rw[<-HE.out];rfl);go_wp2;refine bodyPost_ret (v := .tuple #[.int .i64 X0,.int .i64 0]) (by simp[results,Tryz.results9,go_sem]) rfl ?_;exact Ag.mk HF.out hx7
theorem Xy(v u0:Value)(l:List Int)(p q:Rat)(D M t:Nat)(w:World)(hv:F9 0 w v l)(hu0:KU w u0 p q)(hn:l.length<=1000000)(hR:Ca (cz l)=0->Pg (cz l) D M)(hp:qsz p<=t)(hq:qsz q<=t)(ht:t<=10000000) :
  Be 12 #[v,u0] w (fun r _=>Jz (cz l) p q r):=by
 have HV:=Ad (Au hv (Au hR (Au hp hq)));obtain⟨A,c,rfl⟩:=hv.len;obtain⟨b1,B1,m1,k1,b2,B2,m2,k2,b3,B3,m3,k3,b4,B4,m4,k4,rfl,hi1,hi2⟩:=hu0;have hsg:=EG (p:=p) (q:=q);have HI:=Ad (Au hi1 (Au hi2 (show qsz p+qsz q < 274877906944 by omega)));clear hv hR hi1 hi2;obtain⟨X0,hX0⟩:∃ X,X=rc (Av (cz l)) p q:=⟨_,rfl⟩
 have HX0:=Ad hX0;clear hX0
 go_enter Tryz.func12,Tryz.ntmps12
 obtain⟨W1,eW1,eb,y1⟩:=AX.made w 41 #[.bool b1,.slice B1 m1 k1,.bool b2,.slice B2 m2 k2,.bool b3,.slice B3 m3 k3,.bool b4,.slice B4 m4 k4] (by simp[Ah])
 go_upto_region 1 with(fail)
 rw[<-eW1];clear eW1;have hx:=y1;clear y1
 go_wp2_with fail
 refine AQ (MQ _ l _ (HV.out.1.ext hx) hn) ?_;rintro r2 w2 ⟨u,rfl,hu1,hu2⟩ hx2;replace eb:=eb.ext hx2;replace hx:=hx.trans hx2;clear hx2;obtain⟨E,hE⟩:∃ E,E=Ca (cz l):=⟨_,rfl⟩
 have hc:=DL (cz l);rw[<-hE]at hu1 hu2 hc ⊢;have HE:=Ad hE;clear hE;have fin:E≠0->∀ {W:World},Ext w W->Ag w (fun r _=>Jz (cz l) p q r) (.returned (.tuple #[.int .i64 0,.int .i64 E])) W:=fun hne W h=>Ag.mk (by unfold Jz;rw[<-HE.out,if_neg (fun z=>hne z.1),if_neg hne]) h;have Hfin:=Ad fin;clear fin;rcases hc with⟨-,hc⟩ | ⟨-,hc⟩ | ⟨h0,hpl,-,hc⟩
 ·subst hc
  clear hu1 hu2;go_wp2;refine bodyPost_ret (v := .tuple #[.int .i64 0,.int .i64 5]) (by simp[results,Tryz.results12,go_sem]) rfl ?_;exact Hfin.out Ab hx
 ·subst hc
  clear hu1 hu2;go_wp2;refine bodyPost_ret (v := .tuple #[.int .i64 0,.int .i64 7]) (by simp[results,Tryz.results12,go_sem]) rfl ?_;exact Hfin.out Ab hx
 subst hc;have hR:=HV.out.2.1 HE.out.symm;have hu:=hu1 rfl;obtain⟨A1,c1,rfl,-⟩:=hu.shape;have HU:=Ad (Au hu hR);clear hu1 hu2 hR h0 hu;have h22:=Ext.refl w2;have ceb:=eb.cells8;have feb:=eb.frozen
 go_wp2_with fail
 refine AQ (KP _ _ p q _ (HI.out.1.ext hx) (HI.out.2.1.ext hx) HI.out.2.2) ?_;rintro r3 w3 rfl hx3;clear ceb feb;replace eb:=eb.ext hx3;replace hx:=hx.trans hx3;replace h22:=h22.trans hx3;clear hx3;generalize FW (p - q)=m at *;by_cases hqp:q < p
 ·rw[decide_eq_true hqp]at hsg
  have HF:=Ad (show Jz (cz l) p q (.tuple #[.int .i64 0,.int .i64 2]) by unfold Jz;rw[<-HE.out,if_neg (fun z=>by have:=z.2;grind),if_pos rfl,if_neg Af]);go_wp2;refine bodyPost_ret (v := .tuple #[.int .i64 0,.int .i64 2]) (by simp[results,Tryz.results12,go_sem]) rfl ?_;exact Ag.mk HF.out hx
 rw[decide_eq_false hqp]at hsg;have HW:=Ad (HU.out.1.ext h22);have ceb:=eb.cells8;have feb:=eb.frozen
 go_upto_region 6 with(fail)
 refine Er 6 [21,22,23,24,25,26] [0,3] [_,_] [(kv ?_),(fun γ=>γ 1),(kv ?_),(kv ?_),(kv ?_),(kv ?_)] (fun γ w'=>[True,JX 0 23 w' (γ 1) (Av (cz l)),True,True,True,True]) ?s1 ?_
 case s1 =>
  iterate 6 refine⟨?_,?_⟩
  trivial
  iterate 1 focus
   refine Bf fun _ w' he R hR=>?_;have hc:=he.cells;go_simp;exact BV hR
  ·refine Bf fun _ w' he R hR=>?_
   go_simp;exact BG (F:=fun r w''=>JX 0 23 w'' (r) (Av (cz l))) (Ag.imp (Gh _ (cz l) D M w' (HW.out.ext he) HU.out.2) fun _ _ h=>h.lower (Nat.zero_le _)) hR
  iterate 4 focus
   refine Bf fun _ w' he R hR=>?_;have hc:=he.cells;have cq0:=(eb.ext he).cells8;go_simp;exact BV hR
 intro γ w5 hx5 hF;have p1:JX 0 23 w5 (γ 1) (Av (cz l)):=AB.get hF 1 Ab;clear hF;simp only[Bu,Nat.reduceAdd];generalize γ 1=g1 at *;clear γ;have HP1:=Ad p1;obtain⟨cA,cn,cc,rfl⟩:=p1.cell;have hlim:=HU.out.2.lim;have hin:Be 26 #[.agg #[.slice cA cn cc],.agg #[.bool b1,.slice B1 m1 k1,.bool b2,.slice B2 m2 k2],.agg #[.bool b3,.slice B3 m3 k3,.bool b4,.slice B4 m4 k4]] w5 (fun r _=>r = .int .i64 X0):=by
  obtain⟨S,hC⟩:=HU.out.2.chn;have h9:D*(M+t+1)<=900*(M+t+1):=Nat.mul_le_mul_right _ hlim.2;have:=Ui _ _ _ (Av (cz l)) p q 0 S D M t (kn (Av (cz l))) w5 HP1.out (HI.out.1.ext (hx.trans hx5)) (HI.out.2.1.ext (hx.trans hx5)) hC HU.out.2.k HV.out.2.2.1 HV.out.2.2.2 Aa;have e:((V (FO (Av (cz l)) (pd (Av (cz l))) (kn (Av (cz l)))) p:Nat):Int) - (V (FO (Av (cz l)) (pd (Av (cz l))) (kn (Av (cz l)))) q:Nat)=X0:=by
   rw[HX0.out];exact GG HU.out.2.k _ _
  rw[e]at this;exact this
 have HIN:=Ad hin;clear hin p1
 go_wp2_with fail
 refine AQ HIN.out ?_;rintro r6 w6 rfl hx6;have hx7:=(hx.trans hx5).trans hx6;clear hx5 hx6;have HF:=Ad (show Jz (cz l) p q (.tuple #[.int .i64 X0,.int .i64 0]) by unfold Jz;rw[<-HE.out,if_pos ⟨rfl,Af⟩,if_pos rfl,if_pos Af,HX0.out]);go_wp2;refine bodyPost_ret (v := .tuple #[.int .i64 X0,.int .i64 0]) (by simp[results,Tryz.results12,go_sem]) rfl ?_;exact Ag.mk HF.out hx7
theorem MK(v:Value)(l:List Int)(D M N:Nat)(w:World)(hv:F9 0 w v l)(hn:l.length<=1000000)(hR:Ca (cz l)=0->Pg (cz l) D M)
  (hdeep:Ca (cz l)=0->∀ d p q,Hp.Node (-(2:Rat)^bx (cz l)) ((2:Rat)^bx (cz l)) d p q->N<=d->rc (Av (cz l)) p q<=1) (hN:N<=1000000000) (hD:D<=30) :
  Be 7 #[v] w (fun r w'=>Vo w.heap.size 41 (cz l) N r w'):=by
 have HV:=Ad (Au hv (Au hR hdeep));obtain⟨A,c,rfl⟩:=hv.len;clear hv hR hdeep
 go_enter Tryz.func7,Tryz.ntmps7
 go_wp2_with fail
 refine AQ (MQ _ l _ HV.out.1 hn) ?_;rintro r2 w2 ⟨u,rfl,hu1,hu2⟩ hx;obtain⟨E,hE⟩:∃ E,E=Ca (cz l):=⟨_,rfl⟩
 have hc:=DL (cz l);rw[<-hE]at hu1 hu2 hc ⊢;have HE:=Ad hE;clear hE;have fin:E≠0->∀ {W:World},Ext w W->Ag w (fun r w'=>Vo w.heap.size 41 (cz l) N r w') (.returned (.tuple #[.slice none 0 0,.int .i64 E])) W:=fun hne W h=>Ag.mk ⟨_,by rw[<-HE.out],fun e=>absurd (HE.out.trans e) hne,fun _=>rfl⟩ h;have Hfin:=Ad fin;clear fin;rcases hc with⟨-,hc⟩ | ⟨-,hc⟩ | ⟨h0,hpl,-,hc⟩
 ·subst hc
  clear hu1 hu2;go_wp2;refine bodyPost_ret (v := .tuple #[.slice none 0 0,.int .i64 5]) (by simp[results,Tryz.results7,go_sem]) rfl ?_;exact Hfin.out Ab hx
 ·subst hc
  clear hu1 hu2;go_wp2;refine bodyPost_ret (v := .tuple #[.slice none 0 0,.int .i64 7]) (by simp[results,Tryz.results7,go_sem]) rfl ?_;exact Hfin.out Ab hx
 subst hc;have hR:=HV.out.2.1 HE.out.symm;have hu:=hu1 rfl;obtain⟨A1,c1,rfl,-⟩:=hu.shape;have HU:=Ad (Au hu hR);clear hu1 hu2 hR h0 hu
 go_wp2_with fail
 refine AQ (Gh _ (cz l) D M _ HU.out.1 HU.out.2) ?_;rintro r3 w3 hr3 hx3;have hsz3:=hx3.size;have hszx:=hx.size;obtain⟨cA,cn,cc,rfl⟩:=hr3.cell;have HU3:=Ad (HU.out.1.ext hx3);have HC:=Ad hr3;replace hx:=hx.trans hx3;clear hx3;clear hr3
 go_wp2_with fail
 refine AQ (QM _ (cz l) D M _ HU3.out HU.out.2) ?_;rintro r4 w4 hr4 hx4;have hsz4:=hx4.size;obtain⟨b1,B1,m1,k1,b2,B2,m2,k2,b3,B3,m3,k3,b4,B4,m4,k4,rfl⟩:=hr4.cells;have HI:=Ad hr4;have HX4:=Ad (hx.trans hx4);clear hr4;have hcall:Calls Tryz.prog 19 #[.agg #[.slice cA cn cc],.slice none 0 0,.agg #[.bool b1,.slice B1 m1 k1,.bool b2,.slice B2 m2 k2,.bool b3,.slice B3 m3 k3,.bool b4,.slice B4 m4 k4]] w4
   (RV w3.heap.size 41 w4 (.slice none 0 0) ([] ++ iso (rc (Av (cz l))) N (-(2:Rat)^bx (cz l)) ((2:Rat)^bx (cz l)))):=by
  obtain⟨S,hC⟩:=HU.out.2.chn;have hbx:=R4 HU.out.2.q;have hqj:=OH (bx (cz l));have hM:=HU.out.2.lim.1;have hpos:=Bn (bx (cz l));have hPQ : -(2:Rat)^bx (cz l) < (2:Rat)^bx (cz l):=by grind
  have hsf:=HU.out.2.sf;have h9:D*(M+(3*100000+N+4)+1)<=30*(M+(3*100000+N+4)+1):=Nat.mul_le_mul_right _ hD;have hdp:=HV.out.2.2 HE.out.symm;have hnodes:=Kw hsf hPQ hdp N 0 _ _ (Hp.Node.root _ _) Aa;have hlen:(iso (rc (Av (cz l))) N (-(2:Rat)^bx (cz l)) ((2:Rat)^bx (cz l))).length<=1000:=by
   have h1:=hnodes.2.1;have h2:rc (Av (cz l)) (-(2:Rat)^bx (cz l)) ((2:Rat)^bx (cz l))<=1000:=by
    rw[<-GG HU.out.2.k];unfold rts;have h3:=Yt (FO (Av (cz l)) (pd (Av (cz l))) (kn (Av (cz l)))) (-(2:Rat)^bx (cz l));rw[Ee]at h3;obtain⟨K0,q1,q2⟩:=Gi hC.f (BS hC.f) hC.z (En hC.z) hC.s hC.d;rw[q1.uniq HU.out.2.k]at q2;have:=hC.e;omega
   omega
  exact Ud w3 _ (Av (cz l)) _ _ _ S D M (kn (Av (cz l))) N 100000 HC.out hC HU.out.2.k hPQ Aa Aa hdp (fun d p q hn=>hsf.nonneg (Std.le_of_lt (hn.within hPQ).2.1)) Aa
   N 0 _ _ _ _ [] w4 (Hp.Node.root _ _) Aa Aa hx4 (HI.out.has Aa Aa) (Df.nil _ _ _) (by simpa using hlen)
 have HK:=Ad hcall;clear hcall
 go_wp2_with fail
 refine Calls.mono HK.out ?_;rintro e w5 ⟨r5,rfl,hown,U,-⟩;have hx5:Ext w w5:=U.from_ HX4.out (fun g hg=>by simp[blk,Value.ownBlock]at hg);have HF:=Ad (show Vo w.heap.size 41 (cz l) N (.tuple #[r5,.int .i64 0]) w5 from⟨r5,by rw[<-HE.out],fun _=>Df.lower hown Aa,fun e=>absurd HE.out.symm e⟩);clear hown U hx hx4;go_wp2;refine bodyPost_ret (v := .tuple #[r5,.int .i64 0]) (by simp[results,Tryz.results7,go_sem]) rfl ?_
 exact Ag.mk HF.out hx5
theorem Qn(v u:Value)(F:Nat->Rat)(p q:Rat)(D M t k base:Nat)(w:World)(hR:Pg F D M)(hD:D<=20)(hp:qsz p<=t)(hq:qsz q<=t)(ht:3*t+k<=4500000000)(hv:JX base 23 w v (Av F))(hu:KU w u (Cw (rc (Av F)) p q k).1 (Cw (rc (Av F)) p q k).2) :
  Be 29 #[v,u] w (fun r w'=>KU w' r (Cw (rc (Av F)) p q (k+1)).1 (Cw (rc (Av F)) p q (k+1)).2):=by
 obtain⟨S,hC⟩:=hR.chn;have hM:=hR.lim.1;obtain⟨z1,z2,z3⟩:=P6 (R:=rc (Av F)) hp hq k;have hm:D*(M+(3*t+k+5)+1)<=20*(M+(3*t+k+5)+1):=Nat.mul_le_mul_right _ hD;refine Ag.imp (bA v u (Av F) _ _ base S D M (3*t+k+5) (kn (Av F)) w hv hu hC hR.k Aa Aa z3 Aa) fun r w' h=>?_;rw[GG hR.k]at h;show KU w' r (hfp _ _).1 (hfp _ _).2;unfold hfp
 split at h
 ·rename_i h1;rw[if_pos h1];exact h
 ·rename_i h1;rw[if_neg h1];exact h
theorem WU(v u:Value)(F:Nat->Rat)(p q:Rat)(D M t base:Nat)(w:World)(hR:Pg F D M)(hD:D<=20)(hp:qsz p<=t)(hq:qsz q<=t)(ht:t<=4500000000)(hv:JX base 23 w v (Av F))(hu:KU w u p q) :
  Be 27 #[v,u] w (fun r _=>r = .bool (decide (p < q/\rc (Av F) p q=1))):=by
 obtain⟨S,hC⟩:=hR.chn;have hM:=hR.lim.1;have hm:D*(M+t+1)<=20*(M+t+1):=Nat.mul_le_mul_right _ hD;refine Ag.imp (bS v u (Av F) p q base S D M t (kn (Av F)) w hv hu hC hR.k hp hq Aa) fun r w' h=>?_;rw[h,GG hR.k];congr 1;by_cases h1:p < q<;>by_cases h2:rc (Av F) p q=1<;>simp[h1,h2]
set_option maxRecDepth 20000 in
theorem eT(v:Value)(ns:List Int)(w:World)(hv:SE w v ns)(hn:ns.length<=1000)(hs:∀ n∈ns,-4294967296 < n/\n < 4294967296):Be 11 #[v] w (fun r w'=>MJ w.heap.size w' r ns):=by
 obtain⟨g,c,rfl,h1,h2,h3⟩:=hv;have H3:=Ad (Au h3 hs);clear h3 hs
 go_enter Tryz.func11,Tryz.ntmps11
 go_wp2
 go_loopw [3,4] (fun ov iv wr=>∃ (k:Nat),k<=ns.length/\iv = .int .i64 k/\DJ w.heap.size 37 wr ov (ns.take k)/\Ext w wr) (fun _ iv _=>ns.length - (intOf iv).toNat)
 case atStart=>exact⟨0,Nat.zero_le _,rfl,BF.nil _ _ _ _ _,Ext.refl _⟩
 case round =>
  obtain⟨k,hk,rfl,hown,hx⟩:=hrel;have Hown0:=Ad hown;clear hown;by_cases hkl:k < ns.length
  ·have q0:=hx.cell (H3.out.1 k hkl)
   obtain⟨m,hm⟩:∃ m,m=ns[k]:=⟨_,rfl⟩
   rw[<-hm]at q0;have hb:=H3.out.2 ns[k] (List.getElem_mem hkl);rw[<-hm]at hb;have Hm:=Ad hm;clear hm
   go_wp2_with fail
   refine AQ (eO m _ hb.1 hb.2) ?_;rintro r w2 hr hx2;obtain⟨b5,A5,n5,c5,rfl⟩:=hr.cells;have Hr:=Ad hr;clear hr;have hown:=Hown0.out.ext hx2;have Hown:=Ad hown;clear hown;replace hx:=hx.trans hx2;have hsz:=hx.size;have hlk:(ns.take k).length<=1000:=Nat.le_trans (List.length_take_le _ _) Aa;clear hx2 q0 Hown0
   go_wp2_with (at_builtin;refine BO rfl _ _ 22 rfl u3 (.slice (some ⟨w2.heap.size,0,none⟩) 1 1) rfl rfl (NW w2 w.heap.size _ _ _ _ _ Hown.out Hr.out (by first | (rw[AU];omega) | omega) hsz rfl) ?_)
   first | intro v' w5 hown U | rintro v' w5 ⟨hown,U⟩
   replace hx:=(Hown.out.ext ((Ext.refl w2).alloc _)).from_ U (hx.alloc _) (Nat.le_refl _);have Hown':=Ad hown;clear hown U;go_wp2
   go_roundw
   case rel=>exact⟨k+1,Aa,by go_num,by
    rw[List.take_succ_eq_append_getElem hkl,<-Hm.out];exact Hown'.out,hx⟩
   case measure=>simp[intOf]<;>omega
  ·obtain rfl:k=ns.length:=by omega
   have hq:=DJ.row Hown0.out;rw[List.take_of_length_le (Nat.le_refl _)]at hq;have Hq:=Ad hq;clear hq Hown0;go_wp2
   go_ret
   exact Ag.mk Hq.out hx
theorem SC(x y:Int)(w:World)(h1 : -4294967296 < x/\x < 4294967296)(h2 : -4294967296 < y/\y < 4294967296):Be 13 #[.int .i64 x,.int .i64 y] w (fun r w'=>J2 w' r (x:Rat) (y:Rat)):=by
 go_enter Tryz.func13,Tryz.ntmps13
 obtain⟨W1,eW1,ez,y1⟩:=AX.made w 41 #[.bool false,.slice none 0 0,.bool false,.slice none 0 0,.bool false,.slice none 0 0,.bool false,.slice none 0 0] (by simp[Ah])
 go_upto_region 1 with(fail)
 rw[<-eW1];clear eW1;have hx:=y1;clear y1
 go_wp2_with fail
 refine AQ (gD x _ Aa Aa) ?_;rintro r2 w2 hr2 hx2;obtain⟨b5,A5,n5,c5,b6,A6,n6,c6,rfl⟩:=hr2.cells;have H2:=Ad hr2;clear hr2;have hgz:=ez.lt;replace ez:=ez.ext hx2;replace hx:=hx.trans hx2;clear hx2
 go_wp2_with fail
 refine AQ (gD y _ Aa Aa) ?_;rintro r3 w3 hr3 hx3;obtain⟨b7,A7,n7,c7,b8,A8,n8,c8,rfl⟩:=hr3.cells;have p1:=H2.out.ext hx3;replace ez:=ez.ext hx3;replace hx:=hx.trans hx3;clear hx3;have cez:=ez.cells8;have fez:=ez.frozen;go_wp2;obtain⟨W6,eW,ez',U⟩:=ez.put8 (.bool b5) (.slice A5 n5 c5) (.bool b6) (.slice A6 n6 c6) (.bool b7) (.slice A7 n7 c7) (.bool b8) (.slice A8 n8 c8);rw[<-eW];clear eW ez;replace p1:=p1.kd U.kd
 replace hr3:=hr3.kd U.kd;replace hx:=U.from_ hx Aj;have ez:=ez';clear U ez';clear cez fez;have cez:=ez.cells8;have fez:=ez.frozen;refine bodyPost_ret (v := .agg #[.bool b5,.slice A5 n5 c5,.bool b6,.slice A6 n6 c6,.bool b7,.slice A7 n7 c7,.bool b8,.slice A8 n8 c8]) (by simp[results,Tryz.results13,go_sem,cez]) rfl ?_;exact Ag.mk ⟨_,_,_,_,_,_,_,_,_,_,_,_,_,_,_,_,rfl,p1,hr3⟩ hx
theorem TG(v u:Value)(p q p' q':Rat)(w:World)(hv:J2 w v p q)(hu:J2 w u p' q'):Be 14 #[v,u] w (fun r _=>r = .bool (decide (p=p'/\q=q'))):=by
 obtain⟨b1,A1,n1,c1,b2,A2,n2,c2,b3,A3,n3,c3,b4,A4,n4,c4,rfl,i1,i2⟩:=hv;obtain⟨d1,B1,m1,k1,d2,B2,m2,k2,d3,B3,m3,k3,d4,B4,m4,k4,rfl,j1,j2⟩:=hu;have H:=Ad (Au i1 (Au i2 (Au j1 j2)));clear i1 i2 j1 j2
 go_enter Tryz.func14,Tryz.ntmps14
 obtain⟨W1,eW1,ea,y1⟩:=AX.made w 41 #[.bool b1,.slice A1 n1 c1,.bool b2,.slice A2 n2 c2,.bool b3,.slice A3 n3 c3,.bool b4,.slice A4 n4 c4] (by simp[Ah]);obtain⟨W2,eW2,eb,y2⟩:=AX.made W1 41 #[.bool d1,.slice B1 m1 k1,.bool d2,.slice B2 m2 k2,.bool d3,.slice B3 m3 k3,.bool d4,.slice B4 m4 k4] (by simp[Ah]);have s1:W1.heap.size=w.heap.size+1:=by rw[eW1,World.size_alloc]
 rw[s1]at eb;have hx:=y1.trans y2;replace ea:=ea.ext y2
 go_upto_region 1 with(fail)
 rw[<-eW1,<-eW2];clear eW1 eW2 y1 y2 s1;have cea:=ea.cells8;have fea:=ea.frozen;have ceb:=eb.cells8;have feb:=eb.frozen
 go_wp2_with fail
 refine AQ (TU _ _ p p' _ (H.out.1.ext hx) (H.out.2.2.1.ext hx)) ?_;rintro r3 w3 rfl hx3;clear cea fea ceb feb;replace ea:=ea.ext hx3;replace eb:=eb.ext hx3;replace hx:=hx.trans hx3;clear hx3;by_cases hp:p=p'
 ·have hd:decide (p=p')=true:=decide_eq_true hp
  have hq:decide (p=p'/\q=q')=decide (q=q'):=by simp[hp]
  have HQ:=Ad hq;clear hq;rw[hd];have HP:=Ad hp;clear hp;have cea:=ea.cells8;have fea:=ea.frozen;have ceb:=eb.cells8;have feb:=eb.frozen
  go_wp2_with fail
  refine AQ (TU _ _ q q' _ (H.out.2.1.ext hx) (H.out.2.2.2.ext hx)) ?_;rintro r4 w4 rfl hx4;generalize decide (q=q')=bb at *;go_wp2
  go_ret
  exact Ag.mk (show Value.bool bb = .bool (decide (p=p'/\q=q'))from by rw[HQ.out]) (hx.trans hx4)
 ·have hd:decide (p=p')=false:=decide_eq_false hp
  have hq:decide (p=p'/\q=q')=false:=decide_eq_false fun z=>hp z.1;have HQ:=Ad hq;clear hq;rw[hd];clear hp;go_wp2
  go_ret
  exact Ag.mk (show Value.bool false = .bool (decide (p=p'/\q=q'))from by rw[HQ.out]) hx
set_option maxRecDepth 20000 in
theorem WJ(w:World):Be 4 #[] w (fun r _=>r = .bool true):=by
 have K1:=Ad (show ∀ x∈([-2,0,1]:List Int),sz x.natAbs<=1 by decide +kernel);have hcnt:∀ X v u,F9 0 X v [-2,0,1]->KU X u 0 2->Be 12 #[v,u] X (fun r _=>r = .tuple #[.int .i64 1,.int .i64 0]):=fun X v u hv hu=>by
  refine Ag.imp (Xy v u [-2,0,1] 0 2 _ 32768 10 X hv hu Ab (fun _=>FJ.pg) (by decide +kernel) (by decide +kernel) Ab) fun r _ h=>?_;rw[h,FJ.err,Wd,Zq.1,if_pos ⟨rfl,by decide +kernel⟩,if_pos rfl,if_pos (by decide +kernel)]
 have hiso:∀ X v,F9 0 X v [-2,0,1]->Be 7 #[v] X (fun r w'=>∃ c,r = .tuple #[c,.int .i64 0]/\Df 0 41 w' c [(-4,0),(0,4)]):=fun X v hv=>by
  obtain⟨N,h1,h2⟩:∃ N,700000000<=N+1/\N+1<=1000000000:=⟨800000000,Aa,Aa⟩
  refine Ag.imp (MK v [-2,0,1] _ 32768 (N+1) X hv Ab (fun _=>FJ.pg) (fun _ d p q hn hd=>FJ.deep d p q hn Aa) h2 (by have:=FJ.chn.2;omega)) fun r w' ⟨c,e1,e2,_⟩=>?_;rw[FJ.err]at e1;have:=e2 FJ.err;rw[ZP]at this;exact⟨c,e1,this.lower (Nat.zero_le _)⟩
 have HC:=Ad (Au hcnt hiso);clear hcnt hiso
 go_enter Tryz.func4,Tryz.ntmps4
 go_wp2_with fail
 refine AQ (eT _ [-2,0,1] _ (SE.new w _ [-2,0,1] Ab) Ab Ab) ?_;rintro r1 w1 h1 hx;have H1:=Ad (h1.has (fun x hx=>by have:=K1.out x hx;omega));clear h1;replace hx:=hx.a1
 go_wp2_with fail
 refine AQ (SC 0 2 _ Aa Aa) ?_;rintro r2 w2 hr2 hx2;have H2:=Ad (Au (H1.out.ext hx2) (show KU w2 r2 0 2 from hr2.has (by decide +kernel) (by decide +kernel)));clear hr2 H1;replace hx:=hx.trans hx2;clear hx2
 go_wp2_with fail
 refine AQ (HC.out.1 _ _ _ H2.out.1 H2.out.2) ?_;rintro r3 w3 rfl hx3;have H3:=Ad (H2.out.1.ext hx3);clear H2;replace hx:=hx.trans hx3;clear hx3
 go_wp2_with fail
 refine AQ (HC.out.2 _ _ H3.out) ?_;rintro r4 w4 ⟨c4,rfl,hown⟩ hx4;replace hx:=hx.trans hx4;clear hx4;obtain⟨A,c,rfl⟩:=hown.len;obtain⟨g,o,b1,A1,n1,c1,b2,A2,n2,c2,b3,A3,n3,c3,b4,A4,n4,c4,rfl,q0,q1,q2,q3,q4,q5,q6,q7,hi0⟩:=hown.at_ (j:=0) Ab;obtain⟨g',o',d1,B1,m1,k1,d2,B2,m2,k2,d3,B3,m3,k3,d4,B4,m4,k4,e1,s0,s1,s2,s3,s4,s5,s6,s7,hi1⟩:=hown.at_ (j:=1) Ab;cases e1;have HI:=Ad (Au (show J2 w4 _ (-4) 0 from hi0) (show J2 w4 _ 0 4 from hi1));clear hi0 hi1 hown H3
 rw[Nat.zero_mul,Nat.add_zero]at q0 q1 q2 q3 q4 q5 q6 q7;rw[Nat.one_mul]at s0 s1 s2 s3 s4 s5 s6 s7;have hl2:([(-4,0),(0,4)]:List (Rat×Rat)).length=2:=rfl;rw[hl2];clear hl2
 go_upto_region 4 with(fail)
 refine Er 27 [19,20,21,22,23,24,25,26,27,28,29,30,31,32,33,34,35,36,37,38,39,40,41,42,43,44,45] [3,2,5,4] [_,_,_,_] [(kv ?_),(kv ?_),(kv ?_),(kv ?_),(kv ?_),(kv ?_),(kv ?_),(kv ?_),(kv ?_),(kv ?_),(kv ?_),(kv ?_),(kv ?_),(kv ?_),(kv ?_),(kv ?_),(kv ?_),(kv ?_),(kv ?_),(fun γ=>γ 19),(kv (.bool true)),(kv ?_),(kv ?_),(kv ?_),(kv ?_),(kv ?_),(fun γ=>γ 26)] (fun γ w'=>[True,True,True,True,True,True,True,True,True,True,True,True,True,True,True,True,True,True,True,J2 w' (γ 19) (-4) 0,True,True,True,True,True,True,J2 w' (γ 26) 0 4]) ?s1 ?_
 case s1 =>
  iterate 27 refine⟨?_,?_⟩
  trivial
  iterate 3 focus
   refine Bf fun _ w' he R hR=>?_;have hc:=he.cells;go_simp;(try go_ints);(try(rw[if_neg Aa]));(try(rw[if_pos Aa]));(try go_simp);(try go_ints)
   exact BV hR
  iterate 2 focus
   intro γ w' he hf;clear hf;refine⟨by trivial,?_⟩;intro R hR;have hc:=he.cells;go_simp;(try go_ints);(try(rw[if_neg Aa]));(try(rw[if_pos Aa]));(try go_simp);(try go_ints)
   exact BV hR
  iterate 2 focus
   refine Bf fun _ w' he R hR=>?_;have hc:=he.cells;go_simp;(try go_ints);(try(rw[if_neg Aa]));(try(rw[if_pos Aa]));(try go_simp);(try go_ints)
   exact BV hR
  iterate 2 focus
   intro γ w' he hf;clear hf;refine⟨by trivial,?_⟩;intro R hR;have hc:=he.cells;go_simp;(try go_ints);(try(rw[if_neg Aa]));(try(rw[if_pos Aa]));(try go_simp);(try go_ints)
   exact BV hR
  iterate 2 focus
   refine Bf fun _ w' he R hR=>?_;have hc:=he.cells;go_simp;(try go_ints);(try(rw[if_neg Aa]));(try(rw[if_pos Aa]));(try go_simp);(try go_ints)
   exact BV hR
  iterate 3 focus
   intro γ w' he hf;clear hf;refine⟨by trivial,?_⟩;intro R hR;have hc:=he.cells;go_simp;(try go_ints);(try(rw[if_neg Aa]));(try(rw[if_pos Aa]));(try go_simp);(try go_ints)
   exact BV hR
  iterate 2 focus
   refine Bf fun _ w' he R hR=>?_;have hc:=he.cells;go_simp;(try go_ints);(try(rw[if_neg Aa]));(try(rw[if_pos Aa]));(try go_simp);(try go_ints)
   exact BV hR
  iterate 3 focus
   intro γ w' he hf;clear hf;refine⟨by trivial,?_⟩;intro R hR;have hc:=he.cells;have cq0:=he.cell q0;have cq1:=he.cell q1;have cq2:=he.cell q2;have cq3:=he.cell q3;have cq4:=he.cell q4;have cq5:=he.cell q5;have cq6:=he.cell q6;have cq7:=he.cell q7;have cq8:=he.cell s0;have cq9:=he.cell s1;have cq10:=he.cell s2;have cq11:=he.cell s3;have cq12:=he.cell s4;have cq13:=he.cell s5;have cq14:=he.cell s6;have cq15:=he.cell s7
   go_simp;(try go_ints);(try(rw[if_neg Aa]));(try(rw[if_pos Aa]));(try go_simp);(try go_ints)
   exact BV hR
  ·intro γ w' he hf;clear hf;refine⟨rfl,?_⟩;intro R hR
   go_simp;exact BG (SC (-4) 0 w' Aa Aa) hR
  ·intro γ w' he hf;have f19:J2 w' (γ 19) (-4) 0:=hf 19 Ab;clear hf;refine⟨rfl,?_⟩;intro R hR
   go_simp;exact Nn (Ag.imp (TG _ _ (-4) 0 (-4) 0 w' (HI.out.1.ext he) f19) fun _ _ h=>h) hR
  iterate 2 focus
   refine Bf fun _ w' he R hR=>?_;have hc:=he.cells;go_simp;(try go_ints);(try(rw[if_neg Aa]));(try(rw[if_pos Aa]));(try go_simp);(try go_ints)
   exact BV hR
  iterate 3 focus
   intro γ w' he hf;clear hf;refine⟨by trivial,?_⟩;intro R hR;have hc:=he.cells;have cq0:=he.cell q0;have cq1:=he.cell q1;have cq2:=he.cell q2;have cq3:=he.cell q3;have cq4:=he.cell q4;have cq5:=he.cell q5;have cq6:=he.cell q6;have cq7:=he.cell q7;have cq8:=he.cell s0;have cq9:=he.cell s1;have cq10:=he.cell s2;have cq11:=he.cell s3;have cq12:=he.cell s4;have cq13:=he.cell s5;have cq14:=he.cell s6;have cq15:=he.cell s7
   go_simp;(try go_ints);(try(rw[if_neg Aa]));(try(rw[if_pos Aa]));(try go_simp);(try go_ints)
   exact BV hR
  ·intro γ w' he hf;clear hf;refine⟨rfl,?_⟩;intro R hR
   go_simp;exact BG (SC 0 4 w' Aa Aa) hR
 intro γ w5 hx5 hF;have p19:J2 w5 (γ 19) (-4) 0:=AB.get hF 19 Ab;have p26:J2 w5 (γ 26) 0 4:=AB.get hF 26 Ab;clear hF;simp only[Bu,Nat.reduceAdd];generalize γ 19=g19 at *;generalize γ 26=g26 at *;clear γ;have H5:=Ad (Au (HI.out.2.ext hx5) p26);clear p19 p26 q0 q1 q2 q3 q4 q5 q6 q7 s0 s1 s2 s3 s4 s5 s6 s7
 go_wp2_with fail
 refine AQ (TG _ _ 0 4 0 4 _ H5.out.1 H5.out.2) ?_;rintro r6 w6 rfl hx6;have hx7:=(hx.trans hx5).trans hx6;have hd:decide ((0:Rat)=0/\(4:Rat)=4)=true:=decide_eq_true ⟨rfl,rfl⟩;rw[hd];clear hx hx5 hx6 hd;go_wp2
 go_ret
 exact Ag.mk rfl hx7
set_option maxRecDepth 20000 in
theorem XW(g c:Nat)(vs:List (Value×List Int))(w:World)(hn:vs.length<=1000)(hc:vs.length<=c)(hv:N9 w g vs) :
  Be 5 #[.slice (some ⟨g,0,none⟩) vs.length c] w (fun r _=>ZG vs r):=by
 have HV:=Ad hv;clear hv
 go_enter Tryz.func5,Tryz.ntmps5
 go_wp2
 go_loopw [3] (fun iv wr=>∃ i:Nat,i<=vs.length/\iv = .int .i64 (i:Nat)/\(∀ j (h:j < vs.length),j < i->OD vs[j].2)/\Ext w wr) (fun iv _=>vs.length - (intOf iv).toNat)
 case atStart=>exact⟨0,Nat.zero_le _,rfl,fun j h h'=>Aa,Ext.refl _⟩
 case round =>
  obtain⟨i,hi,rfl,hst,hx⟩:=hrel;have Hst:=Ad hst;clear hst;by_cases hil:i < vs.length
  ·obtain⟨q0,hp⟩:=HV.out i hil
   obtain⟨A1,c1,e1⟩:=hp.len;rw[e1]at q0 hp;obtain⟨l,hl⟩:∃ l,l=vs[i].2:=⟨_,rfl⟩
   rw[<-hl]at q0 hp;have Hl:=Ad (Au hl hp);clear hl hp e1;have q:=hx.cell q0;by_cases hlong:12 < l.length
   ·skip
    go_wp2
    go_ret
    exact Ag.mk ⟨false,rfl,fun h=>by cases h⟩ hx
   ·have hd:∀ X,Ext w X->Be 6 #[.slice A1 l.length c1] X (fun r _=>r = .int .i64 ((pl (cz l):Int) - 1)):=fun X x=>KA _ l X (Hl.out.2.ext x) Aa
    have HD:=Ad hd;clear hd;have hpl:pl (cz l)<=l.length:=BK (CO l)
    go_wp2_with fail
    refine AQ (HD.out _ hx) ?_;rintro r2 w2 rfl hx2;replace hx:=hx.trans hx2;have q:=hx.cell q0;clear hx2;by_cases hdeg:7 < pl (cz l)
    ·skip
     go_wp2
     go_ret
     exact Ag.mk ⟨false,rfl,fun h=>by cases h⟩ hx
    ·go_wp2
     go_loopw [4] (fun kv wk=>∃ k:Nat,k<=l.length/\kv = .int .i64 (k:Nat)/\(∀ j,j < k->(cz l j).num.natAbs<=4095)/\Ext w wk) (fun kv _=>l.length - (intOf kv).toNat)
     case atStart=>exact⟨0,Nat.zero_le _,rfl,fun j h=>Aa,hx⟩
     case round =>
      clear hx q;obtain⟨k,hk,rfl,hsm,hx⟩:=hrel;have Hsm:=Ad hsm;clear hsm;have q:=hx.cell q0;by_cases hkl:k < l.length
      ·obtain⟨g',o',b1,B1,m1,d1,e3,-,r0,r1,hz⟩:=(Hl.out.2.ext hx).at_ hkl
       cases e3;obtain⟨y,hy⟩:∃ y,y=l[k]:=⟨_,rfl⟩
       rw[<-hy]at hz;have Hy:=Ad (Au hz (show cz l k=(y:Rat) by rw[Dx hkl,hy]));clear hz hy
       go_wp2_with fail
       refine AQ (ZN _ y _ Hy.out.1) ?_;rintro r3 w3 ⟨b,rfl,hbl⟩ hx3;have HB:=Ad hbl;clear hbl r0 r1 q;replace hx:=hx.trans hx3;have q:=hx.cell q0;clear hx3;by_cases hb:12 < b
       ·skip
        go_wp2
        go_ret
        exact Ag.mk ⟨false,rfl,fun h=>by cases h⟩ hx
       ·go_wp2
        go_roundw
        case rel=>exact⟨k+1,Aa,by go_num,fun j h1=>by
         rcases Nat.lt_or_ge j k with h | h
         ·exact Hsm.out j h
         ·obtain rfl:j=k:=by omega
          rw[Hy.out.2];have h2:=HB.out.1;have h3:2^b<=2^12:=Nat.pow_le_pow_right Ab Aa;show y.natAbs<=4095;omega,hx⟩
        case measure=>simp[intOf]<;>omega
      ·obtain rfl:k=l.length:=by omega
       go_wp2
       go_roundw
       case rel=>exact⟨i+1,Aa,by go_num,fun j h1 h2=>by
        rcases Nat.lt_or_ge j i with h | h
        ·exact Hst.out j h1 h
        ·obtain rfl:j=i:=by omega
         rw[<-Hl.out.1];exact⟨Aa,Aa,fun i=>by
          rcases Nat.lt_or_ge i l.length with h | h
          ·exact Hsm.out i h
          ·rw[JK h];decide⟩,hx⟩
       case measure=>simp[intOf]<;>omega
  ·obtain rfl:i=vs.length:=by omega
   go_wp2
   go_ret
   exact Ag.mk ⟨true,rfl,fun _ p hp=>by
    obtain⟨j,hj,rfl⟩:=List.getElem_of_mem hp;exact Hst.out j hj hj⟩ hx
open Go.Deep Go.ChangeShapes Go.ChangeAt
theorem Xn{H:Type}(d:DataW H):1<=Rows.uptoBulk d:=by
 cases d with
 | lit l=>cases l<;>simp[Rows.uptoBulk]
 | nil=>simp[Rows.uptoBulk]
 | ptr d=>simp[Rows.uptoBulk]
 | slice elems spare=>simp[Rows.uptoBulk]
 | agg parts=>simp[Rows.uptoBulk]
 | iface t d=>simp[Rows.uptoBulk]
 | map entries=>simp[Rows.uptoBulk]
 | held h=>simp[Rows.uptoBulk]
theorem IE{H:Type}{d:DataW H}{l:List (DataW H)}(h:d∈l):Rows.uptoBulk d<=Rows.uptoBulkAll l:=by
 induction l with
 | nil=>cases h
 | cons x r ih =>
  simp only[Rows.uptoBulkAll];cases List.mem_cons.1 h with
  | inl e=>subst e;omega
  | inr e=>have:=ih e;omega
theorem QP{H:Type}(l:List (DataW H)):l.length<=Rows.uptoBulkAll l:=by
 induction l with
 | nil=>simp[Rows.uptoBulkAll]
 | cons x r ih=>have:=Xn x;simp only[Rows.uptoBulkAll,List.length_cons];omega
section
variable{H:Type}{enc:TypeId×Value->H}{w:World}{spare:Nat->Bool}{held:Bool}
theorem Ri{fuel:Nat}{cs:List Value}{x:DataW H×List MemPlace}(h:DataW.trod enc Tryz.prog w 0 spare held fuel 35 cs=some x):∃ A n c,cs=[.slice A n c]/\n<=Rows.uptoBulk x.1:=by
 rcases open_ints Tryz.underlying35 Tryz.underlying72 EI h with⟨rfl,_⟩ | ⟨a,n,c,zs,rfl,_,hl,hm,hz,rfl,hcell,hwz⟩
 ·exact⟨none,0,0,rfl,Aa⟩
 ·have hzl:n<=zs.length:=by rw[hz];split<;>omega
  refine⟨some a,n,c,rfl,?_⟩;have h1:=QP (H:=H) (lits .u32 (zs.take n));have h2:(lits (H:=H) .u32 (zs.take n)).length=n:=by simp[lits];omega
  simp only[Rows.uptoBulk];omega
set_option maxRecDepth 100000 in
theorem RJ{fuel:Nat}{cs:List Value}{x:DataW H×List MemPlace}(h:DataW.trod enc Tryz.prog w 0 spare held fuel 37 cs=some x):∃ b A n c,cs=[b,.slice A n c]/\n<=Rows.uptoBulk x.1:=by
 obtain⟨y0,y1,n,rfl,hl,h0,h1⟩:=trod_struct2 Tryz.underlying37 h;rw[show Tryz.prog.cellsOf 37=2 from by kernel_rfl]at hl
 match cs,hl with
 | [c0,c1],_ =>
  rw[show Tryz.prog.cellsOf 35=1 from by kernel_rfl]at h1;obtain⟨A,m,c,e1,hd⟩:=Ri h1;simp at e1;subst e1;refine⟨c0,A,m,c,rfl,?_⟩;have:=IE (d:=y1.1) (l:=[y0.1,y1.1]) Ac;simp only[Rows.uptoBulk];omega
set_option maxRecDepth 100000 in
theorem NE{T fuel:Nat}{v:Value}{x:DataW H×List MemPlace}(hT:Tryz.prog.underlying T=some (.slice 37))(h:DataW.trod enc Tryz.prog w 0 spare held fuel T v.cells.toList=some x)(hv:∃ a n c,v = .slice a n c){l:List Jy}(hp:Dk w v l)(hb:Rows.uptoBulk x.1<=1048576):MO l:=by
 obtain⟨a0,n0,c0,rfl⟩:=hv;obtain⟨A,cc,e1,g2,g3,g4⟩:=hp;rcases open_slice hT h with⟨hcs,_⟩ | ⟨a,n,c,m,k,D,Pl,hcs,_,hl,hm,hmm,rfl,hel⟩
 ·simp[Value.cells]at hcs
  obtain⟨rfl,rfl,rfl⟩:=hcs;have hl0:l=[]:=by injection e1 with _ h2 _;exact List.eq_nil_of_length_eq_zero h2.symm
  subst hl0;exact⟨Ac,fun x hx=>by simp at hx⟩
 ·simp[Value.cells]at hcs
  obtain⟨rfl,rfl,rfl⟩:=hcs;have hnl:n0=l.length:=by injection e1
  have hAa:A=some a:=by injection e1 with h1;exact h1.symm
  have hnm:n0<=m:=by rw[hmm];split<;>omega
  rw[show Tryz.prog.cellsOf 37=2 from by kernel_rfl]at hel;simp only[Rows.uptoBulk]at hb;have hlen:=QP (H:=H) ((List.range n0).map D);simp only[List.length_map,List.length_range]at hlen;refine⟨Aa,fun r hr=>?_⟩;obtain⟨j,hj,rfl⟩:=List.getElem_of_mem hr;obtain⟨g,o,hA2,_,hc⟩:=g4 Aa;obtain⟨cs,q1,q2,q3⟩:=hc j hj;obtain⟨cs',h1,h2⟩:=hel j Aa;obtain⟨_,h5,h6⟩:=World.cells?_some h1;rw[hAa]at hA2;injection hA2 with hA2
  subst hA2;have hD:=IE (d:=D j) (l:=(List.range n0).map D) (List.mem_map.2 ⟨j,List.mem_range.2 Aa,rfl⟩);obtain⟨b,A1,m1,c1,rfl,k1⟩:=RJ h2;obtain⟨s,eq,B1,d1,e2,dv⟩:=q3;subst e2;obtain rfl:=RB eq;have t1:=q2 1 Aa;have u1:=h6 1 Aa;rw[JR,JR]at u1;rw[t1]at u1;simp at u1;have k1':m1<=Rows.uptoBulk (D j):=k1;omega
end
variable{H:Type}{enc:TypeId×Value->H}{w:World}{spare:Nat->Bool}{held:Bool}
end Go.Proofs.YthlmipehlgoacaaGreat
namespace Go.Proofs.YthlmipehlgoacaaGreat
open Go.RowKit Go.Hp
theorem bM(v a b:Value)(F:Nat->Rat)(p q:Rat)(D M t base:Nat)(w:World)(hR:Pg F D M)(hD:D<=20)(hp:qsz p<=t)(hq:qsz q<=t)(ht:t<=4500000000)(hv:JX base 23 w v (Av F))(ha:BI w a p)(hb:BI w b q) :
  Be 26 #[v,a,b] w (fun r _=>r = .int .i64 (rc (Av F) p q)):=by
 obtain⟨S,hC⟩:=hR.chn;have hM:=hR.lim.1;have hm:D*(M+t+1)<=20*(M+t+1):=Nat.mul_le_mul_right _ hD;have:=Ui v a b (Av F) p q base S D M t (kn (Av F)) w hv ha hb hC hR.k hp hq Aa;rw[show((V (FO (Av F) (pd (Av F)) (kn (Av F))) p:Nat):Int) - (V (FO (Av F) (pd (Av F)) (kn (Av F))) q:Nat)=rc (Av F) p q from GG hR.k p q]at this;exact this
set_option maxRecDepth 20000 in
theorem RN(v i0 u j0:Value)(l m:List Int)(p q p' q':Rat)(t:Nat)(w:World)(hv:F9 0 w v l)(hi:KU w i0 p q)(hu:F9 0 w u m)(hj:KU w j0 p' q')(hl:l.length<=1000000)(hm:m.length<=1000000)
  (hF:Ca (cz l)=0->Rm (cz l)) (hG:Ca (cz m)=0->Rm (cz m)) (hC:Ca (cz l)=0->Ca (cz m)=0->Rm (Bl (cz l) (cz m)))
  (hgcd:Ca (cz l)=0->Ca (cz m)=0->∀ X a b,AJ 0 X a (cz l)->AJ 0 X b (cz m)->Be 8 #[a,b] X (fun r w'=>AJ 0 w' r (Bl (cz l) (cz m))))
  (hK:Ca (cz l)=0->Ca (cz m)=0->p < q->rc (Av (cz l)) p q=1->p' < q'->rc (Av (cz m)) p' q'=1->∃ K,K<=1000001000/\(∃ s,Stp (Bl (cz l) (cz m)) (Cw (rc (Av (cz l))) p q K) (Cw (rc (Av (cz m))) p' q' K) s)/\∀ j,j < K->∀ s,¬ Stp (Bl (cz l) (cz m)) (Cw (rc (Av (cz l))) p q j) (Cw (rc (Av (cz m))) p' q' j) s)
  (hp:qsz p<=t) (hq:qsz q<=t) (hp':qsz p'<=t) (hq':qsz q'<=t) (ht:t<=1000000000) :
  Be 10 #[v,i0,u,j0] w (fun r _=>eZ (cz l) (cz m) p q p' q' r):=by
 have HV:=Ad (Au hv hu);have HH:=Ad (Au hF (Au hG (Au hC (Au hgcd hK))));have HP:=Ad (Au hp (Au hq (Au hp' hq')));obtain⟨A,c,rfl⟩:=hv.len;obtain⟨A',c',rfl⟩:=hu.len;obtain⟨b1,B1,m1,k1,b2,B2,m2,k2,b3,B3,m3,k3,b4,B4,m4,k4,rfl,hi1,hi2⟩:=hi;obtain⟨d1,D1,n1,l1,d2,D2,n2,l2,d3,D3,n3,l3,d4,D4,n4,l4,rfl,hj1,hj2⟩:=hj;have HI:=Ad (Au hi1 (Au hi2 (Au hj1 hj2)));clear hv hu hF hG hC hgcd hK hi1 hi2 hj1 hj2 hp hq hp' hq'
 go_enter Tryz.func10,Tryz.ntmps10
 obtain⟨W1,eW1,eb,y1⟩:=AX.made w 41 #[.bool b1,.slice B1 m1 k1,.bool b2,.slice B2 m2 k2,.bool b3,.slice B3 m3 k3,.bool b4,.slice B4 m4 k4] (by simp[Ah]);obtain⟨W2,eW2,ej,y2⟩:=AX.made W1 41 #[.bool d1,.slice D1 n1 l1,.bool d2,.slice D2 n2 l2,.bool d3,.slice D3 n3 l3,.bool d4,.slice D4 n4 l4] (by simp[Ah]);have hs1:W1.heap.size=w.heap.size+1:=by rw[eW1];simp
 rw[hs1]at ej;replace eb:=eb.ext y2;have hx:=y1.trans y2
 go_upto_region 1 with(fail)
 rw[<-eW1,<-eW2];clear y1 y2 eW1 eW2 hs1
 go_wp2_with fail
 refine AQ (MQ _ l _ (HV.out.1.ext hx) hl) ?_;rintro r2 w2 ⟨u,rfl,hu1,hu2⟩ hx2;replace eb:=eb.ext hx2;replace ej:=ej.ext hx2;replace hx:=hx.trans hx2;clear hx2;have hgb:=eb.lt;have hgj:=ej.lt;have h22:=Ext.refl w2;obtain⟨E,hE⟩:∃ E,E=Ca (cz l):=⟨_,rfl⟩
 have hc:=DL (cz l);rw[<-hE]at hu1 hu2 hc ⊢;have HE:=Ad hE;clear hE;rcases hc with⟨-,hc⟩ | ⟨-,hc⟩ | ⟨h0,hpl,-,hc⟩
 ·subst hc
  clear hu1 hu2;go_wp2;refine bodyPost_ret (v := .tuple #[.int .i64 0,.int .i64 5]) (by simp[results,Tryz.results10,go_sem]) rfl ?_;exact Ag.mk ⟨0,5,rfl,fun _=>rfl,fun e=>absurd e Ab,by rw[<-HE.out];rw[if_pos Ab]⟩ hx
 ·subst hc
  clear hu1 hu2;go_wp2;refine bodyPost_ret (v := .tuple #[.int .i64 0,.int .i64 7]) (by simp[results,Tryz.results10,go_sem]) rfl ?_;exact Ag.mk ⟨0,7,rfl,fun _=>rfl,fun e=>absurd e Ab,by rw[<-HE.out];rw[if_pos Ab]⟩ hx
 subst hc;have hu:=hu1 rfl;obtain⟨A1,c1,rfl,-⟩:=hu.shape;have HU:=Ad hu;clear hu1 hu2 h0 hu hpl;obtain⟨D1',M1,hR1,hD1⟩:=HH.out.1 HE.out.symm;have H1:=Ad hR1;clear hR1
 go_wp2_with fail
 refine AQ (Gh _ (cz l) D1' M1 _ HU.out H1.out) ?_;rintro r4 w4 hr4 hx4;obtain⟨cA,cn,cc,rfl⟩:=hr4.cell;obtain⟨W5,eW5,ec,y5⟩:=AX.made w4 54 #[.slice cA cn cc] (by simp[Ah]);have hcn:=hr4.ext y5;have hx45:=hx4.trans y5;have hgc:w2.heap.size<=w4.heap.size:=hx4.size;have HUZ:=Ad (HU.out.ext hx45);clear HU;replace eb:=eb.ext hx45;replace ej:=ej.ext hx45;replace hx:=hx.trans hx45;replace h22:=h22.trans hx45
 clear hx45;clear hr4 hx4 y5
 go_upto_region 5 with(fail)
 rw[<-eW5];clear eW5;have hgc1:=ec.lt;generalize w4.heap.size=gc at *;obtain⟨ceb0,ceb1,ceb2,ceb3,ceb4,ceb5,ceb6,ceb7⟩:=eb.cells8;have feb:=eb.frozen;have cec0:=ec.cells1;have HC:=Ad hcn;clear hcn
 go_wp2_with fail
 refine AQ (WU _ _ (cz l) p q D1' M1 t _ _ H1.out hD1 HP.out.1 HP.out.2.1 Aa HC.out ⟨_,_,_,_,_,_,_,_,_,_,_,_,_,_,_,_,rfl,HI.out.1.ext hx,HI.out.2.1.ext hx⟩) ?_;rintro r6 w6 rfl hx6;have HC6:=Ad (Au (HC.out.ext hx6) (HUZ.out.ext hx6));clear HC HUZ;clear ceb0 ceb1 ceb2 ceb3 ceb4 ceb5 ceb6 ceb7 feb cec0;replace eb:=eb.ext hx6;replace ej:=ej.ext hx6;replace ec:=ec.ext hx6;replace hx:=hx.trans hx6;replace h22:=h22.trans hx6
 clear hx6;by_cases hone:p < q/\rc (Av (cz l)) p q=1
 case neg =>
  rw[decide_eq_false hone];go_wp2;refine bodyPost_ret (v := .tuple #[.int .i64 0,.int .i64 12]) (by simp[results,Tryz.results10,go_sem]) rfl ?_;exact Ag.mk ⟨0,12,rfl,fun _=>rfl,fun e=>absurd e Ab,by rw[<-HE.out];rw[if_neg Ab,if_pos hone]⟩ hx
 rw[decide_eq_true hone];have HO:=Ad hone;clear hone
 go_wp2_with fail
 refine AQ (MQ _ m _ (HV.out.2.ext hx) hm) ?_;rintro r7 w7 ⟨z,rfl,hz1,hz2⟩ hx7;have HC7:=Ad (Au (HC6.out.1.ext hx7) (HC6.out.2.ext hx7));clear HC6;replace eb:=eb.ext hx7;replace ej:=ej.ext hx7;replace ec:=ec.ext hx7;replace hx:=hx.trans hx7;replace h22:=h22.trans hx7;clear hx7;obtain⟨E2,hE2⟩:∃ E,E=Ca (cz m):=⟨_,rfl⟩
 have hc:=DL (cz m);rw[<-hE2]at hz1 hz2 hc ⊢;have HE2:=Ad hE2;clear hE2;rcases hc with⟨-,hc⟩ | ⟨-,hc⟩ | ⟨h0,hpl,-,hc⟩
 ·subst hc
  clear hz1 hz2;go_wp2;refine bodyPost_ret (v := .tuple #[.int .i64 0,.int .i64 5]) (by simp[results,Tryz.results10,go_sem]) rfl ?_;exact Ag.mk ⟨0,5,rfl,fun _=>rfl,fun e=>absurd e Ab,by rw[<-HE.out];rw[if_neg Ab,if_neg (fun h=>h HO.out),<-HE2.out,if_pos Ab]⟩ hx
 ·subst hc
  clear hz1 hz2;go_wp2;refine bodyPost_ret (v := .tuple #[.int .i64 0,.int .i64 7]) (by simp[results,Tryz.results10,go_sem]) rfl ?_;exact Ag.mk ⟨0,7,rfl,fun _=>rfl,fun e=>absurd e Ab,by rw[<-HE.out];rw[if_neg Ab,if_neg (fun h=>h HO.out),<-HE2.out,if_pos Ab]⟩ hx
 subst hc;have hz:=hz1 rfl;obtain⟨A2,c2,rfl,-⟩:=hz.shape;have HZ:=Ad hz;clear hz1 hz2 h0 hz hpl;obtain⟨D2',M2,hR2,hD2⟩:=HH.out.2.1 HE2.out.symm;have H2:=Ad hR2;clear hR2
 go_wp2_with fail
 refine AQ (Gh _ (cz m) D2' M2 _ HZ.out H2.out) ?_;rintro r8 w8 hr8 hx8;obtain⟨fA,fn,fc,rfl⟩:=hr8.cell;obtain⟨W9,eW9,ed,y9⟩:=AX.made w8 54 #[.slice fA fn fc] (by simp[Ah]);have hcn:=(hr8.lower h22.size).ext y9;have hx89:=hx8.trans y9;have hgd:w2.heap.size<=w8.heap.size:=Nat.le_trans h22.size hx8.size;have HC9:=Ad (Au (HC7.out.1.ext hx89) (Au (HC7.out.2.ext hx89) (HZ.out.ext hx89)));clear HC7 HZ;replace eb:=eb.ext hx89
 replace ej:=ej.ext hx89;replace ec:=ec.ext hx89;replace hx:=hx.trans hx89;replace h22:=h22.trans hx89;clear hx89;clear hr8 hx8 y9
 go_upto_region 11 with(fail)
 rw[<-eW9];clear eW9;have hgd1:=ed.lt;generalize w8.heap.size=gd at *;have cej:=ej.cells8;have fej:=ej.frozen;have ced0:=ed.cells1;have HD:=Ad hcn;clear hcn
 go_wp2_with fail
 refine AQ (WU _ _ (cz m) p' q' D2' M2 t _ _ H2.out hD2 HP.out.2.2.1 HP.out.2.2.2 Aa HD.out ⟨_,_,_,_,_,_,_,_,_,_,_,_,_,_,_,_,rfl,HI.out.2.2.1.ext hx,HI.out.2.2.2.ext hx⟩) ?_;rintro r10 w10 rfl hx10;have HC10:=Ad (Au (HC9.out.1.ext hx10) (Au (HD.out.ext hx10) (Au (HC9.out.2.1.ext hx10) (HC9.out.2.2.ext hx10))));clear HC9 HD;clear cej fej ced0;replace eb:=eb.ext hx10;replace ej:=ej.ext hx10;replace ec:=ec.ext hx10
 replace ed:=ed.ext hx10;replace hx:=hx.trans hx10;replace h22:=h22.trans hx10;clear hx10;by_cases hone:p' < q'/\rc (Av (cz m)) p' q'=1
 case neg =>
  rw[decide_eq_false hone];go_wp2;refine bodyPost_ret (v := .tuple #[.int .i64 0,.int .i64 12]) (by simp[results,Tryz.results10,go_sem]) rfl ?_;exact Ag.mk ⟨0,12,rfl,fun _=>rfl,fun e=>absurd e Ab,by rw[<-HE.out];rw[if_neg Ab,if_neg (fun h=>h HO.out),<-HE2.out,if_neg Ab,if_neg hone]⟩ hx
 rw[decide_eq_true hone];have HO2:=Ad hone;clear hone;have HE0:=Ad (show(0:Int)=if Ca (cz l)≠0 then Ca (cz l)else if ¬ (p < q/\rc (Av (cz l)) p q=1)then 12 else if Ca (cz m)≠0 then Ca (cz m)else if p' < q'/\rc (Av (cz m)) p' q'=1 then 0 else 12 from by
  rw[<-HE.out,if_neg Ab,if_neg (fun h=>h HO.out),<-HE2.out,if_neg Ab,if_pos HO2.out])
 obtain⟨C,hCe⟩:∃ C,C=Bl (cz l) (cz m):=⟨_,rfl⟩
 have HCe:=Ad hCe;clear hCe;have hgc0:=HH.out.2.2.2.1 HE.out.symm HE2.out.symm;have hR3:=HH.out.2.2.1 HE.out.symm HE2.out.symm;rw[<-HCe.out]at hgc0 hR3;obtain⟨D3',M3,hR3,hD3⟩:=hR3;have H3:=Ad (Au hgc0 hR3);clear hgc0 hR3;obtain⟨K,hK9,⟨sK,hsK⟩,hKn⟩:=HH.out.2.2.2.2 HE.out.symm HE2.out.symm HO.out.1 HO.out.2 HO2.out.1 HO2.out.2;rw[<-HCe.out]at hsK hKn;have HKK:=Ad (Au hsK hKn);clear hsK hKn
 go_wp2_with fail
 refine AQ (H3.out.1 _ _ _ HC10.out.2.2.1 HC10.out.2.2.2) ?_;rintro r11 w11 hr11 hx11;obtain⟨A3,c3,rfl,-⟩:=hr11.shape;have HC11:=Ad (Au (HC10.out.1.ext hx11) (Au (HC10.out.2.1.ext hx11) hr11));clear HC10 hr11;replace eb:=eb.ext hx11;replace ej:=ej.ext hx11;replace ec:=ec.ext hx11;replace ed:=ed.ext hx11;replace hx:=hx.trans hx11;replace h22:=h22.trans hx11;clear hx11
 go_wp2_with fail
 refine AQ (Gh _ C D3' M3 _ HC11.out.2.2 H3.out.2) ?_;rintro r12 w12 hr12 hx12;obtain⟨hA,hn,hc,rfl⟩:=hr12.cell;obtain⟨W13,eW13,ek,y13⟩:=AX.made w12 54 #[.slice hA hn hc] (by simp[Ah]);have hx123:=hx12.trans y13;have hgk:w2.heap.size<=w12.heap.size:=Nat.le_trans h22.size hx12.size;have hc1:=HC11.out.1.ext hx123;have hc2:=HC11.out.2.1.ext hx123;have hc3:=(hr12.lower h22.size).ext y13;replace eb:=eb.ext hx123
 replace ej:=ej.ext hx123;replace ec:=ec.ext hx123;replace ed:=ed.ext hx123;replace hx:=hx.trans hx123;clear hx123;clear hr12 hx12 y13 HC11;have hbx:Lb W13 w.heap.size 41 (Cw (rc (Av (cz l))) p q 0).1 (Cw (rc (Av (cz l))) p q 0).2:=⟨_,_,_,_,_,_,_,_,_,_,_,_,_,_,_,_,eb,HI.out.1.ext hx,HI.out.2.1.ext hx⟩
 have hjx:Lb W13 (w.heap.size+1) 41 (Cw (rc (Av (cz m))) p' q' 0).1 (Cw (rc (Av (cz m))) p' q' 0).2:=⟨_,_,_,_,_,_,_,_,_,_,_,_,_,_,_,_,ej,HI.out.2.2.1.ext hx,HI.out.2.2.2.ext hx⟩
 clear eb ej HI h22;go_wp2;rw[<-eW13];clear eW13;generalize w12.heap.size=gk at *
 go_loopw [] (fun wr=>∃ k:Nat,k<=K/\Lb wr w.heap.size 41 (Cw (rc (Av (cz l))) p q k).1 (Cw (rc (Av (cz l))) p q k).2/\Lb wr (w.heap.size+1) 41 (Cw (rc (Av (cz m))) p' q' k).1 (Cw (rc (Av (cz m))) p' q' k).2/\AX wr gc 54 #[.slice cA cn cc]/\AX wr gd 54 #[.slice fA fn fc]/\AX wr gk 54 #[.slice hA hn hc]/\JX w2.heap.size 23 wr (.agg #[.slice cA cn cc]) (Av (cz l))/\JX w2.heap.size 23 wr (.agg #[.slice fA fn fc]) (Av (cz m))/\JX w2.heap.size 23 wr (.agg #[.slice hA hn hc]) (Av C)/\Ext w wr) (fun wr=>K - aO wr w.heap.size 41 (rc (Av (cz l))) p q)
 case atStart=>exact⟨0,Aa,hbx,hjx,ec,ed,ek,hc1,hc2,hc3,hx⟩
 case round =>
  clear hbx hjx ec ed ek hc1 hc2 hc3 hx;obtain⟨k,hk,hbi,hji,ec,ed,ek,hc1,hc2,hc3,hx⟩:=hrel;have HPN:=Ad (Ty HO.out.1 hbi);have z1:=P6 (R:=rc (Av (cz l))) HP.out.1 HP.out.2.1 k;have z2:=P6 (R:=rc (Av (cz m))) HP.out.2.2.1 HP.out.2.2.2 k;obtain⟨P,hPe⟩:∃ P,P=Cw (rc (Av (cz l))) p q k:=⟨_,rfl⟩
  obtain⟨Q,hQe⟩:∃ P,P=Cw (rc (Av (cz m))) p' q' k:=⟨_,rfl⟩
  rw[<-hPe]at hbi z1;rw[<-hQe]at hji z2;obtain⟨b1,B1,m1,k1,b2,B2,m2,k2,b3,B3,m3,k3,b4,B4,m4,k4,eb,i1,i2⟩:=hbi;obtain⟨d1,D1,n1,l1,d2,D2,n2,l2,d3,D3,n3,l3,d4,D4,n4,l4,ej,i3,i4⟩:=hji;have HN:=Ad (show ∀ j,j < k->∀ s',¬ Stp C (Cw (rc (Av (cz l))) p q j) (Cw (rc (Av (cz m))) p' q' j) s' from fun j hj=>HKK.out.2 j Aa);have HE3:=Ad (Au hPe hQe);clear hPe hQe;have HI:=Ad (Au i1 (Au i2 (Au i3 i4)));clear i1 i2 i3 i4
  have HC:=Ad (Au hc1 (Au hc2 hc3));clear hc1 hc2 hc3;have HB:=Ad (Au eb (Au ej (Au ec (Au ed ek))));clear ec ed ek;have HS:=Ad (Au z1 z2);clear z1 z2;have h0r:=Ext.refl wr;obtain⟨ceb0,ceb1,ceb2,ceb3,ceb4,ceb5,ceb6,ceb7⟩:=eb.cells8;have feb:=eb.frozen;have cej:=ej.cells8;have fej:=ej.frozen
  go_wp2_with fail
  refine AQ (KP _ _ P.2 Q.1 _ HI.out.2.1 HI.out.2.2.1 (by have:=HS.out;omega)) ?_;rintro r14 w14 rfl hx14;clear ceb0 ceb1 ceb2 ceb3 ceb4 ceb5 ceb6 ceb7 feb cej fej;replace eb:=eb.ext hx14;replace ej:=ej.ext hx14;replace h0r:=h0r.trans hx14;clear hx14;by_cases hs1:P.2<=Q.1
  ·have hsg:=Gx.2 hs1
   have HS1:=Ad hs1;clear hs1;generalize FW (P.2 - Q.1)=sg at *;have hx:=hx.trans h0r;go_wp2;refine bodyPost_ret (v := .tuple #[.int .i64 (-1),.int .i64 0]) (by simp[results,Tryz.results10,go_sem]) rfl ?_;exact Ag.mk ⟨-1,0,rfl,fun e=>absurd rfl e,fun _=>⟨k,by rw[<-HCe.out];exact by rw[<-HE3.out.1,<-HE3.out.2];exact .inl ⟨HS1.out,rfl⟩,fun j hj s'=>by rw[<-HCe.out];exact HN.out j hj s'⟩,HE0.out⟩ hx
  have hsg:¬ FW (P.2 - Q.1)<=0:=fun h=>hs1 (Gx.1 h);have HS1:=Ad hs1;clear hs1;generalize FW (P.2 - Q.1)=sg at *;obtain⟨ceb0,ceb1,ceb2,ceb3,ceb4,ceb5,ceb6,ceb7⟩:=eb.cells8;have feb:=eb.frozen;have cej:=ej.cells8;have fej:=ej.frozen
  go_wp2_with fail
  refine AQ (KP _ _ Q.2 P.1 _ (HI.out.2.2.2.ext h0r) (HI.out.1.ext h0r) (by have:=HS.out;omega)) ?_;rintro r15 w15 rfl hx15;clear ceb0 ceb1 ceb2 ceb3 ceb4 ceb5 ceb6 ceb7 feb cej fej;replace eb:=eb.ext hx15;replace ej:=ej.ext hx15;replace h0r:=h0r.trans hx15;clear hx15;by_cases hs2:Q.2<=P.1
  ·have hsg2:=Gx.2 hs2
   have HS2:=Ad hs2;clear hs2;generalize FW (Q.2 - P.1)=sg2 at *;have hx:=hx.trans h0r;go_wp2;refine bodyPost_ret (v := .tuple #[.int .i64 (1),.int .i64 0]) (by simp[results,Tryz.results10,go_sem]) rfl ?_;exact Ag.mk ⟨1,0,rfl,fun e=>absurd rfl e,fun _=>⟨k,by rw[<-HCe.out];exact by rw[<-HE3.out.1,<-HE3.out.2];exact .inr (.inl ⟨HS1.out,HS2.out,rfl⟩),fun j hj s'=>by rw[<-HCe.out];exact HN.out j hj s'⟩,HE0.out⟩ hx
  have hsg2:¬ FW (Q.2 - P.1)<=0:=fun h=>hs2 (Gx.1 h);have HS2:=Ad hs2;clear hs2;generalize FW (Q.2 - P.1)=sg2 at *
  go_upto_region 18 with(fail)
  clear hsg hsg2 ej;obtain⟨ceb0,ceb1,ceb2,ceb3,ceb4,ceb5,ceb6,ceb7⟩:=eb.cells8;have feb:=eb.frozen;have hw15:wr.heap.size<=w15.heap.size:=h0r.size
  go_cut [14,15] (fun pv qv wx=>∃ g4 g5,pv = .pointer (some ⟨g4,0,none⟩)/\qv = .pointer (some ⟨g5,0,none⟩)/\AX wx g4 39 #[.bool b1,.slice B1 m1 k1,.bool b2,.slice B2 m2 k2]/\AX wx g5 39 #[.bool b3,.slice B3 m3 k3,.bool b4,.slice B4 m4 k4]/\g4≠g5/\w15.heap.size<=g4/\w15.heap.size<=g5/\Ext w15 wx)
  case first =>
   rename_i hJ hM';have hne:w.heap.size < w15.heap.size:=by have:=hx.size;have:=eb.lt;omega
   have hne1:¬ w.heap.size=w15.heap.size:=by omega
   have hne2:¬ w.heap.size=w15.heap.size+1:=by omega
   have hne3:¬ w15.heap.size=w.heap.size:=by omega
   have hne4:¬ w15.heap.size+1=w.heap.size:=by omega
   have ka0:=fun o=>((Ext.refl w15).alloc o).cell ceb0;have kb0:=fun o o'=>(((Ext.refl w15).alloc o).alloc o').cell ceb0;have ka1:=fun o=>((Ext.refl w15).alloc o).cell ceb1;have kb1:=fun o o'=>(((Ext.refl w15).alloc o).alloc o').cell ceb1;have ka2:=fun o=>((Ext.refl w15).alloc o).cell ceb2;have kb2:=fun o o'=>(((Ext.refl w15).alloc o).alloc o').cell ceb2;have ka3:=fun o=>((Ext.refl w15).alloc o).cell ceb3
   have kb3:=fun o o'=>(((Ext.refl w15).alloc o).alloc o').cell ceb3;have ka4:=fun o=>((Ext.refl w15).alloc o).cell ceb4;have kb4:=fun o o'=>(((Ext.refl w15).alloc o).alloc o').cell ceb4;have ka5:=fun o=>((Ext.refl w15).alloc o).cell ceb5;have kb5:=fun o o'=>(((Ext.refl w15).alloc o).alloc o').cell ceb5;have ka6:=fun o=>((Ext.refl w15).alloc o).cell ceb6;have kb6:=fun o o'=>(((Ext.refl w15).alloc o).alloc o').cell ceb6
   have ka7:=fun o=>((Ext.refl w15).alloc o).cell ceb7;have kb7:=fun o o'=>(((Ext.refl w15).alloc o).alloc o').cell ceb7
   go_region
   ·obtain⟨Wa,eWa,e4,ya⟩:=AX.made w15 39 #[.bool b1,.slice B1 m1 k1,.bool b2,.slice B2 m2 k2] (by simp[Ah])
    obtain⟨Wb,eWb,e5,yb⟩:=AX.made Wa 39 #[.bool b3,.slice B3 m3 k3,.bool b4,.slice B4 m4 k4] (by simp[Ah]);have hsa:Wa.heap.size=w15.heap.size+1:=by rw[eWa,World.size_alloc]
    rw[<-eWa,<-eWb];rw[hsa]at e5;refine hM' _ _ (Met.intro (hJ _ _ ?_))
    (repeat apply Exists.intro)
    refine⟨?rel,rfl⟩
    case rel=>exact⟨w15.heap.size,w15.heap.size+1,rfl,rfl,e4.ext yb.drew,e5.ext (Ext.refl _).drew,Aa,Aa,Aa,(ya.trans yb).drew⟩
   ·obtain⟨Wa,eWa,e5,ya⟩:=AX.made w15 39 #[.bool b3,.slice B3 m3 k3,.bool b4,.slice B4 m4 k4] (by simp[Ah])
    obtain⟨Wb,eWb,e4,yb⟩:=AX.made Wa 39 #[.bool b1,.slice B1 m1 k1,.bool b2,.slice B2 m2 k2] (by simp[Ah]);have hsa:Wa.heap.size=w15.heap.size+1:=by rw[eWa,World.size_alloc]
    rw[<-eWa,<-eWb];rw[hsa]at e4;refine hM' _ _ (Met.intro (hJ _ _ ?_))
    (repeat apply Exists.intro)
    refine⟨?rel,rfl⟩
    case rel=>exact⟨w15.heap.size+1,w15.heap.size,rfl,rfl,e4.ext (Ext.refl _).drew,e5.ext yb.drew,Aa,Aa,Aa,(ya.trans yb).drew⟩
  case rest =>
   clear ceb0 ceb1 ceb2 ceb3 ceb4 ceb5 ceb6 ceb7 feb eb;obtain⟨g4,g5,rfl,rfl,e4,e5,h45,hg4,hg5,hx18⟩:=hcut;replace h0r:=h0r.trans hx18;clear hx18;have ej:=HB.out.2.1.ext h0r;have cej:=ej.cells8;have fej:=ej.frozen;have ce4:=e4.cells4;have fe4:=e4.frozen
   go_wp2_with fail
   refine AQ (KP _ _ Q.1 P.1 _ (HI.out.2.2.1.ext h0r) (HI.out.1.ext h0r) (by have:=HS.out;omega)) ?_;rintro r19 w19 rfl hx19;clear cej fej ce4 fe4;replace ej:=ej.ext hx19;replace e4:=e4.ext hx19;replace e5:=e5.ext hx19;replace h0r:=h0r.trans hx19;clear hx19
   go_upto_if 68 with(fail)
   go_cut [] (fun wx=>dK wx g4 39 (LC P.1 Q.1)/\AX wx g5 39 #[.bool b3,.slice B3 m3 k3,.bool b4,.slice B4 m4 k4]/\Ext wr wx)
   case first =>
    by_cases hs3:P.1 < Q.1
    ·have hsg3:=LU.2 hs3
     have HM:=Ad (show LC P.1 Q.1=Q.1 by unfold LC;rw[if_pos hs3]);clear hs3;generalize FW (Q.1 - P.1)=sg3 at *;have cej:=ej.cells8;have fej:=ej.frozen;have ce4:=e4.cells4;have fe4:=e4.frozen;go_wp2;obtain⟨W20,eW,e4',U⟩:=e4.put4 (.bool d1) (.slice D1 n1 l1) (.bool d2) (.slice D2 n2 l2);rw[<-eW];clear eW e4;replace e5:=e5.upd U Aj;replace h0r:=U.from_ h0r Aj;have e4:=e4';clear U e4'
     go_meet
     case rel=>exact⟨⟨_,_,_,_,_,_,_,_,e4,by rw[HM.out];exact HI.out.2.2.1.ext h0r⟩,e5,h0r⟩
    ·have hsg3:¬ FW (Q.1 - P.1) > 0:=fun h=>hs3 (LU.1 h)
     have HM:=Ad (show LC P.1 Q.1=P.1 by unfold LC;rw[if_neg hs3]);clear hs3;generalize FW (Q.1 - P.1)=sg3 at *;go_wp2
     go_meet
     case rel=>exact⟨⟨_,_,_,_,_,_,_,_,e4,by rw[HM.out];exact HI.out.1.ext h0r⟩,e5,h0r⟩
   case rest =>
    clear ej e4 e5 h0r;obtain⟨⟨f1,F1,o1,q1,f2,F2,o2,q2,e4,i5⟩,e5,h0r⟩:=hcut;have H5:=Ad (Au i5 (Ext.refl wc));clear i5;have ej:=HB.out.2.1.ext h0r;have cej:=ej.cells8;have fej:=ej.frozen;have ce5:=e5.cells4;have fe5:=e5.frozen
    go_wp2_with fail
    refine AQ (KP _ _ Q.2 P.2 _ (HI.out.2.2.2.ext h0r) (HI.out.2.1.ext h0r) (by have:=HS.out;omega)) ?_;rintro r21 w21 rfl hx21;have H6:=Ad (H5.out.1.ext hx21);clear H5;clear cej fej ce5 fe5;replace ej:=ej.ext hx21;replace e4:=e4.ext hx21;replace e5:=e5.ext hx21;replace h0r:=h0r.trans hx21;clear hx21
    go_upto_if 75 with(fail)
    go_cut [] (fun wx=>AX wx g4 39 #[.bool f1,.slice F1 o1 q1,.bool f2,.slice F2 o2 q2]/\BI wx (.agg #[.bool f1,.slice F1 o1 q1,.bool f2,.slice F2 o2 q2]) (LC P.1 Q.1)/\dK wx g5 39 (N8 P.2 Q.2)/\Ext wr wx)
    case first =>
     by_cases hs3:Q.2 < P.2
     ·have hsg3:=LP.2 hs3
      have HM:=Ad (show N8 P.2 Q.2=Q.2 by unfold N8;rw[if_pos hs3]);clear hs3;generalize FW (Q.2 - P.2)=sg3 at *;have H7:=H6.out;have cej:=ej.cells8;have fej:=ej.frozen;have ce5:=e5.cells4;have fe5:=e5.frozen;go_wp2;obtain⟨W22,eW,e5',U⟩:=e5.put4 (.bool d3) (.slice D3 n3 l3) (.bool d4) (.slice D4 n4 l4);rw[<-eW];clear eW e5;replace H7:=H7.kd U.kd;replace e4:=e4.upd U Aj;replace h0r:=U.from_ h0r Aj;have e5:=e5'
      clear U e5'
      go_meet
      case rel=>exact⟨e4,H7,⟨_,_,_,_,_,_,_,_,e5,by rw[HM.out];exact HI.out.2.2.2.ext h0r⟩,h0r⟩
     ·have hsg3:¬ FW (Q.2 - P.2) < 0:=fun h=>hs3 (LP.1 h)
      have HM:=Ad (show N8 P.2 Q.2=P.2 by unfold N8;rw[if_neg hs3]);clear hs3;generalize FW (Q.2 - P.2)=sg3 at *;go_wp2
      go_meet
      case rel=>exact⟨e4,H6.out,⟨_,_,_,_,_,_,_,_,e5,by rw[HM.out];exact HI.out.2.1.ext h0r⟩,h0r⟩
    case rest =>
     clear ej e4 e5 h0r H6;obtain⟨e4,i5,⟨s1,S1,t1,v1,s2,S2,t2,v2,e5,i6⟩,h0r⟩:=hcut;have zz:qsz (LC P.1 Q.1)<=3*t+k+4/\qsz (N8 P.2 Q.2)<=3*t+k+4:=by
      have:=HS.out;unfold LC N8;exact⟨by split<;>omega,by split<;>omega⟩
     have ek:=HB.out.2.2.2.2.ext h0r;have hin:=bM _ _ _ C (LC P.1 Q.1) (N8 P.2 Q.2) D3' M3 _ _ _ H3.out.2 hD3 zz.1 zz.2 Aa (HC.out.2.2.ext h0r) i5 i6;have HIN:=Ad hin;clear hin zz i5 i6;have ce4:=e4.cells4;have fe4:=e4.frozen;have ce5:=e5.cells4;have fe5:=e5.frozen;have cek0:=ek.cells1
     go_wp2_with fail
     refine AQ HIN.out ?_;rintro r23 w23 rfl hx23;clear ce4 fe4 ce5 fe5 cek0 ek e4 e5 HIN;replace h0r:=h0r.trans hx23;clear hx23;by_cases hs3:rc (Av C) (LC P.1 Q.1) (N8 P.2 Q.2)=1
     ·rw[hs3]
      have HS3:=Ad hs3;clear hs3;have hx:=hx.trans h0r;go_wp2;refine bodyPost_ret (v := .tuple #[.int .i64 (0),.int .i64 0]) (by simp[results,Tryz.results10,go_sem]) rfl ?_;exact Ag.mk ⟨0,0,rfl,fun e=>absurd rfl e,fun _=>⟨k,by rw[<-HCe.out];exact by rw[<-HE3.out.1,<-HE3.out.2];exact .inr (.inr ⟨HS1.out,HS2.out,HS3.out,rfl⟩),fun j hj s'=>by rw[<-HCe.out];exact HN.out j hj s'⟩,HE0.out⟩ hx
     have hkK:k < K:=by
      rcases Nat.lt_or_ge k K with h | h
      ·exact h
      ·obtain rfl:k=K:=by omega
       have:=HKK.out.1;rw[<-HE3.out.1,<-HE3.out.2]at this;rcases this with⟨h,_⟩ | ⟨_,h,_⟩ | ⟨_,_,h,_⟩
       ·exact absurd h HS1.out
       ·exact absurd h HS2.out
       ·exact absurd h hs3
     obtain⟨N,hN⟩:∃ N,N=rc (Av C) (LC P.1 Q.1) (N8 P.2 Q.2):=⟨_,rfl⟩
     rw[<-hN]at hs3 ⊢;have hbN:(N==1)=false:=beq_eq_false_iff_ne.2 hs3;clear hN hs3;have eb:=HB.out.1.ext h0r;have ej:=HB.out.2.1.ext h0r;have ec:=HB.out.2.2.1.ext h0r;have ed:=HB.out.2.2.2.1.ext h0r;have ek:=HB.out.2.2.2.2.ext h0r;have hI:=HI.out;rw[HE3.out.1,HE3.out.2]at hI;have HI2:=Ad hI;clear hI;obtain⟨P2,hP2⟩:∃ P,P=Cw (rc (Av (cz l))) p q (k+1):=⟨_,rfl⟩
     obtain⟨Q2,hQ2⟩:∃ P,P=Cw (rc (Av (cz m))) p' q' (k+1):=⟨_,rfl⟩
     have hA:∀ X,Ext w23 X->Be 29 #[.agg #[.slice cA cn cc],.agg #[.bool b1,.slice B1 m1 k1,.bool b2,.slice B2 m2 k2,.bool b3,.slice B3 m3 k3,.bool b4,.slice B4 m4 k4]] X (fun r w'=>bD w' r P2):=fun X x=>by
      rw[hP2];refine Ag.imp ?_ fun _ _ h=>⟨h⟩
      exact Qn _ _ (cz l) p q D1' M1 t k _ X H1.out hD1 HP.out.1 HP.out.2.1 Aa (HC.out.1.ext (h0r.trans x)) ⟨_,_,_,_,_,_,_,_,_,_,_,_,_,_,_,_,rfl,HI2.out.1.ext (h0r.trans x),HI2.out.2.1.ext (h0r.trans x)⟩
     have hB:∀ X,Ext w23 X->Be 29 #[.agg #[.slice fA fn fc],.agg #[.bool d1,.slice D1 n1 l1,.bool d2,.slice D2 n2 l2,.bool d3,.slice D3 n3 l3,.bool d4,.slice D4 n4 l4]] X (fun r w'=>KU w' r Q2.1 Q2.2):=fun X x=>by
      rw[hQ2];exact Qn _ _ (cz m) p' q' D2' M2 t k _ X H2.out hD2 HP.out.2.2.1 HP.out.2.2.2 Aa (HC.out.2.1.ext (h0r.trans x)) ⟨_,_,_,_,_,_,_,_,_,_,_,_,_,_,_,_,rfl,HI2.out.2.2.1.ext (h0r.trans x),HI2.out.2.2.2.ext (h0r.trans x)⟩
     have HPQ2:=Ad (Au hP2 hQ2);clear hP2 hQ2;have HH2:=Ad (Au hA hB);clear hA hB;obtain⟨ceb0,ceb1,ceb2,ceb3,ceb4,ceb5,ceb6,ceb7⟩:=eb.cells8;have feb:=eb.frozen;have cej:=ej.cells8;have fej:=ej.frozen;have cec0:=ec.cells1;have ced0:=ed.cells1
     go_upto_region 25 with(fail)
     refine Er 5 [83,84,85,86,87] [11,5,12,7] [_,_,_,_] [(kv ?_),(kv ?_),(fun γ=>γ 2),(kv ?_),(kv ?_)] (fun γ w'=>[True,True,bD w' (γ 2) P2,True,True]) ?s1 ?_
     case s1 =>
      iterate 5 refine⟨?_,?_⟩
      trivial
      iterate 2 focus
       refine Bf fun _ w' he R hR=>?_;have hc:=he.cells;have cq0:=he.cell ceb0;have cq1:=he.cell ceb1;have cq2:=he.cell ceb2;have cq3:=he.cell ceb3;have cq4:=he.cell ceb4;have cq5:=he.cell ceb5;have cq6:=he.cell ceb6;have cq7:=he.cell ceb7;have cq8:=(ej.ext he).cells8;have cq9:=he.cell cec0;have cq10:=he.cell ced0;go_simp;exact BV hR
      ·refine Bf fun _ w' he R hR=>?_
       have h9:=HH2.out.1 w' he;go_simp;refine AQ h9 ?_;rintro v w2 hv hx;exact⟨v,rfl,hR v w2 hx rfl hv⟩
      iterate 2 focus
       refine Bf fun _ w' he R hR=>?_;have hc:=he.cells;have cq0:=he.cell ceb0;have cq1:=he.cell ceb1;have cq2:=he.cell ceb2;have cq3:=he.cell ceb3;have cq4:=he.cell ceb4;have cq5:=he.cell ceb5;have cq6:=he.cell ceb6;have cq7:=he.cell ceb7;have cq8:=(ej.ext he).cells8;have cq9:=he.cell cec0;have cq10:=he.cell ced0;go_simp;exact BV hR
     intro γ w25 hx25 hF;have p2:bD w25 (γ 2) P2:=AB.get hF 2 Ab;clear hF;simp only[Bu,Nat.reduceAdd];generalize γ 2=g2 at *;clear γ;obtain⟨f1,F1,o1,q1,f2,F2,o2,q2,f3,F3,o3,q3,f4,F4,o4,q4,rfl,j1,j2⟩:=p2.out;have HJ:=Ad (Au j1 j2);clear j1 j2
     go_wp2_with fail
     refine AQ (HH2.out.2 _ hx25) ?_;rintro r26 w26 ⟨s1,S1,t1,v1,s2,S2,t2,v2,s3,S3,t3,v3,s4,S4,t4,v4,rfl,j3,j4⟩ hx26;have j1:=HJ.out.1.ext hx26;have j2:=HJ.out.2.ext hx26;clear ceb0 ceb1 ceb2 ceb3 ceb4 ceb5 ceb6 ceb7 feb cej fej cec0 ced0 HJ;have hx256:=hx25.trans hx26;clear hx25 hx26;replace eb:=eb.ext hx256;replace ej:=ej.ext hx256;replace ec:=ec.ext hx256;replace ed:=ed.ext hx256;replace ek:=ek.ext hx256
     replace h0r:=h0r.trans hx256;clear hx256;have hc1:=HC.out.1.ext h0r;have hc2:=HC.out.2.1.ext h0r;have hc3:=HC.out.2.2.ext h0r;replace hx:=hx.trans h0r;clear h0r;obtain⟨ceb0,ceb1,ceb2,ceb3,ceb4,ceb5,ceb6,ceb7⟩:=eb.cells8;have feb:=eb.frozen;have cej:=ej.cells8;have fej:=ej.frozen;go_wp2;obtain⟨W26,eW,eb',U⟩:=eb.put8 (.bool f1) (.slice F1 o1 q1) (.bool f2) (.slice F2 o2 q2) (.bool f3) (.slice F3 o3 q3) (.bool f4) (.slice F4 o4 q4)
     rw[<-eW];clear eW eb;replace j1:=j1.kd U.kd;replace j2:=j2.kd U.kd;replace j3:=j3.kd U.kd;replace j4:=j4.kd U.kd;replace ej:=ej.upd U Aj;replace ec:=ec.upd U Aj;replace ed:=ed.upd U Aj;replace ek:=ek.upd U Aj;replace hc1:=hc1.upd U Aj;replace hc2:=hc2.upd U Aj;replace hc3:=hc3.upd U Aj;replace hx:=U.from_ hx Aj;have eb:=eb';clear U eb';obtain⟨W27,eW,ej',U⟩:=ej.put8 (.bool s1) (.slice S1 t1 v1) (.bool s2) (.slice S2 t2 v2) (.bool s3) (.slice S3 t3 v3) (.bool s4) (.slice S4 t4 v4)
     rw[<-eW];clear eW ej;replace j1:=j1.kd U.kd;replace j2:=j2.kd U.kd;replace j3:=j3.kd U.kd;replace j4:=j4.kd U.kd;replace eb:=eb.upd U Aj;replace ec:=ec.upd U Aj;replace ed:=ed.upd U Aj;replace ek:=ek.upd U Aj;replace hc1:=hc1.upd U Aj;replace hc2:=hc2.upd U Aj;replace hc3:=hc3.upd U Aj;replace hx:=U.from_ hx Aj;have ej:=ej';clear U ej';clear ceb0 ceb1 ceb2 ceb3 ceb4 ceb5 ceb6 ceb7 feb cej fej;have hbx:Lb W27 w.heap.size 41 (Cw (rc (Av (cz l))) p q (k+1)).1 (Cw (rc (Av (cz l))) p q (k+1)).2:=by rw[<-HPQ2.out.1];exact⟨_,_,_,_,_,_,_,_,_,_,_,_,_,_,_,_,eb,j1,j2⟩
     have hjx:Lb W27 (w.heap.size+1) 41 (Cw (rc (Av (cz m))) p' q' (k+1)).1 (Cw (rc (Av (cz m))) p' q' (k+1)).2:=by rw[<-HPQ2.out.2];exact⟨_,_,_,_,_,_,_,_,_,_,_,_,_,_,_,_,ej,j3,j4⟩
     have HPN2:=Ad (Ty HO.out.1 hbx)
     go_roundw
     case rel=>exact⟨k+1,Aa,hbx,hjx,ec,ed,ek,hc1,hc2,hc3,hx⟩
     case measure=>rw[HPN.out,HPN2.out];omega
theorem Zu{F G:Nat->Rat}(hF:Cj F)(hG:Cj G)(X:World)(a b:Value)(ha:AJ 0 X a F)(hb:AJ 0 X b G):Be 8 #[a,b] X (fun r w'=>AJ 0 w' r (Bl F G)):=by
 have hp:=hF.p;have hq:=hG.p;have h1:2^(pl F+pl G)<=2^14:=Nat.pow_le_pow_right Ab Aa;have h2:(pl F+pl G+1)*(32768+1)<=15*32769:=Nat.mul_le_mul_right _ Aa;exact Wv a b F G 1 32768 X ha hb hF.q hG.q Aa Aa Aa Aa
theorem Qq(v:Value)(l:List Int)(N:Nat)(w:World)(hv:F9 0 w v l)(hl:l.length<=12)(hL:Cj (cz l))(hN:700000000<=N)(hN9:N<=700000001) :
  Be 7 #[v] w (fun r w'=>∃ c,r = .tuple #[c,.int .i64 0]/\Df 0 41 w' c (iso (rc (Av (cz l))) N (-(2:Rat)^bx (cz l)) ((2:Rat)^bx (cz l)))):=by
 refine Ag.imp (MK v l _ 32768 N w hv Aa (fun _=>hL.pg) (fun _ d p q hn hd=>hL.deep d p q hn Aa) Aa (by have:=hL.chn.2;omega)) fun r w' ⟨c,e1,e2,_⟩=>?_;rw[hL.err]at e1;exact⟨c,e1,(e2 hL.err).lower (Nat.zero_le _)⟩
end Go.Proofs.YthlmipehlgoacaaGreat
