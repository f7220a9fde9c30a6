/- Lemmas. -/
import Derived.Test.YtmhgnigpmompmaaGreatMl1
import Derived.Test.YtmhgnigpmompmaaGreatMl2
import Derived.Test.YtmhgnigpmompmaaGreatMl3
import Derived.Deep.RegionHeld3
import Derived.Test.YtmhgnigpmompmaaGreatRows
import Derived.WalkKit
import Derived.ProofKit
import Derived.OpenShut
import Derived.ShutString
import Derived.ChangeOld
import Derived.Below
import Derived.JoinedCond
set_option linter.unusedVariables false
set_option linter.unusedSimpArgs false
set_option maxHeartbeats 16000000
namespace Go.Hp
open Go.RowKit
theorem TC{g:Nat->Rat}{n s:Nat}(h:AU g)(hn:pl g<=n)(hn9:n<=16)(hs:∀ i,qsz (g i)<=s)(hs9:s<=5)(k:Nat) :
  (∀ i,qsz ((yw (y0 g) (yc g) k).1 i)<=36000)/\(∀ i,qsz ((yw (y0 g) (yc g) k).2 i)<=36000)/\pl (yw (y0 g) (yc g) k).1+pl (yw (y0 g) (yc g) k).2<=n+1:=by
 obtain⟨hC,hW,e,d1,-⟩:=Ch h;obtain⟨p1,p2⟩:=EU hW hC k;obtain⟨e1,e2⟩:=Tg hW hC k;have dW:Iw g (y0 g):=⟨yc g,hC.z,hC.f,by rw[Av];exact e⟩
 have l1:=Dv.le p1.f hW.f hW.n (KA e1);have l2:=Dv.le p2.f hC.f hC.n (KA e2);have l3:=Du hW.f hC.f hW.n hC.n;rw[<-e]at l3;have:=hW.pos;exact⟨UB h.z h.f h.n p1.z p1.f (IY dW e1) hn hn9 hs hs9,UB h.z h.f h.n p2.z p2.f (IY d1 e2) hn hn9 hs hs9,Aa⟩
theorem UC{g:Nat->Rat}{n s:Nat}(h:AU g)(hn:pl g<=n)(hn9:n<=16)(hs:∀ i,qsz (g i)<=s)(hs9:s<=5)(i:Nat):qsz (yc g i)<=36000:=(TC h hn hn9 hs hs9 0).2.1 i
def jF(g:Nat->Rat)(K:Nat):Prop:=pl (yw (y0 g) (yc g) K).1<=1/\∀ j,j < K->1 < pl (yw (y0 g) (yc g) j).1
theorem jF.uniq{g:Nat->Rat}{K L:Nat}(h:jF g K)(k:jF g L):K=L:=by
 rcases Nat.lt_trichotomy K L with a | a | a
 ·have:=k.2 K a;have:=h.1;omega
 ·exact a
 ·have:=h.2 L a;have:=k.1;omega
theorem Uz{g:Nat->Rat}(h:AU g){k:Nat}(h1:1 < pl (yw (y0 g) (yc g) k).1):pl (yw (y0 g) (yc g) (k+1)).2+pl (yw (y0 g) (yc g) (k+1)).1 < pl (yw (y0 g) (yc g) k).2+pl (yw (y0 g) (yc g) k).1:=by
 obtain⟨hC,hW,-⟩:=Ch h;obtain⟨p,e1,e2,-⟩:=Ki hW hC k;obtain⟨q1,q2⟩:=EU hW hC (k+1);have h2:=Du p.f q1.f p.n q1.n;have h3:=Du q2.f q1.f q2.n q1.n;rw[<-e1]at h2;rw[<-e2]at h3;have:=p.pos;have:=q1.pos;have:=q2.pos;omega
theorem Ba.put1{w:World}{g:Nat}{t:TypeId}{a:Value}(h:Ba w g t #[a])(u:Value)(hu:Ah u=false):∃ W,W=w.setCell ⟨g,0,none⟩ u/\Ba W g t #[u]/\Cc [g] w W:=
 ⟨_,rfl,h.set_ 0 hu,Cc.set_ h.nodig 0 u⟩
theorem Ba.cells1{w:World}{g:Nat}{t:TypeId}{a:Value}(h:Ba w g t #[a]):w.cell? ⟨g,0,none⟩=some a:=h.cell rfl
theorem AB.own{b:Nat}{A B:World}{row:Option Nat}{v:Value}{F:Nat->Rat}(h:AB b A v F)(hg:A.grownBy B row)(hr:∀ r,row=some r->∃ o:Obj,A.heap[r]? = some o/\o.isCells=false):AB b B v F:=by
 obtain⟨l,⟨A',c,h1,h2,h3,h4⟩,h5,rfl⟩:=h;refine⟨l,⟨A',c,h1,h2,h3,fun h0=>?_⟩,h5,rfl⟩;obtain⟨g,o,ha,hb,hc⟩:=h4 h0;refine⟨g,o,ha,hb,fun j hj=>?_⟩;obtain⟨cs,q1,q2,q3⟩:=hc j hj;refine⟨cs,q1,fun i hi=>?_,q3.kd (KD.own hg hr)⟩;have e:cs[i]? = some (cs[i]'(Aa)):=Array.getElem?_eq_getElem Aa;rw[e];exact cell_kept ((q2 i hi).trans e) hg hr
structure Sa(F:Nat->Rat)(S n M T:Nat):Prop where
 z:ZI F
 f:Ae F
 n0:F≠pz
 s:∀ i,qsz (F i)<=S
 d:∀ i,qsz (pd (pp F) i)<=S
 t:∀ i,qsz (yc (pp F) i)<=T
 p:pl F<=n
 n9:n<=16
 m:(S+1)*2^(n+(n - 1))<=M
 b:M+(n+(n - 1)+1)*(M+1)+M<=549755813888
 k:S+(n+2)*(T+1)+T<=1099511627776
theorem Sa.sS{F:Nat->Rat}{S n M T:Nat}(h:Sa F S n M T):S<=M:=by
 have:=Nat.mul_le_mul_left (S+1) (Nat.one_le_two_pow (n:=n+(n - 1)));have:=h.m;omega
structure J9(W:Nat->Rat)(S D M:Nat):Prop where
 z:ZI W
 f:Ae W
 s:∀ i,qsz (W i)<=S
 d:∀ i,qsz (pd W i)<=S
 e:pl W+pl (pd W)=D
 m:jQ W (pd W) S M
 b:M+(D+1)*(M+1)<=1000000
 D9:D<=900
def PP(base:Nat)(t:TypeId)(w:World)(v:Value)(W:Nat->Rat):Prop:=∃ c us K,v = .agg #[c]/\Ow W (pd W) K/\K<=pl (pd W)+1/\Jh base base t w c us (Gp W (pd W) K)
theorem PP.ext{base:Nat}{t:TypeId}{w w':World}{v:Value}{W:Nat->Rat}(h:PP base t w v W)(x:Ext w w'):PP base t w' v W:=by
 obtain⟨c,us,K,h1,h2,h3,h4⟩:=h;exact⟨c,us,K,h1,h2,h3,h4.ext x⟩
theorem J9.SM{W:Nat->Rat}{S D M:Nat}(h:J9 W S D M):S < M:=h.m.1
theorem J9.of2{W:Nat->Rat}{S D M:Nat}(z:ZI W)(f:Ae W)(s:∀ i,qsz (W i)<=S)(d:∀ i,qsz (pd W i)<=S)(e:pl W+pl (pd W)=D)(m:(S+1)*2^D<=M)(b:M+(D+1)*(M+1)<=1000000)(D9:D<=900):J9 W S D M:=
 ⟨z,f,s,d,e,jQ.of2 f (Bd f) z (Dt z) s d (by rw[e];exact m),b,D9⟩
theorem Jh.upd1{base eb g:Nat}{t t':TypeId}{w w':World}{v x:Value}{us:List Value}{l:List (Nat->Rat)}(h:Jh base eb t w v us l)(hx:Ro x=false)(e:Ba w g t' #[x])(hg:g < base)(U:Cc [g] w w'):Jh base eb t w' v us l:=by
 have hb:=BB.blk_ge h.out;have hne:∀ g'∈blk v,g'∉[g]:=fun g' hg' hm=>by
  have:=hb g' hg';have:g'=g:=by simpa using hm
  omega
 have hN:Nk w (.slice (some ⟨g,0,none⟩) 1 1):=Oj e.1 (by simpa using hx);refine⟨BB.upd h.out U hne fun _ _ q=>q,h.len,fun g' hg' i c hc=>?_,fun i a b=>(h.el i a b).updB U fun g' hg'=>hN g' (by simpa[blk,Value.ownBlock] using hg')⟩;obtain⟨o,ho⟩:∃ o,w.heap[g']? = some o:=⟨_,Array.getElem?_eq_getElem (hb g' hg').2⟩
 have hk:=U.1 g' o (hne g' hg') ho;rw[World.cell?_of_block (hk.trans ho.symm)]at hc;exact h.nb g' hg' i c hc
theorem J9.mem{W:Nat->Rat}{S D M K:Nat}(h:J9 W S D M)(hK:Ow W (pd W) K):∀ F∈Gp W (pd W) K,(∀ i,qsz (F i)<=M)/\pl F<=D/\Ae F:=by
 intro F hF;obtain⟨k,hk,rfl⟩:∃ k,k < K/\F=Cf W (pd W) k:=by
  unfold Gp at hF;obtain⟨k,h1,h2⟩:=List.mem_map.1 hF;exact⟨k,List.mem_range.1 h1,h2.symm⟩
 have hst:∀ j,(∀ i,1<=i->i<=j->Cf W (pd W) i≠pz)->FD W (pd W) D S (Cf W (pd W) j) (Cf W (pd W) (j+1)):=fun j hj=>by
  rw[<-h.e];exact Jw h.f (Bd h.f) h.z (Dt h.z) h.s h.d j hj
 obtain⟨f1,f2,z1,z2,hd,q1,q2⟩:=(hst k fun i a b=>hK.2.2 i a Aa).facts;exact⟨(h.m.2 k fun i a b=>hK.2.2 i a Aa).1,Aa,f1⟩
def RI(F:Nat->Rat):Prop:=∃ i b,BL (F i).num.natAbs b/\4096 < b
noncomputable def D8(F:Nat->Rat):Int:=open Classical in if F=pz then 5 else if 33 < pl F\/RI F then 7 else 0
theorem NS{F:Nat->Rat}(h:F=pz):D8 F=5:=by unfold D8;rw[if_pos h]
theorem Js{F:Nat->Rat}(h0:F≠pz)(h:33 < pl F\/RI F):D8 F=7:=by unfold D8;rw[if_neg h0,if_pos h]
theorem LF{F:Nat->Rat}(h0:F≠pz)(h1:¬ 33 < pl F)(h2:¬ RI F):D8 F=0:=by unfold D8;rw[if_neg h0,if_neg (fun q=>q.elim h1 h2)]
theorem FC(F:Nat->Rat):(F=pz/\D8 F=5)\/(F≠pz/\D8 F=7)\/(F≠pz/\pl F<=33/\¬ RI F/\D8 F=0):=by
 by_cases h0:F=pz
 ·exact .inl ⟨h0,NS h0⟩
 by_cases h:33 < pl F\/RI F
 ·exact .inr (.inl ⟨h0,Js h0 h⟩)
 ·exact .inr (.inr ⟨h0,Aa,fun q=>h (.inr q),LF h0 (fun q=>h (.inl q)) fun q=>h (.inr q)⟩)
theorem gI{F:Nat->Rat}(z:ZI F)(h:¬ RI F)(i:Nat):qsz (F i)<=129:=by
 obtain⟨b,hb⟩:=BL.ex (F i).num.natAbs;have h1:b<=4096:=by
  rcases Nat.lt_or_ge 4096 b with q | q
  ·exact absurd ⟨i,b,hb,q⟩ h
  ·exact q
 have h2:(F i).num.natAbs < bp 129:=by
  obtain⟨E,hE⟩:∃ E,E=129:=⟨_,rfl⟩
  rw[<-hE,E8];exact Nat.lt_of_lt_of_le hb.1 (Nat.pow_le_pow_right Ab Aa)
 have h3:=Cj h2;rw[z.num i,Bn];omega
def QX(F:Nat->Rat)(w:World)(r:Value):Prop:=∃ u,r = .tuple #[u,.int .i64 (D8 F)]/\(D8 F=0->AB 0 w u F)/\(D8 F≠0->u = .slice none 0 0)
def gZ(b:Nat)(F:Nat->Rat)(w:World)(r:Value):Prop:=∃ u,r = .tuple #[u,.int .i64 (D8 F)]/\(D8 F=0->AB b w u F)/\(D8 F≠0->u = .slice none 0 0)
theorem QX.ext{F:Nat->Rat}{w w':World}{r:Value}(h:QX F w r)(x:Ext w w'):QX F w' r:=by
 obtain⟨u,h1,h2,h3⟩:=h;exact⟨u,h1,fun e=>(h2 e).ext x,h3⟩
def iO(F:Nat->Rat)(r:Value):Prop:=∃ b A n c,r = .tuple #[.agg #[.bool b,.slice A n c],.int .i64 (D8 F)]
theorem dS(l:List (Nat->Rat))(x:Rat):V l x<=l.length:=by
 unfold V;have:=VT (l.map fun F=>AX (ev F x)) 0;simpa using this
def WV(w:World)(v:Value)(x y:Int):Prop:=∃ a b,v = .tuple #[a,b]/\AO w a x/\AO w b y
theorem WV.ext{w w':World}{v:Value}{x y:Int}(h:WV w v x y)(k:Ext w w'):WV w' v x y:=by
 obtain⟨a,b,h1,h2,h3⟩:=h;exact⟨a,b,h1,h2.kd k.kd,h3.kd k.kd⟩
theorem F9.lower{F G:Nat->Rat}{n s t i j:Nat}{Q R:Nat->Rat}(h:F9 F G n s t i Q R)(hj:j<=i)(hs:Be (j+pl G - 1) R):F9 F G n s t j Q R:=
 ⟨fun m hm=>h.1 m Aa,h.2.1,hs,h.2.2.2.1,h.2.2.2.2.1,h.2.2.2.2.2.1,fun m=>by
  have h1:=h.2.2.2.2.2.2 m;have h2:(n - i)*(t+1)<=(n - j)*(t+1):=Nat.mul_le_mul_right _ Aa;omega⟩
structure RX(F G:Nat->Rat)(n s t j:Nat)(Q R:Nat->Rat):Prop where
 eq:psc (ld G^j) F=pad (cv Q G) R
 zQ:ZI Q
 zR:ZI R
 fQ:Be n Q
 fR:Ae R
 deg:pl R+j<=pl F
 qQ:∀ i,qsz (Q i)<=s+j*(t+1)
 qR:∀ i,qsz (R i)<=s+j*(t+1)
theorem RX.start{F G:Nat->Rat}{n s t:Nat}(hF:Ae F)(hz:ZI F)(hs:∀ i,qsz (F i)<=s):RX F G n s t 0 pz F where
 eq:=by rw[Rat.pow_zero,Ct,Cn];funext m;simp only[pad,pz];grind
 zQ:=ZI.pz
 zR:=hz
 fQ:=Be.pz n
 fR:=hF
 deg:=Nat.le_refl _
 qQ:=fun i=>by have h1:=Dw (F 0);have h2:=hs 0;show qsz 0<=_;have:qsz (0:Rat)=1:=Ab;omega
 qR:=fun i=>by have:=hs i;omega
theorem RX.step{F G:Nat->Rat}{n s t j:Nat}{Q R:Nat->Rat}(h:RX F G n s t j Q R)(hn:n=pl F+1 - pl G)(fG:Ae G)(h0:G≠pz)(zG:ZI G)(ht:∀ i,qsz (G i)<=t)(hl:pl G<=pl R){k:Nat}(hk:k=pl R - pl G){x:Int}(hx:(x:Rat)=R (pl R - 1)) :
  RX F G n s t (j+1) (pad (psc (ld G) Q) (mono k (x:Rat))) (psb (psc (ld G) R) (cv (mono k (x:Rat)) G))/\pl (psb (psc (ld G) R) (cv (mono k (x:Rat)) G)) < pl R:=by
 have hp:=AL fG h0;have hld:=CV fG h0;have zl:∃ y:Int,ld G=(y:Rat):=zG _;obtain⟨y,hy⟩:=zl;have hsup:Be (k+pl G) (psc (ld G) R):=((AA h.fR).mono Aa).psc _;have e1:(x:Rat)=psc (ld G) R (k+pl G - 1) / ld G:=by
  show _=ld G*R (k+pl G - 1) / ld G;rw[show k+pl G - 1=pl R - 1 from Aa,<-hx];grind
 have hs2:Be (k+pl G - 1) (psb (psc (ld G) R) (cv (mono k (x:Rat)) G)):=by
  rw[e1];exact EJ fG h0 hsup
 have hle:=BD hs2;have hxq:qsz (x:Rat)<=s+j*(t+1):=by rw[hx];exact h.qR _
 have hlq:qsz (ld G)<=t:=ht _;have hj:(j+1)*(t+1)=j*(t+1)+(t+1):=Nat.succ_mul _ _;have o1:qsz (0:Rat)=1:=by decide
 have zsR:ZI (psc (ld G) R):=by rw[hy];exact h.zR.psc y
 have zsQ:ZI (psc (ld G) Q):=by rw[hy];exact h.zQ.psc y
 refine⟨⟨?_,zsQ.pad (ZI.mono k x),zsR.psb ((ZI.mono k x).cv zG),(h.fQ.psc _).pad ((ES k _).mono (by have:=h.deg;omega)),⟨_,hs2⟩,by have:=h.deg;omega,fun i=>?_,fun i=>?_⟩,Aa⟩
 ·have e2:psc (ld G^(j+1)) F=psc (ld G) (psc (ld G^j) F):=by
   rw[Cb,Rat.pow_succ,Rat.mul_comm]
  rw[e2,h.eq,CG,Cv]
  funext m;simp only[psc,pad,psb];grind
 ·have a1:=XX zsQ (ZI.mono k x) i i
  have a2:qsz (psc (ld G) Q i)<=qsz (ld G)+qsz (Q i):=CW _ _;have a3:=h.qQ i;have a4:qsz (mono k (x:Rat) i)<=s+j*(t+1):=by
   unfold mono;split
   ·exact hxq
   ·have:=Dw (x:Rat);omega
  show qsz (psc (ld G) Q i+mono k (x:Rat) i)<=_;omega
 ·have a1:=Mv zsR ((ZI.mono k x).cv zG) i i
  have a2:qsz (psc (ld G) R i)<=qsz (ld G)+qsz (R i):=CW _ _;have a3:=h.qR i;have a4:qsz (cv (mono k (x:Rat)) G i)<=qsz (x:Rat)+t:=by
   rw[FY];show qsz ((x:Rat)*sh k G i)<=_;have b1:=CW (x:Rat) (sh k G i);have b2:qsz (sh k G i)<=t:=by
    unfold sh;split
    ·have:=Dw (ld G);omega
    ·exact ht _
   omega
  show qsz (psc (ld G) R i - cv (mono k (x:Rat)) G i)<=_;omega
theorem QF(a:Rat)(m:Nat):∀ n:Nat,a^(m+n)=a^m*a^n
 | 0=>by rw[Nat.add_zero,Rat.pow_zero,Rat.mul_one]
 | n+1=>by rw[<-Nat.add_assoc,Rat.pow_succ,QF a m n,Rat.pow_succ,Rat.mul_assoc]
theorem RX.end_{F G:Nat->Rat}{n s t j:Nat}{Q R:Nat->Rat}(h:RX F G n s t j Q R)(hn:n=pl F+1 - pl G)(fF:Ae F)(fG:Ae G)(h0:G≠pz)(hl:pl R < pl G)(hj:j<=n) :
  psc (ld G^(n - j)) Q=Gc F G n/\psc (ld G^(n - j)) R=D7 F G n:=by
 have hp:=AL fG h0;have e1:psc (ld G^n) F=pad (cv (psc (ld G^(n - j)) Q) G) (psc (ld G^(n - j)) R):=by
  have e2:ld G^n=ld G^(n - j)*ld G^j:=by rw[<-QF];congr 1;omega
  rw[e2,<-Cb,h.eq,Cv]
  funext m;simp only[psc,pad];grind
 have e3:psc (ld G^n) F=pad (cv (psc (ld G^n) (pq F G)) G) (psc (ld G^n) (pr F G)):=by
  rw[Cv];have h1:=JX F G
  funext m
  have h2:=congrFun h1 m;simp only[psc,pad]at h2 ⊢;rw[h2];grind
 have h1:=Mc fG (Ae.psc _ ⟨n,h.fQ⟩) ((Dm F G).psc _) h0 e1 e3 (((AA h.fR).mono Aa).psc _) ((Et fF fG h0).psc _);have h2:=Kj fF fG h0;rw[<-hn]at h2;exact⟨h1.1.trans h2.1.symm,h1.2.trans h2.2.symm⟩
def Qv(w:World)(v:Value)(p q:Rat):Prop:=∃ b1 A1 n1 c1 b2 A2 n2 c2 b3 A3 n3 c3 b4 A4 n4 c4,v = .agg #[.bool b1,.slice A1 n1 c1,.bool b2,.slice A2 n2 c2,.bool b3,.slice A3 n3 c3,.bool b4,.slice A4 n4 c4]/\Ce w (.agg #[.bool b1,.slice A1 n1 c1,.bool b2,.slice A2 n2 c2]) p/\Ce w (.agg #[.bool b3,.slice A3 n3 c3,.bool b4,.slice A4 n4 c4]) q
theorem Qv.ext{w w':World}{v:Value}{p q:Rat}(h:Qv w v p q)(e:Ext w w'):Qv w' v p q:=by
 obtain⟨b1,A1,n1,c1,b2,A2,n2,c2,b3,A3,n3,c3,b4,A4,n4,c4,h1,h2,h3⟩:=h;exact⟨b1,A1,n1,c1,b2,A2,n2,c2,b3,A3,n3,c3,b4,A4,n4,c4,h1,h2.ext e,h3.ext e⟩
theorem Ba.cells8{w:World}{g:Nat}{t:TypeId}{x0 x1 x2 x3 x4 x5 x6 x7:Value}(h:Ba w g t #[x0,x1,x2,x3,x4,x5,x6,x7]) :
  w.cell? ⟨g,0,none⟩=some x0/\w.cell? ⟨g,1,none⟩=some x1/\w.cell? ⟨g,2,none⟩=some x2/\w.cell? ⟨g,3,none⟩=some x3/\w.cell? ⟨g,4,none⟩=some x4/\w.cell? ⟨g,5,none⟩=some x5/\w.cell? ⟨g,6,none⟩=some x6/\w.cell? ⟨g,7,none⟩=some x7:=
 ⟨h.cell rfl,h.cell rfl,h.cell rfl,h.cell rfl,h.cell rfl,h.cell rfl,h.cell rfl,h.cell rfl⟩
noncomputable def rts(W:Nat->Rat)(K:Nat)(p q:Rat):Int:=(V (Gp W (pd W) K) p:Nat) - (V (Gp W (pd W) K) q:Nat)
theorem PP.cell{base:Nat}{t:TypeId}{w:World}{v:Value}{W:Nat->Rat}(h:PP base t w v W):∃ A n c,v = .agg #[.slice A n c]:=by
 obtain⟨c,us,K,rfl,h2,h3,h4⟩:=h;obtain⟨A,c,rfl⟩:=h4.shape;exact⟨_,_,_,rfl⟩
theorem Ba.put8{w:World}{g:Nat}{t:TypeId}{a b c d a' b' c' d':Value}(h:Ba w g t #[a,b,c,d,a',b',c',d'])(x0 x1 x2 x3 x4 x5 x6 x7:Value)(h0:Ah x0=false:=by rfl)(h1:Ah x1=false:=by rfl)(h2:Ah x2=false:=by rfl)(h3:Ah x3=false:=by rfl)(h4:Ah x4=false:=by rfl)(h5:Ah x5=false:=by rfl)(h6:Ah x6=false:=by rfl)(h7:Ah x7=false:=by rfl) :
  ∃ W,W=(((((((w.setCell ⟨g,0,none⟩ x0).setCell ⟨g,1,none⟩ x1).setCell ⟨g,2,none⟩ x2).setCell ⟨g,3,none⟩ x3).setCell ⟨g,4,none⟩ x4).setCell ⟨g,5,none⟩ x5).setCell ⟨g,6,none⟩ x6).setCell ⟨g,7,none⟩ x7/\Ba W g t #[x0,x1,x2,x3,x4,x5,x6,x7]/\Cc [g] w W:=by
 have k0:Ba (w.setCell ⟨g,0,none⟩ x0) g t #[x0,b,c,d,a',b',c',d']:=h.set_ 0 h0;have k1:Ba ((w.setCell ⟨g,0,none⟩ x0).setCell ⟨g,1,none⟩ x1) g t #[x0,x1,c,d,a',b',c',d']:=k0.set_ 1 h1;have k2:Ba (((w.setCell ⟨g,0,none⟩ x0).setCell ⟨g,1,none⟩ x1).setCell ⟨g,2,none⟩ x2) g t #[x0,x1,x2,d,a',b',c',d']:=k1.set_ 2 h2;have k3:Ba ((((w.setCell ⟨g,0,none⟩ x0).setCell ⟨g,1,none⟩ x1).setCell ⟨g,2,none⟩ x2).setCell ⟨g,3,none⟩ x3) g t #[x0,x1,x2,x3,a',b',c',d']:=k2.set_ 3 h3
 have k4:Ba (((((w.setCell ⟨g,0,none⟩ x0).setCell ⟨g,1,none⟩ x1).setCell ⟨g,2,none⟩ x2).setCell ⟨g,3,none⟩ x3).setCell ⟨g,4,none⟩ x4) g t #[x0,x1,x2,x3,x4,b',c',d']:=k3.set_ 4 h4;have k5:Ba ((((((w.setCell ⟨g,0,none⟩ x0).setCell ⟨g,1,none⟩ x1).setCell ⟨g,2,none⟩ x2).setCell ⟨g,3,none⟩ x3).setCell ⟨g,4,none⟩ x4).setCell ⟨g,5,none⟩ x5) g t #[x0,x1,x2,x3,x4,x5,c',d']:=k4.set_ 5 h5;have k6:Ba (((((((w.setCell ⟨g,0,none⟩ x0).setCell ⟨g,1,none⟩ x1).setCell ⟨g,2,none⟩ x2).setCell ⟨g,3,none⟩ x3).setCell ⟨g,4,none⟩ x4).setCell ⟨g,5,none⟩ x5).setCell ⟨g,6,none⟩ x6) g t #[x0,x1,x2,x3,x4,x5,x6,d']:=k5.set_ 6 h6
 have k7:Ba ((((((((w.setCell ⟨g,0,none⟩ x0).setCell ⟨g,1,none⟩ x1).setCell ⟨g,2,none⟩ x2).setCell ⟨g,3,none⟩ x3).setCell ⟨g,4,none⟩ x4).setCell ⟨g,5,none⟩ x5).setCell ⟨g,6,none⟩ x6).setCell ⟨g,7,none⟩ x7) g t #[x0,x1,x2,x3,x4,x5,x6,x7]:=k6.set_ 7 h7;exact⟨_,rfl,k7,(((((((Cc.set_ h.nodig 0 x0).trans (Cc.set_ k0.nodig 1 x1)).trans (Cc.set_ k1.nodig 2 x2)).trans (Cc.set_ k2.nodig 3 x3)).trans (Cc.set_ k3.nodig 4 x4)).trans (Cc.set_ k4.nodig 5 x5)).trans (Cc.set_ k5.nodig 6 x6)).trans (Cc.set_ k6.nodig 7 x7)⟩
def Ko(w:World)(v:Value)(p q:Rat):Prop:=∃ b1 A1 n1 c1 b2 A2 n2 c2 b3 A3 n3 c3 b4 A4 n4 c4,v = .agg #[.bool b1,.slice A1 n1 c1,.bool b2,.slice A2 n2 c2,.bool b3,.slice A3 n3 c3,.bool b4,.slice A4 n4 c4]/\BX w (.agg #[.bool b1,.slice A1 n1 c1,.bool b2,.slice A2 n2 c2]) p/\BX w (.agg #[.bool b3,.slice A3 n3 c3,.bool b4,.slice A4 n4 c4]) q
theorem Ko.ext{w w':World}{v:Value}{p q:Rat}(h:Ko w v p q)(e:Ext w w'):Ko w' v p q:=by
 obtain⟨b1,A1,n1,c1,b2,A2,n2,c2,b3,A3,n3,c3,b4,A4,n4,c4,h1,h2,h3⟩:=h;exact⟨b1,A1,n1,c1,b2,A2,n2,c2,b3,A3,n3,c3,b4,A4,n4,c4,h1,h2.ext e,h3.ext e⟩
theorem Ko.has{w:World}{v:Value}{p q:Rat}(h:Ko w v p q)(hp:qsz p<=274877906944)(hq:qsz q<=274877906944):Qv w v p q:=by
 obtain⟨b1,A1,n1,c1,b2,A2,n2,c2,b3,A3,n3,c3,b4,A4,n4,c4,h1,h2,h3⟩:=h;exact⟨b1,A1,n1,c1,b2,A2,n2,c2,b3,A3,n3,c3,b4,A4,n4,c4,h1,h2.has hp,h3.has hq⟩
/-! ### bounds of values -/
theorem IJ(B:Rat)(hB:0<=B):∀(n:Nat) (F:Nat->Rat),∃ M,0<=M/\∀ x,ab x<=B->ab (CL n F x)<=M
 | 0,F=>⟨0,Ab,fun x _=>by show ab 0<=0;decide⟩
 | n+1,F=>by
  obtain⟨M,h0,h⟩:=IJ B hB n (tl F);refine⟨ab (F 0)+B*M,by have:=Aj (F 0);have:=Rat.mul_nonneg hB h0;grind,fun x hx=>?_⟩;rw[DJ];have h1:=Fw (F 0) (x*CL n (tl F) x);have h2:ab (x*CL n (tl F) x)<=B*M:=by rw[BU];exact DT hx (h x hx) (Aj _) hB
  grind
theorem TU(B:Rat)(hB:0<=B):∀(n:Nat) (F:Nat->Rat),∃ L,0<=L/\∀ x y,ab x<=B->ab y<=B->ab (CL n F x - CL n F y)<=L*ab (x - y)
 | 0,F=>⟨0,Ab,fun x y _ _=>by show ab (0 - 0)<=0*_;rw[Rat.zero_mul,show(0:Rat) - 0=0 by grind];decide⟩
 | n+1,F=>by
  obtain⟨L,h0,h⟩:=TU B hB n (tl F);obtain⟨M,m0,hM⟩:=IJ B hB n (tl F);refine⟨M+B*L,by have:=Rat.mul_nonneg hB h0;grind,fun x y hx hy=>?_⟩;rw[DJ,DJ];have e:F 0+x*CL n (tl F) x - (F 0+y*CL n (tl F) y)=(x - y)*CL n (tl F) x+y*(CL n (tl F) x - CL n (tl F) y):=by grind
  rw[e];have h1:=Fw ((x - y)*CL n (tl F) x) (y*(CL n (tl F) x - CL n (tl F) y));have h2:ab ((x - y)*CL n (tl F) x)<=M*ab (x - y):=by
   rw[BU];have:=DT (Std.le_refl (ab (x - y))) (hM x hx) (Aj _) (Aj _);grind
  have h3:ab (y*(CL n (tl F) x - CL n (tl F) y))<=B*(L*ab (x - y)):=by rw[BU];exact DT hy (h x y hx hy) (Aj _) hB
  grind
theorem jO(F:Nat->Rat):pd F=pad (tl F) (cs 0 (pd (tl F))):=by
 funext i
 match i with
 | 0=>show((0+1:Nat):Rat)*F 1=F 1+0;have:((0+1:Nat):Rat)=1:=rfl;rw[this];grind
 | i+1 =>
  show((i+1+1:Nat):Rat)*F (i+1+1)=F (i+1+1)+((i+1:Nat):Rat)*F (i+1+1);have:((i+1+1:Nat):Rat)=((i+1:Nat):Rat)+1:=by push_cast;rfl
  rw[this];grind
theorem Xy(n:Nat){F:Nat->Rat}(x:Rat):CL (n+1) (pd F) x=CL (n+1) (tl F) x+x*CL n (pd (tl F)) x:=by
 conv=>lhs;rw[jO F,Ud]
 congr 1;rw[DJ];show 0+x*CL n (pd (tl F)) x=_;grind
theorem Ux(B:Rat)(hB:0<=B):∀(n:Nat) (F:Nat->Rat),Be n F->∃ R,0<=R/\∀ x y,ab x<=B->ab y<=B->∃ r,ab r<=R/\CL n F y - CL n F x=(y - x)*(CL n (pd F) x+(y - x)*r)
 | 0,F,_=>⟨0,Ab,fun x y _ _=>⟨0,Ab,by show(0:Rat) - 0=_*(0+_*0);grind⟩⟩
 | n+1,F,hs=>by
  obtain⟨R,h0,h⟩:=Ux B hB n (tl F) hs.tl;obtain⟨M,m0,hM⟩:=IJ B hB n (pd (tl F));refine⟨M+B*R,by have:=Rat.mul_nonneg hB h0;grind,fun x y hx hy=>?_⟩;obtain⟨r,hr,e⟩:=h x y hx hy;refine⟨CL n (pd (tl F)) x+y*r,?_,?_⟩
  ·have h1:=Fw (CL n (pd (tl F)) x) (y*r)
   have h2:ab (y*r)<=B*R:=by rw[BU];exact DT hy hr (Aj _) hB
   have h3:=hM x hx;grind
  ·have e1:CL (n+1) (pd F) x=CL n (tl F) x+x*CL n (pd (tl F)) x:=by
    rw[Xy];congr 1;exact Lx hs.tl (Nat.le_succ n) x
   rw[e1,DJ,DJ];grind
theorem FE{F:Nat->Rat}(h:Ae F){B:Rat}(hB:0<=B):∃ M,0<=M/\∀ x,ab x<=B->ab (ev F x)<=M:=IJ B hB (pl F) F
theorem Mf{F:Nat->Rat}(h:Ae F){B:Rat}(hB:0<=B):∃ L,0<=L/\∀ x y,ab x<=B->ab y<=B->ab (ev F x - ev F y)<=L*ab (x - y):=TU B hB (pl F) F
theorem WM{F:Nat->Rat}(h:Ae F){B:Rat}(hB:0<=B):∃ R,0<=R/\∀ x y,ab x<=B->ab y<=B->∃ r,ab r<=R/\ev F y - ev F x=(y - x)*(ev (pd F) x+(y - x)*r):=by
 obtain⟨R,h0,k⟩:=Ux B hB (pl F) F (AA h);refine⟨R,h0,fun x y hx hy=>?_⟩;obtain⟨r,hr,e⟩:=k x y hx hy;refine⟨r,hr,?_⟩;have e1:ev (pd F) x=CL (pl F) (pd F) x:=Ee (Oo ((AA h).mono (Nat.le_succ _))) x;rw[e1];exact e
theorem U8(P:Nat->Rat->Prop)(mono:∀ i s t,P i s->s<=t->P i t):∀ m,(∀ i,i < m->∃ T,P i T)->∃ T,1<=T/\∀ i,i < m->P i T
 | 0,_=>⟨1,Ab,fun i hi=>Aa⟩
 | m+1,h=>by
  obtain⟨T,h1,h2⟩:=U8 P mono m fun i hi=>h i Aa;obtain⟨S,hS⟩:=h m Aa;refine⟨T+ab S,by have:=Aj S;grind,fun i hi=>?_⟩;by_cases e:i=m
  ·subst e;exact mono _ _ _ hS (by have:=TI S;grind)
  ·exact mono _ _ _ (h2 i Aa) (by have:=Aj S;grind)
/-! ### the chain -/
theorem M9{F:Nat->Rat}(zF:ZI F)(fF:Ae F)(h0:F≠pz):∃ c:Rat,0 < c/\rd F=psc c F:=by
 have h1:=Im zF fF h0;have h2:(0:Rat) < ((cn F:Nat):Rat):=by
  have:0 < cn F:=Nat.pos_of_ne_zero h1;exact_mod_cast this
 refine⟨1 / ((cn F:Nat):Rat),?_,rfl⟩;have h3:((cn F:Nat):Rat)*(1 / ((cn F:Nat):Rat))=1:=by grind
 rcases Std.lt_trichotomy 0 (1 / ((cn F:Nat):Rat))with a | a | a
 ·exact a
 ·rw[<-a,Rat.mul_zero]at h3;exact absurd h3 Ab
 ·exfalso
  have:=JD h2 a;grind
theorem iU{A B:Nat->Rat}(fA:Ae A)(fB:Ae B)(h0:B≠pz):nx A B=pz↔pr A B=pz:=by
 constructor
 ·intro h
  have:=(Kz fA fB h0).2.2.1;rw[h,BR]at this;exact(BI (EX fA fB)).1 this.symm
 ·exact JS
theorem FD.dv{F0 G0 A B:Nat->Rat}{D S:Nat}(h:FD F0 G0 D S A B){E:Nat->Rat}(hE:Ae E):(Dv E A/\Dv E B)↔(Dv E F0/\Dv E G0):=by
 obtain⟨A',B',e,d,h,rfl,rfl,he,hd⟩:=h;rw[Fz (K3 he),Fz (K3 hd)];exact h.dv E hE
theorem KC{F G E:Nat->Rat}(c:Cr F G)(hE:Ae E)(h1:Dv E F)(h2:Dv E G):pl E=1:=Cr.self hE ((c.dv h1).symm.dv h2)
theorem FD.cop{F0 G0 A B:Nat->Rat}{D S:Nat}(h:FD F0 G0 D S A B)(c:Cr F0 G0):Cr A B:=by
 obtain⟨fA,fB,-⟩:=h.facts;obtain⟨U,V,E,fU,fV,hg,e⟩:=VQ (pl B) fA fB (Nat.le_refl _);obtain⟨d1,d2⟩:=(h.dv hg.1).1 ⟨hg.2.2.1,hg.2.2.2.1⟩;have h1:=KC c hg.1 d1 d2;have hne:E≠pz:=fun q=>by rw[q,BR]at h1;omega
 have hl:=hg.2.1 hne;have hE:E=pone:=by
  funext i
  match i with
  | 0 =>
   have:ld E=E 0:=by unfold ld;rw[h1]
   rw[<-this,hl];rfl
  | i+1=>exact(AA hg.1) (i+1) Aa
 exact⟨U,V,fU,fV,by rw[e,hE]⟩
noncomputable def vx(F:Nat->Rat)(K:Nat)(x:Rat):Nat:=CR (fun i=>ev (Cf F (pd F) i) x) K
noncomputable def Gv(F:Nat->Rat)(x y:Rat):Nat:=open Classical in if ev F x≠0/\AX (ev F y)≠AX (ev F x)then 1 else 0
theorem CO{c q:Rat}(h:0 < c):AX (c*q)=AX q:=by
 unfold AX;rcases Std.lt_trichotomy q 0 with a | a | a
 ·have:=JD h a
  rw[if_neg (show ¬ 0 < c*q by grind),if_pos this,if_neg (show ¬ 0 < q by grind),if_pos a]
 ·rw[a,Rat.mul_zero]
 ·have:=Rat.mul_pos h a
  rw[if_pos this,if_pos a]
section
variable{F:Nat->Rat}{K:Nat}
structure Ej(F:Nat->Rat)(K:Nat):Prop where
 z:ZI F
 f:Ae F
 n:F≠pz
 c:Cr F (pd F)
 k:Ow F (pd F) K
theorem Ej.st(h:Ej F K){S:Nat}(hS:∀ i,qsz (F i)<=S)(hS2:∀ i,qsz (pd F i)<=S)(i:Nat)(hi:i < K):FD F (pd F) (pl F+pl (pd F)) S (Cf F (pd F) i) (Cf F (pd F) (i+1)):=
 Jw h.f (Bd h.f) h.z (Dt h.z) hS hS2 i fun j a b=>h.k.2.2 j a Aa
theorem Ej.room(h:Ej F K):∃ S,(∀ i,qsz (F i)<=S)/\∀ i,qsz (pd F i)<=S:=by
 obtain⟨S,hS⟩:=Dc h.f;obtain⟨T,hT⟩:=Dc (Bd h.f);exact⟨max S T,fun i=>Nat.le_trans (hS i) (Nat.le_max_left _ _),fun i=>Nat.le_trans (hT i) (Nat.le_max_right _ _)⟩
theorem Ej.ne0(h:Ej F K):Cf F (pd F) 0≠pz:=by
 obtain⟨c,hc,e⟩:=M9 h.z h.f h.n;intro q;have e2:Cf F (pd F) 0=rd F:=rfl;rw[e2,e]at q;have:=Ec (show c≠0 by grind) h.f;rw[q,BR]at this;exact h.n ((BI h.f).1 this.symm)
theorem Ej.ne(h:Ej F K){i:Nat}(hi:i < K):Cf F (pd F) i≠pz:=by
 match i with
 | 0=>exact h.ne0
 | i+1=>exact h.k.2.2 (i+1) Aa hi
theorem Ej.fin(h:Ej F K){i:Nat}(hi:i < K):Ae (Cf F (pd F) i):=by
 obtain⟨S,a,b⟩:=h.room;exact(h.st a b i hi).facts.1
theorem Ej.last(h:Ej F K):pl (Cf F (pd F) (K - 1))=1:=by
 obtain⟨S,a,b⟩:=h.room;have hK:=h.k.1;have h1:=h.st a b (K - 1) Aa;have e:K - 1+1=K:=by omega
 rw[e,h.k.2.1]at h1;obtain⟨fA,-⟩:=h1.facts;exact KC h.c fA ((h1.dv fA).1 ⟨Dv.refl _,Dv.zero _⟩).1 ((h1.dv fA).1 ⟨Dv.refl _,Dv.zero _⟩).2
theorem Ej.recr(h:Ej F K){i:Nat}(hi:i+2 < K):∃ q c,Ae q/\0 < c/\∀ x,ev (Cf F (pd F) i) x=ev q x*ev (Cf F (pd F) (i+1)) x - c*ev (Cf F (pd F) (i+2)) x:=by
 have f0:=h.fin (show i < K by omega);have f1:=h.fin (show i+1 < K by omega);have n1:=h.ne (show i+1 < K by omega);have n2:=h.ne hi;have hp:pr (Cf F (pd F) i) (Cf F (pd F) (i+1))≠pz:=fun q=>n2 ((iU f0 f1 n1).2 q);obtain⟨-,fx,-,-,hc⟩:=Kz f0 f1 n1;obtain⟨c,hc0,e⟩:=hc hp;refine⟨pq (Cf F (pd F) i) (Cf F (pd F) (i+1)),c,Dm _ _,hc0,fun x=>?_⟩;have e2:=JX (Cf F (pd F) i) (Cf F (pd F) (i+1));have e3:ev (Cf F (pd F) i) x=ev (pad (cv (pq (Cf F (pd F) i) (Cf F (pd F) (i+1))) (Cf F (pd F) (i+1))) (pr (Cf F (pd F) i) (Cf F (pd F) (i+1)))) x:=by rw[<-e2]
 rw[e3,GI ((Dm _ _).cv f1) (EX f0 f1),Cy (Dm _ _) f1,e,DX _ fx];show _ + -c*ev (nx (Cf F (pd F) i) (Cf F (pd F) (i+1))) x=_ - c*ev (Cf F (pd F) (i+2)) x;rw[MN];grind
theorem F7{c:Rat}(h:0 < c):0 < 1 / c/\1 / c*c=1:=by
 have e:1 / c*c=1:=by grind
 refine⟨?_,e⟩;rcases Std.lt_trichotomy 0 (1 / c)with p | p | p
 ·exact p
 ·rw[<-p,Rat.zero_mul]at e;exact absurd e Ab
 ·have:=JD h p;grind
theorem R7{p q t s:Rat}(h1:p<=t*q)(h2:0<=q)(h3:t<=s):p<=s*q:=Std.le_trans h1 (Rat.mul_le_mul_of_nonneg_right h3 h2)
theorem YP{a b c d:Rat}(ha:1<=a)(hb:1<=b)(hc:1<=c):a<=a+b+c+ab d/\b<=a+b+c+ab d/\c<=a+b+c+ab d/\d<=a+b+c+ab d/\1<=a+b+c+ab d:=by
 have h1:=Aj d;have h2:=TI d;refine⟨?_,?_,?_,?_,?_⟩<;>grind
theorem DV{a b c:Rat}(h:a<=b)(hc:0<=c):a<=b+c:=by grind
theorem Da{a b c:Rat}(h:a<=c)(hb:0<=b):a<=b+c:=by grind
theorem Ej.lipT(h:Ej F K){B:Rat}(hB:0<=B):∃ T,1<=T/\∀ i,i < K->∀ x y,ab x<=B->ab y<=B->ab (ev (Cf F (pd F) i) x - ev (Cf F (pd F) i) y)<=T*ab (x - y):=
 U8 (fun i T=>∀ x y,ab x<=B->ab y<=B->ab (ev (Cf F (pd F) i) x - ev (Cf F (pd F) i) y)<=T*ab (x - y)) (fun i s t p q x y hx hy=>R7 (p x y hx hy) (Aj _) q) K fun i hi=>by
  obtain⟨L,-,hL⟩:=Mf (h.fin hi) hB;exact⟨L,hL⟩
theorem Ej.bezT(h:Ej F K){B:Rat}(hB:0<=B):∃ T,1<=T/\∀ i,i < K->∃ U W,Ae U/\Ae W/\pad (cv U (Cf F (pd F) i)) (cv W (Cf F (pd F) (i+1)))=pone/\∀ x,ab x<=B->ab (ev U x)<=T/\ab (ev W x)<=T:=by
 obtain⟨S,a,b⟩:=h.room;refine U8 (fun i T=>∃ U W,Ae U/\Ae W/\pad (cv U (Cf F (pd F) i)) (cv W (Cf F (pd F) (i+1)))=pone/\∀ x,ab x<=B->ab (ev U x)<=T/\ab (ev W x)<=T) (fun i s t p q=>?_) K fun i hi=>?_
 ·obtain⟨U,W,c1,c2,c3,c4⟩:=p
  exact⟨U,W,c1,c2,c3,fun x hx=>⟨Std.le_trans (c4 x hx).1 q,Std.le_trans (c4 x hx).2 q⟩⟩
 ·obtain⟨U,W,c1,c2,c3⟩:=(h.st a b i hi).cop h.c
  obtain⟨M,m0,hM⟩:=FE c1 hB;obtain⟨N,n0,hN⟩:=FE c2 hB;exact⟨M+N,U,W,c1,c2,c3,fun x hx=>⟨DV (hM x hx) n0,Da (hN x hx) m0⟩⟩
theorem Ej.recT(h:Ej F K){B:Rat}(hB:0<=B):∃ T,1<=T/\∀ i,i < K->i+2 < K->∃ q c,Ae q/\0 < c/\(∀ x,ev (Cf F (pd F) i) x=ev q x*ev (Cf F (pd F) (i+1)) x - c*ev (Cf F (pd F) (i+2)) x)/\(∀ x,ab x<=B->ab (ev q x)<=T)/\1<=T*c:=by
 refine U8 (fun i T=>i+2 < K->∃ q c,Ae q/\0 < c/\(∀ x,ev (Cf F (pd F) i) x=ev q x*ev (Cf F (pd F) (i+1)) x - c*ev (Cf F (pd F) (i+2)) x)/\(∀ x,ab x<=B->ab (ev q x)<=T)/\1<=T*c) (fun i s t p q hi=>?_) K fun i hi=>?_
 ·obtain⟨u,c,c1,c2,c3,c4,c5⟩:=p hi
  exact⟨u,c,c1,c2,c3,fun x hx=>Std.le_trans (c4 x hx) q,R7 c5 (Std.le_of_lt c2) q⟩
 ·by_cases hi2:i+2 < K
  ·obtain⟨q,c,c1,c2,c3⟩:=h.recr hi2
   obtain⟨M,m0,hM⟩:=FE c1 hB;obtain⟨hp,e⟩:=F7 c2;refine⟨M+1 / c,fun _=>⟨q,c,c1,c2,c3,fun x hx=>DV (hM x hx) (Std.le_of_lt hp),?_⟩⟩;have h1:=Rat.mul_nonneg m0 (Std.le_of_lt c2);rw[Rat.add_mul,e];exact Da (Std.le_refl _) h1
  ·exact⟨0,fun q=>absurd q hi2⟩
theorem Ej.topT(h:Ej F K){B:Rat}(hB:0<=B)(hK1:1 < K):∃ k T4:Rat,0 < k/\1<=T4*k/\∀ x y,ab x<=B->ab y<=B->∃ r,ab r<=T4/\ev (Cf F (pd F) 0) y - ev (Cf F (pd F) 0) x=(y - x)*(k*ev (Cf F (pd F) 1) x+(y - x)*r):=by
 obtain⟨c0,hc0,e0⟩:=M9 h.z h.f h.n;obtain⟨R,hR0,hR⟩:=WM h.f hB;have e00:Cf F (pd F) 0=rd F:=rfl;have e01:Cf F (pd F) 1=rd (pd F):=rfl;have n1:pd F≠pz:=fun q=>h.ne hK1 (by rw[e01,q,aK]);obtain⟨c1,hc1,e1⟩:=M9 (Dt h.z) (Bd h.f) n1;obtain⟨hp1,i1⟩:=F7 hc1;have hk:0 < c0*(1 / c1):=Rat.mul_pos hc0 hp1;obtain⟨hp2,i2⟩:=F7 hk;have hcR:=Rat.mul_nonneg (Std.le_of_lt hc0) hR0;obtain⟨k,hkd⟩:∃ k,k=c0*(1 / c1):=⟨_,rfl⟩
 rw[<-hkd]at hk hp2 i2;refine⟨k,1 / k+c0*R,hk,?_,fun x y hx hy=>?_⟩
 ·rw[Rat.add_mul,i2]
  exact DV (Std.le_refl _) (Rat.mul_nonneg hcR (Std.le_of_lt hk))
 ·obtain⟨r,hr,e⟩:=hR x y hx hy
  refine⟨c0*r,?_,?_⟩
  ·rw[BU,CX (Std.le_of_lt hc0)]
   exact Da (Rat.mul_le_mul_of_nonneg_left hr (Std.le_of_lt hc0)) (Std.le_of_lt hp2)
  ·rw[e00,e01,e0,e1,DX _ h.f,DX _ h.f,DX _ (Bd h.f)]
   obtain⟨P,hP⟩:∃ P,P=ev (pd F) x:=⟨_,rfl⟩
   rw[<-hP]at e ⊢;have e6:c0*ev F y - c0*ev F x=c0*(ev F y - ev F x):=by rw[Rat.sub_eq_add_neg,Rat.sub_eq_add_neg,Rat.mul_add,Rat.mul_neg]
   rw[e6,e,hkd];clear hR hr e hx hy hcR h hk hp2 i2 e6;have e7:c0*(1 / c1)*(c1*P)=c0*P*(1 / c1*c1):=by grind
   rw[e7,i1];grind
theorem Ej.cells(h:Ej F K){B:Rat}(hB:0<=B):∃ T,1<=T/\∀ x y,ab x<=B->ab y<=B->x < y->4*(T*(T*(T*(T*(y - x))))) < 1->JN (K - 1) (fun i=>ev (Cf F (pd F) i) x) (fun i=>ev (Cf F (pd F) i) y) T (y - x):=by
 have hK:=h.k.1;obtain⟨T1,t1,h1⟩:=h.lipT hB;obtain⟨T2,t2,h2⟩:=h.bezT hB;obtain⟨T3,t3,h3⟩:=h.recT hB;obtain⟨k,T4,h4⟩:∃ k T4:Rat,1 < K->0 < k/\1<=T4*k/\∀ x y,ab x<=B->ab y<=B->∃ r,ab r<=T4/\ev (Cf F (pd F) 0) y - ev (Cf F (pd F) 0) x=(y - x)*(k*ev (Cf F (pd F) 1) x+(y - x)*r):=by
  by_cases hK1:1 < K
  ·obtain⟨k,T4,q⟩:=h.topT hB hK1;exact⟨k,T4,fun _=>q⟩
  ·exact⟨0,0,fun q=>absurd q hK1⟩
 obtain⟨l1,l2,l3,l4,l5⟩:=YP (d:=T4) t1 t2 t3;obtain⟨T,hT⟩:∃ T,T=T1+T2+T3+ab T4:=⟨_,rfl⟩
 rw[<-hT]at l1 l2 l3 l4 l5;refine⟨T,l5,fun x y hx hy hxy hsm=>?_⟩;have hlast:=h.last;have hcl:∀ z,ev (Cf F (pd F) (K - 1)) z=Cf F (pd F) (K - 1) 0:=fun z=>by
  unfold ev;rw[hlast,DJ];show _+z*0=_;rw[Rat.mul_zero,Rat.add_zero]
 have hd0:0 < y - x:=by clear hsm h1 h2 h3 h4 hcl;grind
 have hdxy:ab (x - y)=y - x:=by
  clear hsm h1 h2 h3 h4 hcl;unfold ab;rw[if_pos Ad];grind
 have hfin:∀ i,i < K->Ae (Cf F (pd F) i):=fun i hi=>h.fin hi;have hne:=CV (hfin (K - 1) Aa) (h.ne (show K - 1 < K by omega));have hbz:∀ z,ab z<=B->∀ i,i+1 < K->∃ U W,U*ev (Cf F (pd F) i) z+W*ev (Cf F (pd F) (i+1)) z=1/\ab U<=T/\ab W<=T:=fun z hz i hi=>by
  obtain⟨U,W,c1,c2,c3,c4⟩:=h2 i Aa;refine⟨ev U z,ev W z,?_,Std.le_trans (c4 z hz).1 l2,Std.le_trans (c4 z hz).2 l2⟩;rw[<-Cy c1 (hfin i Aa),<-Cy c2 (hfin (i+1) hi),<-GI (c1.cv (hfin i Aa)) (c2.cv (hfin (i+1) hi)),c3,FR]
 have hrc:∀ z,ab z<=B->∀ i,i+2 < K->∃ q c,ev (Cf F (pd F) i) z=q*ev (Cf F (pd F) (i+1)) z - c*ev (Cf F (pd F) (i+2)) z/\ab q<=T/\0 < c/\1<=T*c:=fun z hz i hi=>by
  obtain⟨q,c,c1,c2,c3,c4,c5⟩:=h3 i Aa hi;exact⟨ev q z,c,c3 z,Std.le_trans (c4 z hz) l3,c2,R7 c5 (Std.le_of_lt c2) l3⟩
 refine⟨l5,hd0,hsm,fun i hi=>?_,fun i hi=>hbz x hx i Aa,fun i hi=>hbz y hy i Aa,fun i hi=>hrc x hx i Aa,fun i hi=>hrc y hy i Aa,⟨by rw[hcl,hcl],?_⟩,fun hm=>?_⟩
 ·have:=h1 i Aa x y hx hy
  rw[hdxy]at this;exact R7 this (Std.le_of_lt hd0) l1
 ·show ev (Cf F (pd F) (K - 1)) x≠0
  rw[hcl];unfold ld at hne;rw[hlast]at hne;exact hne
 ·obtain⟨g1,g2,g3⟩:=h4 Aa
  obtain⟨r,hr,e⟩:=g3 x y hx hy;exact⟨k,r,e,g1,R7 g2 (Std.le_of_lt g1) l4,Std.le_trans hr l4⟩
theorem RD{T:Rat}(hT:1<=T):∃ δ:Rat,0 < δ/\∀ d,d<=δ->4*(T*(T*(T*(T*d)))) < 1:=by
 have hT0:0 < T:=by grind
 have p2:=Rat.mul_pos hT0 hT0;have p3:=Rat.mul_pos hT0 p2;have p4:=Rat.mul_pos hT0 p3;obtain⟨P,hP⟩:∃ P,P=T*(T*(T*T)):=⟨_,rfl⟩
 rw[<-hP]at p4;obtain⟨hδ,hi⟩:=F7 (show 0 < 8*P by grind);refine⟨1 / (8*P),hδ,fun d hd=>?_⟩;have e:T*(T*(T*(T*d)))=P*d:=by rw[hP];grind
 rw[e];have h1:=Rat.mul_le_mul_of_nonneg_left hd (show 0<=P by grind);obtain⟨X,hX⟩:∃ X,X=1 / (8*P):=⟨_,rfl⟩
 rw[<-hX]at h1 hi;have h2:X*(8*P)=8*(P*X):=by grind
 rw[h2]at hi;clear h2 hX e hP p2 p3 hδ;grind
theorem Ej.local_(h:Ej F K){B:Rat}(hB:0<=B):∃ δ:Rat,0 < δ/\∀ x y,ab x<=B->ab y<=B->x < y->y - x<=δ->vx F K x=vx F K y+Gv F x y:=by
 obtain⟨T,hT,hc⟩:=h.cells hB;obtain⟨δ,hδ,hs⟩:=RD hT;refine⟨δ,hδ,fun x y hx hy hxy hd=>?_⟩;have hs:=(hc x y hx hy hxy (hs _ hd)).sturm;have hK:=h.k.1;rw[show K - 1+1=K by omega]at hs;obtain⟨c0,hc0,e0⟩:=M9 h.z h.f h.n;have e00:∀ z,ev (Cf F (pd F) 0) z=c0*ev F z:=fun z=>by
  show ev (rd F) z=_;rw[e0,DX _ h.f]
 have e2:(if AX (ev (Cf F (pd F) 0) x)≠0/\AX (ev (Cf F (pd F) 0) y)≠AX (ev (Cf F (pd F) 0) x)then 1 else 0)=Gv F x y:=by
  rw[e00,e00,CO hc0,CO hc0];unfold Gv;have hz:AX (ev F x)≠0↔ev F x≠0:=by rw[Ne,CY]
  by_cases c:ev F x≠0/\AX (ev F y)≠AX (ev F x)
  ·rw[if_pos ⟨hz.2 c.1,c.2⟩,if_pos c]
  ·rw[if_neg (fun q=>c ⟨hz.1 q.1,q.2⟩),if_neg c]
 rw[e2]at hs;exact hs
end
theorem jX(q:Rat):∃ n:Nat,0 < n/\q<=(n:Rat):=by
 refine⟨q.num.natAbs+1,Aa,?_⟩;have h1:(0:Rat)<=((q.num.natAbs:Nat):Rat):=by exact_mod_cast Nat.zero_le _
 have h2:(((q.num.natAbs+1:Nat)):Rat)=((q.num.natAbs:Nat):Rat)+1:=by push_cast;rfl
 rw[h2];rcases Std.lt_trichotomy 0 q with a | a | a
 ·have hd:(1:Rat)<=((q.den:Nat):Rat):=by
   have:=q.den_pos;exact_mod_cast this
  have e:q*((q.den:Nat):Rat)=((q.num:Int):Rat):=by
   have h3:=Iy q;have hd0:((q.den:Nat):Rat)≠0:=Jd q.den_pos
   conv=>lhs;rw[h3]
   grind
  have h4:q*1<=q*((q.den:Nat):Rat):=Rat.mul_le_mul_of_nonneg_left hd (Std.le_of_lt a);have h5:((q.num:Int):Rat)<=((q.num.natAbs:Nat):Rat):=by
   have h6:q.num<=((q.num.natAbs:Nat):Int):=by omega
   have h7:((q.num:Int):Rat)<=((((q.num.natAbs:Nat):Int)):Rat):=by exact_mod_cast h6
   exact h7
  grind
 ·rw[<-a];grind
 ·grind
theorem Em{a b z B:Rat}(ha:ab a<=B)(hb:ab b<=B)(h1:a<=z)(h2:z<=b):ab z<=B:=by
 rw[EH]at *;exact⟨Std.le_trans ha.1 h1,Std.le_trans h2 hb.2⟩
noncomputable def UF(F:Nat->Rat)(a s:Rat):Nat->Nat
 | 0=>0
 | n+1=>UF F a s n+Gv F (a+((n:Nat):Rat)*s) (a+((n+1:Nat):Rat)*s)
section
variable{F:Nat->Rat}{K:Nat}
theorem CJ(n:Nat):((n+1:Nat):Rat)=((n:Nat):Rat)+1:=by push_cast;rfl
theorem Ef(n:Nat):(0:Rat)<=((n:Nat):Rat):=by exact_mod_cast Nat.zero_le n
theorem Xa{V:Rat->Nat}{B δ:Rat}(hl:∀ x y,ab x<=B->ab y<=B->x < y->y - x<=δ->V x=V y+Gv F x y){a s:Rat}(hs:0 < s)(hsδ:s<=δ):∀ n,(∀ j,j<=n->ab (a+((j:Nat):Rat)*s)<=B)->V a=V (a+((n:Nat):Rat)*s)+UF F a s n
 | 0,_=>by
  have e:a+((0:Nat):Rat)*s=a:=by show a+0*s=a;rw[Rat.zero_mul,Rat.add_zero]
  rw[e];rfl
 | n+1,hj=>by
  have h1:=Xa hl hs hsδ n fun j h=>hj j Aa;have e:a+((n+1:Nat):Rat)*s=a+((n:Nat):Rat)*s+s:=by rw[CJ];grind
  have h2:=hl (a+((n:Nat):Rat)*s) (a+((n+1:Nat):Rat)*s) (hj n Aa) (hj (n+1) (Nat.le_refl _)) (by rw[e];grind) (by rw[e];grind);rw[h1,h2];show _=_+(UF F a s n+Gv F _ _);omega
theorem cut{a b δ:Rat}(hab:a < b)(hδ:0 < δ):∃ n s,0 < n/\0 < s/\s<=δ/\a+((n:Nat):Rat)*s=b/\∀ j,j<=n->a<=a+((j:Nat):Rat)*s/\a+((j:Nat):Rat)*s<=b:=by
 obtain⟨hi,ei⟩:=F7 hδ;obtain⟨n,hn,hq⟩:=jX ((b - a)*(1 / δ));have hn0:(0:Rat) < ((n:Nat):Rat):=by exact_mod_cast hn
 obtain⟨hm,em⟩:=F7 hn0;have hba:0 < b - a:=by grind
 obtain⟨s,hs⟩:∃ s,s=(b - a)*(1 / ((n:Nat):Rat)):=⟨_,rfl⟩
 have hs0:0 < s:=by rw[hs];exact Rat.mul_pos hba hm
 have ens:((n:Nat):Rat)*s=b - a:=by rw[hs];grind
 refine⟨n,s,hn,hs0,?_,by rw[ens];grind,fun j hj=>?_⟩
 ·-- b - a<=n δ
  have h1:=Rat.mul_le_mul_of_nonneg_right hq (show 0<=δ by grind);have e1:(b - a)*(1 / δ)*δ=b - a:=by grind
  rw[e1,<-ens]at h1;rcases Std.lt_trichotomy s δ with c | c | c
  ·exact Std.le_of_lt c
  ·rw[c];exact Std.le_refl _
  ·exfalso
   have:=Rat.mul_lt_mul_of_pos_left c hn0;grind
 ·have h0:=Rat.mul_nonneg (Ef j) (Std.le_of_lt hs0)
  have hjn:((j:Nat):Rat)<=((n:Nat):Rat):=by exact_mod_cast hj
  have h1:=Rat.mul_le_mul_of_nonneg_right hjn (Std.le_of_lt hs0);rw[ens]at h1;refine⟨Ad,Ad⟩
theorem Ej.sums(h:Ej F K){a b:Rat}(hab:a < b){ε:Rat}(hε:0 < ε):∃ n s,0 < n/\0 < s/\s<=ε/\a+((n:Nat):Rat)*s=b/\(∀ j,j<=n->a<=a+((j:Nat):Rat)*s/\a+((j:Nat):Rat)*s<=b)/\vx F K a=vx F K b+UF F a s n:=by
 have hB:0<=ab a+ab b:=by have:=Aj a;have:=Aj b;grind
 obtain⟨δ,hδ,hl⟩:=h.local_ hB;have hm:∃ μ:Rat,0 < μ/\μ<=δ/\μ<=ε:=by
  rcases Std.lt_trichotomy δ ε with c | c | c
  ·exact⟨δ,hδ,Std.le_refl _,Std.le_of_lt c⟩
  ·exact⟨δ,hδ,Std.le_refl _,by rw[c];exact Std.le_refl _⟩
  ·exact⟨ε,hε,Std.le_of_lt c,Std.le_refl _⟩
 obtain⟨μ,hμ,h1,h2⟩:=hm;obtain⟨n,s,hn,hs,hsμ,e,hj⟩:=cut hab hμ;refine⟨n,s,hn,hs,Std.le_trans hsμ h2,e,hj,?_⟩;have:=Xa hl hs (Std.le_trans hsμ h1) n fun j hjn=>Em (DV (Std.le_refl _) (Aj b)) (Da (Std.le_refl _) (Aj a)) (hj j hjn).1 (hj j hjn).2;rw[e]at this;exact this
theorem Ej.mono(h:Ej F K){a b:Rat}(hab:a<=b):vx F K b<=vx F K a:=by
 rcases Std.lt_trichotomy a b with c | c | c
 ·obtain⟨n,s,-,-,-,-,-,e⟩:=h.sums c (ε:=1) Ab
  omega
 ·rw[c];exact Nat.le_refl _
 ·exfalso;grind
theorem ND{a s:Rat}:∀ n,(∀ j,j < n->Gv F (a+((j:Nat):Rat)*s) (a+((j+1:Nat):Rat)*s)=0)->UF F a s n=0
 | 0,_=>rfl
 | n+1,hj=>by
  show UF F a s n+Gv F _ _=0;rw[ND n fun j h=>hj j Aa,hj n Aa]
theorem Ej.flat(h:Ej F K){a b ε:Rat}(hab:a<=b)(hε:0 < ε)(hf:∀ z,a<=z->z<=b->ε<=ab (ev F z)):vx F K a=vx F K b:=by
 rcases Std.lt_trichotomy a b with c | c | c
 ·have hB:0<=ab a+ab b:=by have:=Aj a;have:=Aj b;grind
  obtain⟨L,hL0,hL⟩:=Mf h.f hB;obtain⟨hi,ei⟩:=F7 (show 0 < L+1 by grind);have hμ:0 < ε*(1 / (L+1))*(1 / 2):=Rat.mul_pos (Rat.mul_pos hε hi) Ad;obtain⟨n,s,hn,hs,hsμ,e,hj,hv⟩:=h.sums c hμ;have hLs:L*s < ε:=by
   have h1:=Rat.mul_le_mul_of_nonneg_left hsμ (show 0<=L+1 by grind);have e1:(L+1)*(ε*(1 / (L+1))*(1 / 2))=ε*(1 / 2):=by grind
   rw[e1]at h1;grind
  have hz:=ND (F:=F) (a:=a) (s:=s) n fun j hjn=>by
   unfold Gv;refine if_neg fun q=>?_;obtain⟨x1,x2⟩:=hj j Aa;obtain⟨y1,y2⟩:=hj (j+1) Aa;have bx:=Em (DV (Std.le_refl (ab a)) (Aj b)) (Da (Std.le_refl _) (Aj a)) x1 x2;have by_:=Em (DV (Std.le_refl (ab a)) (Aj b)) (Da (Std.le_refl _) (Aj a)) y1 y2;have hl:=hL _ _ bx by_;have ed:ab (a+((j:Nat):Rat)*s - (a+((j+1:Nat):Rat)*s))=s:=by
    have:a+((j:Nat):Rat)*s - (a+((j+1:Nat):Rat)*s) = - s:=by rw[CJ];grind
    rw[this,Kw,CX (Std.le_of_lt hs)]
   rw[ed]at hl;have:=(ER hl (fun t=>q.2 t.1.symm)).1;have h3:=hf _ x1 x2;grind
  rw[hz]at hv;exact hv
 ·rw[c]
 ·exfalso;grind
theorem eZ{f:Nat->Rat}(hf:Ae f)(h0:f≠pz){B z:Rat}(hB:1<=B)(hc:∀ i,i < pl f - 1->ab (f i)<=ab (ld f)*(B - 1))(hz:B<=ab z):ab (ld f)<=ab (ev f z):=by
 have hp:=AL hf h0;have hl:=Aj (ld f);have key:∀ k,k < pl f->ab (ld f)<=ab (hor f z (pl f) (pl f - 1 - k)):=by
  intro k;induction k with
  | zero =>
   intro _;have e:=LP f z (show pl f - 1 < pl f by omega);rw[show pl f - 1+1=pl f by omega,TD,Rat.zero_mul,Rat.zero_add]at e;rw[Nat.sub_zero,e];exact Std.le_refl _
  | succ k ih =>
   intro hk;have h1:=ih Aa;have e:=LP f z (show pl f - 1 - (k+1) < pl f by omega);rw[show pl f - 1 - (k+1)+1=pl f - 1 - k by omega]at e;have h2:=hc (pl f - 1 - (k+1)) Aa;have h3:ab (ld f)*ab z<=ab (hor f z (pl f) (pl f - 1 - k)*z):=by rw[BU];exact Rat.mul_le_mul_of_nonneg_right h1 (Aj _)
   have h4:ab (hor f z (pl f) (pl f - 1 - k)*z)<=ab (hor f z (pl f) (pl f - 1 - (k+1)))+ab (f (pl f - 1 - (k+1))):=by
    have:=Xb (hor f z (pl f) (pl f - 1 - (k+1))) (f (pl f - 1 - (k+1)));have e2:hor f z (pl f) (pl f - 1 - (k+1)) - f (pl f - 1 - (k+1))=hor f z (pl f) (pl f - 1 - k)*z:=by rw[e];grind
    rw[e2]at this;exact this
   have h5:ab (ld f)*B<=ab (ld f)*ab z:=Rat.mul_le_mul_of_nonneg_left hz hl;have h6:ab (ld f)*(B - 1)=ab (ld f)*B - ab (ld f):=by grind
   rw[h6]at h2;clear hc ih e h0 hf;grind
 have:=key (pl f - 1) Aa;rw[show pl f - 1 - (pl f - 1)=0 by omega,Qp]at this;exact this
theorem Ej.beyond(h:Ej F K){f q:Nat->Rat}(hf:Ae f)(h0:f≠pz)(fq:Ae q)(e:f=cv q F){B:Rat}(hB:1<=B)(hc:∀ i,i < pl f - 1->ab (f i)<=ab (ld f)*(B - 1)){a b:Rat}(hab:a<=b)(hout:∀ z,a<=z->z<=b->B<=ab z):vx F K a=vx F K b:=by
 have hBn:0<=ab a+ab b:=by have:=Aj a;have:=Aj b;grind
 obtain⟨M,hM0,hM⟩:=FE fq hBn;obtain⟨hi,ei⟩:=F7 (show 0 < M+1 by grind);have hl:0 < ab (ld f):=SQ.2 (CV hf h0);refine h.flat hab (Rat.mul_pos hl hi) fun z h1 h2=>?_;have hc1:=eZ hf h0 hB hc (hout z h1 h2);have hb:=hM z (Em (DV (Std.le_refl (ab a)) (Aj b)) (Da (Std.le_refl _) (Aj a)) h1 h2);rw[e,Cy fq h.f,BU,<-e]at hc1;have hz:=Aj (ev F z);have h3:ab (ev q z)*ab (ev F z)<=(M+1)*ab (ev F z):=Rat.mul_le_mul_of_nonneg_right Ad hz
 have h4:=Std.le_trans hc1 h3;have h5:=Rat.mul_le_mul_of_nonneg_right h4 (Std.le_of_lt hi);have e2:(M+1)*ab (ev F z)*(1 / (M+1))=ab (ev F z):=by grind
 rw[e2]at h5;exact h5
theorem Ej.total(h:Ej F K){f q:Nat->Rat}(hf:Ae f)(h0:f≠pz)(fq:Ae q)(e:f=cv q F){B:Rat}(hB:1<=B)(hc:∀ i,i < pl f - 1->ab (f i)<=ab (ld f)*(B - 1)){a b:Rat}(hab:a<=b):vx F K a+vx F K B<=vx F K (-B)+vx F K b:=by
 -- the ends outside
 have h1:vx F K a<=vx F K (-B):=by
  rcases Std.lt_trichotomy a (-B)with c | c | c
  ·have:=h.beyond hf h0 fq e hB hc (Std.le_of_lt c) (fun z _ z2=>by
    unfold ab;rw[if_pos Ad];grind)
   omega
  ·rw[c];exact Nat.le_refl _
  ·exact h.mono (Std.le_of_lt c)
 have h2:vx F K B<=vx F K b:=by
  rcases Std.lt_trichotomy B b with c | c | c
  ·have:=h.beyond hf h0 fq e hB hc (Std.le_of_lt c) (fun z z1 _=>by
    unfold ab;rw[if_neg Ad];exact z1)
   omega
  ·rw[c];exact Nat.le_refl _
  ·exact h.mono (Std.le_of_lt c)
 omega
end
theorem Ie{P:Rat->Rat->Prop}{a b δ:Rat}(hδ:0 < δ)(hab:a < b)(hc:∀ x y,a<=x->x < y->y<=b->y - x<=δ->P x y)
  (ht:∀ x y z,a<=x->x < y->y < z->z<=b->P x y->P y z->P x z):P a b:=by
 obtain⟨n,s,hn,hs,hsδ,e,hj⟩:=cut hab hδ;have key:∀ k,k < n->P a (a+((k+1:Nat):Rat)*s):=by
  intro k;induction k with
  | zero =>
   intro h;have e1:a+((0+1:Nat):Rat)*s=a+s:=by rw[CJ];show a+(0+1)*s=_;grind
   have:=(hj 1 Aa).2;rw[show((1:Nat):Rat)=((0+1:Nat):Rat)from rfl]at this;rw[e1]at this ⊢;exact hc a (a+s) (Std.le_refl _) Ad this Ad
  | succ k ih =>
   intro h;have e1:a+((k+1+1:Nat):Rat)*s=a+((k+1:Nat):Rat)*s+s:=by rw[CJ];grind
   have h1:=hj (k+1) Aa;have h2:=hj (k+1+1) Aa;have h3:a < a+((k+1:Nat):Rat)*s:=by
    have:=Rat.mul_nonneg (Ef k) (Std.le_of_lt hs);rw[CJ];grind
   refine ht a (a+((k+1:Nat):Rat)*s) _ (Std.le_refl _) h3 (by rw[e1];grind) h2.2 (ih Aa) ?_;exact hc _ _ h1.1 (by rw[e1];grind) h2.2 (by rw[e1];grind)
 have:=key (n - 1) Aa;rw[show n - 1+1=n by omega,e]at this;exact this
noncomputable def rt(F:Nat->Rat)(K:Nat)(p q:Rat):Int:=(vx F K p:Int) - (vx F K q:Int)
section
variable{F:Nat->Rat}{K:Nat}
theorem Ih(F:Nat->Rat)(K:Nat)(p q r:Rat):rt F K p q+rt F K q r=rt F K p r:=by unfold rt;omega
theorem Lv(F:Nat->Rat)(K:Nat)(p:Rat):rt F K p p=0:=by unfold rt;omega
theorem Ej.rt_nonneg(h:Ej F K){p q:Rat}(hpq:p<=q):0<=rt F K p q:=by have:=h.mono hpq;unfold rt;omega
theorem Ej.rt_sub(h:Ej F K){p x y q:Rat}(h1:p<=x)(h2:x<=y)(h3:y<=q):rt F K x y<=rt F K p q:=by
 have:=h.rt_nonneg h1;have:=h.rt_nonneg h3;have:=Ih F K p x y;have:=Ih F K p y q;omega
theorem Ej.loc(h:Ej F K)(a b:Rat):∃ δ:Rat,0 < δ/\∀ x y,a<=x->x < y->y<=b->y - x<=δ->rt F K x y=Gv F x y:=by
 have hB:0<=ab a+ab b:=by have:=Aj a;have:=Aj b;grind
 obtain⟨δ,hδ,hl⟩:=h.local_ hB;refine⟨δ,hδ,fun x y h1 h2 h3 h4=>?_⟩;have:=hl x y (Em (DV (Std.le_refl (ab a)) (Aj b)) (Da (Std.le_refl _) (Aj a)) h1 Ad)
  (Em (DV (Std.le_refl (ab a)) (Aj b)) (Da (Std.le_refl _) (Aj a)) Ad h3) h2 h4
 unfold rt;omega
theorem FU{q:Rat}(h:AX q≠0):q≠0:=fun e=>h (CY.2 e)
theorem DC{q:Rat}(h:q≠0):AX q≠0:=fun e=>h (CY.1 e)
theorem We{x y:Rat}(h:(Gv F x y:Int)=0)(hx:ev F x≠0):AX (ev F y)=AX (ev F x):=by
 unfold Gv at h
 split at h
 ·omega
 ·rename_i c
  exact Classical.byContradiction fun e=>c ⟨hx,e⟩
theorem Ty{x y:Rat}(hx:ev F x≠0)(h:AX (ev F y)≠AX (ev F x)):(Gv F x y:Int)=1:=by
 unfold Gv;rw[if_pos ⟨hx,h⟩];rfl
theorem gK(F:Nat->Rat)(x y:Rat):0<=(Gv F x y:Int)/\(Gv F x y:Int)<=1:=by
 unfold Gv;split<;>simp
theorem Ej.sg_const(h:Ej F K){p q:Rat}(hpq:p<=q)(h0:rt F K p q=0)(hp:ev F p≠0):AX (ev F q)=AX (ev F p):=by
 rcases Std.lt_trichotomy p q with c | c | c
 ·obtain⟨δ,hδ,hl⟩:=h.loc p q
  refine Ie (P:=fun x y=>rt F K x y=0->ev F x≠0->AX (ev F y)=AX (ev F x)) hδ c (fun x y a b c d e f=>?_) (fun x y z a b c d e f g k=>?_) h0 hp
  ·rw[hl x y a b c d]at e
   exact We e f
  ·have h1:=h.rt_nonneg (Std.le_of_lt b)
   have h2:=h.rt_nonneg (Std.le_of_lt c);have h3:=Ih F K x y z;have e1:=e Aa k;have e2:=f Aa (FU (by rw[e1];exact DC k));rw[e2,e1]
 ·rw[c]
 ·exfalso;grind
theorem Ns(hf:Ae F)(h0:F≠pz){p z δ:Rat}(hp:p < z)(hδ:0 < δ):∃ x,p < x/\x < z/\z - x<=δ/\ev F x≠0:=by
 obtain⟨μ,hμ,m1,m2⟩:∃ μ:Rat,0 < μ/\μ<=δ/\μ < z - p:=by
  rcases Std.lt_trichotomy δ (z - p)with c | c | c
  ·exact⟨δ,hδ,Std.le_refl _,c⟩
  ·exact⟨δ / 2,Ad,Ad,Ad⟩
  ·exact⟨(z - p) / 2,Ad,Ad,Ad⟩
 refine Classical.byContradiction fun hn=>?_;have hz:∀ x,z - μ<=x->x < z->ev F x=0:=fun x a b=>Classical.byContradiction fun e=>hn ⟨x,Ad,b,Ad,e⟩;have hpl:=AL hf h0;obtain⟨n,hn'⟩:∃ n,n=pl F:=⟨_,rfl⟩
 have hn0:(0:Rat) < ((n:Nat):Rat):=by rw[hn'];exact_mod_cast hpl
 obtain⟨hi,ei⟩:=F7 hn0;obtain⟨s,hs⟩:∃ s,s=μ*(1 / ((n:Nat):Rat)):=⟨_,rfl⟩
 have hs0:0 < s:=by rw[hs];exact Rat.mul_pos hμ hi
 have ens:((n:Nat):Rat)*s=μ:=by rw[hs];grind
 have hlist:((List.range n).map fun j:Nat=>z - μ+((j:Nat):Rat)*s).Nodup:=by
  rw[List.nodup_iff_pairwise_ne,List.pairwise_map];refine List.Pairwise.imp ?_ List.pairwise_lt_range;intro i j hij e;have hij':((i:Nat):Rat)+1<=((j:Nat):Rat):=by rw[<-CJ];exact_mod_cast hij
  have:=Rat.mul_le_mul_of_nonneg_right hij' (Std.le_of_lt hs0);grind
 refine h0 (GA (l:=(List.range n).map fun j:Nat=>z - μ+((j:Nat):Rat)*s) (by rw[List.length_map,List.length_range,hn'];exact AA hf) hlist ?_);intro x hx;obtain⟨j,hj,rfl⟩:=List.mem_map.1 hx;have hj:=List.mem_range.1 hj;have h1:=Rat.mul_nonneg (Ef j) (Std.le_of_lt hs0);have hij':((j:Nat):Rat)+1<=((n:Nat):Rat):=by rw[<-CJ];exact_mod_cast hj
 have:=Rat.mul_le_mul_of_nonneg_right hij' (Std.le_of_lt hs0);exact hz _ Ad Ad
theorem Ej.zero_counts(h:Ej F K){p z q:Rat}(h1:p < z)(h2:z<=q)(hz:ev F z=0):1<=rt F K p q:=by
 obtain⟨δ,hδ,hl⟩:=h.loc p z;obtain⟨x,a,b,c,d⟩:=Ns h.f h.n h1 hδ;have e1:=hl x z (Std.le_of_lt a) b (Std.le_refl _) c;rw[Ty d (by rw[hz,CY.2 rfl];exact fun e=>DC d e.symm)]at e1;have:=h.rt_sub (Std.le_of_lt a) (Std.le_of_lt b) h2;omega
theorem Ej.change_counts(h:Ej F K){p q:Rat}(hpq:p<=q)(hp:ev F p≠0)(hc:AX (ev F q)≠AX (ev F p)):1<=rt F K p q:=by
 have h1:=h.rt_nonneg hpq;rcases Int.lt_or_le 0 (rt F K p q)with a | a
 ·exact a
 ·exact absurd (h.sg_const hpq Aa hp) hc
theorem Ej.free(h:Ej F K){p q x y:Rat}(h0:rt F K p q=0)(h1:p < x)(h2:x<=y)(h3:y<=q):ev F x≠0/\AX (ev F y)=AX (ev F x):=by
 have hx:ev F x≠0:=fun e=>by
  have:=h.zero_counts h1 (Std.le_trans h2 h3) e;omega
 have:=h.rt_sub (Std.le_of_lt h1) h2 h3;have:=h.rt_nonneg h2;exact⟨hx,h.sg_const h2 Aa hx⟩
end
theorem Cs(p q:Rat):AX (p*q)=AX p*AX q:=by
 rcases Std.lt_trichotomy p 0 with a | a | a
 ·rcases Std.lt_trichotomy q 0 with b | b | b
  ·have:=MZ a b
   unfold AX;rw[if_pos this,if_neg Ad,if_pos a,if_neg Ad,if_pos b];rfl
  ·rw[b,Rat.mul_zero,show AX 0=0 from CY.2 rfl];simp
  ·have:=JD b a
   rw[Rat.mul_comm]at this;unfold AX;rw[if_neg Ad,if_pos this,if_neg Ad,if_pos a,if_pos b];rfl
 ·rw[a,Rat.zero_mul,show AX 0=0 from CY.2 rfl];simp
 ·rw[CO a]
  unfold AX;rw[if_pos a];simp
theorem Cr.cell{A B:Nat->Rat}(fA:Ae A)(fB:Ae B)(c:Cr A B)(a b:Rat):∃ δ:Rat,0 < δ/\∀ x y,a<=x->x < y->y<=b->y - x<=δ ->
  (AX (ev A y)=AX (ev A x)/\ev A x≠0)\/(AX (ev B y)=AX (ev B x)/\ev B x≠0):=by
 obtain⟨U,W,fU,fW,e⟩:=c;have hB:0<=ab a+ab b:=by have:=Aj a;have:=Aj b;grind
 obtain⟨M,hM0,hM⟩:=FE fU hB;obtain⟨N,hN0,hN⟩:=FE fW hB;obtain⟨L,hL0,hL⟩:=Mf fA hB;obtain⟨R,hR0,hR⟩:=Mf fB hB;obtain⟨T,hT⟩:∃ T,T=M*L+N*R+1:=⟨_,rfl⟩
 have hML:=Rat.mul_nonneg hM0 hL0;have hNR:=Rat.mul_nonneg hN0 hR0;obtain⟨hi,ei⟩:=F7 (show 0 < T by grind);refine⟨1 / T*(1 / 2),Ad,fun x y h1 h2 h3 h4=>?_⟩;have bx:=Em (DV (Std.le_refl (ab a)) (Aj b)) (Da (Std.le_refl _) (Aj a)) h1 (show x<=b by grind);have by_:=Em (DV (Std.le_refl (ab a)) (Aj b)) (Da (Std.le_refl _) (Aj a)) (show a<=y by grind) h3;have eab:ab (x - y)=y - x:=by rw[show x - y = -(y - x) by grind,Kw,CX Ad]
 have l1:=hL x y bx by_;have l2:=hR x y bx by_;rw[eab]at l1 l2;by_cases c1:AX (ev A x)=AX (ev A y)/\AX (ev A x)≠0
 ·exact .inl ⟨c1.1.symm,FU c1.2⟩
 by_cases c2:AX (ev B x)=AX (ev B y)/\AX (ev B x)≠0
 ·exact .inr ⟨c2.1.symm,FU c2.2⟩
 exfalso;have s1:=(ER l1 c1).1;have s2:=(ER l2 c2).1;have e1:ev U x*ev A x+ev W x*ev B x=1:=by
  rw[<-Cy fU fA,<-Cy fW fB,<-GI (fU.cv fA) (fW.cv fB),e];have:ev pone x=CL 1 pone x:=Ee CP x;rw[this];show pone 0+x*0=1;show(1:Rat)+x*0=1;grind
 have h5:ab (ev U x*ev A x)<=M*(L*(y - x)):=by rw[BU];exact DT (hM x bx) s1 (Aj _) hM0
 have h6:ab (ev W x*ev B x)<=N*(R*(y - x)):=by rw[BU];exact DT (hN x bx) s2 (Aj _) hN0
 have h7:=Fw (ev U x*ev A x) (ev W x*ev B x);rw[e1,show ab 1=1 from by decide]at h7;have h8:=Rat.mul_le_mul_of_nonneg_left h4 (show 0<=T by grind);have e8:T*(1 / T*(1 / 2))=1 / 2:=by grind
 rw[e8]at h8;have e9:M*(L*(y - x))+N*(R*(y - x))=T*(y - x) - (y - x):=by rw[hT];grind
 grind
theorem Ej.rt_mul{A B:Nat->Rat}{K L M:Nat}(hA:Ej A K)(hB:Ej B L)(hC:Ej (cv A B) M)(c:Cr A B){p q:Rat}(hpq:p<=q):rt (cv A B) M p q=rt A K p q+rt B L p q:=by
 rcases Std.lt_trichotomy p q with hlt | heq | hgt
 ·obtain⟨d1,g1,l1⟩:=hA.loc p q
  obtain⟨d2,g2,l2⟩:=hB.loc p q;obtain⟨d3,g3,l3⟩:=hC.loc p q;obtain⟨d4,g4,l4⟩:=c.cell hA.f hB.f p q;obtain⟨d,hd,q1,q2,q3,q4⟩:∃ d:Rat,0 < d/\d<=d1/\d<=d2/\d<=d3/\d<=d4:=by
   have two:∀ u v:Rat,0 < u->0 < v->∃ w,0 < w/\w<=u/\w<=v:=fun u v hu hv=>by
    rcases Std.lt_trichotomy u v with c | c | c
    ·exact⟨u,hu,Std.le_refl _,Std.le_of_lt c⟩
    ·exact⟨u,hu,Std.le_refl _,Ad⟩
    ·exact⟨v,hv,Std.le_of_lt c,Std.le_refl _⟩
   obtain⟨u,hu,u1,u2⟩:=two d1 d2 g1 g2;obtain⟨v,hv,v1,v2⟩:=two d3 d4 g3 g4;obtain⟨w,hw,w1,w2⟩:=two u v hu hv;exact⟨w,hw,Ad,Ad,Ad,Ad⟩
  refine Ie (P:=fun x y=>rt (cv A B) M x y=rt A K x y+rt B L x y) hd hlt (fun x y a1 a2 a3 a4=>?_) (fun x y z a1 a2 a3 a4 e f=>?_)
  ·rw[l1 x y a1 a2 a3 Ad,l2 x y a1 a2 a3 Ad,l3 x y a1 a2 a3 Ad]
   have e1:=Cy hA.f hB.f x;have e2:=Cy hA.f hB.f y;rcases l4 x y a1 a2 a3 Ad with⟨s,n⟩ | ⟨s,n⟩
   ·have j1:Gv A x y=0:=by unfold Gv;exact if_neg fun q=>q.2 s
    have j2:Gv (cv A B) x y=Gv B x y:=by
     unfold Gv;rw[e1,e2,Cs,Cs,s];have hs:=DC n;have:(ev A x*ev B x≠0/\AX (ev A x)*AX (ev B y)≠AX (ev A x)*AX (ev B x))↔(ev B x≠0/\AX (ev B y)≠AX (ev B x)):=by
      refine and_congr ⟨fun h e=>h (by rw[e,Rat.mul_zero]),fun h e=>?_⟩ ⟨fun h e=>h (by rw[e]),fun h e=>h (Int.eq_of_mul_eq_mul_left hs e)⟩;rcases Rat.mul_eq_zero.1 e with k | k
      ·exact n k
      ·exact h k
     simp only[this]
    omega
   ·have j1:Gv B x y=0:=by unfold Gv;exact if_neg fun q=>q.2 s
    have j2:Gv (cv A B) x y=Gv A x y:=by
     unfold Gv;rw[e1,e2,Cs,Cs,s];have hs:=DC n;have:(ev A x*ev B x≠0/\AX (ev A y)*AX (ev B x)≠AX (ev A x)*AX (ev B x))↔(ev A x≠0/\AX (ev A y)≠AX (ev A x)):=by
      refine and_congr ⟨fun h e=>h (by rw[e,Rat.zero_mul]),fun h e=>?_⟩ ⟨fun h e=>h (by rw[e]),fun h e=>h (Int.eq_of_mul_eq_mul_right hs e)⟩;rcases Rat.mul_eq_zero.1 e with k | k
      ·exact h k
      ·exact n k
     simp only[this]
    omega
  ·have h1:=Ih (cv A B) M x y z;have h2:=Ih A K x y z;have h3:=Ih B L x y z
   omega
 ·rw[heq,Lv,Lv,Lv];rfl
 ·exfalso;grind
def J8(B:Rat)(F:Nat->Rat):Prop:=∀ i,ab (F i)<=B
theorem CQ{a b c:Rat}(h:a<=b)(hc:0<=c):a*c<=b*c:=Rat.mul_le_mul_of_nonneg_right h hc
theorem Ck{a b c:Rat}(h:a<=b)(hc:0<=c):c*a<=c*b:=Rat.mul_le_mul_of_nonneg_left h hc
theorem J8.lin{F:Nat->Rat}{B R a:Rat}(h:J8 B F)(ha:ab a<=R):J8 (B*(1+R)) (cv F (Hp.lin a)):=by
 intro i;have hB:0<=B:=by have:=h 0;have:=Aj (F 0);grind
 have e:cv F (Hp.lin a)=pad (psc (-a) F) (cs 0 F):=by rw[Av];unfold Hp.lin;rw[L8,Br]
 have e2:cv F (Hp.lin a) i = -a*F i+cs 0 F i:=by rw[e];rfl
 have h1:ab (cs 0 F i)<=B:=by
  cases i with
  | zero=>show ab 0<=B;rw[show ab 0=0 from by decide];exact hB
  | succ i=>exact h i
 rw[e2];have h2:=Fw (-a*F i) (cs 0 F i);have h3:ab (-a*F i)=ab a*ab (F i):=by rw[BU,Kw]
 have h4:ab a*ab (F i)<=R*B:=by
  have:=CQ ha (Aj (F i));have h0:0<=R:=by have:=Aj a;grind
  have:=Ck (h i) h0;grind
 grind
theorem gD:ab 1=1:=by decide
theorem Di:ab 0=0:=by decide
theorem J8.lgp{X:Nat->Rat}{R:Rat}(i:Nat)(h0:0<=R):∀ n,(∀ k,k < n->ab (X k)<=R)->J8 ((1+R)^n) (lgp X i n)
 | 0,_=>fun j=>by
  rw[Rat.pow_zero];show ab (pone j)<=1;unfold pone;cases j with
  | zero=>show ab 1<=1;rw[gD];grind
  | succ j=>show ab 0<=1;rw[Di];grind
 | n+1,h=>by
  have ih:=J8.lgp i h0 n fun k hk=>h k Aa;rw[FB,Rat.pow_succ]
  split
  ·intro j
   have h1:=ih j;have h2:0<=(1+R)^n:=by have:=ih 0;have:=Aj (Hp.lgp X i n 0);grind
   have h3:(1+R)^n*0<=(1+R)^n*R:=Ck h0 h2;grind
  ·exact ih.lin (h n Aa)
theorem Uf{a b:Rat}(h0:0<=a)(h:a<=b):∀ n:Nat,0<=a^n/\a^n<=b^n
 | 0=>by rw[Rat.pow_zero,Rat.pow_zero];exact⟨Ab,Ad⟩
 | n+1=>by
  have ih:=Uf h0 h n;rw[Rat.pow_succ,Rat.pow_succ];have h1:=CQ ih.2 h0;have h2:0<=b^n:=by grind
  have h3:=Ck h h2;have h4:=CQ ih.1 h0;exact⟨Ad,Ad⟩
theorem J8.psc{F:Nat->Rat}{B:Rat}(h:J8 B F){a A:Rat}(ha:ab a<=A):J8 (A*B) (psc a F):=fun i=>by
 show ab (a*F i)<=_;rw[BU];have h1:=CQ ha (Aj (F i));have h0:0<=A:=by have:=Aj a;grind
 have h2:=Ck (h i) h0;grind
theorem J8.pad{F G:Nat->Rat}{A B:Rat}(h:J8 A F)(k:J8 B G):J8 (A+B) (pad F G):=fun i=>by
 show ab (F i+G i)<=_;have:=Fw (F i) (G i);have:=h i;have:=k i;grind
theorem OW{F:Nat->Rat}{B R x:Rat}(h:J8 B F)(h0:0<=R)(hx:ab x<=R):∀ n,ab (CL n F x)<=B*(n:Rat)*(1+R)^n
 | 0=>by
  have hB:0<=B:=by have:=h 0;have:=Aj (F 0);grind
  show ab 0<=_;rw[Di,Rat.pow_zero];show(0:Rat)<=B*0*1;grind
 | n+1=>by
  have hB:0<=B:=by have:=h 0;have:=Aj (F 0);grind
  have ih:=OW (F:=tl F) (fun i=>h (i+1)) h0 hx n;rw[DJ,Rat.pow_succ];have h1:=Fw (F 0) (x*CL n (tl F) x);have h2:=h 0;have h3:ab (x*CL n (tl F) x)=ab x*ab (CL n (tl F) x):=BU _ _;have h4:=CQ hx (Aj (CL n (tl F) x));have h5:=Ck ih h0;have hp:=Uf (a:=1) (b:=1+R) Ab Ad n;have hp2:(1:Rat)^n=1:=by
   clear ih h1 h2 h3 h4 h5 hp;induction n with
   | zero=>rfl
   | succ n ih=>rw[Rat.pow_succ,ih];grind
  rw[hp2]at hp;have hn0:(0:Rat)<=(n:Rat):=by exact_mod_cast Nat.zero_le n
  obtain⟨P,hP⟩:∃ P,P=(1+R)^n:=⟨_,rfl⟩
  rw[<-hP]at h5 hp ⊢;have hc:(((n+1:Nat):Rat))=(n:Rat)+1:=by push_cast;rfl
  rw[hc];have hBn:0<=B*(n:Rat):=by have:=Ck hn0 hB;grind
  have q1:R*(B*(n:Rat)*P)<=B*(n:Rat)*P*(1+R):=by
   have:0<=B*(n:Rat)*P:=by have:=Ck (show(0:Rat)<=P by grind) hBn;grind
   grind
  have q2:B*1<=B*(P*(1+R)):=Ck (by
   have:=CQ hp.2 (show 0<=1+R by grind);grind) hB
  grind
theorem Jp(x:Int):ab (x:Rat)=((x.natAbs:Nat):Rat):=by
 unfold ab
 split
 ·rename_i h
  have:x < 0:=by exact_mod_cast h
  have e:((x.natAbs:Nat):Int) = -x:=by omega
  rw[show((x.natAbs:Nat):Rat)=(((x.natAbs:Nat):Int):Rat)from rfl,e];simp
 ·rename_i h
  have:0<=x:=Int.not_lt.1 fun h'=>h (by exact_mod_cast h');have e:((x.natAbs:Nat):Int)=x:=by omega
  rw[show((x.natAbs:Nat):Rat)=(((x.natAbs:Nat):Int):Rat)from rfl,e]
theorem Vg{y z Y:Rat}(hy:ab y<=Y)(hz:1<=ab z):ab (y / z)<=Y:=by
 have hne:z≠0:=fun e=>by rw[e,Di]at hz;exact absurd hz Ab
 have h1:ab (y / z)*ab z=ab y:=by rw[<-BU,show y / z*z=y by grind]
 have h2:=Ck hz (Aj (y / z));grind
theorem ZI.lgp{X:Nat->Rat}(i:Nat):∀ n,(∀ k,k < n->∃ m:Int,X k=(m:Rat))->ZI (lgp X i n)
 | 0,_=>fun j=>by cases j with | zero=>exact⟨1,rfl⟩ | succ j=>exact⟨0,rfl⟩
 | n+1,h=>by
  have ih:=ZI.lgp i n fun k hk=>h k Aa;rw[FB]
  split
  ·exact ih
  ·obtain⟨m,hm⟩:=h n Aa
   have e:Hp.cv (Hp.lgp X i n) (lin (X n))=Hp.pad (Hp.psc (-X n) (Hp.lgp X i n)) (cs 0 (Hp.lgp X i n)):=by rw[Av];unfold lin;rw[L8,Br]
   intro j;rw[e];obtain⟨a,ha⟩:=ih j;obtain⟨b,hb⟩:∃ b:Int,cs 0 (Hp.lgp X i n) j=(b:Rat):=by
    cases j with
    | zero=>exact⟨0,rfl⟩
    | succ j=>exact ih j
   refine⟨-m*a+b,?_⟩;show -X n*Hp.lgp X i n j+cs 0 (Hp.lgp X i n) j=_;rw[ha,hb,hm]
   push_cast
   rfl
theorem PI{F D:Nat->Rat}{n:Nat}{B:Rat}(zF:ZI F)(fF:Ae F)(h0:F≠pz)(zD:ZI D)(fD:Ae D)(hd:Iw F D)(hn:pl F<=n)(hB:J8 B F) :
  J8 ((n:Rat)*(B*(n:Rat)*(1+2*(n:Rat))^n*(1+2*(n:Rat))^n)) D:=by
 obtain⟨X,hA,hX⟩:=NB fF h0 hn;obtain⟨Q,zQ,fQ,e⟩:=hd;obtain⟨R,hR⟩:∃ R:Rat,R=2*(n:Rat):=⟨_,rfl⟩
 have hR0:0<=R:=by
  have:(0:Rat)<=(n:Rat):=by exact_mod_cast Nat.zero_le n
  grind
 rw[<-hR];have hXi:∀ k,k < n->∃ m:Int,X k=(m:Rat):=fun k hk=>by obtain⟨-,m,-,h2⟩:=hX k hk;exact⟨m,h2⟩
 have hXR:∀ k,k < n->ab (X k)<=R:=fun k hk=>by
  obtain⟨-,m,h1,h2⟩:=hX k hk;rw[h2,Jp,hR];have:((((m:Nat):Int).natAbs:Nat):Rat)=((m:Nat):Rat):=by simp
  rw[this];have h3:((m:Nat):Rat)<=((2*n:Nat):Rat):=by exact_mod_cast Nat.le_of_lt h1
  have h4:((2*n:Nat):Rat)=2*(n:Rat):=by push_cast;rfl
  grind
 obtain⟨YY,hYY⟩:∃ YY,YY=B*(n:Rat)*(1+R)^n:=⟨_,rfl⟩
 rw[<-hYY];have hY:∀ k,k < n->ab (ev D (X k))<=YY:=fun k hk=>by
  obtain⟨h3,m,-,h4⟩:=hX k hk;have h1:=OW hB hR0 (hXR k hk) n;rw[<-Ee ((AA fF).mono hn),<-hYY]at h1;have h5:ev F (X k)=ev Q (X k)*ev D (X k):=by rw[e,Cy fQ fD]
  rw[h4]at h1 h3 h5 ⊢;obtain⟨a,ha⟩:=LU zF (m:Int);obtain⟨b,hb⟩:=LU zQ (m:Int);obtain⟨c,hc⟩:=LU zD (m:Int);rw[ha]at h1 h3;rw[ha,hb,hc]at h5;rw[hc];have h6:a=b*c:=by exact_mod_cast h5
  have h7:a≠0:=fun e=>h3 (by rw[e];rfl);have h8:c.natAbs<=a.natAbs:=Nat.le_of_dvd Aa (Int.natAbs_dvd_natAbs.2 ⟨b,by rw[h6,Int.mul_comm]⟩);rw[Jp]at h1 ⊢;have:((c.natAbs:Nat):Rat)<=((a.natAbs:Nat):Rat):=by exact_mod_cast h8
  grind
 have hDn:D≠pz:=fun e2=>h0 (by rw[e,e2,JY]);have hDl:pl D<=pl F:=Dv.le fD fF h0 ⟨Q,fQ,e⟩;obtain⟨Y,hYe⟩:∃ Y,Y=fun k=>ev D (X k):=⟨_,rfl⟩
 have hD:D=ZJ X Y n n:=K6 hA ((AA fD).mono Aa) (P7 X Y n n (Nat.le_refl _)) fun k hk=>by
  rw[Wt hA hk n (Nat.le_refl _),if_pos hk,hYe]
 have hc:∀ j,j < n->J8 (YY*(1+R)^n) (dP X Y n j):=fun j hj=>by
  refine(J8.lgp (R:=R) j hR0 n hXR).psc (Vg (by rw[hYe];exact hY j hj) ?_);have h1:=Yt X (i:=j) (n:=n) (x:=X j) fun k hk hne=>hA.ne hj hk hne;obtain⟨m,hm⟩:=hXi j hj;rw[hm]at h1 ⊢;obtain⟨y,hy⟩:=LU (ZI.lgp j n hXi) m;rw[hy]at h1 ⊢;rw[Jp];have:y≠0:=fun e=>h1 (by rw[e];rfl);have h2:1<=y.natAbs:=by omega
  exact_mod_cast h2
 have hl:∀ m,m<=n->J8 ((m:Rat)*(YY*(1+R)^n)) (ZJ X Y n m):=by
  intro m;induction m with
  | zero =>
   intro _ i;show ab 0<=(0:Rat)*_;rw[Di];grind
  | succ m ih =>
   intro h i;have h1:=((ih Aa).pad (hc m h)) i;have hc:(((m+1:Nat):Rat))=(m:Rat)+1:=by push_cast;rfl
   rw[hc];show ab (Hp.pad (ZJ X Y n m) (dP X Y n m) i)<=_;grind
 rw[hD];exact hl n (Nat.le_refl _)
noncomputable def Gu(F:Nat->Rat):Nat->Rat
 | 0=>0
 | k+1=>if Gu F k < ab (F k / ld F)then ab (F k / ld F)else Gu F k
theorem FK(F:Nat->Rat):∀ k,0<=Gu F k
 | 0=>by show(0:Rat)<=0;decide
 | k+1=>by
  rw[Gu]
  split
  ·exact Aj _
  ·exact FK F k
theorem XE(F:Nat->Rat){i:Nat}:∀ {k},i < k->ab (F i / ld F)<=Gu F k
 | 0,h=>by omega
 | k+1,h=>by
  rw[Gu];rcases Nat.lt_or_ge i k with a | a
  ·have:=XE F (k:=k) a
   split<;>grind
  ·obtain rfl:i=k:=by omega
   split<;>grind
theorem Na(q:Rat):qsz (ab q)=qsz q:=by
 unfold ab
 split
 ·exact IU q
 ·rfl
theorem LB{F:Nat->Rat}{s:Nat}(h:∀ i,qsz (F i)<=s)(hs:1<=s):∀ k,qsz (Gu F k)<=2*s
 | 0=>by show qsz 0<=_;rw[JR];omega
 | k+1=>by
  rw[Gu]
  split
  ·rw[Na]
   have h1:=J5 (F k) (ld F);have h2:=h k;have h3:qsz (ld F)<=s:=h _;omega
  ·exact LB h hs k
def P2(r:Rat)(j:Nat):Prop:=r < 2^j/\∀ i,i < j->(2:Rat)^i<=r
theorem P2.uniq{r:Rat}{i j:Nat}(h:P2 r i)(k:P2 r j):i=j:=by
 rcases Nat.lt_trichotomy i j with a | a | a
 ·have:=k.2 i a;have:=h.1;grind
 ·exact a
 ·have:=h.2 j a;have:=k.1;grind
theorem Bf(n:Nat):((2:Rat)^n)=((2^n:Nat):Rat):=by
 induction n with
 | zero=>rfl
 | succ n ih=>rw[Rat.pow_succ,ih,Nat.pow_succ];push_cast;rfl
theorem P2.ex{r:Rat}{N:Nat}(h:r<=(N:Rat)):∃ j,P2 r j/\j<=N:=by
 have hN:r < 2^N:=by
  have h1:N < 2^N:=Nat.lt_two_pow_self;have h2:(N:Rat) < ((2^N:Nat):Rat):=by exact_mod_cast h1
  rw[Bf];grind
 have key:∀ n,r < 2^n->∃ j,P2 r j/\j<=n:=by
  intro n;induction n with
  | zero=>intro h;exact⟨0,⟨h,fun i hi=>Aa⟩,Nat.le_refl _⟩
  | succ n ih =>
   intro hn;by_cases h1:r < 2^n
   ·obtain⟨j,a,b⟩:=ih h1
    exact⟨j,a,Aa⟩
   ·refine⟨n+1,⟨hn,fun i hi=>?_⟩,Nat.le_refl _⟩
    have h3:(2:Nat)^i<=2^n:=Nat.pow_le_pow_right Ab Aa;have h4:((2^i:Nat):Rat)<=((2^n:Nat):Rat):=by exact_mod_cast h3
    rw[<-Bf,<-Bf]at h4;grind
 exact key N hN
theorem Lu{m n:Nat}(h:m<=n):((m:Nat):Rat)<=((n:Nat):Rat):=by exact_mod_cast h
theorem BS(n:Nat):(0:Rat) < 2^n:=by rw[Bf];exact_mod_cast Nat.two_pow_pos n
theorem Nc(n:Nat):(1:Rat)<=2^n:=by rw[Bf];exact_mod_cast Nat.one_le_two_pow
theorem Lb{m n:Nat}(h:m<=n):(2:Rat)^m<=2^n:=by rw[Bf,Bf];exact_mod_cast Nat.pow_le_pow_right Ab h
theorem De(m n:Nat):(2:Rat)^(m+n)=2^m*2^n:=by rw[Bf,Bf,Bf,Nat.pow_add];push_cast;rfl
theorem NG(n:Nat):((n:Nat):Rat)<=2^n:=by rw[Bf];exact_mod_cast Nat.le_of_lt Nat.lt_two_pow_self
theorem SV{a b c d:Rat}(h1:a<=b)(h2:c<=d)(hc:0<=c)(hb:0<=b):a*c<=b*d:=DT h1 h2 hc hb
theorem M7{q:Rat}{s:Nat}(h:qsz q<=s):ab q<=2^(32*s)/\(q≠0->1<=ab q*2^(32*s)):=by
 have hn:q.num.natAbs<=2^(32*s):=by
  have:=EB.1 (Nat.le_trans (TY q) h);rw[E8]at this;omega
 have hd:q.den<=2^(32*s):=by
  have:=EB.1 (Nat.le_trans (Ou q) h);rw[E8,Int.natAbs_natCast]at this;omega
 have hd0:(0:Rat) < ((q.den:Nat):Rat):=by exact_mod_cast q.den_pos
 have hd1:(1:Rat)<=((q.den:Nat):Rat):=by exact_mod_cast q.den_pos
 have e:q*((q.den:Nat):Rat)=(q.num:Rat):=by
  have:=Iy q;have h0:((q.den:Nat):Rat)≠0:=by grind
  grind
 have e2:ab q*((q.den:Nat):Rat)=((q.num.natAbs:Nat):Rat):=by
  rw[<-Jp,<-e,BU,CX (Std.le_of_lt hd0)]
 have hq:=Aj q;rw[Bf];constructor
 ·have h1:((q.num.natAbs:Nat):Rat)<=((2^(32*s):Nat):Rat):=Lu hn
  have h2:=SV (Std.le_refl (ab q)) hd1 Ab hq;grind
 ·intro hq0
  have h1:(1:Rat)<=((q.num.natAbs:Nat):Rat):=by
   have:1<=q.num.natAbs:=by
    have:q.num≠0:=fun e=>hq0 (Rat.num_eq_zero.1 e);omega
   exact_mod_cast this
  have h2:=SV (Std.le_refl (ab q)) (Lu hd) (Std.le_of_lt hd0) hq;grind
theorem gQ{F:Nat->Rat}(z:ZI F){i:Nat}(h:F i≠0):1<=ab (F i):=by
 obtain⟨m,hm⟩:=z i;rw[hm,Jp];have:m≠0:=fun e=>h (by rw[hm,e];rfl);have:1<=m.natAbs:=by omega
 exact_mod_cast this
theorem ZU{F:Nat->Rat}(h:F≠pz):∃ i,F i≠0:=Classical.byContradiction fun e=>h (funext fun i=>Classical.byContradiction fun k=>e ⟨i,k⟩)
theorem Gm(m:Nat):∀ n:Nat,((m:Nat):Rat)^n=((m^n:Nat):Rat)
 | 0=>rfl
 | n+1=>by rw[Rat.pow_succ,Gm m n,Nat.pow_succ];push_cast;rfl
theorem RU{F:Nat->Rat}{a b n:Nat}(h:J8 (2^a) F){x:Rat}(hx:ab x<=2^b - 1):ab (CL n F x)<=2^(a+n+b*n):=by
 have h1:=OW h (show(0:Rat)<=2^b - 1 by have:=Nc b;grind) hx n;have e:(1:Rat)+(2^b - 1)=2^b:=by grind
 have e2:((2:Rat)^b)^n=2^(b*n):=by
  rw[Bf,Bf,Nat.pow_mul];exact Gm (2^b) n
 rw[e,e2]at h1;rw[De,De];have h2:=SV (SV (Std.le_refl ((2:Rat)^a)) (NG n) (Ef n) (Std.le_of_lt (BS a))) (Std.le_refl ((2:Rat)^(b*n))) (Std.le_of_lt (BS _)) (Rat.mul_nonneg (Std.le_of_lt (BS a)) (Std.le_of_lt (BS n)));exact Std.le_trans h1 h2
theorem J8.tl{F:Nat->Rat}{B:Rat}(h:J8 B F):J8 B (Hp.tl F):=fun i=>h (i+1)
theorem Qz{a b:Nat}{x y:Rat}(hx:ab x<=2^b - 1)(hy:ab y<=2^b - 1):∀(n:Nat) (F:Nat->Rat),J8 (2^a) F->ab (CL n F x - CL n F y)<=2^(a+2*n+b*n)*ab (x - y)
 | 0,F,_=>by
  show ab (0 - 0)<=_;rw[show(0:Rat) - 0=0 by grind,Di];exact Rat.mul_nonneg (Std.le_of_lt (BS _)) (Aj _)
 | n+1,F,h=>by
  have ih:=Qz hx hy n (tl F) h.tl;have hv:=RU (n:=n) h.tl hx;have hd:=Aj (x - y);have e:F 0+x*CL n (tl F) x - (F 0+y*CL n (tl F) y)=(x - y)*CL n (tl F) x+y*(CL n (tl F) x - CL n (tl F) y):=by grind
  rw[DJ,DJ,e];have h1:=Fw ((x - y)*CL n (tl F) x) (y*(CL n (tl F) x - CL n (tl F) y));have h2:ab ((x - y)*CL n (tl F) x)<=2^(a+n+b*n)*ab (x - y):=by
   rw[BU,Rat.mul_comm];exact CQ hv hd
  have hy2:ab y<=2^b:=by grind
  have h3:ab (y*(CL n (tl F) x - CL n (tl F) y))<=2^b*(2^(a+2*n+b*n)*ab (x - y)):=by
   rw[BU];exact SV hy2 ih (Aj _) (Std.le_of_lt (BS b))
  have h4:(2:Rat)^(a+n+b*n)<=2^(a+2*n+b*n+b):=Lb Aa;have h5:=CQ h4 hd;have e3:(2:Rat)^b*(2^(a+2*n+b*n)*ab (x - y))=2^(a+2*n+b*n+b)*ab (x - y):=by rw[De _ b];grind
  have e4:(2:Rat)^(a+2*(n+1)+b*(n+1))=4*2^(a+2*n+b*n+b):=by
   rw[show a+2*(n+1)+b*(n+1)=2+(a+2*n+b*n+b) by rw[Nat.mul_succ,Nat.mul_succ];omega,De 2];congr 1
  rw[e4];have h6:=Rat.mul_nonneg (Std.le_of_lt (BS (a+2*n+b*n+b))) hd;grind
theorem J8.pd{F:Nat->Rat}{a n:Nat}(h:J8 (2^a) F)(hs:Be (n+1) F):J8 (2^(a+n)) (Hp.pd F):=fun i=>by
 show ab (((i+1:Nat):Rat)*F (i+1))<=_;by_cases hi:i+1<=n
 ·rw[BU,CX (Ef _),De,Rat.mul_comm ((2:Rat)^a)]
  refine SV (Std.le_trans (Lu hi) (NG n)) (h _) (Aj _) (Std.le_of_lt (BS n))
 ·rw[hs (i+1) Aa,Rat.mul_zero,Di]
  exact Std.le_of_lt (BS _)
theorem Q4{a b:Nat}{x y:Rat}(hx:ab x<=2^b - 1)(hy:ab y<=2^b - 1):∀(n:Nat) (F:Nat->Rat),J8 (2^a) F->Be n F ->
  ∃ r,ab r<=2^(a+3*n+b*n)/\CL n F y - CL n F x=(y - x)*(CL n (pd F) x+(y - x)*r)
 | 0,F,_,_=>⟨0,by rw[Di];exact Std.le_of_lt (BS _),by show(0:Rat) - 0=_*(0+_*0);grind⟩
 | n+1,F,h,hs=>by
  obtain⟨r,hr,e⟩:=Q4 hx hy n (tl F) h.tl hs.tl;have hpd:J8 (2^(a+n)) (pd (tl F)):=J8.pd h.tl (hs.tl.mono (Nat.le_succ n));have hv:=RU (n:=n) hpd hx;refine⟨CL n (pd (tl F)) x+y*r,?_,?_⟩
  ·have h1:=Fw (CL n (pd (tl F)) x) (y*r)
   have hy2:ab y<=2^b:=by grind
   have h2:ab (y*r)<=2^b*2^(a+3*n+b*n):=by rw[BU];exact SV hy2 hr (Aj _) (Std.le_of_lt (BS b))
   have h3:(2:Rat)^(a+n+n+b*n)<=2^(a+3*n+b*n+b):=Lb Aa;have e3:(2:Rat)^b*2^(a+3*n+b*n)=2^(a+3*n+b*n+b):=by rw[De _ b];grind
   have e4:(2:Rat)^(a+3*(n+1)+b*(n+1))=8*2^(a+3*n+b*n+b):=by
    rw[show a+3*(n+1)+b*(n+1)=3+(a+3*n+b*n+b) by rw[Nat.mul_succ,Nat.mul_succ];omega,De 3];congr 1
   have h6:=BS (a+3*n+b*n+b);grind
  ·have e1:CL (n+1) (pd F) x=CL n (tl F) x+x*CL n (pd (tl F)) x:=by
    rw[Xy];congr 1;exact Lx hs.tl (Nat.le_succ n) x
   rw[e1,DJ,DJ];grind
/-! ### two polynomials without a common root are not small together -/
def I4(S D b:Nat):Nat:=96*(2*((S+1)*2^D)+(D+1)*((S+1)*2^D+1))+(D+1)+b*(D+1)+1
section
variable{F0 G0 A B:Nat->Rat}{D S:Nat}
theorem FD.low1(h:FD F0 G0 D S A B)(h0:B≠pz){b:Nat}{x e:Rat}(hx:ab x<=2^b - 1)(hA:ab (ev A x)<=e)(hB:ab (ev B x)<=e):ab (ev (nx A B) x)<=e*2^(I4 S D b):=by
 obtain⟨fA,fB,zA,zB,hd,qA,qB⟩:=h.facts;obtain⟨M,hM⟩:∃ M,M=(S+1)*2^D:=⟨_,rfl⟩
 have he0:0<=e:=Std.le_trans (Aj _) hA;obtain⟨cA,cB,cR⟩:=h.clear h0 (M:=M) (by rw[hM];exact qA) (by rw[hM];exact qB);obtain⟨zN,fN,-,-,hN⟩:=Kz fA fB h0;by_cases hR:pr A B=pz
 ·rw[JS hR,Rb,Di]
  exact Rat.mul_nonneg he0 (Std.le_of_lt (BS _))
 obtain⟨c,hc,ec⟩:=hN hR;have hq:∀ i,qsz (pq A B i)<=2*M+(D+1)*(M+1):=fun i=>by
  have h1:=Pk (n:=pl A+1 - pl B) ((AA fA).mono (by have:=AL fB h0;omega)) fB h0 cA cB i;have h2:(pl A+1 - pl B)*(M+1)<=(D+1)*(M+1):=Nat.mul_le_mul_right _ Aa;omega
 obtain⟨X,hX⟩:∃ X,X=2*M+(D+1)*(M+1):=⟨_,rfl⟩
 rw[<-hX]at hq
 -- the factor c
 have hcl:1<=c*2^(64*X):=by
  obtain⟨i,hi⟩:=ZU hR;have e1:pr A B i = -c*nx A B i:=by rw[ec];rfl
  have hni:nx A B i≠0:=fun q=>hi (by rw[e1,q,Rat.mul_zero]);have h1:=(M7 (Nat.le_trans (cR.elem i) (show _<=X by omega))).2 hi;have h2:ab (nx A B i)<=2^(32*X):=(M7 (Nat.le_trans ((h.step h0).facts.2.2.2.2.2.2 i) (show _<=X by omega))).1;rw[e1,BU,Kw,CX (Std.le_of_lt hc)]at h1;have h3:=SV (SV (Std.le_refl c) h2 (Aj _) (Std.le_of_lt hc)) (Std.le_refl ((2:Rat)^(32*X))) (Std.le_of_lt (BS _)) (Rat.mul_nonneg (Std.le_of_lt hc) (Std.le_of_lt (BS _)))
  rw[show 64*X=32*X+32*X by omega,De];grind
 -- the quotient's value
 have hqv:ab (ev (pq A B) x)<=2^(32*X+(D+1)+b*(D+1)):=by
  have hsup:Be (D+1) (pq A B):=(KN (n:=pl A+1 - pl B) ((AA fA).mono (by have:=AL fB h0;omega)) fB h0).mono Aa;rw[Ee hsup];exact RU (fun i=>(M7 (hq i)).1) hx
 have e2:c*ev (nx A B) x=ev (pq A B) x*ev B x - ev A x:=by
  have e3:ev A x=ev (pq A B) x*ev B x+ev (pr A B) x:=by
   conv=>lhs;rw[JX A B]
   rw[GI ((Dm A B).cv fB) (EX fA fB),Cy (Dm A B) fB]
  rw[ec,DX _ fN]at e3;grind
 obtain⟨Q,hQ⟩:∃ Q:Rat,Q=2^(32*X+(D+1)+b*(D+1)):=⟨_,rfl⟩
 rw[<-hQ]at hqv;have hQ1:1<=Q:=by rw[hQ];exact Nc _
 have h5:c*ab (ev (nx A B) x)<=2*(Q*e):=by
  have h6:=Xb (ev (pq A B) x*ev B x) (ev A x);rw[<-e2,BU,CX (Std.le_of_lt hc),BU]at h6;have h7:=SV hqv hB (Aj _) Ad;have h8:=SV hQ1 (Std.le_refl e) he0 Ad;grind
 have h9:=SV (Std.le_refl (ab (ev (nx A B) x))) hcl Ab (Aj _);have h10:=CQ h5 (Std.le_of_lt (BS (64*X)));have e11:(2:Rat)^(I4 S D b)=2*Q*2^(64*X):=by
  rw[hQ,show I4 S D b=1+(32*X+(D+1)+b*(D+1))+64*X by unfold I4;rw[<-hM,<-hX];omega,De,De 1];congr 1
 rw[e11];grind
theorem FD.low(c:Cr F0 G0){b:Nat}{x:Rat}(hx:ab x<=2^b - 1):∀(n:Nat) {A B:Nat->Rat} {e:Rat},FD F0 G0 D S A B->pl B<=n->ab (ev A x)<=e->ab (ev B x)<=e->1<=e*2^(n*I4 S D b):=by
 intro n;induction n with
 | zero =>
  intro A B e h hn hA hB;obtain⟨fA,fB,zA,zB,hd,qA,qB⟩:=h.facts;have hBz:B=pz:=(BI fB).1 Aa;have hc:=h.cop c;rw[hBz]at hc;have hA1:pl A=1:=KC hc fA (Dv.refl A) (Dv.zero A);have e1:ev A x=A 0:=by unfold ev;rw[hA1];show A 0+x*0=A 0;grind
  have hA0:A 0≠0:=by have:=EA fA Aa;rwa[hA1]at this
  have h1:=gQ zA hA0;rw[e1]at hA;rw[Nat.zero_mul,Rat.pow_zero];grind
 | succ n ih =>
  intro A B e h hn hA hB;have hY:=Nc (I4 S D b);have he0:0<=e:=Std.le_trans (Aj _) hA;have hgrow:e<=e*2^I4 S D b:=by have:=SV (Std.le_refl e) hY Ab he0;grind
  have e3:(2:Rat)^((n+1)*I4 S D b)=2^I4 S D b*2^(n*I4 S D b):=by rw[Nat.succ_mul,Nat.add_comm,De]
  by_cases h0:B=pz
  ·have:=ih h (by rw[h0,BR];omega) hA hB
   have h2:=CQ hgrow (Std.le_of_lt (BS (n*I4 S D b)));rw[e3];grind
  ·have hN:=h.low1 h0 hx hA hB
   obtain⟨fA,fB,zA,zB,hd,qA,qB⟩:=h.facts;have hlt:=(Kz fA fB h0).2.2.2.1;have:=ih (h.step h0) Aa (Std.le_trans hB hgrow) hN;rw[e3];grind
end
theorem ZY{F:Nat->Rat}(zF:ZI F)(fF:Ae F)(x:Rat):ab (ev (rd F) x)<=ab (ev F x):=by
 unfold rd;rw[DX _ fF,BU];have h1:ab (1 / ((cn F:Nat):Rat))<=1:=by
  rcases Nat.eq_zero_or_pos (cn F)with h | h
  ·rw[h,show(1:Rat) / ((0:Nat):Rat)=0 from by rw[Rat.div_def];show 1*(0:Rat)⁻¹ = 0;rw[Rat.inv_zero,Rat.mul_zero],Di];decide
  ·have hp:(0:Rat) < ((cn F:Nat):Rat):=by exact_mod_cast h
   have h1':(1:Rat)<=((cn F:Nat):Rat):=by exact_mod_cast h
   obtain⟨hi,ei⟩:=F7 hp;rw[CX (Std.le_of_lt hi)];have:=SV (Std.le_refl (1 / ((cn F:Nat):Rat))) h1' Ab (Std.le_of_lt hi);grind
 have:=CQ h1 (Aj (ev F x));grind
def Va(S D b:Nat):Nat:=D*I4 S D b
theorem Cr.low{F G:Nat->Rat}{S D b:Nat}(c:Cr F G)(fF:Ae F)(fG:Ae G)(zF:ZI F)(zG:ZI G)(qF:∀ i,qsz (F i)<=S)(qG:∀ i,qsz (G i)<=S)(hD:pl F+pl G=D)
  {x e:Rat} (hx:ab x<=2^b - 1) (h1:ab (ev F x)<=e) (h2:ab (ev G x)<=e):1<=e*2^(Va S D b):=by
 have hs:=FD.start fF fG zF zG qF qG;rw[hD]at hs;have he0:0<=e:=Std.le_trans (Aj _) h1;refine hs.low c hx D ?_ (Std.le_trans (ZY zF fF x) h1) (Std.le_trans (ZY zG fG x) h2);have:=hs.facts.2.2.2.2.1;omega
structure SF(F:Nat->Rat):Prop where
 p:AU F
 c:Cr F (pd F)
theorem AU.eq_dv{F G:Nat->Rat}(h:AU F)(k:AU G)(a:Dv F G)(b:Dv G F):F=G:=by
 have e:mn F=mn G:=TT (KH h.f) (KH k.f) (fun _=>TN h.f h.n) (fun _=>TN k.f k.n) ((FV h.f).trans (a.trans (FQ G))) ((FV k.f).trans (b.trans (FQ F)));have hl:=CV h.f h.n;have kl:=CV k.f k.n;have e1:F=psc (ld F) (mn F):=by unfold mn;rw[Cb,show ld F*(1 / ld F)=1 by grind,Ct]
 have e2:mn G=psc (1 / ld G) G:=rfl;have e3:F=psc (ld F*(1 / ld G)) G:=by
  conv=>lhs;rw[e1,e,e2,Cb]
 have e4:Hp.pp F=Hp.pp G:=O7 h.z k.z k.f k.n (by
  intro q;have:=Jn kl;rcases Rat.mul_eq_zero.1 q with x | x
  ·exact hl x
  ·exact this x) e3
 rw[h.self,k.self]at e4;exact e4
theorem jI{H A B:Nat->Rat}(h:Dv H A)(k:Dv H B):Dv (cv H H) (cv A B):=by
 obtain⟨Q1,f1,rfl⟩:=h;obtain⟨Q2,f2,rfl⟩:=k;refine⟨cv Q1 Q2,f1.cv f2,?_⟩;rw[Ag,Ag,<-Ag H Q2 H,Av H Q2,Ag]
theorem L6{g:Nat->Rat}(h:AU g):SF (y0 g):=by
 obtain⟨hC,hW,e,-,-⟩:=Ch h;refine⟨hW,?_⟩;refine Classical.byContradiction fun hn=>?_;obtain⟨hE,hP,e2,-,-⟩:=Ch hW;have h1:1 < pl (yc (y0 g)):=by
  rcases Nat.lt_or_ge 1 (pl (yc (y0 g)))with a | a
  ·exact a
  ·exact absurd (Cr.of_gcd hW (Dt hW.z) (Bd hW.f) a) hn
 obtain⟨N,hN⟩:=MW hW;by_cases hc:pl (BC (yc (y0 g)) (y0 (y0 g)))<=1
 ·have c1:=Cr.of_gcd hE hP.z hP.f hc
  have c2:=(Cr.pw hE.f hP.f c1 N).symm.symm;have:=Cr.self hE.f (((c2.symm).dv hN));omega
 ·obtain⟨hH,-,-,d1,d2,-⟩:=hE.gcd hP.z hP.f
  have h2:Dv (cv (BC (yc (y0 g)) (y0 (y0 g))) (BC (yc (y0 g)) (y0 (y0 g)))) (y0 g):=by
   have:=jI d2 d1;rw[<-e2]at this;exact this
  have:=ZO h hH h2;omega
theorem SF.stf{F:Nat->Rat}(h:SF F):∃ K,Ej F K:=by
 obtain⟨S,hS⟩:=Dc h.p.f;obtain⟨T,hT⟩:=Dc (Bd h.p.f);obtain⟨K,hK,-⟩:=Gl h.p.f (Bd h.p.f) h.p.z (Dt h.p.z) (S:=max S T) (fun i=>Nat.le_trans (hS i) (Nat.le_max_left _ _)) (fun i=>Nat.le_trans (hT i) (Nat.le_max_right _ _));exact⟨K,h.p.z,h.p.f,h.p.n,h.c,hK⟩
noncomputable def kn(F:Nat->Rat):Nat:=open Classical in if h:∃ K,Ow F (pd F) K then Classical.choose h else 0
theorem Ow.kn{F:Nat->Rat}{K:Nat}(h:Ow F (pd F) K):Hp.kn F=K:=by
 have hx:∃ K,Ow F (pd F) K:=⟨K,h⟩
 unfold Hp.kn;rw[dif_pos hx];exact(Classical.choose_spec hx).uniq h
theorem SF.st{F:Nat->Rat}(h:SF F):Ej F (kn F):=by
 obtain⟨K,hK⟩:=h.stf;rw[hK.k.kn];exact hK
noncomputable def rc(F:Nat->Rat)(p q:Rat):Int:=rt F (kn F) p q
theorem Bb(F:Nat->Rat)(p q r:Rat):rc F p q+rc F q r=rc F p r:=Ih F _ p q r
theorem GZ(F:Nat->Rat)(p:Rat):rc F p p=0:=Lv F _ p
theorem SF.nonneg{F:Nat->Rat}(h:SF F){p q:Rat}(hpq:p<=q):0<=rc F p q:=h.st.rt_nonneg hpq
theorem SF.sub{F:Nat->Rat}(h:SF F){p x y q:Rat}(h1:p<=x)(h2:x<=y)(h3:y<=q):rc F x y<=rc F p q:=h.st.rt_sub h1 h2 h3
theorem SF.free{F:Nat->Rat}(h:SF F){p q x y:Rat}(h0:rc F p q=0)(h1:p < x)(h2:x<=y)(h3:y<=q):ev F x≠0/\AX (ev F y)=AX (ev F x):=h.st.free h0 h1 h2 h3
theorem SF.mul{A B:Nat->Rat}(hA:SF A)(hB:SF B)(hC:SF (cv A B))(c:Cr A B){p q:Rat}(hpq:p<=q):rc (cv A B) p q=rc A p q+rc B p q:=Ej.rt_mul hA.st hB.st hC.st c hpq
theorem SF.split{A B:Nat->Rat}(hA:AU A)(hB:AU B)(h:SF (cv A B)):SF A/\SF B/\Cr A B:=by
 have half:∀ {A B:Nat->Rat},AU A->AU B->Cr (cv A B) (pd (cv A B))->Cr A (pd A)/\Cr A B:=by
  intro A B hA hB ⟨U,V,fU,fV,e⟩;have fA':=Bd hA.f;have fB':=Bd hB.f;rw[Ji]at e;constructor
  ·refine⟨pad (cv U B) (cv V (pd B)),cv V B,(fU.cv hB.f).pad (fV.cv fB'),fV.cv hB.f,?_⟩
   rw[<-e,CG,Ez];have e1:cv (cv U B) A=cv U (cv A B):=by rw[Ag,Av B A]
   have e2:cv (cv V (pd B)) A=cv V (cv A (pd B)):=by rw[Ag,Av (pd B) A]
   have e3:cv (cv V B) (pd A)=cv V (cv (pd A) B):=by rw[Ag,Av B (pd A)]
   rw[e1,e2,e3]
   funext n;simp only[pad];grind
  ·refine⟨pad (cv U B) (cv V (pd B)),cv V (pd A),(fU.cv hB.f).pad (fV.cv fB'),fV.cv fA',?_⟩
   rw[<-e,CG,Ez];have e1:cv (cv U B) A=cv U (cv A B):=by rw[Ag,Av B A]
   have e2:cv (cv V (pd B)) A=cv V (cv A (pd B)):=by rw[Ag,Av (pd B) A]
   have e3:cv (cv V (pd A)) B=cv V (cv (pd A) B):=by rw[Ag]
   rw[e1,e2,e3]
   funext n;simp only[pad];grind
 obtain⟨a1,a2⟩:=half hA hB h.c;obtain⟨b1,-⟩:=half hB hA (by rw[Av];exact h.c);exact⟨⟨hA,a1⟩,⟨hB,b1⟩,a2⟩
theorem SF.factor{W A:Nat->Rat}(h:SF W)(hA:AU A)(hd:Iw W A):SF A/\SF (pq W A)/\Cr A (pq W A)/\W=cv A (pq W A):=by
 obtain⟨q1,q2⟩:=h.p.quot hA hd;have e:W=cv A (pq W A):=by rw[Av];exact q2
 have hs:SF (cv A (pq W A)):=by rw[<-e];exact h
 obtain⟨a,b,c⟩:=SF.split hA q1 hs;exact⟨a,b,c,e⟩
theorem AU.zdv{F D:Nat->Rat}(h:AU F)(k:AU D)(hd:Dv D F):Iw F D:=by
 obtain⟨Q,fQ,e⟩:=hd;exact⟨Q,TR h.z h.f k.z k.f k.n fQ e (by rw[k.c];exact Nat.one_dvd _),fQ,e⟩
theorem SF.rc_le{W A:Nat->Rat}(h:SF W)(hA:AU A)(hd:Dv A W){p q:Rat}(hpq:p<=q):rc A p q<=rc W p q:=by
 obtain⟨a,b,c,e⟩:=h.factor hA (h.p.zdv hA hd);have h1:=SF.mul a b (by rw[<-e];exact h) c hpq;rw[<-e]at h1;have:=b.nonneg hpq;omega
theorem OE{E D:Nat->Rat}(hE:SF E)(hD:AU D)(h:Dv E D):Dv E (y0 D):=by
 obtain⟨hC,hW,e,-,-⟩:=Ch hD;obtain⟨N,hN⟩:=MW hD;have h1:Dv E (pw (y0 D) (N+1)):=by
  obtain⟨Q,fQ,eQ⟩:=hN;refine h.trans ⟨Q,fQ,?_⟩;show cv (pw (y0 D) N) (y0 D)=_
  conv=>rhs;rw[e]
  rw[eQ,Ag,Av (yc D)]
 obtain⟨hH,z1,z2,d1,d2,-⟩:=hE.p.gcd hW.z hW.f;obtain⟨f1,f2,f3,f4⟩:=hE.factor hH z1
 -- the rest of E is coprime to the square-free part
 have h2:Cr (pq E (BC E (y0 D))) (y0 D):=by
  refine Cr.of_gcd f2.p hW.z hW.f ?_;obtain⟨kG,-,-,g1,g2,-⟩:=f2.p.gcd hW.z hW.f;have g3:Dv (BC (pq E (BC E (y0 D))) (y0 D)) E:=g1.trans ⟨BC E (y0 D),hH.f,f4⟩;have g4:Dv (BC (pq E (BC E (y0 D))) (y0 D)) (BC E (y0 D)):=by
   have:=(Dn hE.p.f hW.f hE.p.z hW.z).2.2.2.2.2.2.2.2 _ kG.f g3 g2;exact this.trans (FV hH.f)
  have:=Cr.self kG.f ((f3.dv g4).symm.dv g1);omega
 have h3:=Cr.pw f2.p.f hW.f h2 (N+1);have h4:Dv (pq E (BC E (y0 D))) (pw (y0 D) (N+1)):=Dv.trans ⟨BC E (y0 D),hH.f,f4⟩ h1;have h5:=f2.p.one (by have:=Cr.self f2.p.f (h3.symm.dv h4);omega);rw[h5,Ew]at f4;have:Dv (BC E (y0 D)) (y0 D):=d2;rw[<-f4]at this;exact this
noncomputable def sqf(F:Nat->Rat):Nat->Rat:=y0 (pp F)
theorem Bl{F:Nat->Rat}(z:ZI F)(f:Ae F)(h0:F≠pz):SF (sqf F):=L6 (AU.pp z f h0)
theorem Ea{F:Nat->Rat}(z:ZI F)(f:Ae F)(h0:F≠pz):Dv (sqf F) F:=by
 obtain⟨hC,hW,e,-,-⟩:=Ch (AU.pp z f h0);have h1:Dv (sqf F) (pp F):=⟨yc (pp F),hC.f,by rw[Av];exact e⟩
 conv=>arg 2;rw[MR z f h0]
 exact h1.psc _
theorem ED{E F:Nat->Rat}(z:ZI F)(f:Ae F)(h0:F≠pz)(hE:SF E)(h:Dv E F):Dv E (sqf F):=
 OE hE (AU.pp z f h0) ((Db z f).2 h)
theorem G6{F G:Nat->Rat}(zF:ZI F)(fF:Ae F)(zG:ZI G)(fG:Ae G)(h0:F≠pz):BC F G≠pz:=fun e=>by
 have h:=(Dn fF fG zF zG).2.2.2.2.2.2.1;rw[e,KU]at h;exact h0 (La h)
theorem ZC{F G:Nat->Rat}(zF:ZI F)(fF:Ae F)(hF:F≠pz)(zG:ZI G)(fG:Ae G)(hG:G≠pz):sqf (BC F G)=BC (sqf F) (sqf G):=by
 have k:=Dn fF fG zF zG;have n:=G6 zF fF zG fG hF;have s1:=Bl zF fF hF;have s2:=Bl zG fG hG;have s3:=Bl k.2.1 k.1 n;obtain⟨p4,z1,z2,d1,d2,-⟩:=s1.p.gcd s2.p.z s2.p.f;have s4:=(s1.factor p4 z1).1;have dF:Dv (BC F G) F:=(FQ _).trans k.2.2.2.2.2.2.1;have dG:Dv (BC F G) G:=(FQ _).trans k.2.2.2.2.2.2.2.1;have hd:=Ea k.2.1 k.1 n;refine s3.p.eq_dv p4 ?_ ?_
 ·have a1:=ED zF fF hF s3 (hd.trans dF)
  have a2:=ED zG fG hG s3 (hd.trans dG);exact((Dn s1.p.f s2.p.f s1.p.z s2.p.z).2.2.2.2.2.2.2.2 _ s3.p.f a1 a2).trans (FV p4.f)
 ·refine ED k.2.1 k.1 n s4 ?_
  exact(k.2.2.2.2.2.2.2.2 _ p4.f (d1.trans (Ea zF fF hF)) (d2.trans (Ea zG fG hG))).trans (FV k.1)
theorem SF.meet{W X:Nat->Rat}(hW:SF W)(hX:SF X):∃ U V,SF (BC W X)/\SF U/\SF V/\W=cv (BC W X) U/\X=cv (BC W X) V/\Cr (BC W X) U/\Cr (BC W X) V/\Cr U V/\Cr U X /\
  (∀ p q:Rat,p<=q->rc W p q=rc (BC W X) p q+rc U p q)/\(∀ p q:Rat,p<=q->rc X p q=rc (BC W X) p q+rc V p q):=by
 obtain⟨p1,z1,z2,d1,d2,-⟩:=hW.p.gcd hX.p.z hX.p.f;obtain⟨a1,a2,a3,a4⟩:=hW.factor p1 z1;obtain⟨b1,b2,b3,b4⟩:=hX.factor p1 z2;have k:=Dn hW.p.f hX.p.f hW.p.z hX.p.z;have cUV:Cr (pq W (BC W X)) (pq X (BC W X)):=by
  refine Cr.of_gcd a2.p b2.p.z b2.p.f ?_;obtain⟨kG,-,-,g1,g2,-⟩:=a2.p.gcd b2.p.z b2.p.f;have g3:=k.2.2.2.2.2.2.2.2 _ kG.f (g1.trans ⟨BC W X,p1.f,a4⟩) (g2.trans ⟨BC W X,p1.f,b4⟩);have:=Cr.self kG.f ((a3.dv (g3.trans (FV p1.f))).symm.dv g1);omega
 refine⟨pq W (BC W X),pq X (BC W X),a1,a2,b2,a4,b4,a3,b3,cUV,?_,fun p q hpq=>?_,fun p q hpq=>?_⟩
 ·have:=Cr.mul a2.p.f p1.f b2.p.f a3.symm cUV
  rw[<-b4]at this;exact this
 ·have h1:=SF.mul a1 a2 (by rw[<-a4];exact hW) a3 hpq
  rw[<-a4]at h1;exact h1
 ·have h1:=SF.mul b1 b2 (by rw[<-b4];exact hX) b3 hpq
  rw[<-b4]at h1;exact h1
def OC(S D b:Nat):Nat:=32*S+(3+b)*D
def Mm(S D b:Nat):Nat:=OC S D b+Va S D b+2
theorem Um{F:Nat->Rat}{S:Nat}(h:∀ i,qsz (F i)<=S):J8 (2^(32*S)) F:=fun i=>(M7 (h i)).1
theorem Sv{F:Nat->Rat}{S D b:Nat}(qF:∀ i,qsz (F i)<=S)(hD:pl F<=D){x y:Rat}(hx:ab x<=2^b - 1)(hy:ab y<=2^b - 1):ab (ev F x - ev F y)<=2^(OC S D b)*ab (x - y):=by
 have h:=Qz hx hy (pl F) F (Um qF);refine Std.le_trans h (CQ (Lb ?_) (Aj _));unfold OC;have h1:b*pl F<=b*D:=Nat.mul_le_mul_left _ hD;rw[Nat.add_mul];omega
theorem bE{F:Nat->Rat}{S D b:Nat}(fF:Ae F)(qF:∀ i,qsz (F i)<=S)(hD:pl F<=D){x y:Rat}(hx:ab x<=2^b - 1)(hy:ab y<=2^b - 1):∃ r,ab r<=2^(OC S D b)/\ev F y - ev F x=(y - x)*(ev (pd F) x+(y - x)*r):=by
 obtain⟨r,hr,e⟩:=Q4 hx hy (pl F) F (Um qF) (AA fF);refine⟨r,Std.le_trans hr (Lb ?_),?_⟩
 ·unfold OC
  have h1:b*pl F<=b*D:=Nat.mul_le_mul_left _ hD;rw[Nat.add_mul];omega
 ·have e1:ev (pd F) x=CL (pl F) (pd F) x:=Ee (Oo ((AA fF).mono (Nat.le_succ _))) x
  rw[e1];exact e
theorem Ej.small_pt{F:Nat->Rat}{K:Nat}(h:Ej F K){x y ε:Rat}(hxy:x<=y)(hε:0 < ε)(hr:1<=rt F K x y):∃ z,x<=z/\z<=y/\ab (ev F z) < ε:=by
 refine Classical.byContradiction fun hn=>?_;have:=h.flat hxy hε fun z a b=>by
  rcases Std.lt_trichotomy ε (ab (ev F z))with c | c | c
  ·exact Std.le_of_lt c
  ·rw[c];exact Std.le_refl _
  ·exact absurd ⟨z,a,b,c⟩ hn
 unfold rt at hr;omega
theorem NF{q:Rat}(h:0 < q):AX q=1:=by unfold AX;rw[if_pos h]
theorem O4{q:Rat}(h:q < 0):AX q = -1:=by unfold AX;rw[if_neg Ad,if_pos h]
theorem Rl:AX 0=0:=by decide
theorem Z5{F:Nat->Rat}{u v w:Rat}(h:(ev F u < ev F v/\ev F v < ev F w)\/(ev F w < ev F v/\ev F v < ev F u)):Gv F u w=Gv F u v+Gv F v w:=by
 unfold Gv;generalize ev F u=a at *;generalize ev F v=b at *;generalize ev F w=c at *;rcases Std.lt_trichotomy a 0 with ha | ha | ha<;>rcases Std.lt_trichotomy b 0 with hb | hb | hb<;>rcases Std.lt_trichotomy c 0 with hc | hc | hc
 all_goals first
  | (exfalso;grind)
  | skip
 all_goals(try have ea:=O4 ha);(try have ea:=NF ha);(try have eb:=O4 hb);(try have eb:=NF hb);(try have ec:=O4 hc);(try have ec:=NF hc)
 all_goals(try(have na:a≠0:=by grind));(try(have nb:b≠0:=by grind));(try(have nc:c≠0:=by grind))
 all_goals(try subst ha);(try subst hb);(try subst hc);simp_all [Rl]
theorem Ej.sep{F:Nat->Rat}{K S D b:Nat}(h:Ej F K)(qF:∀ i,qsz (F i)<=S)(qG:∀ i,qsz (pd F i)<=S)(hD:pl F+pl (pd F)=D){x y:Rat}(hx:ab x<=2^b - 1)(hy:ab y<=2^b - 1)(hxy:x < y)(hd:(y - x)*2^(Mm S D b)<=1):rt F K x y<=1:=by
 refine Classical.byContradiction fun hn=>?_;obtain⟨d,hdd⟩:∃ d,d=y - x:=⟨_,rfl⟩
 have hd0:0 < d:=by grind
 obtain⟨L,hL⟩:∃ L:Rat,L=2^(OC S D b):=⟨_,rfl⟩
 have hL0:0 < L:=by rw[hL];exact BS _
 obtain⟨E,hE⟩:∃ E:Rat,E=2^(Va S D b):=⟨_,rfl⟩
 have hE0:0 < E:=by rw[hE];exact BS _
 have hLd:=Rat.mul_pos hL0 hd0;have hsmall:4*(L*d*E)<=1:=by
  have e:(2:Rat)^(Mm S D b)=L*E*4:=by
   unfold Mm;rw[De,De,<-hL,<-hE];congr 1
  rw[e,<-hdd]at hd;grind
 have hin:∀ z,x<=z->z<=y->ab z<=2^b - 1:=fun z a c=>Em hx hy a c;have hdist:∀ z z',x<=z->z<=y->x<=z'->z'<=y->ab (z - z')<=d:=fun z z' a c a' c'=>EH.2 ⟨Ad,Ad⟩;have lF:∀ z z',x<=z->z<=y->x<=z'->z'<=y->ab (ev F z - ev F z')<=L*d:=fun z z' a c a' c'=>by
  have:=Sv qF (show pl F<=D by omega) (hin z a c) (hin z' a' c');rw[<-hL]at this;exact Std.le_trans this (Ck (hdist z z' a c a' c') (Std.le_of_lt hL0))
 have lG:∀ z z',x<=z->z<=y->x<=z'->z'<=y->ab (ev (pd F) z - ev (pd F) z')<=L*d:=fun z z' a c a' c'=>by
  have:=Sv qG (show pl (pd F)<=D by omega) (hin z a c) (hin z' a' c');rw[<-hL]at this;exact Std.le_trans this (Ck (hdist z z' a c a' c') (Std.le_of_lt hL0))
 obtain⟨z0,z1,z2,z3⟩:=h.small_pt (Std.le_of_lt hxy) hLd Aa;have hall:∀ z,x<=z->z<=y->ab (ev F z)<=2*(L*d):=fun z a c=>by
  have h1:=lF z z0 a c z1 z2;have h2:=Fw (ev F z - ev F z0) (ev F z0);have e:ev F z - ev F z0+ev F z0=ev F z:=by grind
  rw[e]at h2;grind
 have hbig:∀ z,x<=z->z<=y->L*d < ab (ev (pd F) z):=fun z a c=>by
  rcases Std.lt_trichotomy (L*d) (ab (ev (pd F) z))with q | q | q
  ·exact q
  all_goals
   exfalso;have:=Cr.low h.c h.f (Bd h.f) h.z (Dt h.z) qF qG hD (hin z a c) (hall z a c) (show ab (ev (pd F) z)<=2*(L*d) by grind);rw[<-hE]at this;grind
 have hs0:AX (ev (pd F) x)≠0:=by
  have:=hbig x (Std.le_refl _) (Std.le_of_lt hxy);intro q;rw[CY.1 q,Di]at this;grind
 have hmono:∀ u v,x<=u->u < v->v<=y->AX (ev F v - ev F u)=AX (ev (pd F) x):=fun u v a c a'=>by
  have hu:u<=y:=by grind
  have b1:=hbig u a hu;have s1:=Ob (p:=ev (pd F) u) (q:=ev (pd F) x) (by
   have:=lG u x a hu (Std.le_refl _) (Std.le_of_lt hxy);grind)
  obtain⟨r,hr,e⟩:=bE h.f qF (show pl F<=D by omega) (hin u a hu) (hin v Ad a');rw[e,CO (show 0 < v - u by grind),<-s1.1];refine(Ob ?_).1.symm;have e2:ev (pd F) u - (ev (pd F) u+(v - u)*r) = -((v - u)*r):=by grind
  rw[e2,Kw,BU];rw[<-hL]at hr;have h4:=SV (show ab (v - u)<=d from EH.2 ⟨Ad,Ad⟩) hr (Aj _) (Std.le_of_lt hd0);grind
 obtain⟨δ,hδ,hl⟩:=h.loc x y;have key:rt F K x y=Gv F x y:=by
  refine Ie (P:=fun u v=>rt F K u v=Gv F u v) hδ hxy (fun u v a1 a2 a3 a4=>hl u v a1 a2 a3 a4) (fun u v w a1 a2 a3 a4 e f=>?_);have m1:=hmono u v a1 a2 Ad;have m2:=hmono v w Ad a3 a4;have m3:=Ih F K u v w;have m4:Gv F u w=Gv F u v+Gv F v w:=by
   refine Z5 ?_;rcases Std.lt_trichotomy (ev (pd F) x) 0 with c | c | c
   ·rw[O4 c]at m1 m2
    refine .inr ⟨?_,?_⟩
    ·rcases Std.lt_trichotomy (ev F w - ev F v) 0 with q | q | q
     ·grind
     ·rw[q,Rl]at m2;exact absurd m2 Ab
     ·rw[NF q]at m2;exact absurd m2 Ab
    ·rcases Std.lt_trichotomy (ev F v - ev F u) 0 with q | q | q
     ·grind
     ·rw[q,Rl]at m1;exact absurd m1 Ab
     ·rw[NF q]at m1;exact absurd m1 Ab
   ·exact absurd (CY.2 c) hs0
   ·rw[NF c]at m1 m2
    refine .inl ⟨?_,?_⟩
    ·rcases Std.lt_trichotomy (ev F v - ev F u) 0 with q | q | q
     ·rw[O4 q]at m1;exact absurd m1 Ab
     ·rw[q,Rl]at m1;exact absurd m1 Ab
     ·grind
    ·rcases Std.lt_trichotomy (ev F w - ev F v) 0 with q | q | q
     ·rw[O4 q]at m2;exact absurd m2 Ab
     ·rw[q,Rl]at m2;exact absurd m2 Ab
     ·grind
  omega
 have:=(gK F x y).2;omega
theorem Cr.sep{A B:Nat->Rat}{S D b:Nat}(hA:SF A)(hB:SF B)(c:Cr A B)(qA:∀ i,qsz (A i)<=S)(qB:∀ i,qsz (B i)<=S)(hD:pl A+pl B=D){x y:Rat}(hx:ab x<=2^b - 1)(hy:ab y<=2^b - 1)(hxy:x < y)(hd:(y - x)*2^(Mm S D b)<=1) :
  rc A x y=0\/rc B x y=0:=by
 refine Classical.byContradiction fun hn=>?_;have n1:=hA.nonneg (Std.le_of_lt hxy);have n2:=hB.nonneg (Std.le_of_lt hxy);obtain⟨d,hdd⟩:∃ d,d=y - x:=⟨_,rfl⟩
 have hd0:0 < d:=by grind
 obtain⟨L,hL⟩:∃ L:Rat,L=2^(OC S D b):=⟨_,rfl⟩
 have hL0:0 < L:=by rw[hL];exact BS _
 obtain⟨E,hE⟩:∃ E:Rat,E=2^(Va S D b):=⟨_,rfl⟩
 have hE0:0 < E:=by rw[hE];exact BS _
 have hLd:=Rat.mul_pos hL0 hd0;have hsmall:4*(L*d*E)<=1:=by
  have e:(2:Rat)^(Mm S D b)=L*E*4:=by
   unfold Mm;rw[De,De,<-hL,<-hE];congr 1
  rw[e,<-hdd]at hd;grind
 have one:∀ {P:Nat->Rat},SF P->(∀ i,qsz (P i)<=S)->pl P<=D->1<=rc P x y->ab (ev P x)<=2*(L*d):=fun {P} hP qP hp h1=>by
  obtain⟨z,z1,z2,z3⟩:=hP.st.small_pt (Std.le_of_lt hxy) hLd h1;have h2:=Sv qP hp hx (Em hx hy z1 z2);rw[<-hL]at h2;have h3:=Ck (show ab (x - z)<=d from EH.2 ⟨Ad,Ad⟩) (Std.le_of_lt hL0);have h4:=Fw (ev P x - ev P z) (ev P z);have e:ev P x - ev P z+ev P z=ev P x:=by grind
  rw[e]at h4;grind
 have a1:=one hA qA Aa Aa;have a2:=one hB qB Aa Aa;have:=Cr.low c hA.p.f hB.p.f hA.p.z hB.p.z qA qB hD hx a1 a2;rw[<-hE]at this;grind
section
variable{P:Program}
theorem Nl(w:World)(k base:Nat)(t ty e:TypeId)(i:TypeInfo)(z:Value)(bytes:Nat)(ht:P.underlying t=some (.slice e))(hi:P.info? e=some i)(hz:i.zero=some z)
  (hsize:i.size=k) (hby:i.bytes=bytes) (hzs:z.cells.size=k) (hzd:nodig z.cells=true) (hsz:0 < k)
  (v:Value) (n:Nat) (xs:List Value) (hown:Ld k base e w v n xs)
  (a:Addr) (c:Nat) (news:List Value) (hl:news.length=k) (hnews:∀ j u,news[j]? = some u->w.cell? (a.add j)=some u) (h1:∀ u∈news,u.oneCell'=true) (hnd:∀ u∈news,Ah u=false)
  (h63:n+1<=maxLen) (hbytes:(n+1)*bytes<=140737488355328) (hbase:base<=w.heap.size) :
  ∃ v' w',(Builtin.append_ #[t,t] ty #[v,.slice (some a) 1 c]).run P w = .ok v' w'/\Ld k base e w' v' (n+1) (xs ++ news)/\Cc (blk v) w w'/\∀ g∈blk v',g∈blk v\/w.heap.size<=g:=by
 subst hsize;subst hby;have hl':news.length=1*i.size:=by rw[Nat.one_mul];exact hl
 have hlen:(xs ++ news).length=(n+1)*i.size:=by rw[List.length_append,hown.1,hl,Nat.succ_mul]
 have hsmall:n+1<=9223372036854775807:=by simp only[maxLen]at h63;omega
 have hzl:=BQ.1 hzd;have hzc:∀ m,∀ u∈(Builtin.zeroCells z.cells m).toList,Ah u=false:=by
  intro m u hu;simp only[Builtin.zeroCells,Array.toList_map,Array.toList_range,List.mem_map,List.mem_range]at hu;obtain⟨j,hj,rfl⟩:=hu;have:j % z.cells.size < z.cells.size:=Nat.mod_lt _ Aa;rw[getElem!_pos z.cells _ this];exact hzl _ Ac
 have hxd:∀ u∈xs,Ah u=false:=by
  rcases hown.2 with⟨_,h0⟩ | ⟨g,cap,cur,_,_,hb,_,_,_,htake⟩
  ·intro u hu
   have:xs=[]:=List.eq_nil_of_length_eq_zero (by rw[hown.1,h0,Nat.zero_mul]);rw[this]at hu;cases hu
  ·intro u hu
   rw[<-htake]at hu;exact BQ.1 hb.2 _ (List.mem_of_mem_take hu)
 have grown:∀(old:Nat),old < n+1 ->
   Ld i.size base e (w.drew.alloc (.cells (xs.toArray ++ news.toArray ++ Builtin.zeroCells z.cells (grownCap w (n+1) old e - (n+1))) e)) (.slice (some ⟨w.heap.size,0,none⟩) (n+1) (grownCap w (n+1) old e)) (n+1) (xs ++ news) /\
   ∀ G,Cc G w (w.drew.alloc (.cells (xs.toArray ++ news.toArray ++ Builtin.zeroCells z.cells (grownCap w (n+1) old e - (n+1))) e)):=by
  intro old ho;have hge:=grownCap_ge w (n+1) old e;have hcm:grownCap w (n+1) old e<=maxLen:=grownCap_le_maxLen w (n+1) old e h63;refine⟨⟨hlen,.inr ⟨w.heap.size,_,_,rfl,hbase,⟨heap_alloc_new w.drew _,?_⟩,hge,hcm,?_,?_⟩⟩,fun G=>Cc.of_ext ((Ext.refl w).drew.alloc _)⟩
  ·rw[BQ]
   intro u hu;simp only[Array.toList_append,List.mem_append]at hu;rcases hu with(hu | hu) | hu
   ·exact hxd u (by simpa using hu)
   ·exact hnd u (by simpa using hu)
   ·exact hzc _ u hu
  ·simp only[Array.size_append,List.size_toArray,size_zeroCells,hzs,hown.1,hl]
   rw[<-Nat.succ_mul,<-Nat.add_mul];congr 1;omega
  ·simp only[Array.toList_append,List.append_assoc]
   rw[<-List.append_assoc,<-hlen];exact List.take_left
 rcases hown.2 with⟨rfl,rfl⟩ | ⟨g,cap,cur,rfl,hbg,hb,hnc,hcm,hcs,htake⟩
 ·have hx:xs=[]:=List.eq_nil_of_length_eq_zero (by simpa using hown.1)
  subst hx;have hr:=run_append_nil (P:=P) w t ty e i z ht hi hz a 1 c news hl' hnews Aa Aa (by have hb:=hbytes;simp only[Nat.zero_add]at hb;omega);have hgr:=grown 0 Aa;simp only[Nat.zero_add,List.nil_append,Array.empty_append]at hgr ⊢;exact⟨_,_,hr,hgr.1,hgr.2 _,fun g' hg' => .inr (by simp[blk,Value.ownBlock]at hg';omega)⟩
 ·have hg:=hb.1
  by_cases hroom:n+1<=cap
  ·have hfit:n*i.size+news.length<=cur.size:=by rw[hl,hcs,<-Nat.succ_mul];exact Nat.mul_le_mul_right _ hroom
   have hr:=run_append_room (P:=P) w t ty e i ht hi g n cap cur hg a 1 c news hl' hnews h1 hroom hfit;have hnew:∀ u∈cur.toList.take (n*i.size) ++ news ++ cur.toList.drop (n*i.size+news.length),Ah u=false:=by
    intro u hu;simp only[List.mem_append]at hu;rcases hu with(hu | hu) | hu
    ·exact BQ.1 hb.2 _ (List.mem_of_mem_take hu)
    ·exact hnd u hu
    ·exact BQ.1 hb.2 _ (List.mem_of_mem_drop hu)
   have hbx:Ba (w.setRow g (cur.toList.take (n*i.size) ++ news ++ cur.toList.drop (n*i.size+news.length)).toArray) g e _:=⟨setRow_heap w g cur _ e _ hg,BQ.2 (by simpa using hnew)⟩
   refine⟨_,_,hr,⟨hlen,.inr ⟨g,cap,_,rfl,hbg,hbx,hroom,hcm,?_,?_⟩⟩,⟨fun g' o hg' ho=>?_,Ms hb fun h hne _=>setRow_other w g h _ hne,fun a' ha hG=>?_⟩,fun g' hg' => .inl hg'⟩
   ·simp only[List.size_toArray,List.length_append,List.length_take,List.length_drop,Array.length_toList]
    omega
   ·rw[htake,<-hlen]
    exact List.take_left
   ·rw[setRow_other w g g' _ (fun e=>hg' (by simp[blk,Value.ownBlock,e]))];exact ho
   ·have hga:a'.heap.size<=g:=hG g (by simp[blk,Value.ownBlock])
    exact ha.grown (row:=some g) ⟨rfl,rfl,rfl,by simp[World.setRow],fun k _ hk=>setRow_other w g k _ (fun e=>hk (by rw[e]))⟩ (fun k hk=>by cases hk;exact hga)
  ·have holds:∀ j u,xs[j]? = some u->w.cell? ((⟨g,0,none⟩:Addr).add j)=some u:=hown.owns.cells (g:=g) rfl
   have hr:=run_append_grow (P:=P) w t ty e i z ht hi hz ⟨g,0,none⟩ n cap xs hown.1 holds a 1 c news hl' hnews Aa Aa (growslice_fits Aa hbytes);have hgr:=grown cap Aa;exact⟨_,_,hr,hgr.1,hgr.2 _,fun g' hg' => .inr (by simp[blk,Value.ownBlock]at hg';omega)⟩
end
section
variable{α:Type}{k:Nat}{rd:World->Value->α->Prop}{base:Nat}{e:TypeId}{w w':World}{v:Value}{l:List α}
theorem BB.append_at{P:Program}(h:BB k rd base e w v l)(t ty:TypeId)(i:TypeInfo)(z:Value)(bytes:Nat)(ht:P.underlying t=some (.slice e))(hi:P.info? e=some i)(hz:i.zero=some z)
  (hsize:i.size=k) (hby:i.bytes=bytes) (hzs:z.cells.size=k) (hzd:nodig z.cells=true) (hsz:0 < k) {x:α}
  (a:Addr) (c:Nat) (news:Array Value) (hl:news.size=k) (hx:rd w (.agg news) x) (hnews:∀ j u,news.toList[j]? = some u->w.cell? (a.add j)=some u) (h1:∀ u∈news.toList,u.oneCell'=true) (hnd:nodig news=true)
  (h63:l.length+1<=maxLen) (hbytes:(l.length+1)*bytes<=140737488355328) (hbase:base<=w.heap.size) (hr:∀ w' u y,KD w w'->rd w u y->rd w' u y) :
  ∃ v' w',(Builtin.append_ #[t,t] ty #[v,.slice (some a) 1 c]).run P w = .ok v' w'/\BB k rd base e w' v' (l ++ [x])/\Cc (blk v) w w'/\∀ g∈blk v',g∈blk v\/w.heap.size<=g:=by
 obtain⟨ess,g1,g2,g3,g5⟩:=h;obtain⟨v',w',hrun,hown,hupd,hat⟩:=Nl (P:=P) w k base t ty e i z bytes ht hi hz hsize hby hzs hzd hsz v l.length _ g3 a c news.toList (by simpa using hl) hnews h1 (BQ.1 hnd) h63 hbytes hbase;refine⟨v',w',hrun,⟨ess ++ [news],by simp[g1],?_,?_,?_⟩,hupd,hat⟩
 ·intro d hd
  rcases List.mem_append.1 hd with hd | hd
  ·exact g2 d hd
  ·simp at hd;subst hd;exact hl
 ·have e1:(ess ++ [news]).flatMap Array.toList=ess.flatMap Array.toList ++ news.toList:=by simp
  rw[e1,List.length_append];exact hown
 ·intro j hj hj'
  rcases Nat.lt_or_ge j l.length with hlt | hge
  ·rw[List.getElem_append_left hlt,List.getElem_append_left Aa]
   exact hr _ _ _ hupd.kd (g5 j hlt Aa)
  ·have:j=l.length:=by simp at hj;omega
   subst this;rw[List.getElem_append_right Aa,List.getElem_append_right Aa];simpa using hr _ _ _ hupd.kd hx
end
theorem Cc.new_trans{G G':List Nat}{w w' w'':World}(h:Cc G w w')(k:Cc G' w' w'')(hG:∀ g∈G',g∈G\/w.heap.size<=g):Cc G w w'':=by
 refine⟨fun g o hg ho=>k.1 g o (fun hm=>?_) (h.1 g o hg ho),h.kd.trans k.kd,fun a e hg=>k.2.2 a (h.2.2 a e hg) fun g hm=>?_⟩
 ·rcases hG g hm with q | q
  ·exact hg q
  ·have:=(Array.getElem?_eq_some_iff.1 ho).1;omega
 ·rcases hG g hm with q | q
  ·exact hg g q
  ·have:=e.size;omega
theorem Cc.none{w w':World}(x:Ext w w')(G:List Nat):Cc G w w':=Cc.of_ext x
theorem Ko.kd{w w':World}{v:Value}{p q:Rat}(h:Ko w v p q)(k:KD w w'):Ko w' v p q:=by
 obtain⟨b1,A1,n1,c1,b2,A2,n2,c2,b3,A3,n3,c3,b4,A4,n4,c4,h1,h2,h3⟩:=h;exact⟨b1,A1,n1,c1,b2,A2,n2,c2,b3,A3,n3,c3,b4,A4,n4,c4,h1,h2.kd k,h3.kd k⟩
theorem Qv.kd{w w':World}{v:Value}{p q:Rat}(h:Qv w v p q)(k:KD w w'):Qv w' v p q:=by
 obtain⟨b1,A1,n1,c1,b2,A2,n2,c2,b3,A3,n3,c3,b4,A4,n4,c4,h1,h2,h3⟩:=h;exact⟨b1,A1,n1,c1,b2,A2,n2,c2,b3,A3,n3,c3,b4,A4,n4,c4,h1,h2.kd k,h3.kd k⟩
def kK:World->Value->Rat×Rat->Prop:=fun w u y=>Ko w u y.1 y.2
def EZ(base:Nat)(e:TypeId)(w:World)(v:Value)(l:List (Rat×Rat)):Prop:=BB 8 kK base e w v l
theorem EZ.ext{base:Nat}{e:TypeId}{w w':World}{v:Value}{l:List (Rat×Rat)}(h:EZ base e w v l)(x:Ext w w'):EZ base e w' v l:=BB.ext h x fun _ _ q=>q.ext x
theorem EZ.upd{base:Nat}{e:TypeId}{w w':World}{v:Value}{l:List (Rat×Rat)}{G:List Nat}(h:EZ base e w v l)(U:Cc G w w')(hg:∀ g∈blk v,g∉G):EZ base e w' v l:=
 BB.upd h U hg fun _ _ q=>q.kd U.kd
theorem EZ.nil(base:Nat)(e:TypeId)(w:World):EZ base e w (.slice none 0 0) []:=BB.nil 8 kK base e w
theorem EZ.len{base:Nat}{e:TypeId}{w:World}{v:Value}{l:List (Rat×Rat)}(h:EZ base e w v l):∃ A c,v = .slice A l.length c:=BB.len h
theorem Ko.cells{w:World}{v:Value}{p q:Rat}(h:Ko w v p q):∃ b1 A1 n1 c1 b2 A2 n2 c2 b3 A3 n3 c3 b4 A4 n4 c4,v = .agg #[.bool b1,.slice A1 n1 c1,.bool b2,.slice A2 n2 c2,.bool b3,.slice A3 n3 c3,.bool b4,.slice A4 n4 c4]:=by
 obtain⟨b1,A1,n1,c1,b2,A2,n2,c2,b3,A3,n3,c3,b4,A4,n4,c4,h1,h2,h3⟩:=h;exact⟨b1,A1,n1,c1,b2,A2,n2,c2,b3,A3,n3,c3,b4,A4,n4,c4,h1⟩
noncomputable def Jc(R:Rat->Rat->Int):Nat->Rat->Rat->List (Rat×Rat)
 | 0,p,q=>if R p q=0 then [] else [(p,q)]
 | n+1,p,q=>if R p q=0 then [] else if R p q=1 then [(p,q)] else Jc R n p ((p+q) / 2) ++ Jc R n ((p+q) / 2) q
theorem LG{R:Rat->Rat->Int}{p q:Rat}(h:R p q=0):∀ n,Jc R n p q=[]
 | 0=>by unfold Jc;rw[if_pos h]
 | n+1=>by unfold Jc;rw[if_pos h]
theorem K9{R:Rat->Rat->Int}{p q:Rat}(h:R p q=1):∀ n,Jc R n p q=[(p,q)]
 | 0=>by unfold Jc;rw[if_neg Aa]
 | n+1=>by unfold Jc;rw[if_neg Aa,if_pos h]
theorem M6{R:Rat->Rat->Int}{p q:Rat}{n:Nat}(h0:R p q≠0)(h1:R p q≠1):Jc R (n+1) p q=Jc R n p ((p+q) / 2) ++ Jc R n ((p+q) / 2) q:=by
 rw[Jc,if_neg h0,if_neg h1]
def Node(P Q:Rat)(d:Nat)(p q:Rat):Prop:=∃ k:Nat,k < 2^d/\p=P+(Q - P)*(((k:Nat):Rat) / 2^d)/\q=P+(Q - P)*(((k+1:Nat):Rat) / 2^d)
theorem XF{k d:Nat}(h:k<=2^d):qsz (((k:Nat):Rat) / 2^d)<=d+1:=by
 have e:((k:Nat):Rat) / 2^d=Rat.divInt ((k:Nat):Int) ((2^d:Nat):Int):=by
  rw[Bf,Rat.divInt_eq_div];rfl
 rw[e];have h2:sz (2^d)<=d+1:=by
  have:=IE 2 1 Ab d;rw[Int.natAbs_pow]at this;have e3:((2:Int).natAbs)^d=2^d:=rfl;rw[e3]at this;omega
 refine Dp ?_ ?_ Aa
 ·rw[Int.natAbs_natCast];exact Nat.le_trans (Bq h) h2
 ·rw[Int.natAbs_natCast];exact h2
theorem Node.root(P Q:Rat):Node P Q 0 P Q:=by
 refine⟨0,Ab,?_,?_⟩
 ·rw[show((0:Nat):Rat)=0 from rfl,Rat.pow_zero];grind
 ·rw[show((0+1:Nat):Rat)=1 from rfl,Rat.pow_zero];grind
theorem Node.half{P Q p q:Rat}{d:Nat}(h:Node P Q d p q):Node P Q (d+1) p ((p+q) / 2)/\Node P Q (d+1) ((p+q) / 2) q:=by
 obtain⟨k,hk,rfl,rfl⟩:=h;have h2:(2:Rat)^d≠0:=by have:=BS d;grind
 have e1:(2:Rat)^(d+1)=2^d*2:=Rat.pow_succ _ _;have c1:((2*k:Nat):Rat)=2*((k:Nat):Rat):=by push_cast;rfl
 have c2:((2*k+1:Nat):Rat)=2*((k:Nat):Rat)+1:=by rw[CJ,c1]
 have c3:((2*k+1+1:Nat):Rat)=2*((k:Nat):Rat)+2:=by rw[CJ,c2];grind
 have c4:((k+1:Nat):Rat)=((k:Nat):Rat)+1:=CJ k;have hkk:2*k+1 < 2^(d+1):=by rw[Nat.pow_succ];omega
 constructor
 ·refine⟨2*k,Aa,?_,?_⟩
  ·rw[e1,c1];grind
  ·rw[e1,c2,c4];grind
 ·refine⟨2*k+1,hkk,?_,?_⟩
  ·rw[e1,c2,c4];grind
  ·rw[e1,c3,c4];grind
theorem Node.width{P Q p q:Rat}{d:Nat}(h:Node P Q d p q):(q - p)*2^d=Q - P:=by
 obtain⟨k,hk,rfl,rfl⟩:=h;have h2:(2:Rat)^d≠0:=by have:=BS d;grind
 rw[CJ];grind
theorem Node.within{P Q p q:Rat}{d:Nat}(h:Node P Q d p q)(hPQ:P < Q):P<=p/\p < q/\q<=Q:=by
 obtain⟨k,hk,rfl,rfl⟩:=h;have h2:=BS d;obtain⟨hi,ei⟩:=F7 h2;have hd:0 < Q - P:=by grind
 obtain⟨z,hz⟩:∃ z:Rat,z=1 / 2^d:=⟨_,rfl⟩
 rw[<-hz]at hi ei;have e:∀ x:Rat,x / 2^d=x*z:=fun x=>by rw[hz];grind
 rw[e,e];have k0:=Ef k;have k1:((k+1:Nat):Rat)<=((2^d:Nat):Rat):=Lu hk;rw[<-Bf]at k1;have a0:=Rat.mul_nonneg (Std.le_of_lt hd) (Rat.mul_nonneg k0 (Std.le_of_lt hi));have a1:=CQ k1 (Std.le_of_lt hi);have a2:(2:Rat)^d*z=1:=by grind
 rw[a2]at a1;have a3:=Ck a1 (Std.le_of_lt hd);have a4:=Rat.mul_pos hd hi;rw[CJ]at a3 ⊢;refine⟨Ad,Ad,Ad⟩
theorem Node.qsz{P Q p q:Rat}{d a:Nat}(h:Node P Q d p q)(hP:Hp.qsz P<=a)(hQ:Hp.qsz Q<=a):Hp.qsz p<=3*a+d+4/\Hp.qsz q<=3*a+d+4:=by
 obtain⟨k,hk,rfl,rfl⟩:=h;have key:∀ m:Nat,m<=2^d->Hp.qsz (P+(Q - P)*(((m:Nat):Rat) / 2^d))<=3*a+d+4:=fun m hm=>by
  have h1:=Tu Q P;have h2:=CW (Q - P) (((m:Nat):Rat) / 2^d);have h3:=XF hm;have h4:=Fb P ((Q - P)*(((m:Nat):Rat) / 2^d));omega
 exact⟨key k Aa,key (k+1) hk⟩
theorem UX{F:Nat->Rat}(hF:SF F){P Q:Rat}(hPQ:P < Q){N:Nat}(hdeep:∀ d p q,Node P Q d p q->N<=d->rc F p q<=1) :
  ∀(n d:Nat) (p q:Rat),Node P Q d p q->N<=n+d->(∀ x∈Jc (rc F) n p q,rc F x.1 x.2=1/\(∃ d',d<=d'/\d'<=n+d/\Node P Q d' x.1 x.2)/\p<=x.1/\x.2<=q) /\
   ((Jc (rc F) n p q).length:Int)=rc F p q/\(Jc (rc F) n p q).Pairwise fun x y=>x.2<=y.1:=by
 intro n;induction n with
 | zero =>
  intro d p q hn hN;have h1:=hdeep d p q hn Aa;have hw:=hn.within hPQ;have h0:=hF.nonneg (Std.le_of_lt hw.2.1);by_cases hz:rc F p q=0
  ·rw[LG hz];exact⟨fun x hx=>by simp at hx,by simp[hz],List.Pairwise.nil⟩
  ·rw[K9 (show rc F p q=1 by omega)]
   refine⟨fun x hx=>?_,Dq,Ac⟩;have:x=(p,q):=by simpa using hx
   subst this;exact⟨show rc F p q=1 by omega,⟨d,Nat.le_refl _,Aa,hn⟩,Std.le_refl _,Std.le_refl _⟩
 | succ n ih =>
  intro d p q hn hN;have hw:=hn.within hPQ;have h0:=hF.nonneg (Std.le_of_lt hw.2.1);by_cases hz:rc F p q=0
  ·rw[LG hz];exact⟨fun x hx=>by simp at hx,by simp[hz],List.Pairwise.nil⟩
  by_cases ho:rc F p q=1
  ·rw[K9 ho]
   refine⟨fun x hx=>?_,by simp[ho],Ac⟩;have:x=(p,q):=by simpa using hx
   subst this;exact⟨ho,⟨d,Nat.le_refl _,Aa,hn⟩,Std.le_refl _,Std.le_refl _⟩
  ·rw[M6 hz ho]
   obtain⟨n1,n2⟩:=hn.half;obtain⟨a1,a2,a3⟩:=ih (d+1) _ _ n1 Aa;obtain⟨b1,b2,b3⟩:=ih (d+1) _ _ n2 Aa;have w1:=(n1.within hPQ).2.1;have w2:=(n2.within hPQ).2.1;have hsum:=Bb F p ((p+q) / 2) q;refine⟨fun x hx=>?_,?_,?_⟩
   ·rcases List.mem_append.1 hx with hx | hx
    ·obtain⟨c1,⟨d',c2,c3,c4⟩,c5,c6⟩:=a1 x hx
     exact⟨c1,⟨d',Aa,Aa,c4⟩,c5,Ad⟩
    ·obtain⟨c1,⟨d',c2,c3,c4⟩,c5,c6⟩:=b1 x hx
     exact⟨c1,⟨d',Aa,Aa,c4⟩,Ad,c6⟩
   ·rw[List.length_append];push_cast;omega
   ·rw[List.pairwise_append]
    refine⟨a3,b3,fun x hx y hy=>?_⟩;obtain⟨-,-,-,c6⟩:=a1 x hx;obtain⟨-,-,c5,-⟩:=b1 y hy;exact Std.le_trans c6 c5
theorem fM(W:Nat->Rat)(K:Nat)(p q:Rat):rts W K p q=rt W K p q:=by
 have e:∀ x,V (Gp W (pd W) K) x=vx W K x:=fun x=>by
  unfold V vx CR Gp;rw[List.map_map];rfl
 unfold rts rt;rw[e,e]
theorem LY{W:Nat->Rat}{K:Nat}(hK:Ow W (pd W) K)(p q:Rat):rts W K p q=rc W p q:=by rw[fM];unfold rc;rw[hK.kn]
theorem UQ{G:List Nat}{X Y:World}(U:Cc G X Y){g i:Nat}{x:Value}(hg:g∉G)(h:X.cell? ⟨g,i,none⟩=some x):Y.cell? ⟨g,i,none⟩=some x:=by
 have hb:=World.block_lt_of_cell? X _ h;have ho:X.heap[g]? = some X.heap[g]:=Array.getElem?_eq_getElem hb;have:=U.1 g _ hg ho;rw[World.cell?_of_block (this.trans ho.symm)];exact h
def SE(base:Nat)(t:TypeId)(w:World)(o:Value)(l:List (Rat×Rat))(e:Ending)(w':World):Prop:=∃ r,e = .returned r/\EZ base t w' r l/\Cc (blk o) w w'/\∀ g∈blk r,g∈blk o\/w.heap.size<=g
theorem bN(q:Rat):(ab q).num=(q.num.natAbs:Nat)/\(ab q).den=q.den:=by
 unfold ab
 split
 ·rename_i h
  have h1:=JU (q:=-q);have h2:(-q).num = -q.num:=rfl;have h3:0 < -q:=by grind
  have:=h1.2 h3;exact⟨Aa,rfl⟩
 ·rename_i h
  have:0<=q.num:=Rat.num_nonneg.2 Ad;exact⟨Aa,rfl⟩
theorem Ba.put42{w:World}{g:Nat}{t:TypeId}{a b c d:Value}(h:Ba w g t #[a,b,c,d])(u v:Value)(hu:Ah u=false)(hv:Ah v=false) :
  ∃ W,W=(w.setCell ⟨g,0,none⟩ u).setCell ⟨g,1,none⟩ v/\Ba W g t #[u,v,c,d]/\Cc [g] w W:=
 ⟨_,rfl,(h.set_ 0 hu).set_ 1 hv,(Cc.set_ h.nodig 0 u).trans (Cc.set_ (h.set_ 0 hu).nodig 1 v)⟩
theorem VV(p q:Rat):ab (p / q)=ab p / ab q:=by
 by_cases h:q=0
 ·rw[h,Di,Rat.div_def,Rat.div_def,Rat.inv_zero,Rat.mul_zero,Rat.mul_zero];decide
 ·have h1:p / q*q=p:=by grind
  have h2:ab (p / q)*ab q=ab p:=by rw[<-BU,h1]
  have h3:ab q≠0:=fun e=>h (TP.1 e);grind
theorem Sq{p q:Rat}:decide (KV (p - q)<=0)=decide (p<=q):=by
 rw[En];unfold AX;by_cases h:p<=q
 ·rw[if_neg Ad,decide_eq_true h]
  split<;>rfl
 ·rw[decide_eq_false h,if_pos Ad];rfl
theorem Ig(n:Nat):(((2:Int)^n:Int):Rat)=2^n:=by push_cast;rfl
theorem Io{p q:Rat}:decide (KV (p - q) > 0)=decide (q < p):=by
 rw[En];unfold AX;by_cases h:q < p
 ·rw[if_pos Ad,decide_eq_true h];rfl
 ·rw[decide_eq_false h,if_neg Ad]
  split<;>rfl
theorem P2.qsz{r:Rat}{s:Nat}(h0:0<=r)(h:Hp.qsz r<=s):∃ J,P2 r J/\J<=32*s+1:=by
 have h1:=(M7 h).1;rw[CX h0,Bf]at h1;have key:∀ m,r < 2^m->∃ J,P2 r J/\J<=m:=by
  intro m;induction m with
  | zero=>intro h;exact⟨0,⟨h,fun i hi=>Aa⟩,Nat.le_refl _⟩
  | succ m ih =>
   intro h;by_cases h2:r < 2^m
   ·obtain⟨J,a,b⟩:=ih h2;exact⟨J,a,Aa⟩
   ·exact⟨m+1,⟨h,fun i hi=>by have:=Lb (show i<=m by omega);grind⟩,Nat.le_refl _⟩
 refine key (32*s+1) ?_;rw[Rat.pow_succ];have:=BS (32*s);rw[Bf]at this ⊢;grind
noncomputable def bx(F:Nat->Rat):Nat:=open Classical in if h:∃ j,P2 (Gu F (pl F - 1)+1) j then Classical.choose h else 0
theorem P2.bx{F:Nat->Rat}{j:Nat}(h:P2 (Gu F (pl F - 1)+1) j):j=Hp.bx F:=by
 have hx:∃ j,P2 (Gu F (pl F - 1)+1) j:=⟨j,h⟩
 unfold Hp.bx;rw[dif_pos hx];exact h.uniq (Classical.choose_spec hx)
theorem jC(F:Nat->Rat):P2 (Gu F (pl F - 1)+1) (bx F):=by
 have h0:0<=Gu F (pl F - 1)+1:=by have:=FK F (pl F - 1);grind
 obtain⟨j,hj,-⟩:=P2.qsz h0 (Nat.le_refl _);rw[<-hj.bx];exact hj
theorem TL{F:Nat->Rat}{s:Nat}(h:∀ i,qsz (F i)<=s):bx F<=32*(2*s+2)+1:=by
 have h0:0<=Gu F (pl F - 1)+1:=by have:=FK F (pl F - 1);grind
 have h1:=Fb (Gu F (pl F - 1)) 1;have h2:qsz (1:Rat)=1:=by decide
 have h3:=LB h (Nat.le_trans (Dw (F 0)) (h 0)) (pl F - 1);obtain⟨j,hj,hj2⟩:=P2.qsz h0 (show qsz (Gu F (pl F - 1)+1)<=2*s+2 by omega);rw[<-hj.bx];exact hj2
theorem Sc(j:Nat):qsz ((2:Rat)^j)<=j+1/\qsz (-(2:Rat)^j)<=j+1:=by
 have h1:=GM j;have e:((2:Rat)^j)=(((2:Int)^j:Int):Rat):=(Ig j).symm;have h2:qsz ((2:Rat)^j)<=j+1:=by rw[e,Bn];omega
 exact⟨h2,by rw[IU];exact h2⟩
structure Pg(F:Nat->Rat)(D M:Nat):Prop where
 z:ZI F
 f:Ae F
 n0:F≠pz
 e:D8 F=0
 q:∀ i,qsz (F i)<=1000
 pln:pl F<=1000
 sim:∃ S n M T,Sa F S n M T
 chn:∃ S,J9 (sqf F) S D M
theorem Pg.sf{F:Nat->Rat}{D M:Nat}(h:Pg F D M):SF (sqf F):=Bl h.z h.f h.n0
theorem Pg.k{F:Nat->Rat}{D M:Nat}(h:Pg F D M):Ow (sqf F) (pd (sqf F)) (kn (sqf F)):=h.sf.st.k
theorem Pg.lim{F:Nat->Rat}{D M:Nat}(h:Pg F D M):M<=1000000/\D<=900:=by
 obtain⟨S,h⟩:=h.chn;exact⟨by have:=h.b;omega,h.D9⟩
theorem PP.lower{base b:Nat}{t:TypeId}{w:World}{v:Value}{W:Nat->Rat}(h:PP base t w v W)(hb:b<=base):PP b t w v W:=by
 obtain⟨c,us,K,h1,h2,h3,h4⟩:=h;exact⟨c,us,K,h1,h2,h3,(h4.base_le hb).el_le hb⟩
theorem EZ.lower{base b:Nat}{e:TypeId}{w:World}{v:Value}{l:List (Rat×Rat)}(h:EZ base e w v l)(hb:b<=base):EZ b e w v l:=by
 obtain⟨ess,g1,g2,⟨g3,g4⟩,g5⟩:=h;refine⟨ess,g1,g2,⟨g3,?_⟩,g5⟩;rcases g4 with h4 | ⟨g,cap,cur,a,c,d⟩
 ·exact .inl h4
 ·exact .inr ⟨g,cap,cur,a,Nat.le_trans hb c,d⟩
def SN(F:Nat->Rat)(r:Value)(w:World):Prop:=∃ z,r = .tuple #[z,.int .i64 (D8 F)]/\(D8 F=0->AO w z (2^bx F))/\(D8 F≠0->z = .agg #[.bool false,.slice none 0 0])
def Yw(base:Nat)(t:TypeId)(F:Nat->Rat)(N:Nat)(r:Value)(w:World):Prop:=∃ c,r = .tuple #[c,.int .i64 (D8 F)]/\(D8 F=0->EZ base t w c (Jc (rc (sqf F)) N (-(2:Rat)^bx F) ((2:Rat)^bx F)))/\(D8 F≠0->c = .slice none 0 0)
def I9(F:Nat->Rat)(p q:Rat)(r:Value):Prop:=r = .tuple #[.int .i64 (if D8 F=0/\p<=q then rc (sqf F) p q else 0),.int .i64 (if D8 F=0 then(if p<=q then 0 else 2)else D8 F)]
structure Dy(F:Nat->Rat):Prop where
 z:ZI F
 f:Ae F
 n0:F≠pz
 p:pl F<=7
 b:∀ i,(F i).num.natAbs<=4095
theorem CZ{F:Nat->Rat}(z:ZI F){i s:Nat}(hs:1<=s)(h:(F i).num.natAbs < bp s):qsz (F i)<=s:=by
 have h3:=Cj h;rw[z.num i,Bn];omega
theorem Dy.q{F:Nat->Rat}(h:Dy F)(i:Nat):qsz (F i)<=1:=CZ h.z Ab (Nat.lt_of_le_of_lt (h.b i) Ab)
theorem M4{F:Nat->Rat}(z:ZI F)(f:Ae F){n X:Nat}(hp:pl F<=n+1)(h:∀ i,(F i).num.natAbs<=X)(i:Nat):(pd F i).num.natAbs<=n*X:=by
 have e:pd F i=((((i+1:Nat):Int)*(F (i+1)).num:Int):Rat):=by
  show((i+1:Nat):Rat)*F (i+1)=_
  conv=>lhs;rw[z.num (i+1)]
  push_cast;rfl
 rw[e];show(((i+1:Nat):Int)*(F (i+1)).num).natAbs<=_;rw[Int.natAbs_mul];by_cases hi:i+1<=n
 ·exact Nat.mul_le_mul hi (h _)
 ·have:F (i+1)=0:=(AA f) _ Aa
  rw[this];simp
theorem Ov{F:Nat->Rat}(z:ZI F)(f:Ae F)(h0:F≠pz){X:Nat}(h:∀ i,(F i).num.natAbs<=X)(i:Nat):(pp F i).num.natAbs<=X:=by
 rw[Mk z f h0];show((F i).num / pcn F).natAbs<=X;exact Nat.le_trans (Int.natAbs_ediv_le_natAbs _ _) (h i)
theorem P8{F:Nat->Rat}(z:ZI F){X:Nat}(h:∀ i,(F i).num.natAbs<=X):J8 ((X:Nat):Rat) F:=fun i=>by
 rw[z.num i,Jp];exact_mod_cast h i
theorem Om{F:Nat->Rat}(z:ZI F){X:Nat}(h:J8 ((X:Nat):Rat) F)(i:Nat):(F i).num.natAbs<=X:=by
 have:=h i;rw[z.num i,Jp]at this;exact_mod_cast this
theorem Mj(a b c d:Nat):((a:Nat):Rat)*(((b:Nat):Rat)*((c:Nat):Rat)*((d:Nat):Rat)*((d:Nat):Rat))=((a*(b*c*d*d):Nat):Rat):=by push_cast;rfl
theorem Dy.w{F:Nat->Rat}(h:Dy F):(∀ i,(sqf F i).num.natAbs<=7*(4095*7*15^7*15^7))/\pl (sqf F)<=7:=by
 have hP:=AU.pp h.z h.f h.n0;have hS:=Bl h.z h.f h.n0;have hpl:=DI h.z h.f;have hd:Iw (pp F) (sqf F):=by
  obtain⟨hC,hW,e,-,-⟩:=Ch hP;exact⟨yc (pp F),hC.z,hC.f,by rw[Av];exact e⟩
 have h1:=PI hP.z hP.f hP.n hS.p.z hS.p.f hd (n:=7) (by rw[hpl];exact h.p) (P8 hP.z (Ov h.z h.f h.n0 h.b));refine⟨Om hS.p.z ?_,?_⟩
 ·intro i
  have:=h1 i;refine Std.le_trans this ?_;have e:(1:Rat)+2*((7:Nat):Rat)=((15:Nat):Rat):=by exact_mod_cast(rfl:1+2*7=15)
  rw[e,Gm];have:((7:Nat):Rat)*(((4095:Nat):Rat)*((7:Nat):Rat)*((15^7:Nat):Rat)*((15^7:Nat):Rat))=((7*(4095*7*15^7*15^7):Nat):Rat):=Mj 7 4095 7 _;rw[this];exact Std.le_refl _
 ·have:=Dv.le hS.p.f hP.f hP.n (KA hd)
  rw[hpl]at this;have:=h.p;omega
theorem Dy.chn{F:Nat->Rat}(h:Dy F):J9 (sqf F) 3 (pl (sqf F)+pl (pd (sqf F))) 32768/\pl (sqf F)+pl (pd (sqf F))<=13:=by
 obtain⟨h1,h2⟩:=h.w;have hS:=Bl h.z h.f h.n0;have h3:=Ht hS.p.f;have h4:=AL hS.p.f hS.p.n;have hD:pl (sqf F)+pl (pd (sqf F))<=13:=by omega
 have hp:2^(pl (sqf F)+pl (pd (sqf F)))<=2^13:=Nat.pow_le_pow_right Ab hD;have hm:(pl (sqf F)+pl (pd (sqf F))+1)*(32768+1)<=14*32769:=Nat.mul_le_mul_right _ Aa;refine⟨J9.of2 hS.p.z hS.p.f (fun i=>CZ hS.p.z Ab (Nat.lt_of_le_of_lt (h1 i) (by decide +kernel))) (fun i=>CZ (Dt hS.p.z) Ab (Nat.lt_of_le_of_lt (M4 hS.p.z hS.p.f (n:=6) Aa h1 i) (by decide +kernel))) rfl Aa Aa Aa,hD⟩
theorem Dy.sim{F:Nat->Rat}(h:Dy F):Sa F 1 7 16384 36000:=by
 have hP:=AU.pp h.z h.f h.n0;have hpl:=DI h.z h.f;have hpn:=Ov h.z h.f h.n0 h.b;exact⟨h.z,h.f,h.n0,h.q,fun i=>CZ (Dt hP.z) Ab (Nat.lt_of_le_of_lt (M4 hP.z hP.f (n:=6) (by rw[hpl];exact h.p) hpn i) Ab),
  fun i=>UC hP (n:=7) (s:=1) (by rw[hpl];exact h.p) Ab (fun i=>CZ hP.z Ab (Nat.lt_of_le_of_lt (hpn i) Ab)) Ab i,h.p,Ab,Ab,Ab,Ab⟩
theorem Dy.err{F:Nat->Rat}(h:Dy F):D8 F=0:=by
 refine LF h.n0 (by have:=h.p;omega) fun⟨i,b,h1,h2⟩=>?_;have:=h1.le (m:=12) (Nat.lt_of_le_of_lt (h.b i) Ab);omega
theorem Dy.pg{F:Nat->Rat}(h:Dy F):Pg F (pl (sqf F)+pl (pd (sqf F))) 32768:=
 ⟨h.z,h.f,h.n0,h.err,fun i=>Nat.le_trans (h.q i) Ab,by have:=h.p;omega,⟨1,7,16384,36000,h.sim⟩,⟨3,h.chn.1⟩⟩
theorem ZP{S D b:Nat}(hS:S<=3)(hD:D<=13)(hb:b<=400):Mm S D b<=660000000:=by
 have hp:2^D<=8192:=Nat.le_trans (Nat.pow_le_pow_right Ab hD) Ab;have h1:(S+1)*2^D<=4*8192:=Nat.mul_le_mul Aa hp;have h2:(D+1)*((S+1)*2^D+1)<=14*32769:=Nat.mul_le_mul Aa Aa;have h3:b*(D+1)<=400*14:=Nat.mul_le_mul hb Aa;have h4:(3+b)*D<=403*13:=Nat.mul_le_mul Aa hD;have h5:I4 S D b<=50338607:=by unfold I4;omega
 have h6:D*I4 S D b<=13*50338607:=Nat.mul_le_mul hD h5;unfold Mm OC Va;omega
theorem Dy.sep{F:Nat->Rat}(h:Dy F){p q:Rat}{E:Nat}(hE:660000000<=E)(hp:ab p<=2^400 - 1)(hq:ab q<=2^400 - 1)(hpq:p < q)(hd:(q - p)*2^E<=1):rc (sqf F) p q<=1:=by
 obtain⟨hC,hD⟩:=h.chn;have hS:=Bl h.z h.f h.n0;have h1:=ZP (S:=3) (b:=400) Ab hD Ab;have h2:=Ck (Lb (show Mm 3 (pl (sqf F)+pl (pd (sqf F))) 400<=E by omega)) (show 0<=q - p by grind);exact hS.st.sep hC.s hC.d rfl hp hq hpq (Std.le_trans h2 hd)
theorem dO{b:Nat}(j:Nat)(h:j+1<=b):(2:Rat)^j<=2^b - 1:=by
 have h1:=Lb h;rw[Rat.pow_succ]at h1;have:=Nc j;grind
theorem Dy.deep{F:Nat->Rat}(h:Dy F)(d:Nat)(p q:Rat)(hn:Node (-(2:Rat)^bx F) ((2:Rat)^bx F) d p q)(hd:700000000<=d):rc (sqf F) p q<=1:=by
 have hb:=TL h.q;have hpos:=BS (bx F);have hPQ : -(2:Rat)^bx F < (2:Rat)^bx F:=by grind
 obtain⟨w1,w2,w3⟩:=hn.within hPQ;have hB:=dO (b:=400) (bx F) Aa;have hap:ab p<=2^400 - 1:=EH.2 ⟨Ad,Ad⟩;have haq:ab q<=2^400 - 1:=EH.2 ⟨Ad,Ad⟩;obtain⟨E,hE⟩:∃ E,d=E+(bx F+1):=⟨d - (bx F+1),Aa⟩
 refine h.sep (E:=E) Aa hap haq w2 ?_;have hw:=hn.width;rw[hE,De,Rat.pow_succ]at hw;have:(q - p)*2^E*(2^bx F*2)=1*(2^bx F*2):=by grind
 have hne:(2:Rat)^bx F*2≠0:=by grind
 have:(q - p)*2^E=1:=by grind
 rw[this];exact Std.le_refl _
theorem PG:∀ l:List Int,EY 0 l<=l.length - 1
 | []=>Nat.le_refl _
 | s::l=>by
  rw[EY]
  split
  ·have:=PG l;simp;omega
  ·rename_i h
   rw[if_neg (show ¬ (0:Int) = -s by omega)];have:=VT l s;simp;omega
theorem PZ:pl (cz [-2,0,1])=3:=Iq (Cx [-2,0,1]) (fun _=>by decide +kernel)
theorem aJ:cz [-2,0,1]≠pz:=fun e=>by have:=PZ;rw[e,BR]at this;omega
theorem FZ:Dy (cz [-2,0,1]):=by
 refine⟨ZI.cz _,Ae.cz _,aJ,by rw[PZ];decide,fun i=>?_⟩
 match i with
 | 0=>decide +kernel
 | 1=>decide +kernel
 | 2=>decide +kernel
 | i+3=>rw[Ik Ac];decide
theorem TK(x:Rat):ev (cz [-2,0,1]) x = -2+x*x:=by
 rw[Ee (Cx [-2,0,1]) x];show cz [-2,0,1] 0+x*(cz [-2,0,1] 1+x*(cz [-2,0,1] 2+x*0))=_;have h0:cz [-2,0,1] 0 = -2:=by decide +kernel
 have h1:cz [-2,0,1] 1=0:=by decide +kernel
 have h2:cz [-2,0,1] 2=1:=by decide +kernel
 rw[h0,h1,h2];grind
theorem X6:ld (cz [-2,0,1])=1:=by unfold ld;rw[PZ];decide +kernel
theorem aX:SF (cz [-2,0,1]):=by
 refine⟨⟨ZI.cz _,Ae.cz _,aJ,by rw[X6];decide,?_⟩,?_⟩
 ·have h:=FZ
  have h1:cn (cz [-2,0,1])∣1:=by
   have h2:=FH (F:=cz [-2,0,1]) (Ae.cz _) 2;have h3:(cz [-2,0,1] 2).num=1:=by decide +kernel
   rw[h3]at h2;exact Int.natCast_dvd_natCast.1 h2
  exact Nat.dvd_one.1 h1
 ·have e:∀ i,pd (cz [-2,0,1]) i=cs 0 (cs 2 pz) i:=fun i=>by
   match i with
   | 0=>decide +kernel
   | 1=>decide +kernel
   | i+2 =>
    show((i+2+1:Nat):Rat)*cz [-2,0,1] (i+3)=pz i;rw[Ik Ac,Rat.mul_zero];rfl
  have e':pd (cz [-2,0,1])=cs 0 (cs 2 pz):=funext e;have f':cz [-2,0,1]=cs (-2) (cs 0 (cs 1 pz)):=funext fun i=>by
   match i with
   | 0=>decide +kernel
   | 1=>decide +kernel
   | 2=>decide +kernel
   | i+3=>rw[Ik Ac];rfl
  refine⟨cs (-(1 / 2)) pz,cs 0 (cs (1 / 4) pz),Ae.pz.cs _,(Ae.pz.cs _).cs _,?_⟩;rw[e',f'];simp only[L8,Cn]
  funext i
  match i with
  | 0=>simp only[pad,psc,cs,pz,pone];grind
  | 1=>simp only[pad,psc,cs,pz,pone];grind
  | 2=>simp only[pad,psc,cs,pz,pone];grind
  | 3=>simp only[pad,psc,cs,pz,pone];grind
  | i+4=>simp only[pad,psc,cs,pz,pone];grind
theorem YQ{F:Nat->Rat}(h:SF F):sqf F=F:=by
 have e:pp F=F:=h.p.self;have h2:=OE h h.p (Dv.refl F);have h3:=Ch h.p;unfold sqf;rw[e];refine h3.2.1.eq_dv h.p ⟨yc F,h3.1.f,?_⟩ h2;rw[Av];exact h3.2.2.1
theorem Yu:sqf (cz [-2,0,1])=cz [-2,0,1]:=YQ aX
theorem jD:bx (cz [-2,0,1])=2:=by
 refine(P2.bx ?_).symm;rw[PZ];have h0:cz [-2,0,1] 0 = -2:=by decide +kernel
 have h1:cz [-2,0,1] 1=0:=by decide +kernel
 have e1:Gu (cz [-2,0,1]) 1=2:=by
  show(if (0:Rat) < ab (cz [-2,0,1] 0 / ld (cz [-2,0,1]))then ab (cz [-2,0,1] 0 / ld (cz [-2,0,1]))else 0)=2;rw[h0,X6];decide +kernel
 have e2:Gu (cz [-2,0,1]) (3 - 1)=2:=by
  show(if Gu (cz [-2,0,1]) 1 < ab (cz [-2,0,1] 1 / ld (cz [-2,0,1]))then ab (cz [-2,0,1] 1 / ld (cz [-2,0,1]))else Gu (cz [-2,0,1]) 1)=2;rw[e1,h1,X6];decide +kernel
 rw[e2];refine⟨by decide +kernel,fun i hi=>?_⟩
 match i with
 | 0=>decide +kernel
 | 1=>decide +kernel
theorem ZW:rc (cz [-2,0,1]) 0 2=1/\rc (cz [-2,0,1]) (-4) 4=2/\rc (cz [-2,0,1]) (-4) 0=1/\rc (cz [-2,0,1]) 0 4=1:=by
 have hs:=aX;have e0:ev (cz [-2,0,1]) 0 = -2:=by rw[TK];decide +kernel
 have e2:ev (cz [-2,0,1]) 2=2:=by rw[TK];decide +kernel
 have e4:ev (cz [-2,0,1]) 4=14:=by rw[TK];decide +kernel
 have em:ev (cz [-2,0,1]) (-4)=14:=by rw[TK];decide +kernel
 have h1:1<=rc (cz [-2,0,1]) 0 2:=hs.st.change_counts (by decide +kernel) (by rw[e0];decide +kernel) (by rw[e0,e2];decide +kernel);have h2:1<=rc (cz [-2,0,1]) (-4) 0:=hs.st.change_counts (by decide +kernel) (by rw[em];decide +kernel) (by rw[e0,em];decide +kernel);have h3:=hs.sub (p:=0) (x:=0) (y:=2) (q:=4) (by decide +kernel) (by decide +kernel) (by decide +kernel);have h4:=Bb (cz [-2,0,1]) (-4) 0 4
 have h5:rc (cz [-2,0,1]) (-4) 4<=2:=by
  rw[<-LY hs.st.k];unfold rts;have h6:V (Gp (cz [-2,0,1]) (pd (cz [-2,0,1])) (kn (cz [-2,0,1]))) (-4)<=kn (cz [-2,0,1]) - 1:=by
   have:=PG ((Gp (cz [-2,0,1]) (pd (cz [-2,0,1])) (kn (cz [-2,0,1]))).map fun F=>AX (ev F (-4)));rw[List.length_map,Er]at this;exact this
  obtain⟨S,hS⟩:=Dc hs.p.f;obtain⟨T,hT⟩:=Dc (Bd hs.p.f);obtain⟨K,q1,q2⟩:=Gl hs.p.f (Bd hs.p.f) hs.p.z (Dt hs.p.z) (S:=max S T) (fun i=>Nat.le_trans (hS i) (Nat.le_max_left _ _)) (fun i=>Nat.le_trans (hT i) (Nat.le_max_right _ _));rw[Ht hs.p.f,PZ]at q2;rw[q1.kn]at h6 ⊢;omega
 omega
theorem dN(N:Nat):Jc (rc (sqf (cz [-2,0,1]))) (N+1) (-(2:Rat)^bx (cz [-2,0,1])) ((2:Rat)^bx (cz [-2,0,1]))=[(-4,0),(0,4)]:=by
 rw[Yu,jD];have e1:(2:Rat)^2=4:=by decide +kernel
 have e2 : -(2:Rat)^2 = -4:=by decide +kernel
 obtain⟨-,r1,r2,r3⟩:=ZW;rw[e2,e1,M6 Aa Aa];have e3:((-4:Rat)+4) / 2=0:=by decide +kernel
 rw[e3,K9 r2,K9 r3];rfl
theorem SF.rc_deg{F:Nat->Rat}(hs:SF F)(p q:Rat):rc F p q<=((pl F - 1:Nat):Int):=by
 rw[<-LY hs.st.k];unfold rts;have h6:V (Gp F (pd F) (kn F)) p<=kn F - 1:=by
  have:=PG ((Gp F (pd F) (kn F)).map fun F=>AX (ev F p));rw[List.length_map,Er]at this;exact this
 obtain⟨S,hS⟩:=Dc hs.p.f;obtain⟨T,hT⟩:=Dc (Bd hs.p.f);obtain⟨K,q1,q2⟩:=Gl hs.p.f (Bd hs.p.f) hs.p.z (Dt hs.p.z) (S:=max S T) (fun i=>Nat.le_trans (hS i) (Nat.le_max_left _ _)) (fun i=>Nat.le_trans (hT i) (Nat.le_max_right _ _));rw[Ht hs.p.f]at q2;rw[q1.kn]at h6 ⊢;omega
theorem cO{F:Nat->Rat}(z:ZI F)(f:Ae F)(h0:F≠pz):pl (sqf F)<=pl F:=Dv.le (Bl z f h0).p.f f h0 (Ea z f h0)
noncomputable def hfp(R:Rat->Rat->Int)(c:Rat×Rat):Rat×Rat:=if R c.1 ((c.1+c.2) / 2)=1 then(c.1,(c.1+c.2) / 2)else((c.1+c.2) / 2,c.2)
noncomputable def EW(R:Rat->Rat->Int)(p q:Rat):Nat->Rat×Rat
 | 0=>(p,q)
 | k+1=>hfp R (EW R p q k)
theorem Ex(R:Rat->Rat->Int)(p q:Rat):∀ k,Node p q k (EW R p q k).1 (EW R p q k).2
 | 0=>Node.root p q
 | k+1=>by
  have h:=(Ex R p q k).half;show Node p q (k+1) (hfp R (EW R p q k)).1 (hfp R (EW R p q k)).2;unfold hfp
  split
  ·exact h.1
  ·exact h.2
theorem Zg{F:Nat->Rat}(h:SF F){c:Rat×Rat}(hc:c.1 < c.2)(h1:rc F c.1 c.2=1):rc F (hfp (rc F) c).1 (hfp (rc F) c).2=1:=by
 have a:=Bb F c.1 ((c.1+c.2) / 2) c.2;have b1:=h.nonneg (p:=c.1) (q:=(c.1+c.2) / 2) Ad;have b2:=h.nonneg (p:=(c.1+c.2) / 2) (q:=c.2) Ad;unfold hfp
 split
 ·assumption
 ·show rc F ((c.1+c.2) / 2) c.2=1
  omega
theorem LA{F:Nat->Rat}(h:SF F){p q:Rat}(hpq:p < q)(h1:rc F p q=1):∀ k,rc F (EW (rc F) p q k).1 (EW (rc F) p q k).2=1
 | 0=>h1
 | k+1=>Zg h ((Ex (rc F) p q k).within hpq).2.1 (LA h hpq h1 k)
theorem KE{p q:Rat}{E b k:Nat}(hpq:p < q)(hp:ab p<=2^b - 1)(hq:ab q<=2^b - 1){x y:Rat}(hn:Node p q k x y)(hk:E+b+1<=k):ab x<=2^b - 1/\ab y<=2^b - 1/\x < y/\(y - x)*2^E<=1:=by
 obtain⟨w1,w2,w3⟩:=hn.within hpq;obtain⟨p1,p2⟩:=EH.1 hp;obtain⟨q1,q2⟩:=EH.1 hq;refine⟨EH.2 ⟨Ad,Ad⟩,EH.2 ⟨Ad,Ad⟩,w2,?_⟩;have hw:=hn.width;obtain⟨r,rfl⟩:∃ r,k=E+(b+1)+r:=⟨k - (E+(b+1)),Aa⟩
 rw[De,De,Rat.pow_succ]at hw;have h1:=Nc r;have h2:=BS b;have h3:=BS E;have hd:0 < (y - x)*2^E:=Rat.mul_pos Ad h3;have e1:(y - x)*2^E*(2^b*2)*2^r<=1*(2^b*2):=by
  have:(y - x)*2^E*(2^b*2)*2^r=q - p:=by rw[<-hw];grind
  rw[this];grind
 have hd2:0<=(y - x)*2^E*(2^b*2):=Rat.mul_nonneg (Std.le_of_lt hd) Ad;have e2:(y - x)*2^E*(2^b*2)<=(y - x)*2^E*(2^b*2)*2^r:=by
  have:=Rat.mul_le_mul_of_nonneg_left h1 hd2;rw[Rat.mul_one]at this;exact this
 exact Rat.le_of_mul_le_mul_right (Std.le_trans e2 e1) Ad
structure PV(F:Nat->Rat):Prop where
 z:ZI F
 f:Ae F
 n0:F≠pz
 d:∀ E,SF E->Dv E F->∀ i,qsz (E i)<=5
theorem VI{D:Nat}(hD:D<=13):Mm 5 D 400<=1000000000:=by
 have hp:2^D<=8192:=Nat.le_trans (Nat.pow_le_pow_right Ab hD) Ab;have h1:(5+1)*2^D<=6*8192:=Nat.mul_le_mul Aa hp;have h2:(D+1)*((5+1)*2^D+1)<=14*49153:=Nat.mul_le_mul Aa Aa;have h5:I4 5 D 400<=75509000:=by unfold I4;omega
 have h6:D*I4 5 D 400<=13*75509000:=Nat.mul_le_mul hD h5;unfold Mm OC Va;omega
theorem Dy.nice{F:Nat->Rat}(h:Dy F):PV F:=⟨h.z,h.f,h.n0,fun E hE hd i=>by
 have hP:=AU.pp h.z h.f h.n0;have hpl:=DI h.z h.f;have h1:=PI hP.z hP.f hP.n hE.p.z hE.p.f (hP.zdv hE.p ((Db h.z h.f).2 hd)) (n:=7) (by rw[hpl];exact h.p) (P8 hP.z (Ov h.z h.f h.n0 h.b));have h2:(E i).num.natAbs<=7*(4095*7*15^7*15^7):=Om hE.p.z (fun i=>by
  refine Std.le_trans (h1 i) ?_;have e:(1:Rat)+2*((7:Nat):Rat)=((15:Nat):Rat):=by exact_mod_cast(rfl:1+2*7=15)
  rw[e,Gm];have:((7:Nat):Rat)*(((4095:Nat):Rat)*((7:Nat):Rat)*((15^7:Nat):Rat)*((15^7:Nat):Rat))=((7*(4095*7*15^7*15^7):Nat):Rat):=Mj 7 4095 7 _;rw[this];exact Std.le_refl _) i
 exact CZ hE.p.z Ab (Nat.lt_of_le_of_lt h2 (by decide +kernel))⟩
theorem PV.apart{F G:Nat->Rat}(hF:PV F)(hG:PV G)(hD:pl F+pl G<=13){x y:Rat}(hx:ab x<=2^400 - 1)(hy:ab y<=2^400 - 1)(hxy:x < y)(hd:(y - x)*2^1000000000<=1)(h1:rc (sqf F) x y=1)(h0:rc (sqf (BC F G)) x y=0):rc (sqf G) x y=0:=by
 have sF:=Bl hF.z hF.f hF.n0;have sG:=Bl hG.z hG.f hG.n0;rw[ZC hF.z hF.f hF.n0 hG.z hG.f hG.n0]at h0;obtain⟨U,V,sC,sU,sV,eW,eX,-,-,-,cUX,a1,a2⟩:=sF.meet sG;have b1:=a1 x y (Std.le_of_lt hxy);have dU:Dv U F:=Dv.trans ⟨BC (sqf F) (sqf G),sC.p.f,eW⟩ (Ea hF.z hF.f hF.n0);have dG:=Ea hG.z hG.f hG.n0;have pU:=Dv.le sU.p.f hF.f hF.n0 dU;have pG:=Dv.le sG.p.f hG.f hG.n0 dG;have hs:=VI (D:=pl U+pl (sqf G)) Aa
 have h2:=Ck (Lb hs) (show 0<=y - x by grind);rcases Cr.sep sU sG cUX (hF.d U sU dU) (hG.d _ sG dG) rfl hx hy hxy (Std.le_trans h2 hd)with e | e
 ·omega
 ·exact e
theorem PV.stop{F G:Nat->Rat}(hF:PV F)(hG:PV G)(hD:pl F+pl G<=13){p q:Rat}(hpq:p < q)(hp:ab p<=2^400 - 1)(hq:ab q<=2^400 - 1)(h1:rc (sqf F) p q=1)(h0:rc (sqf (BC F G)) p q=0) :
  ∃ K,K<=1000001000/\rc (sqf G) (EW (rc (sqf F)) p q K).1 (EW (rc (sqf F)) p q K).2=0/\∀ j,j < K->rc (sqf G) (EW (rc (sqf F)) p q j).1 (EW (rc (sqf F)) p q j).2≠0:=by
 have hx:∃ K,K<=1000001000/\rc (sqf G) (EW (rc (sqf F)) p q K).1 (EW (rc (sqf F)) p q K).2=0:=by
  obtain⟨M,hM⟩:∃ M,M=1000001000:=⟨_,rfl⟩
  refine⟨M,Aa,?_⟩;have hn:=Ex (rc (sqf F)) p q M;obtain⟨E,hE⟩:∃ E,E=1000000000:=⟨_,rfl⟩
  obtain⟨t1,t2,t3,t4⟩:=KE (E:=E) hpq hp hq hn Aa;rw[hE]at t4;have o:=LA (Bl hF.z hF.f hF.n0) hpq h1 M;obtain⟨w1,w2,w3⟩:=hn.within hpq;have kC:=Dn hF.f hG.f hF.z hG.z;have sC:=Bl kC.2.1 kC.1 (G6 hF.z hF.f hG.z hG.f hF.n0);have c1:=sC.sub w1 (Std.le_of_lt w2) w3;have c2:=sC.nonneg (Std.le_of_lt w2);exact hF.apart hG hD t1 t2 t3 t4 o Aa
 obtain⟨K,hK,e⟩:=hx;induction K using Nat.strongRecOn with
 | _ K ih =>
  by_cases hj:∃ j,j < K/\rc (sqf G) (EW (rc (sqf F)) p q j).1 (EW (rc (sqf F)) p q j).2=0
  ·obtain⟨j,h1,h2⟩:=hj
   exact ih j h1 Aa h2
  ·exact⟨K,hK,e,fun j hj' he=>hj ⟨j,hj',he⟩⟩
theorem PP.upd{base:Nat}{G:List Nat}{t:TypeId}{w w':World}{v:Value}{W:Nat->Rat}(h:PP base t w v W)(U:Cc G w w')(hG:∀ g∈G,g < base):PP base t w' v W:=by
 obtain⟨c,us,K,h1,h2,h3,h4⟩:=h;refine⟨c,us,K,h1,h2,h3,?_⟩;have hb:=BB.blk_ge h4.out;have hne:∀ g'∈blk c,g'∉G:=fun g' hg' hm=>by
  have:=hb g' hg';have:=hG g' hm;omega
 refine⟨BB.upd h4.out U hne fun _ _ q=>q,h4.len,fun g' hg' i c hc=>?_,fun i a b=>(h4.el i a b).upd U hG⟩;obtain⟨o,ho⟩:∃ o,w.heap[g']? = some o:=⟨_,Array.getElem?_eq_getElem (hb g' hg').2⟩
 have hk:=U.1 g' o (hne g' hg') ho;rw[World.cell?_of_block (hk.trans ho.symm)]at hc;exact h4.nb g' hg' i c hc
def d9(w:World)(g:Nat)(t:TypeId)(p q:Rat):Prop:=∃ b1 A1 n1 c1 b2 A2 n2 c2 b3 A3 n3 c3 b4 A4 n4 c4,Ba w g t #[.bool b1,.slice A1 n1 c1,.bool b2,.slice A2 n2 c2,.bool b3,.slice A3 n3 c3,.bool b4,.slice A4 n4 c4]/\Ce w (.agg #[.bool b1,.slice A1 n1 c1,.bool b2,.slice A2 n2 c2]) p/\Ce w (.agg #[.bool b3,.slice A3 n3 c3,.bool b4,.slice A4 n4 c4]) q
theorem Bj.inj{w:World}{v:Value}{x y:Int}(h:Bj w v x)(k:Bj w v y):x=y:=by
 obtain⟨n,ds,⟨s,rfl,hd⟩,rfl,-⟩:=h;obtain⟨m,es,⟨t,e,he⟩,rfl,-⟩:=k;cases e;rw[hd.uniq he]
theorem Ce.inj{w:World}{v:Value}{p q:Rat}(h:Ce w v p)(k:Ce w v q):p=q:=by
 obtain⟨b,A,n,c,b',A',n',c',x,y,rfl,h1,h2,-,-,rfl⟩:=h;obtain⟨d,B,m,e,d',B',m',e',x',y',k0,k1,k2,-,-,rfl⟩:=k;cases k0;rw[h1.inj k1,h2.inj k2]
theorem d9.inj{w:World}{g:Nat}{t:TypeId}{p q p' q':Rat}(h:d9 w g t p q)(k:d9 w g t p' q'):p=p'/\q=q':=by
 obtain⟨b1,A1,n1,c1,b2,A2,n2,c2,b3,A3,n3,c3,b4,A4,n4,c4,h1,h2,h3⟩:=h;obtain⟨d1,B1,m1,e1,d2,B2,m2,e2,d3,B3,m3,e3,d4,B4,m4,e4,k1,k2,k3⟩:=k;have e:=h1.1.symm.trans k1.1;cases e;exact⟨h2.inj k2,h3.inj k3⟩
def L9(F G:Nat->Rat)(p q:Rat)(s:Int):Prop:=(G=pz/\s=0)\/(G≠pz/\rc (sqf (BC F G)) p q=1/\s=0) \/
 (G≠pz/\rc (sqf (BC F G)) p q≠1/\∃ K,rc (sqf G) (EW (rc (sqf F)) p q K).1 (EW (rc (sqf F)) p q K).2=0/\(∀ j,j < K->rc (sqf G) (EW (rc (sqf F)) p q j).1 (EW (rc (sqf F)) p q j).2≠0)/\s=KV (ev G (EW (rc (sqf F)) p q K).2))
theorem L9.uniq{F G:Nat->Rat}{p q:Rat}{s s':Int}(h:L9 F G p q s)(k:L9 F G p q s'):s=s':=by
 rcases h with⟨a,b⟩ | ⟨a,b,c⟩ | ⟨a,b,K,c,d,e⟩<;>rcases k with⟨a',b'⟩ | ⟨a',b',c'⟩ | ⟨a',b',K',c',d',e'⟩
 ·rw[b,b']
 ·exact absurd a a'
 ·exact absurd a a'
 ·exact absurd a' a
 ·rw[c,c']
 ·exact absurd b b'
 ·exact absurd a' a
 ·exact absurd b' b
 ·rcases Nat.lt_trichotomy K K' with z | z | z
  ·exact absurd c (d' K z)
  ·subst z;rw[e,e']
  ·exact absurd c' (d K' z)
def Rm(F:Nat->Rat):Prop:=∃ D M,Pg F D M/\D<=20
def VH(x y:Rat):Rat:=if x < y then y else x
def Vr(x y:Rat):Rat:=if y < x then y else x
def Stp(C:Nat->Rat)(a b:Rat×Rat)(s:Int):Prop:=(a.2<=b.1/\s = -1)\/(¬ a.2<=b.1/\b.2<=a.1/\s=1)\/(¬ a.2<=b.1/\¬ b.2<=a.1/\rc (sqf C) (VH a.1 b.1) (Vr a.2 b.2)=1/\s=0)
def aO(F G:Nat->Rat)(p q p' q':Rat)(s:Int):Prop:=∃ K,Stp (BC F G) (EW (rc (sqf F)) p q K) (EW (rc (sqf G)) p' q' K) s/\∀ j,j < K->∀ s',¬ Stp (BC F G) (EW (rc (sqf F)) p q j) (EW (rc (sqf G)) p' q' j) s'
structure kJ(w:World)(v:Value)(P:Rat×Rat):Prop where
 out:Qv w v P.1 P.2
theorem kJ.ext{w w':World}{v:Value}{P:Rat×Rat}(h:kJ w v P)(e:Ext w w'):kJ w' v P:=⟨h.out.ext e⟩
theorem Ko.one{w:World}{cs:Array Value}{p q:Rat}(h:Ko w (.agg cs) p q):∃ b1 A1 n1 c1 b2 A2 n2 c2 b3 A3 n3 c3 b4 A4 n4 c4,cs=#[.bool b1,.slice A1 n1 c1,.bool b2,.slice A2 n2 c2,.bool b3,.slice A3 n3 c3,.bool b4,.slice A4 n4 c4]:=by
 obtain⟨b1,A1,n1,c1,b2,A2,n2,c2,b3,A3,n3,c3,b4,A4,n4,c4,h1⟩:=h.cells;injection h1 with h1;exact⟨_,_,_,_,_,_,_,_,_,_,_,_,_,_,_,_,h1⟩
theorem EZ.at_{base n c:Nat}{e:TypeId}{w:World}{A:Option Addr}{l:List (Rat×Rat)}(h:EZ base e w (.slice A n c) l){j:Nat}(hj:j < l.length) :
  ∃ g o b1 A1 n1 c1 b2 A2 n2 c2 b3 A3 n3 c3 b4 A4 n4 c4,A=some ⟨g,o,none⟩/\w.cell? ⟨g,o+j*8,none⟩=some (.bool b1)/\w.cell? ⟨g,o+j*8+1,none⟩=some (.slice A1 n1 c1)/\w.cell? ⟨g,o+j*8+2,none⟩=some (.bool b2)/\w.cell? ⟨g,o+j*8+3,none⟩=some (.slice A2 n2 c2) /\
   w.cell? ⟨g,o+j*8+4,none⟩=some (.bool b3)/\w.cell? ⟨g,o+j*8+5,none⟩=some (.slice A3 n3 c3)/\w.cell? ⟨g,o+j*8+6,none⟩=some (.bool b4)/\w.cell? ⟨g,o+j*8+7,none⟩=some (.slice A4 n4 c4) /\
   Ko w (.agg #[.bool b1,.slice A1 n1 c1,.bool b2,.slice A2 n2 c2,.bool b3,.slice A3 n3 c3,.bool b4,.slice A4 n4 c4]) l[j].1 l[j].2:=by
 obtain⟨A',c',e1,-,-,hA⟩:=BB.row h;have eA:A'=A:=by injection e1 with h1;exact h1.symm
 subst eA;obtain⟨g,o,ha,hb,hc⟩:=hA Aa;obtain⟨cs,q1,q2,q3⟩:=hc j hj;obtain⟨b1,A1,n1,c1,b2,A2,n2,c2,b3,A3,n3,c3,b4,A4,n4,c4,rfl⟩:=Ko.one q3;refine⟨g,o,b1,A1,n1,c1,b2,A2,n2,c2,b3,A3,n3,c3,b4,A4,n4,c4,ha,?_,?_,?_,?_,?_,?_,?_,?_,q3⟩
 ·exact q2 0 Ab
 ·exact q2 1 Ab
 ·exact q2 2 Ab
 ·exact q2 3 Ab
 ·exact q2 4 Ab
 ·exact q2 5 Ab
 ·exact q2 6 Ab
 ·exact q2 7 Ab
def LX(w:World)(g:Nat)(vs:List (Value×List Int)):Prop:=∀ j (h:j < vs.length),w.cell? ⟨g,j,none⟩=some vs[j].1/\Gd 0 w vs[j].1 vs[j].2
theorem LX.ext{w w':World}{g:Nat}{vs:List (Value×List Int)}(h:LX w g vs)(e:Ext w w'):LX w' g vs:=fun j hj=>⟨e.cell (h j hj).1,(h j hj).2.ext e⟩
def PL(m:List Int):Prop:=m.length<=12/\pl (cz m)<=7/\∀ i,(cz m i).num.natAbs<=4095
def bX(vs:List (Value×List Int))(r:Value):Prop:=∃ b:Bool,r = .bool b/\(b=true->∀ p∈vs,PL p.2)
theorem PL.lite{m:List Int}(h:PL m)(h0:cz m≠pz):Dy (cz m):=⟨ZI.cz m,Ae.cz m,h0,h.2.1,h.2.2⟩
theorem Sb(w:World)(t:TypeId){v:Value}{l:List Int}(h:Gd 0 w v l){g:Nat}(hg:g=w.heap.size):LX (w.alloc (.cells #[v] t)) g [(v,l)]:=by
 subst hg;intro j hj;obtain rfl:j=0:=by simpa using hj
 exact⟨by rw[cell_of_row _ w.heap.size 0 _ t (0,0) (heap_alloc_new w _)];rfl,h.ext ((Ext.refl w).alloc _)⟩
def Rz(l:List Jy):Prop:=l.length<=1048576/\∀ x∈l,x.2.length<=1048576
theorem Dy.chnF{F:Nat->Rat}(h:Dy F):J9 F 1 (pl F+pl (pd F)) 16384:=by
 have h3:=Ht h.f;have h4:=AL h.f h.n0;have hD:pl F+pl (pd F)<=13:=by have:=h.p;omega
 have hp:2^(pl F+pl (pd F))<=2^13:=Nat.pow_le_pow_right Ab hD;have hm:(pl F+pl (pd F)+1)*(16384+1)<=14*16385:=Nat.mul_le_mul_right _ Aa;exact J9.of2 h.z h.f h.q (fun i=>CZ (Dt h.z) Ab (Nat.lt_of_le_of_lt (M4 h.z h.f (n:=6) (by have:=h.p;omega) h.b i) Ab)) rfl Aa Aa Aa
theorem Dy.k{F:Nat->Rat}(h:Dy F):Ow F (pd F) (kn F)/\kn F<=8:=by
 obtain⟨K,q1,q2⟩:=Gl h.f (Bd h.f) h.z (Dt h.z) h.chnF.s h.chnF.d;rw[q1.kn];have h3:=Ht h.f;have:=h.p;exact⟨q1,Aa⟩
theorem rc_all{F:Nat->Rat}(z:ZI F)(f:Ae F)(h0:F≠pz){p q:Rat}(hpq:p<=q):rc (sqf F) p q<=rc (sqf F) (-(2:Rat)^bx F) ((2:Rat)^bx F):=by
 obtain⟨Q,fQ,e⟩:=Ea z f h0;have hb:=(jC F).1;have hld:=CV f h0;have hpos:=SQ.2 hld;have hc:∀ i,i < pl F - 1->ab (F i)<=ab (ld F)*((2:Rat)^bx F - 1):=fun i hi=>by
  have h1:=XE F hi;have e1:F i=ld F*(F i / ld F):=by grind
  have e2:ab (F i)=ab (ld F)*ab (F i / ld F):=by rw[<-BU,<-e1]
  rw[e2];exact Rat.mul_le_mul_of_nonneg_left Ad (Aj _)
 have h1:(1:Rat)<=(2:Rat)^bx F:=by have:=FK F (pl F - 1);grind
 have:=(Bl z f h0).st.total f h0 fQ e h1 hc hpq;unfold rc rt;omega
theorem Dy.rc_all{F:Nat->Rat}(h:Dy F){p q:Rat}(hpq:p<=q):rc (sqf F) p q<=rc (sqf F) (-(2:Rat)^bx F) ((2:Rat)^bx F):=Hp.rc_all h.z h.f h.n0 hpq
def B7:Nat:=7*(4095*7*15^7*15^7)
theorem Dy.div{F E:Nat->Rat}(h:Dy F)(hE:AU E)(hd:Dv E F)(i:Nat):(E i).num.natAbs<=B7:=by
 have hP:=AU.pp h.z h.f h.n0;have hpl:=DI h.z h.f;have h1:=PI hP.z hP.f hP.n hE.z hE.f (hP.zdv hE ((Db h.z h.f).2 hd)) (n:=7) (by rw[hpl];exact h.p) (P8 hP.z (Ov h.z h.f h.n0 h.b));refine Om hE.z (fun i=>?_) i;refine Std.le_trans (h1 i) ?_;have e:(1:Rat)+2*((7:Nat):Rat)=((15:Nat):Rat):=by exact_mod_cast(rfl:1+2*7=15)
 rw[e,Gm];have:((7:Nat):Rat)*(((4095:Nat):Rat)*((7:Nat):Rat)*((15^7:Nat):Rat)*((15^7:Nat):Rat))=((7*(4095*7*15^7*15^7):Nat):Rat):=Mj 7 4095 7 _;rw[this];exact Std.le_refl _
structure Mid(F:Nat->Rat):Prop where
 z:ZI F
 f:Ae F
 n0:F≠pz
 p:pl F<=7
 c:cn F<=4095
 d:∀ E,AU E->Dv E F->∀ i,(E i).num.natAbs<=B7
theorem Dy.cnt{F:Nat->Rat}(h:Dy F):cn F<=4095:=by
 have hp:=AL h.f h.n0;have ht:=EA h.f hp;have hd:=FH h.f (pl F - 1);have hn:(F (pl F - 1)).num≠0:=fun e=>ht (by rw[h.z.num,e];rfl);have h1:Hp.cn F<=(F (pl F - 1)).num.natAbs:=Nat.le_of_dvd Aa (by have:=Int.natAbs_dvd_natAbs.2 hd;simpa using this);exact Nat.le_trans h1 (h.b _)
theorem Dy.mid{F:Nat->Rat}(h:Dy F):Mid F:=⟨h.z,h.f,h.n0,h.p,h.cnt,fun _ a b=>h.div a b⟩
theorem Lm{F G:Nat->Rat}(zF:ZI F)(fF:Ae F)(zG:ZI G)(fG:Ae G):Dv (BC F G) F:=(FQ _).trans (Dn fF fG zF zG).2.2.2.2.2.2.1
theorem Mid.gcd{F G:Nat->Rat}(h:Mid F)(zG:ZI G)(fG:Ae G):Mid (BC F G):=by
 have k:=Dn h.f fG h.z zG;have hd:=Lm h.z h.f zG fG;refine⟨k.2.1,k.1,G6 h.z h.f zG fG h.n0,Nat.le_trans (Dv.le k.1 h.f h.n0 hd) h.p,?_,fun E a b=>h.d E a (b.trans hd)⟩;rw[k.2.2.2.1];exact Nat.le_trans (Nat.le_of_dvd (Nat.pos_of_ne_zero (Im h.z h.f h.n0)) (Nat.gcd_dvd_left _ _)) h.c
theorem Mid.ppn{F:Nat->Rat}(h:Mid F)(i:Nat):(pp F i).num.natAbs<=B7:=h.d _ (AU.pp h.z h.f h.n0) ((Db h.z h.f).1 (Dv.refl _)) i
theorem Mid.coef{F:Nat->Rat}(h:Mid F)(i:Nat):(F i).num.natAbs<=4095*B7:=by
 have e:(F i).num=pcn F*(pp F i).num:=by
  have h1:=Mk h.z h.f h.n0 i;have h2:(pp F i).num=(F i).num / pcn F:=by rw[h1];rfl
  rw[h2,Int.mul_ediv_cancel' (IV h.f i)]
 rw[e,Int.natAbs_mul,F8];exact Nat.mul_le_mul h.c (h.ppn i)
theorem Mid.q{F:Nat->Rat}(h:Mid F)(i:Nat):qsz (F i)<=3:=CZ h.z Ab (Nat.lt_of_le_of_lt (h.coef i) (by decide +kernel))
theorem Mid.sqn{F:Nat->Rat}(h:Mid F)(i:Nat):(sqf F i).num.natAbs<=B7:=h.d _ (Bl h.z h.f h.n0).p (Ea h.z h.f h.n0) i
theorem Mid.chn{F:Nat->Rat}(h:Mid F):J9 (sqf F) 3 (pl (sqf F)+pl (pd (sqf F))) 32768/\pl (sqf F)+pl (pd (sqf F))<=13:=by
 have h1:=h.sqn;have h2:=Nat.le_trans (cO h.z h.f h.n0) h.p;have hS:=Bl h.z h.f h.n0;have h3:=Ht hS.p.f;have h4:=AL hS.p.f hS.p.n;have hD:pl (sqf F)+pl (pd (sqf F))<=13:=by omega
 have hp:2^(pl (sqf F)+pl (pd (sqf F)))<=2^13:=Nat.pow_le_pow_right Ab hD;have hm:(pl (sqf F)+pl (pd (sqf F))+1)*(32768+1)<=14*32769:=Nat.mul_le_mul_right _ Aa;refine⟨J9.of2 hS.p.z hS.p.f (fun i=>CZ hS.p.z Ab (Nat.lt_of_le_of_lt (h1 i) (by decide +kernel))) (fun i=>CZ (Dt hS.p.z) Ab (Nat.lt_of_le_of_lt (M4 hS.p.z hS.p.f (n:=6) Aa h1 i) (by decide +kernel))) rfl Aa Aa Aa,hD⟩
theorem Mid.sim{F:Nat->Rat}(h:Mid F):Sa F 3 7 32768 36000:=by
 have hP:=AU.pp h.z h.f h.n0;have hpl:=DI h.z h.f;have hpn:=h.ppn;exact⟨h.z,h.f,h.n0,h.q,fun i=>CZ (Dt hP.z) Ab (Nat.lt_of_le_of_lt (M4 hP.z hP.f (n:=6) (by rw[hpl];exact h.p) hpn i) (by decide +kernel)),
  fun i=>UC hP (n:=7) (s:=3) (by rw[hpl];exact h.p) Ab (fun i=>CZ hP.z Ab (Nat.lt_of_le_of_lt (hpn i) (by decide +kernel))) Ab i,h.p,Ab,Ab,Ab,Ab⟩
theorem Mid.err{F:Nat->Rat}(h:Mid F):D8 F=0:=by
 refine LF h.n0 (by have:=h.p;omega) fun⟨i,b,h1,h2⟩=>?_;have:=h1.le (m:=96) (Nat.lt_of_le_of_lt (h.coef i) (by decide +kernel));omega
theorem Mid.pg{F:Nat->Rat}(h:Mid F):Pg F (pl (sqf F)+pl (pd (sqf F))) 32768:=
 ⟨h.z,h.f,h.n0,h.err,fun i=>Nat.le_trans (h.q i) Ab,by have:=h.p;omega,⟨3,7,32768,36000,h.sim⟩,⟨3,h.chn.1⟩⟩
theorem Mid.nice{F:Nat->Rat}(h:Mid F):PV F:=⟨h.z,h.f,h.n0,fun E hE hd i=>CZ hE.p.z Ab (Nat.lt_of_le_of_lt (h.d E hE.p hd i) (by decide +kernel))⟩
theorem Ku{F G:Nat->Rat}(hF:Mid F)(zG:ZI G)(fG:Ae G){p q:Rat}(hpq:p<=q):0<=rc (sqf (BC F G)) p q/\rc (sqf (BC F G)) p q<=rc (sqf F) p q:=by
 have hC:=hF.gcd zG fG;have sC:=Bl hC.z hC.f hC.n0;have sF:=Bl hF.z hF.f hF.n0;exact⟨sC.nonneg hpq,sF.rc_le sC.p (ED hF.z hF.f hF.n0 sC ((Ea hC.z hC.f hC.n0).trans (Lm hF.z hF.f zG fG))) hpq⟩
theorem Y7{p q:Rat}(hpq:p < q):∀(n:Nat) {P:Nat->Rat},AU P->pl P<=n->rc (y0 P) p q=0->∀ x y,p < x->x<=y->y<=q->ev P x≠0/\AX (ev P y)=AX (ev P x):=by
 intro n;induction n with
 | zero=>intro P hP hn;have:=hP.pos;omega
 | succ n ih =>
  intro P hP hn h0 x y hx hxy hy;obtain⟨hC,hW,e,-,-⟩:=Ch hP;obtain⟨N,hN⟩:=MW hP;have sW:=L6 hP;obtain⟨a1,a2⟩:=sW.free h0 hx hxy hy;by_cases h1:pl (yc P)<=1
  ·have e1:=hC.one h1
   have e2:P=y0 P:=by
    conv=>lhs;rw[e,e1,Av,Br]
   rw[e2];exact⟨a1,a2⟩
  ·have hl:pl (yc P)<=n:=by
    have h2:=Du hW.f hC.f hW.n hC.n;rw[<-e]at h2;have h3:1 < pl (y0 P):=by
     rcases Nat.lt_or_ge 1 (pl (y0 P))with z | z
     ·exact z
     ·exfalso
      rw[hW.one z,JL]at hN;have h4:=Dv.le hC.f CE (fun e=>by have:=EN.pos;rw[e,BR]at this;omega) hN;have h5:pl pone<=1:=BD CP;omega
    omega
   have sE:=L6 hC;obtain⟨gC,gW,eC,-,-⟩:=Ch hC;have d1:Dv (y0 (yc P)) P:=by
    refine Dv.trans (E:=yc P) ⟨yc (yc P),gC.f,?_⟩ ⟨y0 P,hW.f,e⟩
    conv=>lhs;rw[eC,Av]
   have d2:=OE sE hP d1;have r1:=sW.rc_le sE.p d2 (Std.le_of_lt hpq);have r2:=sE.nonneg (Std.le_of_lt hpq);obtain⟨b1,b2⟩:=ih hC hl Aa x y hx hxy hy;have ee:∀ z,ev P z=ev (y0 P) z*ev (yc P) z:=fun z=>by
    conv=>lhs;rw[e]
    exact Cy hW.f hC.f z
   rw[ee,ee];refine⟨fun h=>?_,?_⟩
   ·rcases Rat.mul_eq_zero.1 h with z | z
    ·exact a1 z
    ·exact b1 z
   ·rw[Cs,Cs,a2,b2]
theorem QA{F:Nat->Rat}(z:ZI F)(f:Ae F)(n0:F≠pz){p q:Rat}(hpq:p < q)(h0:rc (sqf F) p q=0){x y:Rat}(hx:p < x)(hxy:x<=y)(hy:y<=q):ev F x≠0/\KV (ev F y)=KV (ev F x):=by
 have hP:=AU.pp z f n0;obtain⟨a1,a2⟩:=Y7 hpq _ hP (Nat.le_refl _) h0 x y hx hxy hy;have hn:(1:Rat) / (pcn F:Rat)≠0:=Jn (by have:=Dl z f n0;exact_mod_cast this);have e:∀ t,ev (pp F) t=(1:Rat) / (pcn F:Rat)*ev F t:=fun t=>DX _ f t;rw[e]at a1;rw[e,e,Cs,Cs]at a2;rw[En,En];exact⟨fun h=>a1 (by rw[h,Rat.mul_zero]),Int.eq_of_mul_eq_mul_left (DC hn) a2⟩
theorem aT{F G:Nat->Rat}(f:Ae F)(g:Ae G)(n:F≠pz)(m:G≠pz):cv F G≠pz:=fun e=>by
 have h:=Du f g n m;have h1:=AL f n;have h2:=AL g m;rw[e,BR]at h;omega
theorem Z7{G H:Nat->Rat}(zG:ZI G)(fG:Ae G)(nG:G≠pz)(zH:ZI H)(fH:Ae H)(nH:H≠pz){p q:Rat}(hpq:p<=q)(h1:rc (sqf G) p q=0)(h2:rc (sqf H) p q=0):rc (sqf (cv G H)) p q=0:=by
 have zP:=zG.cv zH;have fP:=fG.cv fH;have nP:=aT fG fH nG nH;have sW:=Bl zP fP nP;have sX:=Bl zG fG nG;have sH:=Bl zH fH nH;obtain⟨U,V,sC,sU,sV,eW,eX,cCU,-,-,cUX,-⟩:=sW.meet sX;have hP:=AU.pp zG fG nG;obtain⟨hC,hW,e,-,-⟩:=Ch hP;obtain⟨N,Q,fQ,eQ⟩:=MW hP;have dG:Dv G (pw (sqf G) (N+1)):=by
  refine Dv.trans ((Db zG fG).2 (Dv.refl G)) ⟨Q,fQ,?_⟩;show cv (pw (y0 (pp G)) N) (y0 (pp G))=cv Q (pp G);rw[eQ,Ag];congr 1;rw[Av,<-e]
 have dU:Dv U (cv G H):=Dv.trans ⟨BC (sqf (cv G H)) (sqf G),sC.p.f,eW⟩ (Ea zP fP nP);have dU2:Dv U (cv (pw (sqf G) (N+1)) H):=by
  obtain⟨R,fR,eR⟩:=dG;refine dU.trans ⟨R,fR,?_⟩;rw[eR,Ag]
 have fpw:=GN sX.p.f (N+1);have cU:=Cr.pw sU.p.f sX.p.f cUX (N+1);have dUH:=cU.euclid fH dU2;have hr:=SF.mul sC sU (by rw[<-eW];exact sW) cCU hpq;rw[<-eW]at hr;have r1:=sX.rc_le sC.p ⟨V,sV.p.f,by rw[Av];exact eX⟩ hpq;have r2:=sH.rc_le sU.p (ED zH fH nH sU dUH) hpq;have r3:=sC.nonneg hpq;have r4:=sU.nonneg hpq;omega
theorem TM(R:Rat->Rat->Int)(p q:Rat)(k:Nat):∀ d,EW R p q (k+d)=EW R (EW R p q k).1 (EW R p q k).2 d
 | 0=>rfl
 | d+1=>by
  show hfp R (EW R p q (k+d))=hfp R (EW R (EW R p q k).1 (EW R p q k).2 d);rw[TM R p q k d]
theorem OT{R:Rat->Rat->Int}{p q:Rat}(hpq:p < q){k n:Nat}(h:k<=n):(EW R p q k).1<=(EW R p q n).1/\(EW R p q n).1 < (EW R p q n).2/\(EW R p q n).2<=(EW R p q k).2:=by
 obtain⟨d,rfl⟩:∃ d,n=k+d:=⟨n - k,Aa⟩
 rw[TM];exact(Ex R _ _ d).within ((Ex R p q k).within hpq).2.1
theorem OM{W C:Nat->Rat}(sW:SF W)(hc:∀ x y,x<=y->0<=rc C x y/\rc C x y<=rc W x y){p q:Rat}(hpq:p < q)(h1:rc W p q=1)(hC:rc C p q=1):∀ k,rc C (EW (rc W) p q k).1 (EW (rc W) p q k).2=1
 | 0=>hC
 | k+1=>by
  have ih:=OM sW hc hpq h1 hC k;have ho:=LA sW hpq h1 k;have hw:=((Ex (rc W) p q k).within hpq).2.1;show rc C (hfp (rc W) (EW (rc W) p q k)).1 (hfp (rc W) (EW (rc W) p q k)).2=1;obtain⟨c,hce⟩:∃ c,c=EW (rc W) p q k:=⟨_,rfl⟩
  rw[<-hce]at ih ho hw ⊢;have a1:=Bb C c.1 ((c.1+c.2) / 2) c.2;have a2:=Bb W c.1 ((c.1+c.2) / 2) c.2;have b1:=hc c.1 ((c.1+c.2) / 2) Ad;have b2:=hc ((c.1+c.2) / 2) c.2 Ad;unfold hfp
  split
  ·show rc C c.1 ((c.1+c.2) / 2)=1
   omega
  ·show rc C ((c.1+c.2) / 2) c.2=1
   omega
theorem TG{F G H:Nat->Rat}(zF:ZI F)(fF:Ae F)(nF:F≠pz)(zG:ZI G)(fG:Ae G)(zH:ZI H)(fH:Ae H)(hd:Dv G H){p q:Rat}(hpq:p<=q):rc (sqf (BC F G)) p q<=rc (sqf (BC F H)) p q:=by
 have k1:=Dn fF fG zF zG;have k2:=Dn fF fH zF zH;have n1:=G6 zF fF zG fG nF;have n2:=G6 zF fF zH fH nF;have s1:=Bl k1.2.1 k1.1 n1;have s2:=Bl k2.2.1 k2.1 n2;refine s2.rc_le s1.p (ED k2.2.1 k2.1 n2 s1 ?_) hpq;have d0:=Ea k1.2.1 k1.1 n1;have d1:=d0.trans (Lm zF fF zG fG);have d2:=d0.trans ((FQ _).trans k1.2.2.2.2.2.2.2.1) |>.trans hd
 exact(k2.2.2.2.2.2.2.2.2 _ s1.p.f d1 d2).trans (FV k2.1)
theorem L9.mul{F G H:Nat->Rat}(hF:Mid F)(zG:ZI G)(fG:Ae G)(zH:ZI H)(fH:Ae H){p q:Rat}(hpq:p < q)(h1:rc (sqf F) p q=1){s t u:Int}(hs:L9 F G p q s)(ht:L9 F H p q t)(hu:L9 F (cv G H) p q u):u=s*t:=by
 have sF:=Bl hF.z hF.f hF.n0;have z0:∀ {u:Int},L9 F pz p q u->u=0:=fun {u} h=>by
  rcases h with⟨_,b⟩ | ⟨a,_,_⟩ | ⟨a,_⟩
  ·exact b
  ·exact absurd rfl a
  ·exact absurd rfl a
 by_cases nG:G=pz
 ·subst nG
  rw[Cn]at hu;rw[z0 hs,z0 hu,Int.zero_mul]
 by_cases nH:H=pz
 ·subst nH
  rw[JY]at hu;rw[z0 ht,z0 hu,Int.mul_zero]
 have zP:=zG.cv zH;have fP:=fG.cv fH;have nP:=aT fG fH nG nH;have dG:Dv G (cv G H):=⟨H,fH,Av G H⟩
 have dH:Dv H (cv G H):=⟨G,fG,rfl⟩
 have le:=Std.le_of_lt hpq;have gG:=Ku hF zG fG le;have gH:=Ku hF zH fH le;have gP:=Ku hF zP fP le;rw[h1]at gG gH gP;have cG:=TG hF.z hF.f hF.n0 zG fG zP fP dG le;have cH:=TG hF.z hF.f hF.n0 zH fH zP fP dH le;rcases hu with⟨a,-⟩ | ⟨-,b,rfl⟩ | ⟨-,b,K,k1,-,rfl⟩
 ·exact absurd a nP
 ·rcases hs with⟨a,-⟩ | ⟨-,-,rfl⟩ | ⟨-,bG,K1,r1,-,rfl⟩
  ·exact absurd a nG
  ·rw[Int.zero_mul]
  rcases ht with⟨a,-⟩ | ⟨-,-,rfl⟩ | ⟨-,bH,K2,r2,-,rfl⟩
  ·exact absurd a nH
  ·rw[Int.mul_zero]
  exfalso;obtain⟨K,hK⟩:∃ K,K=max K1 K2:=⟨_,rfl⟩
  obtain⟨w1,w2,w3⟩:=OT (R:=rc (sqf F)) hpq (show K1<=K by omega);obtain⟨v1,v2,v3⟩:=OT (R:=rc (sqf F)) hpq (show K2<=K by omega);have sG:=Bl zG fG nG;have sH:=Bl zH fH nH;have e1:=sG.sub w1 (Std.le_of_lt w2) w3;have e2:=sH.sub v1 (Std.le_of_lt v2) v3;have e3:=sG.nonneg (Std.le_of_lt w2);have e4:=sH.nonneg (Std.le_of_lt w2);have e5:=Z7 zG fG nG zH fH nH (Std.le_of_lt w2) Aa Aa;have kC:=Dn hF.f fP hF.z zP
  have nC:=G6 hF.z hF.f zP fP hF.n0;have sC:=Bl kC.2.1 kC.1 nC;have sP:=Bl zP fP nP;have e6:=OM sF (fun x y hxy=>Ku hF zP fP hxy) hpq h1 b K;have e7:=sP.rc_le sC.p (ED zP fP nP sC ((Ea kC.2.1 kC.1 nC).trans ((FQ _).trans kC.2.2.2.2.2.2.2.1))) (Std.le_of_lt w2);omega
 ·rcases hs with⟨a,-⟩ | ⟨-,bG,-⟩ | ⟨-,bG,K1,r1,-,rfl⟩
  ·exact absurd a nG
  ·omega
  rcases ht with⟨a,-⟩ | ⟨-,bH,-⟩ | ⟨-,bH,K2,r2,-,rfl⟩
  ·exact absurd a nH
  ·omega
  obtain⟨n,hn⟩:∃ n,n=max K (max K1 K2):=⟨_,rfl⟩
  have key:∀(E:Nat->Rat) (k:Nat),ZI E->Ae E->E≠pz->k<=n->rc (sqf E) (EW (rc (sqf F)) p q k).1 (EW (rc (sqf F)) p q k).2=0->KV (ev E (EW (rc (sqf F)) p q k).2)=KV (ev E (EW (rc (sqf F)) p q n).2):=fun E k zE fE nE hk h0=>by
   obtain⟨w1,w2,w3⟩:=OT (R:=rc (sqf F)) hpq hk;have w0:=((Ex (rc (sqf F)) p q k).within hpq).2.1;exact(QA zE fE nE w0 h0 (x:=(EW (rc (sqf F)) p q n).2) Ad w3 (Std.le_refl _)).2
  rw[key _ K zP fP nP Aa k1,key G K1 zG fG nG Aa r1,key H K2 zH fH nH Aa r2,Cy fG fH,En,En,En,Cs]
theorem Cr.plus{A X Y:Nat->Rat}(fA:Ae A)(fY:Ae Y)(c:Cr A X):Cr A (pad X (cv A Y)):=by
 obtain⟨U,V,fU,fV,h⟩:=c;refine⟨pad U (psc (-1) (cv V Y)),V,fU.pad ((fV.cv fY).psc _),fV,?_⟩;rw[<-h,CG,Ez,Cv,Ag,Av Y A,<-Ag]
 funext i
 simp only[pad,psc];grind
theorem SF.cv{A B:Nat->Rat}(hA:SF A)(hB:SF B)(c:Cr A B):SF (cv A B):=by
 refine⟨hA.p.mul hB.p,?_⟩;have fA:=hA.p.f;have fB:=hB.p.f;have dA:=Bd fA;have dB:=Bd fB;have e:=Ji A B;have fP:=fA.cv fB;have fD:Ae (pd (Hp.cv A B)):=Bd fP;have c1:Cr A (pd (Hp.cv A B)):=by
  rw[e];exact Cr.plus fA dB (Cr.mul fA dA fB hA.c c)
 have c2:Cr B (pd (Hp.cv A B)):=by
  rw[e];have h:=Cr.plus fB dA (Cr.mul fB dB fA hB.c c.symm);have e2:pad (Hp.cv (pd B) A) (Hp.cv B (pd A))=pad (Hp.cv (pd A) B) (Hp.cv A (pd B)):=by
   rw[Av (pd B) A,Av B (pd A)]
   funext i
   show _+_=_+_;exact Rat.add_comm _ _
  rw[e2]at h;exact h
 exact(Cr.mul fD fA fB c1.symm c2.symm).symm
theorem jR{E W:Nat->Rat}(hE:SF E)(hW:SF W){n:Nat}(h:Dv E (pw W n)):Dv E W:=by
 obtain⟨hH,z1,z2,d1,d2,-⟩:=hE.p.gcd hW.p.z hW.p.f;obtain⟨f1,f2,f3,f4⟩:=hE.factor hH z1;have h2:Cr (pq E (BC E W)) W:=by
  refine Cr.of_gcd f2.p hW.p.z hW.p.f ?_;obtain⟨kG,-,-,g1,g2,-⟩:=f2.p.gcd hW.p.z hW.p.f;have g3:Dv (BC (pq E (BC E W)) W) E:=g1.trans ⟨BC E W,hH.f,f4⟩;have g4:Dv (BC (pq E (BC E W)) W) (BC E W):=by
   have:=(Dn hE.p.f hW.p.f hE.p.z hW.p.z).2.2.2.2.2.2.2.2 _ kG.f g3 g2;exact this.trans (FV hH.f)
  have:=Cr.self kG.f ((f3.dv g4).symm.dv g1);omega
 have h3:=Cr.pw f2.p.f hW.p.f h2 n;have h4:Dv (pq E (BC E W)) (pw W n):=Dv.trans ⟨BC E W,hH.f,f4⟩ h;have h5:=f2.p.one (by have:=Cr.self f2.p.f (h3.symm.dv h4);omega);rw[h5,Ew]at f4;have:Dv (BC E W) W:=d2;rw[<-f4]at this;exact this
def F5(r:Rat):List Int:=[-r.num,(r.den:Int)]
theorem bI(r:Rat):cz (F5 r) 0 = -(r.num:Rat):=by rw[Cq (by simp[F5])];show((-r.num:Int):Rat)=_;push_cast;rfl
theorem VP(r:Rat):cz (F5 r) 1=(r.den:Rat):=by rw[Cq (by simp[F5])];rfl
theorem jP(r:Rat)(i:Nat):cz (F5 r) (i+2)=0:=Ik (by simp[F5])
theorem R6(r:Rat):(0:Rat) < (r.den:Rat):=by exact_mod_cast r.den_pos
theorem Mg(r:Rat):pl (cz (F5 r))=2:=Iq (Cx (F5 r)) fun _=>by
 show cz (F5 r) 1≠0;rw[VP];have:=R6 r;grind
theorem jN(r:Rat):cz (F5 r)≠pz:=fun e=>by have:=Mg r;rw[e,BR]at this;omega
theorem NQ(r x:Rat):ev (cz (F5 r)) x=(r.den:Rat)*(x - r):=by
 rw[Ee (Cx (F5 r)) x];show cz (F5 r) 0+x*(cz (F5 r) 1+x*0)=_;rw[bI,VP];have e:=Iy r;have hd:=R6 r;generalize (r.den:Rat)=d at *;generalize (r.num:Rat)=n at *;have h':r*d=n:=by rw[e];grind
 grind
theorem jM(r:Rat):ld (cz (F5 r))=(r.den:Rat):=by unfold ld;rw[Mg];exact VP r
theorem MO(r:Rat):AU (cz (F5 r)):=by
 refine⟨ZI.cz _,Ae.cz _,jN r,by rw[jM];exact R6 r,?_⟩;have h0:=FH (F:=cz (F5 r)) (Ae.cz _) 0;have h1:=FH (F:=cz (F5 r)) (Ae.cz _) 1;have e0:(cz (F5 r) 0).num = -r.num:=by rw[Cq (by simp[F5])];rfl
 have e1:(cz (F5 r) 1).num=(r.den:Int):=by rw[Cq (by simp[F5])];rfl
 rw[e0]at h0;rw[e1]at h1;have a0:cn (cz (F5 r))∣r.num.natAbs:=by have:=Int.natAbs_dvd_natAbs.2 (Int.dvd_neg.1 h0);simpa using this
 have a1:cn (cz (F5 r))∣r.den:=Int.natCast_dvd_natCast.1 h1;have:=Nat.dvd_gcd a0 a1;rw[r.reduced]at this;exact Nat.dvd_one.1 this
theorem WR{r:Rat}{W:Nat->Rat}(zW:ZI W)(fW:Ae W)(h:ev W r≠0):Cr (cz (F5 r)) W:=by
 have hL:=MO r;obtain⟨hD,z1,-,d1,d2,-⟩:=hL.gcd zW fW;refine Cr.of_gcd hL zW fW ?_;rcases Nat.lt_or_ge 1 (pl (BC (cz (F5 r)) W))with a | a
 ·exfalso
  obtain⟨hQ,e⟩:=hL.quot hD z1;have h1:=Du hQ.f hD.f hQ.n hD.n;rw[<-e,Mg]at h1;have h2:=hQ.one Aa;rw[h2,Br]at e;rw[<-e]at d2;obtain⟨Q,fQ,e2⟩:=d2;refine h ?_;rw[e2,Cy fQ (Ae.cz _),NQ];grind
 ·exact a
theorem gX{r:Rat}{W:Nat->Rat}(zW:ZI W)(fW:Ae W)(h:ev W r=0):Dv (cz (F5 r)) W:=by
 have hL:=MO r;obtain⟨hD,z1,-,d1,d2,-⟩:=hL.gcd zW fW;rcases Nat.lt_or_ge 1 (pl (BC (cz (F5 r)) W))with a | a
 ·obtain⟨hQ,e⟩:=hL.quot hD z1
  have h1:=Du hQ.f hD.f hQ.n hD.n;rw[<-e,Mg]at h1;have h2:=hQ.one Aa;rw[h2,Br]at e;rw[<-e]at d2;exact d2
 ·exfalso
  obtain⟨U,V,fU,fV,e⟩:=Cr.of_gcd hL zW fW a;have h1:=FR r;rw[<-e,GI (fU.cv (Ae.cz _)) (fV.cv fW),Cy fU (Ae.cz _),Cy fV fW,NQ,h]at h1;grind
theorem TB(r:Rat):SF (cz (F5 r)):=by
 have hL:=MO r;refine⟨hL,Cr.of_gcd hL (Dt hL.z) (Bd hL.f) ?_⟩;have h0:pl (pd (cz (F5 r)))=1:=by rw[Ht hL.f,Mg]
 have hn:pd (cz (F5 r))≠pz:=fun e=>by rw[e,BR]at h0;omega
 obtain⟨hD,-,-,-,d2,-⟩:=hL.gcd (Dt hL.z) (Bd hL.f);have:=Dv.le hD.f (Bd hL.f) hn d2;omega
theorem SF.flat{F:Nat->Rat}(h:SF F){a b ε:Rat}(hab:a<=b)(hε:0 < ε)(hf:∀ z,a<=z->z<=b->ε<=ab (ev F z)):rc F a b=0:=by
 have:=h.st.flat hab hε hf;show(vx F (kn F) a:Int) - (vx F (kn F) b:Int)=0;omega
theorem aL(r:Rat){p q:Rat}(hpq:p<=q):rc (cz (F5 r)) p q=if p < r/\r<=q then 1 else 0:=by
 have hS:=TB r;have hd:=R6 r;have le1:∀ u v,rc (cz (F5 r)) u v<=1:=fun u v=>by
  have:=hS.rc_deg u v;rw[Mg]at this;exact this
 have hz:ev (cz (F5 r)) r=0:=by rw[NQ];grind
 split
 ·rename_i h
  have h1:1<=rc (cz (F5 r)) p q:=hS.st.zero_counts h.1 h.2 hz;have:=le1 p q;omega
 ·rename_i h
  have hn:=hS.nonneg hpq;rcases Std.lt_trichotomy r p with a | a | a
  ·refine hS.flat hpq (ε:=(r.den:Rat)*(p - r)) (Rat.mul_pos hd Ad) fun z h1 h2=>?_
   rw[NQ];have h3:=Ck (show p - r<=z - r by grind) (Std.le_of_lt hd);have h4:0 < (r.den:Rat)*(p - r):=Rat.mul_pos hd Ad;unfold ab
   split<;>grind
  ·subst a
   have h1:1<=rc (cz (F5 r)) (r - 1) r:=hS.st.zero_counts Ad (Std.le_refl _) hz;have h2:=le1 (r - 1) q;have h3:=Bb (cz (F5 r)) (r - 1) r q;omega
  ·have hq:q < r:=by
    rcases Std.lt_trichotomy q r with b | b | b
    ·exact b
    ·exact absurd ⟨a,Ad⟩ h
    ·exact absurd ⟨a,Ad⟩ h
   refine hS.flat hpq (ε:=(r.den:Rat)*(r - q)) (Rat.mul_pos hd Ad) fun z h1 h2=>?_;rw[NQ];have h3:=Ck (show r - q<=r - z by grind) (Std.le_of_lt hd);have h4:0 < (r.den:Rat)*(r - q):=Rat.mul_pos hd Ad;unfold ab
   split<;>grind
def IX(c:Nat):List Int:=[(c:Int),0,1]
theorem VZ(c:Nat)(x:Rat):ev (cz (IX c)) x=(c:Rat)+x*x:=by
 rw[Ee (Cx (IX c)) x];show cz (IX c) 0+x*(cz (IX c) 1+x*(cz (IX c) 2+x*0))=_;have h0:cz (IX c) 0=(c:Rat):=by rw[Cq (by simp[IX])];rfl
 have h1:cz (IX c) 1=0:=by rw[Cq (by simp[IX])];rfl
 have h2:cz (IX c) 2=1:=by rw[Cq (by simp[IX])];rfl
 rw[h0,h1,h2];grind
theorem aR(c:Nat):pl (cz (IX c))=3:=Iq (Cx (IX c)) fun _=>by
 show cz (IX c) 2≠0;rw[Cq (by simp[IX])];show((1:Int):Rat)≠0
 decide
theorem iB(c:Nat):cz (IX c)≠pz:=fun e=>by have:=aR c;rw[e,BR]at this;omega
theorem bO(c:Nat):AU (cz (IX c)):=by
 have h2:cz (IX c) 2=1:=by rw[Cq (by simp[IX])];rfl
 refine⟨ZI.cz _,Ae.cz _,iB c,by unfold ld;rw[aR];show 0 < cz (IX c) 2;rw[h2];decide,?_⟩;have h:=FH (F:=cz (IX c)) (Ae.cz _) 2;rw[h2]at h;exact Nat.dvd_one.1 (Int.natCast_dvd_natCast.1 h)
theorem ZZ{c:Nat}(hc:1<=c):SF (cz (IX c)):=by
 refine⟨bO c,?_⟩;have hx:Cr (cz (F5 0)) (cz (IX c)):=WR (ZI.cz _) (Ae.cz _) (by
  rw[VZ];have:(1:Rat)<=((c:Nat):Rat):=by exact_mod_cast hc
  grind)
 have e:pd (cz (IX c))=psc 2 (cz (F5 0)):=funext fun i=>by
  match i with
  | 0 =>
   show((0+1:Nat):Rat)*cz (IX c) 1=2*cz (F5 0) 0;have h1:cz (IX c) 1=0:=by rw[Cq (by simp[IX])];rfl
   have h2:cz (F5 0) 0=0:=by rw[bI];decide
   rw[h1,h2,Rat.mul_zero,Rat.mul_zero]
  | 1 =>
   show((1+1:Nat):Rat)*cz (IX c) 2=2*cz (F5 0) 1;rw[Cq (by simp[IX]),VP];rfl
  | i+2 =>
   show((i+2+1:Nat):Rat)*cz (IX c) (i+3)=2*cz (F5 0) (i+2);rw[Ik (by simp[IX]),jP,Rat.mul_zero,Rat.mul_zero]
 obtain⟨U,V,fU,fV,h⟩:=hx;refine⟨V,psc (1 / 2) U,fV,fU.psc _,?_⟩;rw[e,Cv,MS,Cb,<-h]
 funext i
 simp only[pad,psc];grind
theorem iJ{c:Nat}(hc:1<=c){p q:Rat}(hpq:p<=q):rc (cz (IX c)) p q=0:=by
 have h1:(1:Rat)<=((c:Nat):Rat):=by exact_mod_cast hc
 refine(ZZ hc).flat hpq (ε:=1) Ab fun z _ _=>?_;rw[VZ];have h2:0<=z*z:=by
  rcases Rat.le_total (a:=0) (b:=z)with a | a
  ·exact Rat.mul_nonneg a a
  ·have:=Rat.mul_nonneg (show 0 <= -z by grind) (show 0 <= -z by grind)
   grind
 unfold ab
 split<;>grind
def cnt(D:List Rat)(p q:Rat):Int:=D.foldr (fun r n=>(if p < r/\r<=q then 1 else 0)+n) 0
theorem WG(D:List Rat)(r p q:Rat):cnt (D ++ [r]) p q=cnt D p q+if p < r/\r<=q then 1 else 0:=by
 induction D with
 | nil=>show(if p < r/\r<=q then(1:Int)else 0)+0=0+_;omega
 | cons x D ih =>
  show(if p < x/\x<=q then(1:Int)else 0)+cnt (D ++ [r]) p q=(if p < x/\x<=q then(1:Int)else 0)+cnt D p q+_;rw[ih];omega
structure VN(F W R:Nat->Rat)(D:List Rat):Prop where
 e:F=cv W R
 w:SF W
 r:AU R
 n:∃ n,Dv R (pw W n)
 c:∀ p q,p<=q->rc W p q=cnt D p q
 z:∀ x,ev W x=0↔x∈D
 d:D.Nodup
theorem VN.pos{F W R:Nat->Rat}{D:List Rat}(h:VN F W R D):AU F:=by rw[h.e];exact h.w.p.mul h.r
theorem VN.sqf{F W R:Nat->Rat}{D:List Rat}(h:VN F W R D):sqf F=W:=by
 have hP:=h.pos;have sF:=Bl hP.z hP.f hP.n;refine sF.p.eq_dv h.w.p ?_ (ED hP.z hP.f hP.n h.w ⟨R,h.r.f,by rw[Av];exact h.e⟩);obtain⟨n,Q,fQ,eQ⟩:=h.n;refine jR sF h.w (n:=n+1) ((Ea hP.z hP.f hP.n).trans ⟨Q,fQ,?_⟩);show cv (pw W n) W=_;rw[eQ,h.e,Ag,Av R W]
theorem VN.start{c:Nat}(hc:1<=c):VN (cz (IX c)) (cz (IX c)) pone [] where
 e:=by rw[Av,Br]
 w:=ZZ hc
 r:=EN
 n:=⟨0,Dv.refl _⟩
 c:=fun p q hpq=>iJ hc hpq
 z:=fun x=>by
  constructor
  ·intro h
   exfalso;have h1:(1:Rat)<=((c:Nat):Rat):=by exact_mod_cast hc
   rw[VZ]at h;have h2:0<=x*x:=by
    rcases Rat.le_total (a:=0) (b:=x)with a | a
    ·exact Rat.mul_nonneg a a
    ·have:=Rat.mul_nonneg (show 0 <= -x by grind) (show 0 <= -x by grind)
     grind
   grind
  ·intro h;cases h
 d:=List.nodup_nil
theorem VN.same{F W R:Nat->Rat}{D:List Rat}(h:VN F W R D){r:Rat}(hr:r∈D):VN (cv F (cz (F5 r))) W (cv R (cz (F5 r))) D where
 e:=by rw[h.e,Ag]
 w:=h.w
 r:=h.r.mul (MO r)
 n:=by
  obtain⟨n,Q,fQ,eQ⟩:=h.n;obtain⟨P,fP,eP⟩:=gX h.w.p.z h.w.p.f ((h.z r).2 hr);refine⟨n+1,cv Q P,fQ.cv fP,?_⟩;show cv (pw W n) W=_;rw[eQ]
  conv=>lhs;arg 2;rw[eP]
  rw[Ag,Ag,<-Ag R P,Av R P,Ag]
 c:=h.c
 z:=h.z
 d:=h.d
theorem VN.new{F W R:Nat->Rat}{D:List Rat}(h:VN F W R D){r:Rat}(hr:r∉D):VN (cv F (cz (F5 r))) (cv W (cz (F5 r))) R (D ++ [r]):=by
 have hne:ev W r≠0:=fun e=>hr ((h.z r).1 e);have cW:Cr W (cz (F5 r)):=(WR h.w.p.z h.w.p.f hne).symm;have sW:=h.w.cv (TB r) cW;refine⟨?_,sW,h.r,?_,fun p q hpq=>?_,fun x=>?_,?_⟩
 ·rw[h.e,Ag,Ag,Av R]
 ·obtain⟨n,Q,fQ,eQ⟩:=h.n
  refine⟨n,cv (pw (cz (F5 r)) n) Q,(GN (Ae.cz _) n).cv fQ,?_⟩;rw[Sj,eQ,Av (cv Q R),<-Ag]
 ·rw[SF.mul h.w (TB r) sW cW hpq,h.c p q hpq,aL r hpq,WG]
 ·rw[Cy h.w.p.f (Ae.cz _),NQ,List.mem_append,List.mem_singleton]
  have hd:=R6 r;constructor
  ·intro e
   rcases Rat.mul_eq_zero.1 e with a | a
   ·exact .inl ((h.z x).1 a)
   ·rcases Rat.mul_eq_zero.1 a with b | b
    ·grind
    ·exact .inr Ad
  ·rintro(a | a)
   ·rw[(h.z x).2 a,Rat.zero_mul]
   ·rw[a];grind
 ·exact List.nodup_append.2 ⟨h.d,Ac,fun a ha b hb=>by
   rw[List.mem_singleton.1 hb];exact fun e=>hr (e▸ha)⟩
def lst:Int->List Int->Int
 | σ,[]=>σ
 | σ,s::l=>if s=0 then lst σ l else lst s l
theorem Rc(l:List Int)(x:Int):∀ σ,lst σ (l ++ [x])=if x=0 then lst σ l else x:=by
 induction l with
 | nil=>intro σ;show(if x=0 then σ else x)=_;rfl
 | cons s l ih =>
  intro σ;rw[List.cons_append,lst,lst]
  split
  ·exact ih σ
  ·exact ih s
theorem VU(l:List Int)(x:Int):∀ σ,EY σ (l ++ [x])=EY σ l+if x≠0/\lst σ l = -x then 1 else 0:=by
 induction l with
 | nil =>
  intro σ;show(if x=0 then 0 else(if σ = -x then 1 else 0)+0)=0+if x≠0/\σ = -x then 1 else 0;by_cases h:x=0
  ·rw[if_pos h,if_neg (fun q=>q.1 h)]
  ·rw[if_neg h]
   by_cases h2:σ = -x
   ·rw[if_pos h2,if_pos ⟨h,h2⟩]
   ·rw[if_neg h2,if_neg (fun q=>h2 q.2)]
 | cons s l ih =>
  intro σ;rw[List.cons_append,EY,EY,lst];by_cases h:s=0
  ·rw[if_pos h,if_pos h,if_pos h];exact ih σ
  ·rw[if_neg h,if_neg h,if_neg h,ih s];omega
theorem Wx(l:List Int):∀ σ,EY 0 l<=EY σ l:=by
 induction l with
 | nil=>intro σ;exact Nat.le_refl _
 | cons s l ih =>
  intro σ;rw[EY,EY];by_cases h:s=0
  ·rw[if_pos h,if_pos h];exact ih σ
  ·rw[if_neg h,if_neg h,if_neg (show ¬ (0:Int) = -s by omega)];omega
theorem Qq(s:Int)(l:List Int):EY 0 l<=EY 0 (s::l):=by
 rw[EY]
 split
 ·exact Nat.le_refl _
 ·have:=Wx l s;omega
def kS(l:List Int):Prop:=∀ x∈l,x=0\/x=1\/x = -1
theorem Zp(l:List Int):kS l->∀ σ,σ=1\/σ = -1->(lst σ l=σ↔EY σ l % 2=0)/\(lst σ l=1\/lst σ l = -1):=by
 induction l with
 | nil=>intro _ σ hσ;exact⟨⟨fun _=>rfl,fun _=>rfl⟩,hσ⟩
 | cons s l ih =>
  intro h σ hσ;have ih':=ih fun x hx=>h x (List.mem_cons_of_mem _ hx);rw[lst,EY];by_cases h0:s=0
  ·rw[if_pos h0,if_pos h0];exact ih' σ hσ
  ·rw[if_neg h0,if_neg h0]
   have hs:s=1\/s = -1:=by rcases h s List.mem_cons_self with a | a | a;exact absurd a h0;exact .inl a;exact .inr a
   obtain⟨a,b⟩:=ih' s hs;refine⟨?_,b⟩;by_cases c:σ = -s
   ·rw[if_pos c]
    constructor
    ·intro e
     have:¬ EY s l % 2=0:=fun q=>by have:=a.2 q;omega
     omega
    ·intro e
     have:¬ lst s l=s:=fun q=>by have:=a.1 q;omega
     omega
   ·rw[if_neg c]
    have:σ=s:=by omega
    rw[this,Nat.zero_add];exact a
theorem Gy(a:Nat->Rat)(n:Nat):CR a (n+1)=EY 0 (AX (a 0)::(List.range n).map fun j=>AX (a (j+1))):=by
 unfold CR;rw[List.range_succ_eq_map,List.map_cons,List.map_map];rfl
theorem QY{a:Nat->Rat}{n:Nat}(h0:a 0≠0)(hn:a n≠0):AX (a n)=AX (a 0)↔CR a (n+1) % 2=0:=by
 have s0:=DC h0;have sn:=DC hn;have e1:lst 0 (AX (a 0)::(List.range n).map fun j=>AX (a (j+1)))=AX (a n):=by
  have e:(AX (a 0)::(List.range n).map fun j=>AX (a (j+1)))=(List.range (n+1)).map fun j=>AX (a j):=by
   rw[List.range_succ_eq_map,List.map_cons,List.map_map];rfl
  rw[e,List.range_succ,List.map_append];show lst 0 (_ ++ [AX (a n)])=_;rw[Rc,if_neg sn]
 rw[Gy,EY,if_neg s0,if_neg (show ¬ (0:Int) = -AX (a 0) by omega),Nat.zero_add];rw[lst,if_neg s0]at e1;rw[<-e1];refine(Zp _ ?_ _ ?_).1
 ·intro x hx
  obtain⟨j,-,rfl⟩:=List.mem_map.1 hx;exact BK _
 ·rcases BK (a 0)with h | h | h
  ·exact absurd h s0
  ·exact .inl h
  ·exact .inr h
theorem SF.par{F:Nat->Rat}(h:SF F){p q:Rat}(hp:ev F p≠0)(hq:ev F q≠0):AX (ev F q)=AX (ev F p)↔rc F p q % 2=0:=by
 have hS:=h.st;have hK:=hS.k.1;obtain⟨K,hk⟩:∃ K,kn F=K+1:=⟨kn F - 1,Aa⟩
 have hl:=hS.last;have hf:=hS.fin (i:=K) Aa;rw[hk,Nat.add_sub_cancel]at hl;obtain⟨c,hc,e⟩:=M9 h.p.z h.p.f h.p.n;have e0:Cf F (pd F) 0=psc c F:=e;have s0:∀ x,AX (ev (Cf F (pd F) 0) x)=AX (ev F x):=fun x=>by rw[e0,DX _ h.p.f];exact CO hc
 have eL:∀ x,ev (Cf F (pd F) K) x=Cf F (pd F) K 0:=fun x=>by
  have:Be 1 (Cf F (pd F) K):=by rw[<-hl];exact AA hf
  rw[Ee this];show Cf F (pd F) K 0+x*0=_;grind
 have nL:Cf F (pd F) K 0≠0:=by
  have:=CV hf (hS.ne (i:=K) Aa);unfold ld at this;rw[hl]at this;exact this
 have key:∀ x,ev F x≠0->(AX (Cf F (pd F) K 0)=AX (ev F x)↔vx F (kn F) x % 2=0):=fun x hx=>by
  have h1:=QY (a:=fun i=>ev (Cf F (pd F) i) x) (n:=K) (FU (by rw[s0];exact DC hx)) (by show ev (Cf F (pd F) K) x≠0;rw[eL];exact nL);unfold vx;rw[hk,<-h1];show _↔AX (ev (Cf F (pd F) K) x)=AX (ev (Cf F (pd F) 0) x);rw[s0,eL]
 have k1:=key p hp;have k2:=key q hq;have hm:rc F p q=(vx F (kn F) p:Int) - (vx F (kn F) q:Int):=rfl;rw[hm];have c1:=DC hp;have c2:=DC hq;have c3:=DC nL;rcases BK (ev F p)with a | a | a<;>rcases BK (ev F q)with b | b | b<;>rcases BK (Cf F (pd F) K 0)with d | d | d<;>first | exact absurd a c1 | exact absurd b c2 | exact absurd d c3 | (rw[a,d]at k1;rw[b,d]at k2;rw[a,b];omega)
/-! ### products -/
def Lr(l:List (Nat->Rat)):Nat->Rat:=l.foldr cv pone
noncomputable def U6(p q:Rat)(l:List (Nat->Rat)):Int:=l.foldr (fun A n=>rc A p q+n) 0
theorem EQ(A:Nat->Rat)(l:List (Nat->Rat)):Lr (A::l)=cv A (Lr l):=rfl
theorem EO(p q:Rat)(A:Nat->Rat)(l:List (Nat->Rat)):U6 p q (A::l)=rc A p q+U6 p q l:=rfl
def Rp(l:List (Nat->Rat)):Prop:=∀ B∈l,SF B
theorem Rp.tail{A:Nat->Rat}{l:List (Nat->Rat)}(h:Rp (A::l)):SF A/\Rp l:=⟨h A List.mem_cons_self,fun B hB=>h B (List.mem_cons_of_mem _ hB)⟩
theorem Rp.cons{A:Nat->Rat}{l:List (Nat->Rat)}(h:SF A)(k:Rp l):Rp (A::l):=fun B hB=>by
 rcases List.mem_cons.1 hB with e | e
 ·rw[e];exact h
 ·exact k B e
theorem IL(l:List (Nat->Rat)):Rp l->AU (Lr l):=by
 induction l with
 | nil=>intro _;exact EN
 | cons A l ih=>intro h;exact h.tail.1.p.mul (ih h.tail.2)
theorem Zt(l m:List (Nat->Rat)):Lr (l ++ m)=cv (Lr l) (Lr m):=by
 induction l with
 | nil=>exact(Br _).symm
 | cons A l ih=>rw[List.cons_append,EQ,EQ,ih,Ag]
theorem ZK(p q:Rat)(l m:List (Nat->Rat)):U6 p q (l ++ m)=U6 p q l+U6 p q m:=by
 induction l with
 | nil=>show U6 p q m=0+_;omega
 | cons A l ih=>rw[List.cons_append,EO,EO,ih];omega
theorem Sd{A:Nat->Rat}(h:AU A)(hd:Dv A pone):A=pone:=by
 have h1:=Dv.le h.f CE IR hd;have h2:pl pone<=1:=BD CP;exact h.one Aa
theorem TJ(h:SF pone){p q:Rat}(hpq:p<=q):rc pone p q=0:=h.flat hpq (ε:=1) Ab fun z _ _=>by
 rw[FR];decide
theorem kE{p q:Rat}(hpq:p<=q)(l:List (Nat->Rat)):Rp l->∀ A,SF A->Dv A (Lr l)->∃ l',Rp l'/\Lr l=cv A (Lr l')/\U6 p q l=rc A p q+U6 p q l':=by
 induction l with
 | nil =>
  intro hl A hA hd;have e:=Sd hA.p hd;subst e;exact⟨[],hl,(Br _).symm,by rw[TJ hA hpq];rfl⟩
 | cons B l ih =>
  intro hl A hA hd;obtain⟨hB,hl⟩:=hl.tail;obtain⟨U,V,sD,sU,sV,eA,eB,cDU,cDV,cUV,cUB,rA,rB⟩:=hA.meet hB;have dU:Dv U (cv B (Lr l)):=Dv.trans ⟨BC A B,sD.p.f,eA⟩ hd;have dU2:=cUB.euclid (IL l hl).f dU;obtain⟨l',h1,h2,h3⟩:=ih hl U sU dU2;refine⟨V::l',h1.cons sV,?_,?_⟩
  ·rw[EQ,EQ,h2]
   conv=>lhs;arg 1;rw[eB]
   conv=>rhs;arg 1;rw[eA]
   rw[Ag,Ag,<-Ag V,Av V U,Ag]
  ·rw[EO,EO,h3,rA p q hpq,rB p q hpq];omega
theorem Za{p q:Rat}(hpq:p<=q)(m:List (Nat->Rat)):Rp m->Lr m=pone->U6 p q m=0:=by
 induction m with
 | nil=>intro _ _;rfl
 | cons A m ih =>
  intro h e;obtain⟨hA,hm⟩:=h.tail;have hP:=IL m hm;rw[EQ]at e;have e1:=Sd hA.p ⟨Lr m,hP.f,by rw[Av];exact e.symm⟩;subst e1;rw[Br]at e;rw[EO,TJ hA hpq,ih hm e];rfl
theorem Xz{p q:Rat}(hpq:p<=q)(l:List (Nat->Rat)):∀ m,Rp l->Rp m->Lr l=Lr m->U6 p q l=U6 p q m:=by
 induction l with
 | nil=>intro m _ hm e;exact(Za hpq m hm e.symm).symm
 | cons A l ih =>
  intro m hl hm e;obtain⟨hA,hl⟩:=hl.tail;rw[EQ]at e;obtain⟨m',h1,h2,h3⟩:=kE hpq m hm A hA ⟨Lr l,(IL l hl).f,by rw[Av];exact e.symm⟩;rw[h2]at e;rw[EO,h3,ih m' hl h1 (NE hA.p.f hA.p.n (IL l hl).f (IL m' h1).f e)]
def Mt(p q:Rat)(F:Nat->Rat)(n:Int):Prop:=∃ l,Rp l/\Lr l=F/\U6 p q l=n
theorem Mt.uniq{p q:Rat}(hpq:p<=q){F:Nat->Rat}{n m:Int}(h:Mt p q F n)(k:Mt p q F m):n=m:=by
 obtain⟨l,a,b,c⟩:=h;obtain⟨l',a',b',c'⟩:=k;rw[<-c,<-c'];exact Xz hpq l l' a a' (by rw[b,b'])
theorem Mt.mul{p q:Rat}{F G:Nat->Rat}{n m:Int}(h:Mt p q F n)(k:Mt p q G m):Mt p q (cv F G) (n+m):=by
 obtain⟨l,a,b,c⟩:=h;obtain⟨l',a',b',c'⟩:=k;refine⟨l ++ l',fun B hB=>?_,by rw[Zt,b,b'],by rw[ZK,c,c']⟩;rcases List.mem_append.1 hB with x | x
 ·exact a B x
 ·exact a' B x
theorem Mt.one(p q:Rat):Mt p q pone 0:=⟨[],fun _ h=>(by cases h),rfl,rfl⟩
theorem SF.mt{F:Nat->Rat}(h:SF F)(p q:Rat):Mt p q F (rc F p q):=⟨[F],Rp.cons h (fun _ h=>(by cases h)),Ew F,by show rc F p q+0=_;omega⟩
theorem Mt.pw{p q:Rat}{F:Nat->Rat}{n:Int}(h:Mt p q F n):∀ k:Nat,Mt p q (pw F k) ((k:Int)*n)
 | 0=>by rw[Int.natCast_zero,Int.zero_mul];exact Mt.one p q
 | k+1=>by
  have:=(Mt.pw h k).mul h;have e:((k+1:Nat):Int)*n=(k:Int)*n+n:=by rw[Int.natCast_succ,Int.add_mul,Int.one_mul]
  rw[e];exact this
theorem Sy{p q:Rat}(hpq:p<=q)(l:List (Nat->Rat)):Rp l->0<=U6 p q l:=by
 induction l with
 | nil=>intro _;exact Int.le_refl _
 | cons A l ih =>
  intro h;have h1:=h.tail.1.nonneg hpq;have h2:=ih h.tail.2;rw[EO];omega
theorem Mt.nonneg{p q:Rat}(hpq:p<=q){F:Nat->Rat}{n:Int}(h:Mt p q F n):0<=n:=by
 obtain⟨l,a,b,c⟩:=h;rw[<-c];exact Sy hpq l a
theorem Mt.ex(p q:Rat):∀(n:Nat) {F:Nat->Rat},AU F->pl F<=n->∃ m,Mt p q F m:=by
 intro n;induction n with
 | zero=>intro F hF hn;have:=hF.pos;omega
 | succ n ih =>
  intro F hF hn;obtain⟨hC,hW,e,-,-⟩:=Ch hF;obtain⟨N,hN⟩:=MW hF;have sW:=L6 hF;by_cases h1:pl (yc F)<=1
  ·have e1:=hC.one h1
   have e2:F=y0 F:=by
    conv=>lhs;rw[e,e1,Av,Br]
   rw[e2];exact⟨_,sW.mt p q⟩
  ·have hl:pl (yc F)<=n:=by
    have h2:=Du hW.f hC.f hW.n hC.n;rw[<-e]at h2;have h3:1 < pl (y0 F):=by
     rcases Nat.lt_or_ge 1 (pl (y0 F))with z | z
     ·exact z
     ·exfalso
      rw[hW.one z,JL]at hN;have h4:=Sd hC hN;have h5:pl pone<=1:=BD CP;rw[h4]at h1;omega
    omega
   obtain⟨m,hm⟩:=ih hC hl;rw[e];exact⟨_,(sW.mt p q).mul hm⟩
theorem Zh{p q:Rat}(l:List (Nat->Rat)):Rp l->ev (Lr l) p≠0->ev (Lr l) q≠0->(AX (ev (Lr l) q)=AX (ev (Lr l) p)↔U6 p q l % 2=0):=by
 induction l with
 | nil=>intro _ _ _;show AX (ev pone q)=AX (ev pone p)↔(0:Int) % 2=0;rw[FR,FR];exact⟨fun _=>rfl,fun _=>rfl⟩
 | cons A l ih =>
  intro h hp hq;obtain⟨hA,hl⟩:=h.tail;have fP:=(IL l hl).f;rw[EQ,Cy hA.p.f fP]at hp hq;rw[EQ,Cy hA.p.f fP,Cy hA.p.f fP,EO,Cs,Cs];have p1:ev A p≠0:=fun e=>hp (by rw[e,Rat.zero_mul]);have p2:ev (Lr l) p≠0:=fun e=>hp (by rw[e,Rat.mul_zero]);have q1:ev A q≠0:=fun e=>hq (by rw[e,Rat.zero_mul]);have q2:ev (Lr l) q≠0:=fun e=>hq (by rw[e,Rat.mul_zero]);have h1:=hA.par p1 q1;have h2:=ih hl p2 q2;have c1:=DC p1
  have c2:=DC p2;have c3:=DC q1;have c4:=DC q2;rcases BK (ev A p)with a | a | a<;>rcases BK (ev (Lr l) p)with b | b | b<;>rcases BK (ev A q)with c | c | c<;>rcases BK (ev (Lr l) q)with d | d | d<;>first | exact absurd a c1 | exact absurd b c2 | exact absurd c c3 | exact absurd d c4 | (rw[a,c]at h1;rw[b,d]at h2;rw[a,b,c,d];omega)
theorem Mt.par{p q:Rat}{F:Nat->Rat}{n:Int}(h:Mt p q F n)(hp:ev F p≠0)(hq:ev F q≠0):AX (ev F q)=AX (ev F p)↔n % 2=0:=by
 obtain⟨l,a,rfl,rfl⟩:=h;exact Zh l a hp hq
end Go.Hp
namespace Go.Proofs.YtmhgnigpmompmaaGreat
open Go.RowKit Go.Hp
theorem iM:(Tryz.prog.info? 77).map (fun i=>(i.zero,i.size,i.bytes))=some (some (.agg #[.slice none 0 0,.int .i64 0]),2,32):=by kernel_rfl
theorem SS(W:World)(v:Value)(base ty n c e:Nat)(A:Option Addr)(us:List (Value×Nat))(l:List ((Nat->Rat)×Nat))(F:Nat->Rat)(z:Int)(g:Nat)(h:KY base 77 W v us l)(hu:AB 0 W (.slice A n c) F)(hz:z=(e:Nat))(hg:g=W.heap.size)(hn:l.length<=1000000)(hb:base<=W.heap.size) :
  ∃ v' w',(Builtin.append_ #[73,73] ty #[v,.slice (some ⟨g,0,none⟩) 1 1]).run Tryz.prog (W.alloc (.cells #[.slice A n c,.int .i64 z] 77)) = .ok v' w' /\
   (KY base 77 w' v' (us ++ [(.slice A n c,e)]) (l ++ [(F,e)])/\Cc (blk v) (W.alloc (.cells #[.slice A n c,.int .i64 z] 77)) w'/\Nk (W.alloc (.cells #[.slice A n c,.int .i64 z] 77)) v):=by
 subst hz hg;obtain⟨i0,hi,hz0,hz1,hz2⟩:=info_parts iM;obtain⟨v',w',a,b,U,N⟩:=KY.append (P:=Tryz.prog) h hu e 73 ty i0 _ 32 Tryz.underlying73 hi hz0 hz1 hz2 rfl (by simp[nodig,Ah,Value.cells]) (by simp[Ro,Value.cells]) (by simp only[maxLen];omega) Aa hb;exact⟨v',w',a,b,U,N⟩
def aU(base:Nat)(F:Nat->Rat)(r:Value)(w:World):Prop:=∃ a u us K,r = .tuple #[a,u,.int .i64 0]/\AO w a (pcn F)/\jF (pp F) K/\KY base 77 w u us (yl (y0 (pp F)) (yc (pp F)) K)
set_option maxRecDepth 20000 in
theorem fO(v:Value)(l:List Int)(S n M:Nat)(w:World)(hv:Gd 0 w v l)(hs:∀ i,qsz (cz l i)<=S)(hd:∀ i,qsz (pd (pp (cz l)) i)<=S)(hS:S<=5)(hl:l.length<=1000)(hp:pl (cz l)<=n)(hn:n<=16)(h0:cz l≠pz)
  (hM:(S+1)*2^(n+(n - 1))<=M) (hB:M+(n+(n - 1)+1)*(M+1)+M<=549755813888) :
  Bg 37 #[v] w ((aU w.heap.size (cz l))):=by
 have HV:=Af hv;obtain⟨A,c,rfl⟩:=hv.len;clear hv;have hg:=AU.pp (ZI.cz l) (Ae.cz l) h0;have hpg:pl (pp (cz l))=pl (cz l):=DI (ZI.cz l) (Ae.cz l);have hsg:∀ i,qsz (pp (cz l) i)<=S:=Ga (ZI.cz l) (Ae.cz l) hs;have hnm:=fun W (x:Ext w W)=>J4 _ l W (HV.out.ext x) Aa;have hpr:∀ W u,AB 0 W u (cz l)->Bg 85 #[u] W (fun r w'=>AB W.heap.size w' r (pp (cz l))):=fun W u hu =>
  G5 u _ W hu (fun i=>by have:=hs i;omega) Aa
 have hl1:∀ W u,AB 0 W u (cz l)->Bg 87 #[u] W (fun r w'=>AO w' r (ld (cz l)).num):=fun W u hu=>Ky u 0 (cz l) W hu h0;have hl2:∀ W u,AB 0 W u (pp (cz l))->Bg 87 #[u] W (fun r w'=>AO w' r (ld (pp (cz l))).num):=fun W u hu=>Ky u 0 _ W hu hg.n;have hex:∀ W u z,AO W u (ld (cz l)).num->AO W z (ld (pp (cz l))).num->Bg 86 #[u,z] W (fun r w'=>EL w' r (pcn (cz l)) 0):=fun W u z hu hz=>by
  obtain⟨q1,q2,q3⟩:=Y5 (ZI.cz l) (Ae.cz l) h0;have b1:=Wn (hs (pl (cz l) - 1));have b2:=Wn (hsg (pl (pp (cz l)) - 1));rw[<-q3];exact U9 u z _ _ W (hu.has (by show sz (cz l (pl (cz l) - 1)).num.natAbs<=_;omega)) (hz.has (by show sz (pp (cz l) (pl (pp (cz l)) - 1)).num.natAbs<=_;omega)) q1 q2
 have hde:∀ W u,AB 0 W u (pp (cz l))->Bg 66 #[u] W (fun r w'=>AB 0 w' r (pd (pp (cz l)))):=fun W u hu=>by
  obtain⟨m,g1,g2,-,g4⟩:=hu.hz (fun i=>by have:=hsg i;omega);rw[<-g4];exact Ai.imp (Gb _ m W g1 Aa) fun _ _ h=>h.base_le (Nat.zero_le _)
 have hpd:pl (pd (pp (cz l)))<=n - 1:=by rw[Ht hg.f];omega
 have hg1:∀ W u z,AB 0 W u (pp (cz l))->AB 0 W z (pd (pp (cz l)))->Bg 42 #[u,z] W (fun r w'=>AB 0 w' r (yc (pp (cz l)))):=fun W u z hu hz=>by
  have e:2^(pl (pp (cz l))+pl (pd (pp (cz l))))<=2^(n+(n - 1)):=Nat.pow_le_pow_right Ab Aa;have e2:(S+1)*2^(pl (pp (cz l))+pl (pd (pp (cz l))))<=(S+1)*2^(n+(n - 1)):=Nat.mul_le_mul_left _ e;have e3:(pl (pp (cz l))+pl (pd (pp (cz l)))+1)*(M+1)<=(n+(n - 1)+1)*(M+1):=Nat.mul_le_mul_right _ Aa;exact RN u z _ _ S M W hu hz hsg hd Aa Aa Aa Aa
 have hroom:=TC hg Aa hn hsg hS;obtain⟨hC,hW,eg,dC,-⟩:=Ch hg;have hd1:∀ W u z,AB 0 W u (pp (cz l))->AB 0 W z (yc (pp (cz l)))->Bg 88 #[u,z] W (fun r w'=>∃ q,r = .tuple #[q,.int .i64 0]/\AB 0 w' q (y0 (pp (cz l)))):=fun W u z hu hz=>by
  have:=(hroom 0).2.1;have e3:(pl (pp (cz l))+2)*(36000+1)<=18*36001:=Nat.mul_le_mul_right _ Aa;refine Ai.imp (Kr u z _ _ S 36000 W hu hz hsg this Aa (by have:=(hroom 0).2.2;have:pl (yw (y0 (pp (cz l))) (yc (pp (cz l))) 0).2=pl (yc (pp (cz l))):=rfl;omega) hC.n Aa) fun r w' hr=>?_;obtain⟨q,e1,e2⟩:=hr.1 dC;exact⟨q,e1,e2.base_le (Nat.zero_le _)⟩
 have hG2:∀ k W a b,AB 0 W a (yw (y0 (pp (cz l))) (yc (pp (cz l))) k).1->AB 0 W b (yw (y0 (pp (cz l))) (yc (pp (cz l))) k).2->Bg 42 #[a,b] W (fun r w'=>AB 0 w' r (yw (y0 (pp (cz l))) (yc (pp (cz l))) (k+1)).1):=fun k W a b ha hb=>by
  obtain⟨r1,r2,r3⟩:=hroom k;have e:2^(pl (yw (y0 (pp (cz l))) (yc (pp (cz l))) k).1+pl (yw (y0 (pp (cz l))) (yc (pp (cz l))) k).2)<=2^17:=Nat.pow_le_pow_right Ab Aa;have e3:(pl (yw (y0 (pp (cz l))) (yc (pp (cz l))) k).1+pl (yw (y0 (pp (cz l))) (yc (pp (cz l))) k).2+1)*(4718723072+1)<=18*(4718723072+1):=Nat.mul_le_mul_right _ Aa;exact RN a b _ _ 36000 4718723072 W ha hb r1 r2 Aa Aa Aa Aa
 have hDv:∀(A B:Nat->Rat) W a b,(∀ i,qsz (A i)<=36000)->(∀ i,qsz (B i)<=36000)->pl A<=17->pl B<=17->B≠pz->Iw A B->AB 0 W a A->AB 0 W b B->Bg 88 #[a,b] W (fun r w'=>∃ q,r = .tuple #[q,.int .i64 0]/\AB 0 w' q (pq A B)):=fun A B W a b qa qb la lb nb dv ha hb=>by
  have e3:(pl A+2)*(36000+1)<=19*36001:=Nat.mul_le_mul_right _ Aa;refine Ai.imp (Kr a b _ _ 36000 36000 W ha hb qa qb Aa Aa nb Aa) fun r w' hr=>?_;obtain⟨q,e1,e2⟩:=hr.1 dv;exact⟨q,e1,e2.base_le (Nat.zero_le _)⟩
 have hD2:∀ k W a b,AB 0 W a (yw (y0 (pp (cz l))) (yc (pp (cz l))) k).1->AB 0 W b (yw (y0 (pp (cz l))) (yc (pp (cz l))) (k+1)).1->Bg 88 #[a,b] W (fun r w'=>∃ q,r = .tuple #[q,.int .i64 0]/\AB 0 w' q (ya (y0 (pp (cz l))) (yc (pp (cz l))) k)):=fun k W a b ha hb=>by
  obtain⟨r1,r2,r3⟩:=hroom k;obtain⟨s1,s2,s3⟩:=hroom (k+1);obtain⟨-,-,-,dv,-⟩:=Ki hW hC k;exact hDv (yw (y0 (pp (cz l))) (yc (pp (cz l))) k).1 (yw (y0 (pp (cz l))) (yc (pp (cz l))) (k+1)).1 W a b r1 s1 Aa Aa (EU hW hC (k+1)).1.n dv ha hb
 have hD3:∀ k W a b,AB 0 W a (yw (y0 (pp (cz l))) (yc (pp (cz l))) k).2->AB 0 W b (yw (y0 (pp (cz l))) (yc (pp (cz l))) (k+1)).1->Bg 88 #[a,b] W (fun r w'=>∃ q,r = .tuple #[q,.int .i64 0]/\AB 0 w' q (yw (y0 (pp (cz l))) (yc (pp (cz l))) (k+1)).2):=fun k W a b ha hb=>by
  obtain⟨r1,r2,r3⟩:=hroom k;obtain⟨s1,s2,s3⟩:=hroom (k+1);obtain⟨-,-,-,-,dv⟩:=Ki hW hC k;exact hDv (yw (y0 (pp (cz l))) (yc (pp (cz l))) k).2 (yw (y0 (pp (cz l))) (yc (pp (cz l))) (k+1)).1 W a b r2 s1 Aa Aa (EU hW hC (k+1)).1.n dv ha hb
 have hlow:=fun k (hk:∀ j,j<=k->1 < pl (yw (y0 (pp (cz l))) (yc (pp (cz l))) j).1)=>XP hW hC k hk;have hyc:pl (yc (pp (cz l)))<=17:=by have:=(hroom 0).2.2;have:pl (yw (y0 (pp (cz l))) (yc (pp (cz l))) 0).2=pl (yc (pp (cz l))):=rfl;omega
 have hlw:∀ k,pl (yw (y0 (pp (cz l))) (yc (pp (cz l))) k).1<=17:=fun k=>by have:=(hroom k).2.2;omega
 obtain⟨F,hF⟩:∃ F,F=cz l:=⟨_,rfl⟩
 obtain⟨g,hgg⟩:∃ g,g=pp F:=⟨_,rfl⟩
 have hpf:=AL (Ae.cz l) h0;simp only[<-hF]at hnm hpr hl1 hl2 hex hde hg1 hd1 hG2 hD2 hD3 hlow hyc hg hpf hp hlw ⊢;simp only[<-hgg]at hpr hl2 hex hde hg1 hd1 hG2 hD2 hD3 hlow hyc hg hlw;have HC:=Af (Au hnm (Au hpr (Au hl1 (Au hl2 (Au hex (Au hde (Au hg1 hd1)))))));have HD:=Af (Au hG2 (Au hD2 hD3));have HP:=Af hg;have HL:=Af (Au hlow (Au hyc hlw));have HGG:=Af hgg;clear hnm hpr hl1 hl2 hex hde hg1 hd1 hG2 hD2 hD3 hDv hlow hyc hlw hroom hC hW eg dC hg hpd hpg hsg hs hd hS hM hB h0 HV hF hgg hl
 go_enter Tryz.func37,Tryz.ntmps37
 have ez:=Ba.new w 26 #[.bool false,.slice none 0 0] (by simp[Ah]);have hx:=(Ext.refl w).alloc (.cells #[.bool false,.slice none 0 0] 26)
 go_upto_region 1 with(fail)
 generalize w.alloc (.cells #[.bool false,.slice none 0 0] 26)=w0 at *
 go_wp2_with fail
 refine AQ (HC.out.1 _ hx) ?_;rintro r1 w1 hr1 hx1;obtain⟨A1,c1,rfl,-⟩:=hr1.shape;have Hr:=Af (hr1.base_le (b:=0) (Nat.zero_le _));replace ez:=ez.ext hx1;replace hx:=hx.trans hx1;clear hx1 hr1
 go_wp2_with fail
 refine AQ (HC.out.2.1 _ _ Hr.out) ?_;rintro r2 w2 hr2 hx2;obtain⟨A2,c2,rfl,-⟩:=hr2.shape;have Hr2:=Af (Au (Hr.out.ext hx2) (hr2.base_le (b:=w.heap.size+1) ez.lt));replace ez:=ez.ext hx2;replace hx:=hx.trans hx2;clear hx2 hr2 Hr
 go_wp2_with fail
 refine AQ (HC.out.2.2.1 _ _ Hr2.out.1) ?_;rintro r3 w3 hr3 hx3;have Hr3:=Af (Au (Hr2.out.2.ext hx3) hr3);replace ez:=ez.ext hx3;replace hx:=hx.trans hx3;clear hx3 hr3 Hr2
 go_wp2_with fail
 refine AQ (HC.out.2.2.2.1 _ _ (Hr3.out.1.base_le (Nat.zero_le _))) ?_;rintro r4 w4 hr4 hx4;have Hr4:=Af (Au (Hr3.out.1.ext hx4) (Au (Hr3.out.2.kd hx4.kd) hr4));replace ez:=ez.ext hx4;replace hx:=hx.trans hx4;clear hx4 hr4 Hr3
 go_wp2_with fail
 refine AQ (HC.out.2.2.2.2.1 _ _ _ Hr4.out.2.1 Hr4.out.2.2) ?_;rintro r5 w5 ⟨a5,rfl,hr5⟩ hx5;obtain⟨b7,A7,n7,c7,rfl⟩:=hr5.cells;have hg5:=Hr4.out.1.ext hx5;replace ez:=ez.ext hx5;replace hx:=hx.trans hx5;clear hx5 Hr4;have cez:=ez.cells2;have fez:=ez.frozen
 go_upto_region 6 with(fail)
 have hr:=hr5;obtain⟨W6,eW,ez',U⟩:=ez.put2 (.bool b7) (.slice A7 n7 c7) rfl rfl;rw[<-eW];have HG6:=Af ((hg5.off1 U).base_le (b:=0) (Nat.zero_le _));replace hr:=hr.kd U.kd;replace hx:=U.from_ hx Ak;clear eW ez hg5;have ez:=ez';clear U ez';have Hrz:=Af hr;clear hr hr5;clear cez fez
 go_wp2_with fail
 refine AQ (HC.out.2.2.2.2.2.1 _ _ HG6.out) ?_;rintro r7 w7 hr7 hx7;obtain⟨A3,c3,rfl,-⟩:=hr7.shape;have Hr7:=Af (Au (HG6.out.ext hx7) (Au hr7 (Hrz.out.kd hx7.kd)));replace ez:=ez.ext hx7;replace hx:=hx.trans hx7;clear hx7 hr7 HG6 Hrz
 go_wp2_with fail
 refine AQ (HC.out.2.2.2.2.2.2.1 _ _ _ Hr7.out.1 Hr7.out.2.1) ?_;rintro r8 w8 hr8 hx8;obtain⟨A4,c4,rfl,-⟩:=hr8.shape;have Hr8:=Af (Au (Hr7.out.1.ext hx8) (Au hr8 (Hr7.out.2.2.kd hx8.kd)));replace ez:=ez.ext hx8;replace hx:=hx.trans hx8;clear hx8 hr8 Hr7
 go_wp2_with fail
 refine AQ (HC.out.2.2.2.2.2.2.2 _ _ _ Hr8.out.1 Hr8.out.2.1) ?_;rintro r9 w9 ⟨q9,rfl,hq9⟩ hx9;obtain⟨A5,c5,rfl,-⟩:=hq9.shape;replace ez:=ez.ext hx9;replace hx:=hx.trans hx9;have Hs:=Af (Au hq9 (Au (Hr8.out.2.1.ext hx9) (Hr8.out.2.2.kd hx9.kd)));clear hx9 hq9 Hr8;have hbz:w.heap.size < w9.heap.size:=ez.lt;go_wp2
 go_loopw [3,6,7,9] (fun lv rv sv ev wr=>∃ k us,KY w9.heap.size 77 wr lv us (yl (y0 g) (yc g) k)/\AB 0 wr rv (yw (y0 g) (yc g) k).2/\AB 0 wr sv (yw (y0 g) (yc g) k).1/\ev = .int .i64 ((k:Int)+1)/\(∀ j,j < k->1 < pl (yw (y0 g) (yc g) j).1)/\Ext w9 wr /\
   Ba wr w.heap.size 26 #[.bool b7,.slice A7 n7 c7]/\AO wr (.agg #[.bool b7,.slice A7 n7 c7]) (pcn F)/\Ext w wr) (fun _ rv sv _ _=>QV rv+QV sv)
 case atStart=>exact⟨0,[],KY.nil _ _ _,Hs.out.2.1,Hs.out.1,by go_num,fun j hj=>Aa,Ext.refl _,ez,Hs.out.2.2,hx⟩
 case round =>
  clear ez hx Hs;obtain⟨k,us,hFac,hrep,hsim,rfl,hK,hsz,ez,hrz,hx⟩:=hrel;obtain⟨L,d,rfl⟩:=hFac.shape;obtain⟨A2,c2,rfl,-⟩:=hrep.shape;obtain⟨A3,c3,rfl,-⟩:=hsim.shape;have HK:=Af hK;clear hK;have Hf:=Af (Au hFac (Au hrep (Au hsim hrz)));clear hFac hrep hsim hrz;by_cases h1:1 < pl (yw (y0 g) (yc g) k).1
  ·have hk17:k<=17:=by
    have:=HL.out.1 k fun j hj=>by
     rcases Nat.lt_or_ge j k with a | a
     ·exact HK.out j a
     ·obtain rfl:j=k:=by omega
      exact h1
    have:=HL.out.2.1;omega
   have hlk:(yl (y0 g) (yc g) k).length<=k:=VY _ _ k
   go_wp2_with fail
   refine AQ (HD.out.1 k _ _ _ Hf.out.2.2.1 Hf.out.2.1) ?_;rintro r4 w4 hr4 hx4;obtain⟨A6,c6,rfl,-⟩:=hr4.shape;have Hf4:=Af (Au (Hf.out.1.ext hx4) (Au (Hf.out.2.1.ext hx4) (Au (Hf.out.2.2.1.ext hx4) (Au (Hf.out.2.2.2.kd hx4.kd) hr4))));replace ez:=ez.ext hx4;replace hx:=hx.trans hx4;have hsz4:=hsz.trans hx4;clear hx4 hr4 Hf hsz
   go_wp2_with fail
   refine AQ (HD.out.2.1 k _ _ _ Hf4.out.2.2.1 Hf4.out.2.2.2.2) ?_;rintro r5 w5 ⟨q5,rfl,hq5⟩ hx5;obtain⟨A7,c7,rfl,-⟩:=hq5.shape;have hFac:=Hf4.out.1.ext hx5;have hrep:=Hf4.out.2.1.ext hx5;have hm:=Hf4.out.2.2.2.2.ext hx5;have HZr:=Af (Hf4.out.2.2.2.1.kd hx5.kd);replace ez:=ez.ext hx5;replace hx:=hx.trans hx5;have hsz:=hsz4.trans hx5;clear hx5 Hf4 hsz4;by_cases h2:1 < pl (ya (y0 g) (yc g) k)
   ·have Hm:=Af (Au hFac (Au hrep (Au hm hq5)));clear hFac hrep hm hq5
    have hbl:=Hm.out.1.out.blk_ge;have Hbl:=Af hbl;clear hbl
    go_wp2_with (at_builtin;refine Bu rfl _ _ 73 rfl (.slice L (yl (y0 g) (yc g) k).length d) (.slice (some ⟨w5.heap.size,0,none⟩) 1 1) rfl rfl (SS w5 _ w9.heap.size _ _ _ (k+1) _ us _ _ _ _ Hm.out.1 Hm.out.2.2.2 (by first | rfl | (push_cast;rfl) | omega) rfl Aa hsz.size) ?_)
    intro v' w6 hF6 U hN;have xa:=(Ext.refl w5).alloc (.cells #[.slice A7 (pl (ya (y0 g) (yc g) k)) c7,.int .i64 ((k:Int)+1)] 77);have hFac:KY w9.heap.size 77 w6 v' (us ++ [(.slice A7 (pl (ya (y0 g) (yc g) k)) c7,k+1)]) (yl (y0 g) (yc g) (k+1)):=by
     rw[yl,if_pos h2];exact hF6
    have hrep:=(Hm.out.2.1.ext xa).updB U hN;have hm:=(Hm.out.2.2.1.ext xa).updB U hN;have HZ6:=Af ((HZr.out.kd xa.kd).kd U.kd);replace ez:=(ez.ext xa).upd U (fun hg=>by have:=(Hbl.out _ hg).1;omega);replace hx:=U.from_ (hx.trans xa) (fun g' hg=>by have:=(Hbl.out _ hg).1;have:=hx.size;omega);replace hsz:=U.from_ (hsz.trans xa) (fun g' hg=>(Hbl.out _ hg).1);clear hF6 U hN xa Hm Hbl HZr;have HZr:=Af HZ6.out;clear HZ6
    have Hm:=Af (Au hm (Au hrep hFac));clear hm hrep hFac
    go_wp2_with fail
    refine AQ (HD.out.2.2 k _ _ _ Hm.out.2.1 Hm.out.1) ?_;rintro r8 w8 ⟨q8,rfl,hq8⟩ hx8;obtain⟨A8,c8,rfl,-⟩:=hq8.shape;replace ez:=ez.ext hx8;replace hx:=hx.trans hx8;have hF8:=Hm.out.2.2.ext hx8;have hm8:=Hm.out.1.ext hx8;have Hq:=Af (Au hq8 (Au hm8 hF8));have HZ8:=Af (HZr.out.kd hx8.kd);replace hsz:=hsz.trans hx8;clear hx8 hq8 hm8 hF8 Hm;go_wp2
    go_roundw
    case rel=>exact⟨k+1,_,Hq.out.2.2,Hq.out.1,Hq.out.2.1,by go_num,fun j hj=>by
     rcases Nat.lt_or_ge j k with a | a
     ·exact HK.out j a
     ·obtain rfl:j=k:=by omega
      exact h1,hsz,ez,HZ8.out,hx⟩
    case measure =>
     have:=Uz HP.out h1;simp only[QV];omega
   ·have hFac:KY w9.heap.size 77 w5 (.slice L (yl (y0 g) (yc g) k).length d) us (yl (y0 g) (yc g) (k+1)):=by
     rw[yl,if_neg h2,List.append_nil];exact hFac
    have Hm:=Af (Au hm (Au hrep hFac));clear hm hrep hFac
    go_wp2_with fail
    refine AQ (HD.out.2.2 k _ _ _ Hm.out.2.1 Hm.out.1) ?_;rintro r8 w8 ⟨q8,rfl,hq8⟩ hx8;obtain⟨A8,c8,rfl,-⟩:=hq8.shape;replace ez:=ez.ext hx8;replace hx:=hx.trans hx8;have hF8:=Hm.out.2.2.ext hx8;have hm8:=Hm.out.1.ext hx8;have Hq:=Af (Au hq8 (Au hm8 hF8));have HZ8:=Af (HZr.out.kd hx8.kd);replace hsz:=hsz.trans hx8;clear hx8 hq8 hm8 hF8 Hm;go_wp2
    go_roundw
    case rel=>exact⟨k+1,_,Hq.out.2.2,Hq.out.1,Hq.out.2.1,by go_num,fun j hj=>by
     rcases Nat.lt_or_ge j k with a | a
     ·exact HK.out j a
     ·obtain rfl:j=k:=by omega
      exact h1,hsz,ez,HZ8.out,hx⟩
    case measure =>
     have:=Uz HP.out h1;simp only[QV];omega
  ·have hSK:jF g k:=⟨Aa,HK.out⟩
   have HS:=Af hSK;clear hSK;have cez:=ez.cells2;have fez:=ez.frozen;go_wp2;obtain⟨W9,eW,ez',U⟩:=ez.put2 (.bool b7) (.slice A7 n7 c7) rfl rfl;rw[<-eW];have hF9:=Hf.out.1.upd2 (fun p hp=>(Pf HP.out k p hp).2.1) ez hbz U;have hr9:=Hf.out.2.2.2.kd U.kd;replace hx:=U.from_ hx Ak;clear eW ez cez fez;have ez:=ez';have cez:=ez.cells2;have fez:=ez.frozen;refine bodyPost_ret (v := .tuple #[.agg #[.bool b7,.slice A7 n7 c7],.slice L (yl (y0 g) (yc g) k).length d,.int .i64 0]) (by simp[results,Tryz.results37,go_sem,cez]) rfl ?_
   have hgg:=HGG.out;subst hgg;exact Ai.mk ⟨_,_,us,k,rfl,hr9,HS.out,hF9.base_le (Nat.le_of_lt hbz)⟩ hx
open Go.Shelf
theorem Xh(v:Value)(F:Nat->Rat)(S n M T:Nat)(w:World)(hv:AB 0 w v F)(hR:Sa F S n M T) :
  Bg 100 #[v] w (fun r w'=>AB 0 w' r (y0 (pp F))):=by
 have hg:=AU.pp hR.z hR.f hR.n0;have hpg:pl (pp F)=pl F:=DI hR.z hR.f;have hsg:∀ i,qsz (pp F i)<=S:=Ga hR.z hR.f hR.s;have hSM:=hR.sS;have hp:=hR.p;have hn:=hR.n9;have hM:=hR.m;have hB:=hR.b;have hKk:=hR.k;have hM9:M<=549755813888:=by omega
 have hpr:Bg 85 #[v] w (fun r w'=>AB w.heap.size w' r (pp F)):=G5 v _ w hv (fun i=>by have:=hR.s i;omega) Aa;have hde:∀ W u,AB 0 W u (pp F)->Bg 66 #[u] W (fun r w'=>AB 0 w' r (pd (pp F))):=fun W u hu=>by
  obtain⟨m,g1,g2,-,g4⟩:=hu.hz (fun i=>by have:=hsg i;omega);rw[<-g4];exact Ai.imp (Gb _ m W g1 Aa) fun _ _ h=>h.base_le (Nat.zero_le _)
 have hpd:pl (pd (pp F))<=n - 1:=by rw[Ht hg.f];omega
 have hg1:∀ W u z,AB 0 W u (pp F)->AB 0 W z (pd (pp F))->Bg 42 #[u,z] W (fun r w'=>AB 0 w' r (yc (pp F))):=fun W u z hu hz=>by
  have e:2^(pl (pp F)+pl (pd (pp F)))<=2^(n+(n - 1)):=Nat.pow_le_pow_right Ab Aa;have e2:(S+1)*2^(pl (pp F)+pl (pd (pp F)))<=(S+1)*2^(n+(n - 1)):=Nat.mul_le_mul_left _ e;have e3:(pl (pp F)+pl (pd (pp F))+1)*(M+1)<=(n+(n - 1)+1)*(M+1):=Nat.mul_le_mul_right _ Aa;exact RN u z _ _ S M W hu hz hsg hR.d Aa Aa Aa Aa
 obtain⟨hC,hW,eg,dC,-⟩:=Ch hg;have hcl:pl (yc (pp F))<=pl (pp F):=Dv.le hC.f hg.f hg.n (KA dC);have hd1:∀ W u z,AB 0 W u (pp F)->AB 0 W z (yc (pp F))->Bg 88 #[u,z] W (fun r w'=>∃ q,r = .tuple #[q,.int .i64 0]/\AB 0 w' q (y0 (pp F))):=fun W u z hu hz=>by
  have e3:(pl (pp F)+2)*(T+1)<=(n+2)*(T+1):=Nat.mul_le_mul_right _ Aa;refine Ai.imp (Kr u z _ _ S T W hu hz hsg hR.t Aa Aa hC.n Aa) fun r w' hr=>?_;obtain⟨q,e1,e2⟩:=hr.1 dC;exact⟨q,e1,e2.base_le (Nat.zero_le _)⟩
 obtain⟨A0,c0,rfl,-⟩:=hv.shape;have HC:=Af (Au hpr (Au hde (Au hg1 hd1)));clear hpr hde hg1 hd1 hv hR hg hpg hsg hSM hp hn hM hB hKk hM9 hpd hC hW eg dC hcl
 go_enter Tryz.func100,Tryz.ntmps100
 go_wp2_with fail
 refine AQ HC.out.1 ?_;rintro r1 w1 hr1 hx1;replace hr1:=hr1.base_le (b:=0) (Nat.zero_le _)
 go_wp2_with fail
 refine AQ (HC.out.2.1 _ _ hr1) ?_;rintro r2 w2 hr2 hx2;replace hr1:=hr1.ext hx2;replace hx1:=hx1.trans hx2
 go_wp2_with fail
 refine AQ (HC.out.2.2.1 _ _ _ hr1 hr2) ?_;rintro r3 w3 hr3 hx3;replace hr1:=hr1.ext hx3;replace hx1:=hx1.trans hx3
 go_wp2_with fail
 refine AQ (HC.out.2.2.2 _ _ _ hr1 hr3) ?_;rintro r4 w4 ⟨q,rfl,hq⟩ hx4;go_wp2
 go_ret
 exact Ai.mk hq (hx1.trans hx4)
theorem Zc(v:Value)(F W:Nat->Rat)(S n M T S2 D M2:Nat)(w:World)(hv:AB 0 w v F)(hR:Sa F S n M T)(hW:W=y0 (pp F))(hC:J9 W S2 D M2) :
  Bg 50 #[v] w (fun r w'=>PP w.heap.size 23 w' r W):=by
 have h1:=fun X (x:Ext w X)=>Xh v F S n M T X (hv.ext x) hR;simp only[<-hW]at h1;have hSM:=hC.SM;have hM9:M2<=1000000:=by have:=hC.b;omega
 have hde:∀ X u,AB 0 X u W->Bg 66 #[u] X (fun r w'=>AB 0 w' r (pd W)):=fun X u hu=>by
  obtain⟨m,g1,g2,-,g4⟩:=hu.hz (fun i=>by have:=hC.s i;omega);rw[<-g4];exact Ai.imp (Gb _ m X g1 (by have:=hC.e;have:=hC.D9;omega)) fun _ _ h=>h.base_le (Nat.zero_le _)
 have hch:∀ X u z,AB 0 X u W->AB 0 X z (pd W)->Bg 65 #[u,z] X (fun r w'=>∃ us K,Ow W (pd W) K/\K<=pl (pd W)+1/\Jh X.heap.size X.heap.size 23 w' r us (Gp W (pd W) K)):=fun X u z hu hz =>
  YW u z W (pd W) S2 D M2 X hu hz hC.z (Dt hC.z) hC.f (Bd hC.f) hC.s hC.d hC.e hC.m hC.b hC.D9
 obtain⟨A0,c0,rfl,-⟩:=hv.shape;have HC:=Af (Au h1 (Au hde hch));clear h1 hde hch hv hR hW hC hSM hM9
 go_enter Tryz.func50,Tryz.ntmps50
 have ez:=Ba.new w 92 #[.slice none 0 0] (by simp[Ah]);have hx:=(Ext.refl w).alloc (.cells #[.slice none 0 0] 92)
 go_upto_region 1 with(fail)
 generalize w.alloc (.cells #[.slice none 0 0] 92)=W0 at *
 go_wp2_with fail
 refine AQ (HC.out.1 _ hx) ?_;rintro r1 w1 hr1 hx1;obtain⟨A1,c1,rfl,-⟩:=hr1.shape;replace ez:=ez.ext hx1;replace hx:=hx.trans hx1;have H1:=Af hr1;clear hr1 hx1
 go_wp2_with fail
 refine AQ (HC.out.2.1 _ _ H1.out) ?_;rintro r2 w2 hr2 hx2;replace ez:=ez.ext hx2;replace hx:=hx.trans hx2;have H2:=Af (Au (H1.out.ext hx2) hr2);clear hr2 hx2 H1
 go_wp2_with fail
 refine AQ (HC.out.2.2 _ _ _ H2.out.1 H2.out.2) ?_;rintro r3 w3 ⟨us,K,hK,hK9,hP⟩ hx3;have hlt:=ez.lt;replace ez:=ez.ext hx3;replace hx:=hx.trans hx3;obtain⟨A3,c3,rfl⟩:=hP.shape;have hl:(Gp W (pd W) K).length=K:=Er _ _ _;rw[hl]at hP ⊢;have H3:=Af (Au hK (Au hK9 hP));clear hK hK9 hP hx3 H2;have cz0:=ez.cells1;have fz:=ez.frozen;go_wp2;obtain⟨W4,eW,ez',U⟩:=ez.put1 (.slice A3 K c3) rfl;rw[<-eW];have hP4:=H3.out.2.2.upd1 rfl ez hlt U
 replace hx:=U.from_ hx Ac;clear eW cz0 fz ez;have cz0:=ez'.cells1;have fz:=ez'.frozen;refine bodyPost_ret (v := .agg #[.slice A3 K c3]) (by simp[results,Tryz.results50,go_sem,cz0]) rfl ?_;exact Ai.mk ⟨_,us,K,rfl,H3.out.1,H3.out.2.1,(hP4.base_le (Nat.le_of_lt hlt)).el_le (Nat.le_of_lt hlt)⟩ hx
theorem YH(v:Value)(l:List Int)(w:World)(hv:Gd 0 w v l)(hn:l.length<=1000000):Bg 147 #[v] w (fun r w'=>QX (cz l) w' r):=by
 have HV:=Af hv;have hq:∀ i,qsz (cz l i)<=1099511627776:=Ot hv.sz Aa;have hpl:pl (cz l)<=l.length:=BD (Cx l);have fF:Ae (cz l):=⟨_,Cx l⟩
 obtain⟨A,c,rfl⟩:=hv.len;clear hv
 go_enter Tryz.func147,Tryz.ntmps147
 go_wp2_with fail
 refine AQ (J4 _ l _ HV.out Aa) ?_;rintro r1 w1 hr1 hx1;have HR:=Af (hr1.base_le (Nat.zero_le _));obtain⟨A1,c1,m,rfl,k1,k2,hA,k3,k4,k5⟩:=hr1.form;have HA:=Af (Au hA (Au k3 k5));clear hA k3 k4 k5 hr1;have HQ:=Af hq;clear hq;by_cases h0:cz l=pz
 ·have hp:pl (cz l)=0:=(BI fF).2 h0
  have hr:=NS h0;have H:=Af (Au hr h0);clear hr h0;rw[hp];go_wp2;refine bodyPost_ret (v := .tuple #[.slice none 0 0,.int .i64 5]) (by simp[results,Tryz.results147,go_sem]) rfl ?_;exact Ai.mk ⟨_,by rw[H.out.1],fun e=>by rw[H.out.1]at e;exact absurd e Ab,fun _=>rfl⟩ hx1
 have hp:=AL fF h0;obtain⟨N,hN⟩:∃ N,N=pl (cz l):=⟨_,rfl⟩
 rw[<-hN]at hp hpl k1 ⊢;have hb:(((N:Nat):Int)==0)=false:=beq_eq_false_iff_ne.2 Aa;have HN:=Af (Au hN h0);clear hN h0;by_cases h33:33 < N
 ·have hr:D8 (cz l)=7:=Js HN.out.2 (.inl (by rw[<-HN.out.1];exact h33))
  have H:=Af hr;clear hr;go_wp2;refine bodyPost_ret (v := .tuple #[.slice none 0 0,.int .i64 7]) (by simp[results,Tryz.results147,go_sem]) rfl ?_;exact Ai.mk ⟨_,by rw[H.out],fun e=>by rw[H.out]at e;exact absurd e Ab,fun _=>rfl⟩ hx1
 go_wp2
 go_loopw [17] (fun iv wr=>∃ i:Nat,i<=N/\iv = .int .i64 (i:Nat)/\(∀ j,j < i->∀ b,BL (cz l j).num.natAbs b->b<=4096)/\Ext w1 wr) (fun iv _=>N - (intOf iv).toNat)
 case atStart=>exact⟨0,Aa,rfl,fun j hj=>Aa,Ext.refl _⟩
 case round =>
  obtain⟨i,hi,rfl,hlow,hx⟩:=hrel;have HL:=Af hlow;clear hlow;by_cases hiN:i < N
  ·have hlt:i < m.length:=by have:=HA.out.2.1;have:=HN.out.1;omega
   have hli:cz l i=(m[i]:Rat):=by rw[<-Cq hlt,HA.out.2.2]
   have hqi:=HQ.out i;rw[hli,Bn]at hqi;obtain⟨g,o,b3,A3,n3,c3,e3,-,q0,q1,hq⟩:=HA.out.1.at_ hlt;cases e3;have hqh:=hq.has (by omega:sz (m[i]).natAbs<=1099511627776);obtain⟨y,hy⟩:∃ y,y=m[i]:=⟨_,rfl⟩
   rw[<-hy]at hqh hli;have HI:=Af (Au hqh hli);clear hqh hq hqi hli hy hlt;replace q0:=hx.cell q0;replace q1:=hx.cell q1
   go_wp2_with fail
   refine AQ (RB _ y _ (HI.out.1.ext (hx.alloc _))) ?_;rintro r w2 ⟨b,rfl,hbl⟩ hx2;have hx':=hx2.a1;have HB:=Af hbl;clear hbl;have hcast:(cz l i).num.natAbs=y.natAbs:=by rw[HI.out.2];rfl
   have HC:=Af hcast;clear hcast;by_cases hbb:4096 < b
   ·have hr:D8 (cz l)=7:=Js HN.out.2 (.inr ⟨i,b,by rw[HC.out];exact HB.out,hbb⟩)
    have H:=Af hr;clear hr;go_wp2;refine bodyPost_ret (v := .tuple #[.slice none 0 0,.int .i64 7]) (by simp[results,Tryz.results147,go_sem]) rfl ?_;exact Ai.mk ⟨_,by rw[H.out],fun e=>by rw[H.out]at e;exact absurd e Ab,fun _=>rfl⟩ ((hx1.trans hx).trans hx')
   ·clear hx2
    go_wp2
    go_roundw
    case rel=>exact⟨i+1,Aa,by go_num,fun j hj b' hb'=>by
     rcases Nat.lt_or_ge j i with q | q
     ·exact HL.out j q b' hb'
     ·obtain rfl:j=i:=by omega
      rw[HC.out]at hb';have:=hb'.uniq HB.out;omega,hx.trans hx'⟩
    case measure=>simp[intOf];omega
  ·obtain rfl:i=N:=by omega
   have hnw:¬ RI (cz l):=fun⟨j,b,h1,h2⟩=>by
    rcases Nat.lt_or_ge j i with q | q
    ·have:=HL.out j q b h1;omega
    ·have hz:cz l j=0:=(AA fF) j (by have:=HN.out.1;omega)
     rw[hz]at h1;have:=h1.uniq BL.zero;omega
   have hr:=LF HN.out.2 (by rw[<-HN.out.1];exact h33) hnw;have H:=Af hr;clear hr hnw;have HF:=Af (HR.out.ext hx);rw[<-HN.out.1]at HF;go_wp2;refine bodyPost_ret (v := .tuple #[.slice A1 i c1,.int .i64 0]) (by simp[results,Tryz.results147,go_sem]) rfl ?_;exact Ai.mk ⟨_,by rw[H.out],fun _=>HF.out,fun e=>absurd H.out e⟩ (hx1.trans hx)
theorem Yx(v:Value)(F:Nat->Rat)(w:World)(hv:AB 0 w v F)(fF:Ae F)(h0:F≠pz)(hn:pl F<=33)(hs:∀ i,qsz (F i)<=129):Bg 148 #[v] w (fun r w'=>∃ x,AO w' r x):=by
 have hp:=AL fF h0;obtain⟨A,c,l,rfl,k1,k2,hA,k3,k4,k5⟩:=hv.form;have htop:=EA fF hp;obtain⟨N,hN⟩:∃ N,N=pl F:=⟨_,rfl⟩
 rw[<-hN]at hp hn k1 k3 htop ⊢;have HA:=Af (Au hA (Au k3 (Au k5 (Au htop hs))));clear hA k3 k4 k5 htop hs hv hN
 go_enter Tryz.func148,Tryz.ntmps148
 obtain⟨W1,eW1,ez,y1⟩:=Ba.made w 26 #[.bool false,.slice none 0 0] (by simp[Ah])
 go_upto_region 1 with(fail)
 rw[<-eW1];clear eW1;have hx:=y1
 go_wp2_with fail
 refine AQ (Jb 0 _ Aa Aa) ?_;rintro r2 w2 hr2 hx2;obtain⟨b5,A5,n5,c5,rfl⟩:=hr2.cells;replace ez:=ez.ext hx2;replace hx:=hx.trans hx2;clear hx2;obtain⟨W3,eW3,es,y3⟩:=Ba.made w2 26 #[.bool b5,.slice A5 n5 c5] (by simp[Ah]);have hsm:=Bp.mk es (hr2.kd y3.kd);have hgs:=ez.lt;replace ez:=ez.ext y3;replace hx:=hx.trans y3;clear y3;clear hr2 es
 go_upto_region 2 with(fail)
 rw[<-eW3];clear eW3;generalize w2.heap.size=gs at *;go_wp2
 go_loopw [14] (fun iv wr=>∃ (i:Nat) (x:Int),i<=N/\iv = .int .i64 (i:Nat)/\0<=x/\sz x.natAbs<=260+i/\((∃ j,j < i/\F j≠0)->0 < x)/\Bp wr gs 26 x/\Ba wr w.heap.size 26 #[.bool false,.slice none 0 0]/\Ext w wr) (fun iv _=>N - (intOf iv).toNat)
 case atStart=>exact⟨0,0,Aa,rfl,Aa,Ab,fun⟨j,hj,_⟩=>Aa,hsm,ez,hx⟩
 case round =>
  clear hsm ez hx;obtain⟨i,x,hi,rfl,hx0,hxs,hxp,⟨b1,A1,n1,c1,es,hsz⟩,ez,hx⟩:=hrel;have HX:=Af (Au hx0 (Au hxs (Au hxp hsz)));clear hx0 hxs hxp hsz;by_cases hiN:i < N
  ·have hlt:i < l.length:=by have:=HA.out.2.1;omega
   have hli:F i=(l[i]:Rat):=by rw[<-Cq hlt,HA.out.2.2.1]
   have hqi:=HA.out.2.2.2.2 i;rw[hli,Bn]at hqi;obtain⟨g,o,b3,A3,n3,c3,e3,-,q0,q1,hq⟩:=HA.out.1.at_ hlt;cases e3;obtain⟨y,hy⟩:∃ y,y=l[i]:=⟨_,rfl⟩
   rw[<-hy]at hq hli hqi;have HI:=Af (Au (hq.has Aa) (Au hli (show sz y.natAbs<=129 by omega)));clear hq hqi hli hy hlt;replace q0:=hx.cell q0;replace q1:=hx.cell q1;obtain⟨W7,eW7,e6,y7⟩:=Ba.made wr 26 #[.bool b3,.slice A3 n3 c3] (by simp[Ah]);have hg6:=es.lt;have hgz:=ez.lt
   go_upto_region 5 with(fail)
   rw[<-eW7];clear eW7 q0 q1;replace HX:=Af (Au HX.out.1 (Au HX.out.2.1 (Au HX.out.2.2.1 (HX.out.2.2.2.ext_ y7))));replace ez:=ez.ext y7;replace es:=es.ext y7;replace hx:=hx.trans y7;clear y7;generalize wr.heap.size=g6 at *;have ce6:=e6.cells2;have fe6:=e6.frozen;obtain⟨ces0,ces1⟩:=es.cells2;have fes:=es.frozen;refine EE 4 [18,19,20,21] [3,5] [_,_] [(kv ?_),(kv ?_),(kv ?_),(fun γ=>γ 3)] (fun γ w'=>[True,True,True,AO w' (γ 3) (y*y)]) ?s1 ?_
   case s1 =>
    iterate 4 refine⟨?_,?_⟩
    trivial
    iterate 3 focus
     refine Bi fun _ w' he R hR=>?_;have hc:=he.cells;have cq0:=(e6.ext he).cells2;have cq1:=he.cell ces0;have cq2:=he.cell ces1;go_simp;exact C8 hR
    ·refine Bi fun _ w' he R hR=>?_
     go_simp;exact BF (Dj _ _ y y w' (HI.out.1.ext (hx.trans he)) (HI.out.1.ext (hx.trans he))) hR
   intro γ w8 hx8 hF;have p3:AO w8 (γ 3) (y*y):=AC.get hF 3 Ab;clear hF;simp only[Bw,Nat.reduceAdd];generalize γ 3=g3 at *;clear γ;have hyy:sz (y*y).natAbs<=258:=by
    rw[Int.natAbs_mul];have:=BV y.natAbs y.natAbs;have:=HI.out.2.2;omega
   have hsum:sz (x+y*y).natAbs<=260+(i+1):=by
    have h1:=Bq (Int.natAbs_add_le x (y*y));have h2:=GX x.natAbs (y*y).natAbs;have:=HX.out.2.1;omega
   have hyn:0<=y*y:=by
    rcases Int.le_total 0 y with h | h
    ·exact Int.mul_nonneg h h
    ·have:=Int.mul_nonneg (show 0 <= -y by omega) (show 0 <= -y by omega)
     rw[Int.neg_mul_neg]at this;exact this
   have hyp:F i≠0->0 < y*y:=fun hne=>by
    have hy0:y≠0:=fun e=>hne (by rw[HI.out.2.1,e];rfl);have:y*y≠0:=fun e=>by rcases Int.mul_eq_zero.1 e with q | q<;>exact hy0 q
    omega
   have HS:=Af (Au hsum (Au hyn (Au hyp (Au hyy HX.out.2.1))));clear hsum hyn hyp hyy
   go_wp2_with fail
   refine AQ (M8 _ _ x (y*y) _ ((HX.out.2.2.2.ext_ hx8).has (by have:=HS.out.2.2.2.2;omega)) (p3.has (by have:=HS.out.2.2.2.1;omega))) ?_;rintro r9 w9 hr9 hx9;obtain⟨b9,A9,n9,c9,rfl⟩:=hr9.cells;have x89:=hx8.trans hx9;clear ce6 ces0 ces1 fe6 fes p3 e6;replace ez:=ez.ext x89;replace es:=es.ext x89;replace hx:=hx.trans x89;clear x89;clear hx8 hx9;obtain⟨ces0,ces1⟩:=es.cells2;have fes:=es.frozen
   go_upto_region 6 with(fail)
   obtain⟨W10,eW,es',U⟩:=es.put2 (.bool b9) (.slice A9 n9 c9);rw[<-eW];clear eW es;replace hr9:=hr9.kd U.kd;replace ez:=ez.upd U Ak;replace hx:=U.from_ hx Ak;have es:=es';clear U es';clear ces0 ces1 fes;go_wp2
   go_roundw
   case rel=>exact⟨i+1,x+y*y,Aa,by go_num,by have:=HX.out.1;have:=HS.out.2.1;omega,HS.out.1,fun⟨j,hj,hne⟩=>by
    have h1:=HX.out.1;have h2:=HS.out.2.1;rcases Nat.lt_or_ge j i with q | q
    ·have:=HX.out.2.2.1 ⟨j,q,hne⟩;omega
    ·obtain rfl:j=i:=by omega
     have:=HS.out.2.2.1 hne;omega,Bp.mk es hr9,ez,hx⟩
   case measure=>simp[intOf];omega
  ·obtain rfl:i=N:=by omega
   have hpos:0 < x:=HX.out.2.2.1 ⟨i - 1,Aa,HA.out.2.2.2.1⟩;have HP:=Af (Au hpos (show sz x.natAbs<=1000 by have:=HX.out.2.1;omega));clear hpos;have hgz:=ez.lt;obtain⟨ces0,ces1⟩:=es.cells2;have fes:=es.frozen
   go_wp2_with fail
   refine AQ (Xg _ x _ (HX.out.2.2.2.has (by have:=HP.out.2;omega)) HP.out.1 HP.out.2) ?_;rintro r11 w11 ⟨r0,q,bq,rfl,hr0,hq0,hqs⟩ hx11;obtain⟨b12,A12,n12,c12,rfl⟩:=hr0.cells;have HQ:=Af hqs;clear hqs hq0 ces0 ces1 fes es;replace ez:=ez.ext hx11;replace hx:=hx.trans hx11;clear hx11;obtain⟨W12,eW12,er,y12⟩:=Ba.made w11 26 #[.bool b12,.slice A12 n12 c12] (by simp[Ah]);have hrr:=Bp.mk er (hr0.kd y12.kd)
   have hgr:=ez.lt;replace ez:=ez.ext y12;replace hx:=hx.trans y12;clear y12;clear er hr0
   go_upto_region 8 with(fail)
   rw[<-eW12];clear eW12;generalize w11.heap.size=gr at *
   go_wp2_with fail
   refine AQ (Jb 2 _ Aa Aa) ?_;rintro r13 w13 hr13 hx13;replace ez:=ez.ext hx13;replace hrr:=hrr.ext hx13;replace hx:=hx.trans hx13;clear hx13;obtain⟨k,hk⟩:∃ k,i=k+1:=⟨i - 1,Aa⟩
   have hki:((i:Nat):Int) - 1=(k:Nat):=by omega
   go_wp2_with fail
   refine Calls.mono (show Bg 176 _ _ (fun r w'=>EL w' r (2^k) 0)from by
    first
     | (rw[hki];exact Tn _ k _ (hr13.has Ab) Aa)
     | exact Tn _ k _ (hr13.has Ab) Aa) ?_
   rintro e w14 ⟨r14,rfl,⟨r15,rfl,hr15⟩,hx14⟩;obtain⟨b15,A15,n15,c15,rfl⟩:=hr15.cells;clear hr13;replace ez:=ez.ext hx14;replace hrr:=hrr.ext hx14;replace hx:=hx.trans hx14;clear hx14;obtain⟨W16,eW16,et,y16⟩:=Ba.made w14 26 #[.bool b15,.slice A15 n15 c15] (by simp[Ah]);have htt:=hr15.kd y16.kd;have hgt:=hrr.lt;replace ez:=ez.ext y16;replace hrr:=hrr.ext y16;replace hx:=hx.trans y16;clear y16;clear hr15
   go_upto_region 9 with(fail)
   rw[<-eW16];clear eW16;generalize w14.heap.size=gt at *;obtain⟨b17,A17,n17,c17,er,hrz⟩:=hrr;have hk9:=GM k;have HT:=Af (Au htt (Au hrz (show sz ((2:Int)^k).natAbs<=1099511627776 by omega)));clear htt hrz hk9;have hs1:sz (q+1).natAbs<=1099511627776:=by
    have h1:=Bq (Int.natAbs_add_le q 1);have h2:=GX q.natAbs (1:Int).natAbs;have h3:sz (1:Int).natAbs=1:=by decide
    have:=HQ.out;omega
   have HS1:=Af hs1;clear hs1;have cet:=et.cells2;have fet:=et.frozen;have cer:=er.cells2;have fer:=er.frozen;have cez:=ez.cells2;have fez:=ez.frozen;refine EE 4 [38,39,40,41] [9,6] [_,_] [(kv ?_),(kv ?_),(fun γ=>γ 2),(fun γ=>γ 3)] (fun γ w'=>[True,True,AO w' (γ 2) 1,AO w' (γ 3) (q+1)]) ?s2 ?_
   case s2 =>
    iterate 4 refine⟨?_,?_⟩
    trivial
    iterate 2 focus
     refine Bi fun _ w' he R hR=>?_;have hc:=he.cells;have cq0:=(et.ext he).cells2;have cq1:=(er.ext he).cells2;go_simp;exact C8 hR
    ·refine Bi fun _ w' he R hR=>?_
     go_simp;exact BF (Jb 1 w' Aa Aa) hR
    ·refine Gj fun γ w' he hf R hR=>?_;have f2:AO w' (γ 2) 1:=hf 2 Ab;clear hf
     go_simp;exact BF (M8 _ _ q 1 w' ((HT.out.2.1.ext_ he).has (by have:=HQ.out;omega)) (f2.has Ab)) hR
   intro γ w18 hx18 hF;have p2:AO w18 (γ 2) 1:=AC.get hF 2 Ab;have p3:AO w18 (γ 3) (q+1):=AC.get hF 3 Ab;clear hF;simp only[Bw,Nat.reduceAdd];generalize γ 2=g2 at *;generalize γ 3=g3 at *;clear γ
   go_wp2_with fail
   refine AQ (Dj _ _ (2^k) (q+1) _ ((HT.out.1.ext_ hx18).has HT.out.2.2) (p3.has HS1.out)) ?_;rintro r19 w19 hr19 hx19;obtain⟨b19,A19,n19,c19,rfl⟩:=hr19.cells;have x1819:=hx18.trans hx19;clear cet cer cez fet fer fez p2 p3;replace ez:=ez.ext x1819;replace hx:=hx.trans x1819;clear x1819;clear hx18 hx19;have cez:=ez.cells2;have fez:=ez.frozen;go_wp2;obtain⟨W20,eW,ez',U⟩:=ez.put2 (.bool b19) (.slice A19 n19 c19)
   rw[<-eW];clear eW ez;replace hr19:=hr19.kd U.kd;replace hx:=U.from_ hx Ak;have ez:=ez';clear U ez';clear cez fez;have cez:=ez.cells2;have fez:=ez.frozen;refine bodyPost_ret (v := .agg #[.bool b19,.slice A19 n19 c19]) (by simp[results,Tryz.results148,go_sem,cez]) rfl ?_;exact Ai.mk ⟨_,hr19⟩ hx
theorem Xj(v:Value)(l:List Int)(w:World)(hv:Gd 0 w v l)(hn:l.length<=1000000):Bg 98 #[v] w (fun r _=>iO (cz l) r):=by
 have HV:=Af hv;have fF:Ae (cz l):=⟨_,Cx l⟩
 have zF:ZI (cz l):=ZI.cz l;obtain⟨A,c,rfl⟩:=hv.len;clear hv
 go_enter Tryz.func98,Tryz.ntmps98
 obtain⟨W1,eW1,ez,y1⟩:=Ba.made w 26 #[.bool false,.slice none 0 0] (by simp[Ah])
 go_upto_region 1 with(fail)
 rw[<-eW1];clear eW1;have hx:=y1;clear y1
 go_wp2_with fail
 refine AQ (YH _ l _ (HV.out.ext hx) hn) ?_;rintro r2 w2 ⟨u,rfl,hu1,hu2⟩ hx2;replace ez:=ez.ext hx2;replace hx:=hx.trans hx2;clear hx2;have hgz:=ez.lt;obtain⟨E,hE⟩:∃ E,E=D8 (cz l):=⟨_,rfl⟩
 have hc:=FC (cz l);rw[<-hE]at hu1 hu2 hc ⊢;have HE:=Af hE;clear hE;have fin:∀(W:World) (b:Bool) (A:Option Addr) (n c:Nat),Ext w W->Ai w (fun r _=>iO (cz l) r) (.returned (.tuple #[.agg #[.bool b,.slice A n c],.int .i64 E])) W:=fun W b A n c h=>Ai.mk ⟨_,_,_,_,by rw[HE.out]⟩ h;have Hfin:=Af fin;clear fin;rcases hc with⟨-,hc⟩ | ⟨-,hc⟩ | ⟨h0,hp,hw,hc⟩
 ·subst hc
  clear hu1 hu2;have cez:=ez.cells2;have fez:=ez.frozen;go_wp2;obtain⟨W3,eW,ez',U⟩:=ez.put2 (.bool false) (.slice none 0 0);rw[<-eW];clear eW ez;replace hx:=U.from_ hx Ak;have ez:=ez';clear U ez';clear cez fez;have cez:=ez.cells2;have fez:=ez.frozen;refine bodyPost_ret (v := .tuple #[.agg #[.bool false,.slice none 0 0],.int .i64 5]) (by simp[results,Tryz.results98,go_sem,cez]) rfl ?_;exact Hfin.out _ _ _ _ _ hx
 ·subst hc
  clear hu1 hu2;have cez:=ez.cells2;have fez:=ez.frozen;go_wp2;obtain⟨W3,eW,ez',U⟩:=ez.put2 (.bool false) (.slice none 0 0);rw[<-eW];clear eW ez;replace hx:=U.from_ hx Ak;have ez:=ez';clear U ez';clear cez fez;have cez:=ez.cells2;have fez:=ez.frozen;refine bodyPost_ret (v := .tuple #[.agg #[.bool false,.slice none 0 0],.int .i64 7]) (by simp[results,Tryz.results98,go_sem,cez]) rfl ?_;exact Hfin.out _ _ _ _ _ hx
 ·subst hc
  have hq:=gI zF hw;have hu:=hu1 rfl;obtain⟨A1,c1,rfl,-⟩:=hu.shape;clear hu1 hu2
  go_wp2_with fail
  refine AQ (Yx _ (cz l) _ hu fF h0 hp hq) ?_;rintro r4 w4 ⟨x4,hr4⟩ hx4;obtain⟨b5,A5,n5,c5,rfl⟩:=hr4.cells;clear hu;replace ez:=ez.ext hx4;replace hx:=hx.trans hx4;clear hx4;have cez:=ez.cells2;have fez:=ez.frozen;go_wp2;obtain⟨W3,eW,ez',U⟩:=ez.put2 (.bool b5) (.slice A5 n5 c5);rw[<-eW];clear eW ez;replace hx:=U.from_ hx Ak;have ez:=ez';clear U ez';clear cez fez;have cez:=ez.cells2;have fez:=ez.frozen
  refine bodyPost_ret (v := .tuple #[.agg #[.bool b5,.slice A5 n5 c5],.int .i64 0]) (by simp[results,Tryz.results98,go_sem,cez]) rfl ?_;exact Hfin.out _ _ _ _ _ hx
theorem Zr(v:Value)(l:List Int)(w:World)(hv:Gd 0 w v l)(hn:l.length<=1000000):Bg 48 #[v] w (fun r w'=>gZ w.heap.size (cz l) w' r):=by
 have HV:=Af hv;obtain⟨A,c,rfl⟩:=hv.len;clear hv
 go_enter Tryz.func48,Tryz.ntmps48
 go_wp2_with fail
 refine AQ (Xj _ l _ HV.out hn) ?_;rintro r2 w2 ⟨b5,A5,n5,c5,rfl⟩ hx2;obtain⟨W1,eW1,-,y1⟩:=Ba.made w2 26 #[.bool b5,.slice A5 n5 c5] (by simp[Ah]);have hx:=hx2.trans y1;clear hx2 y1
 go_upto_region 2 with(fail)
 rw[<-eW1];clear eW1;obtain⟨E,hE⟩:∃ E,E=D8 (cz l):=⟨_,rfl⟩
 have hc:=FC (cz l);rw[<-hE]at hc ⊢;have HE:=Af hE;clear hE;rcases hc with⟨-,hc⟩ | ⟨-,hc⟩ | ⟨-,-,-,hc⟩
 ·subst hc
  go_wp2;refine bodyPost_ret (v := .tuple #[.slice none 0 0,.int .i64 5]) (by simp[results,Tryz.results48,go_sem]) rfl ?_;exact Ai.mk ⟨_,by rw[<-HE.out],fun e=>by rw[<-HE.out]at e;exact absurd e Ab,fun _=>rfl⟩ hx
 ·subst hc
  go_wp2;refine bodyPost_ret (v := .tuple #[.slice none 0 0,.int .i64 7]) (by simp[results,Tryz.results48,go_sem]) rfl ?_;exact Ai.mk ⟨_,by rw[<-HE.out],fun e=>by rw[<-HE.out]at e;exact absurd e Ab,fun _=>rfl⟩ hx
 ·subst hc
  go_wp2_with fail
  refine AQ (J4 _ l _ (HV.out.ext hx) Aa) ?_;rintro r4 w4 hr4 hx4;obtain⟨A1,c1,rfl,-⟩:=hr4.shape;have hx5:=hx.trans hx4;have HR:=Af (hr4.base_le hx.size);clear hr4;go_wp2;refine bodyPost_ret (v := .tuple #[.slice A1 (pl (cz l)) c1,.int .i64 0]) (by simp[results,Tryz.results48,go_sem]) rfl ?_;exact Ai.mk ⟨_,by rw[<-HE.out],fun _=>HR.out,fun e=>by rw[<-HE.out]at e;exact absurd rfl e⟩ hx5
theorem RO(v:Value)(l:List Int)(w:World)(hv:Gd 0 w v l)(hn:l.length<=1000000):Bg 48 #[v] w (fun r w'=>QX (cz l) w' r):=
 Ai.imp (Zr v l w hv hn) fun _ _ ⟨u,h1,h2,h3⟩=>⟨u,h1,fun e=>(h2 e).base_le (Nat.zero_le _),h3⟩
theorem iX(v u z:Value)(W:Nat->Rat)(p q:Rat)(base S D M t K:Nat)(w:World)(hv:PP base 23 w v W)(hu:Ce w u p)(hz:Ce w z q)(hC:J9 W S D M)(hK:Ow W (pd W) K)(hp:qsz p<=t)(hq:qsz q<=t)
  (ht:1+D*(M+t+1)+M+t+1<=274877906944) :
  Bg 51 #[v,u,z] w (fun r _=>r = .int .i64 ((V (Gp W (pd W) K) p:Nat) - (V (Gp W (pd W) K) q:Nat):Int)):=by
 obtain⟨c,us,K',rfl,h1,h2,h3⟩:=hv;obtain rfl:=h1.uniq hK;have hl:(Gp W (pd W) K').length=K':=Er _ _ _;have hK9:K'<=1000:=by have:=hC.e;have:=hC.D9;omega
 have hch:∀ X (x:Ext w X) a r,Ce X a r->qsz r<=t->Bg 101 #[c,a] X (fun o _=>o = .int .i64 (V (Gp W (pd W) K') r:Nat)):=fun X x a r ha hr =>
  Vo c a us _ r base M t D X (h3.ext x) ha (hC.mem h1) hr ht (by have:=hC.D9;omega) (by rw[hl];omega)
 have b1:=dS (Gp W (pd W) K') p;have b2:=dS (Gp W (pd W) K') q;rw[hl]at b1 b2;obtain⟨Vp,hVp⟩:∃ n,n=V (Gp W (pd W) K') p:=⟨_,rfl⟩
 obtain⟨Vq,hVq⟩:∃ n,n=V (Gp W (pd W) K') q:=⟨_,rfl⟩
 have hc1:∀ X (x:Ext w X),Bg 101 #[c,u] X (fun o _=>o = .int .i64 (Vp:Nat)):=fun X x=>by rw[hVp];exact hch X x u p (hu.ext x) hp
 have hc2:∀ X (x:Ext w X),Bg 101 #[c,z] X (fun o _=>o = .int .i64 (Vq:Nat)):=fun X x=>by rw[hVq];exact hch X x z q (hz.ext x) hq
 rw[<-hVp]at b1 ⊢;rw[<-hVq]at b2 ⊢;have HP:=Af (Au hc1 hc2);obtain⟨A0,c0,rfl⟩:=h3.shape;rw[hl]at HP ⊢;obtain⟨b,B,n1,c1,b',B',n1',c1',x0,y0,rfl,-⟩:=hu.form;obtain⟨d,E,n2,c2,d',E',n2',c2',x1,y1,rfl,-⟩:=hz.form;clear hch hu hz hp hq h1 h2 h3 hC hK ht hl hc1 hc2 hVp hVq
 go_enter Tryz.func51,Tryz.ntmps51
 go_upto_region 1 with(fail)
 refine EE 8 [7,8,9,10,11,12,13,14] [3,4,5] [_,_,_] [(kv ?_),(kv ?_),(kv ?_),(kv (.int .i64 (Vp:Nat))),(kv ?_),(kv ?_),(kv ?_),(kv (.int .i64 (Vq:Nat)))] (fun γ w'=>[True,True,True,True,True,True,True,True]) ?s1 ?_
 case s1 =>
  iterate 8 refine⟨?_,?_⟩
  trivial
  iterate 3 focus
   refine Bi fun _ w' he R hR=>?_;have hc:=he.cells;go_simp;exact C8 hR
  ·refine Bi fun _ w' he R hR=>?_
   go_simp;exact OA (HP.out.1 w' he.a3) hR
  iterate 3 focus
   refine Bi fun _ w' he R hR=>?_;have hc:=he.cells;go_simp;exact C8 hR
  ·refine Bi fun _ w' he R hR=>?_
   go_simp;exact OA (HP.out.2 w' he.a3) hR
 intro γ w1 hx1 hF;clear hF;simp only[Bw,Nat.reduceAdd];clear γ;go_wp2
 go_ret
 exact Ai.mk rfl hx1.a3
end Go.Proofs.YtmhgnigpmompmaaGreat

namespace Go.Proofs.YtmhgnigpmompmaaGreat
open Go.RowKit Go.Hp
set_option maxRecDepth 20000 in
theorem WO(v:Value)(p q:Rat)(t:Nat)(w:World)(hv:Qv w v p q)(hp:qsz p<=t)(hq:qsz q<=t)(ht:t<=100000000000) :
  Bg 112 #[v] w (fun r w'=>BX w' r ((p+q) / 2)):=by
 have hsum:qsz (p+q)<=274877906944:=by have:=Fb p q;omega
 obtain⟨d1,A1,n1,c1,d2,A2,n2,c2,d3,A3,n3,c3,d4,A4,n4,c4,rfl,hu1,hu2⟩:=hv;have HC:=Af (Au hu1 (Au hu2 hsum));clear hu1 hu2 hsum hp hq ht
 go_enter Tryz.func112,Tryz.ntmps112
 have ea:=(Ba.new w 30 #[.bool d1,.slice A1 n1 c1,.bool d2,.slice A2 n2 c2,.bool d3,.slice A3 n3 c3,.bool d4,.slice A4 n4 c4] (by simp[Ah])).alloc (.cells #[.bool false,.slice none 0 0,.bool false,.slice none 0 0] 28);have ez:=Ba.new (w.alloc (.cells #[.bool d1,.slice A1 n1 c1,.bool d2,.slice A2 n2 c2,.bool d3,.slice A3 n3 c3,.bool d4,.slice A4 n4 c4] 30)) 28 #[.bool false,.slice none 0 0,.bool false,.slice none 0 0] (by simp[Ah])
 rw[World.size_alloc]at ez;have hx:=((Ext.refl w).alloc (.cells #[.bool d1,.slice A1 n1 c1,.bool d2,.slice A2 n2 c2,.bool d3,.slice A3 n3 c3,.bool d4,.slice A4 n4 c4] 30)).alloc (.cells #[.bool false,.slice none 0 0,.bool false,.slice none 0 0] 28)
 go_upto_region 1 with(fail)
 generalize (w.alloc (.cells #[.bool d1,.slice A1 n1 c1,.bool d2,.slice A2 n2 c2,.bool d3,.slice A3 n3 c3,.bool d4,.slice A4 n4 c4] 30)).alloc (.cells #[.bool false,.slice none 0 0,.bool false,.slice none 0 0] 28)=W0 at *;have cea:=ea.cells8;have fea:=ea.frozen
 go_wp2_with fail
 refine AQ (Ut _ _ p q _ (HC.out.1.ext hx) (HC.out.2.1.ext hx)) ?_;rintro r1 w1 hr1 hx1;clear cea fea ea;replace ez:=ez.ext hx1;replace hx:=hx.trans hx1
 go_wp2_with fail
 refine AQ (WJ 2 _ Aa Aa) ?_;rintro r2 w2 hr2 hx2;replace ez:=ez.ext hx2;replace hx:=hx.trans hx2;have H2:=Af (Au (hr1.ext hx2) hr2);clear hr1 hr2 hx1 hx2
 go_wp2_with fail
 refine AQ (Xm _ _ (p+q) ((2:Int):Rat) _ (H2.out.1.has HC.out.2.2) (H2.out.2.has Ab) Ab) ?_;rintro r3 w3 ⟨q3,rfl,hq3⟩ hx3;obtain⟨b5,B5,m5,e5,b6,B6,m6,e6,rfl⟩:=hq3.cells;replace ez:=ez.ext hx3;replace hx:=hx.trans hx3;obtain⟨W4,eW,e4,x4⟩:=Ba.made w3 28 #[.bool b5,.slice B5 m5 e5,.bool b6,.slice B6 m6 e6] (by simp[Ah]);have hr:=hq3.ext x4;have hltz:=ez.lt;replace ez:=ez.ext x4;replace hx:=hx.trans x4
 clear hq3 hx3 x4 H2
 go_upto_region 2 with(fail)
 rw[<-eW];clear eW;generalize w3.heap.size=gc at *;have cez:=ez.cells4;have fez:=ez.frozen;have ce4:=e4.cells4;have fe4:=e4.frozen;go_wp2;obtain⟨W5,eW,ez',U⟩:=ez.put4 (.bool b5) (.slice B5 m5 e5) (.bool b6) (.slice B6 m6 e6);rw[<-eW];clear eW ez;replace hr:=hr.kd U.kd;replace hx:=U.from_ hx Ak;have ez:=ez';clear U ez';clear cez fez;have cez:=ez.cells4;have fez:=ez.frozen;refine bodyPost_ret (v := .agg #[.bool b5,.slice B5 m5 e5,.bool b6,.slice B6 m6 e6]) (by simp[results,Tryz.results112,go_sem,cez]) rfl ?_
 exact Ai.mk hr hx
set_option maxRecDepth 20000 in
theorem Yr(v u:Value)(p q:Rat)(w:World)(hv:Ce w v p)(hu:Ce w u q) :
  Bg 82 #[v,u] w (fun r w'=>Ko w' r p q):=by
 have HC:=Af (Au hv hu);obtain⟨b,B,m1,e1,b',B',m1',e1',x0,y0,rfl,-⟩:=hv.form;obtain⟨d,E,m2,e2,d',E',m2',e2',x1,y1,rfl,-⟩:=hu.form;clear hv hu
 go_enter Tryz.func82,Tryz.ntmps82
 obtain⟨W1,eW1,ea,y1⟩:=Ba.made w 28 #[.bool b,.slice B m1 e1,.bool b',.slice B' m1' e1'] (by simp[Ah]);obtain⟨W2,eW2,ec,y2⟩:=Ba.made W1 28 #[.bool d,.slice E m2 e2,.bool d',.slice E' m2' e2'] (by simp[Ah]);obtain⟨W3,eW3,ez,y3⟩:=Ba.made W2 30 #[.bool false,.slice none 0 0,.bool false,.slice none 0 0,.bool false,.slice none 0 0,.bool false,.slice none 0 0] (by simp[Ah]);have s1:W1.heap.size=w.heap.size+1:=by rw[eW1,World.size_alloc]
 have s2:W2.heap.size=w.heap.size+1+1:=by rw[eW2,World.size_alloc,s1]
 rw[s1]at ec;rw[s2]at ez;have hx:=(y1.trans y2).trans y3;replace ea:=ea.ext (y2.trans y3);replace ec:=ec.ext y3
 go_upto_region 1 with(fail)
 rw[<-eW1,<-eW2,<-eW3];clear eW1 eW2 eW3 y1 y2 y3 s1 s2;have cea:=ea.cells4;have fea:=ea.frozen;have cec:=ec.cells4;have fec:=ec.frozen
 go_wp2_with fail
 refine EE 4 [5,6,7,8] [2,3] [_,_] [(kv ?_),(fun γ=>γ 1),(kv ?_),(fun γ=>γ 3)] (fun γ w'=>[True,BX w' (γ 1) p,True,BX w' (γ 3) q]) ?s1 ?_
 case s1 =>
  iterate 4 refine⟨?_,?_⟩
  trivial
  iterate 1 focus
   refine Bi fun _ w' he R hR=>?_;have hc:=he.cells;have cq0:=(ea.ext he).cells4;have cq1:=(ec.ext he).cells4;go_simp;exact C8 hR
  ·refine Bi fun _ w' he R hR=>?_
   go_simp;exact BF (Gn _ p w' (HC.out.1.ext (hx.trans he))) hR
  iterate 1 focus
   refine Bi fun _ w' he R hR=>?_;have hc:=he.cells;have cq0:=(ea.ext he).cells4;have cq1:=(ec.ext he).cells4;go_simp;exact C8 hR
  ·refine Bi fun _ w' he R hR=>?_
   go_simp;exact BF (Gn _ q w' (HC.out.2.ext (hx.trans he))) hR
 intro γ w8 hx8 hF;have p1:BX w8 (γ 1) p:=AC.get hF 1 Ab;have p3:BX w8 (γ 3) q:=AC.get hF 3 Ab;clear hF;simp only[Bw,Nat.reduceAdd];generalize γ 1=g1 at *;generalize γ 3=g3 at *;clear γ;obtain⟨b5,A5,n5,c5,b6,A6,n6,c6,rfl⟩:=p1.cells;obtain⟨b7,A7,n7,c7,b8,A8,n8,c8,rfl⟩:=p3.cells;have HQ:=Af (Au p1 p3);replace hx:=hx.trans hx8;replace ez:=ez.ext hx8;clear p1 p3 cea cec fea fec;have cez:=ez.cells8;have fez:=ez.frozen
 go_wp2;obtain⟨W6,eW6,ez',U⟩:=ez.put8 (.bool b5) (.slice A5 n5 c5) (.bool b6) (.slice A6 n6 c6) (.bool b7) (.slice A7 n7 c7) (.bool b8) (.slice A8 n8 c8) rfl rfl rfl rfl rfl rfl rfl rfl;rw[<-eW6];have hr1:=BX.kd HQ.out.1 U.kd;have hr2:=BX.kd HQ.out.2 U.kd;replace hx:=U.from_ hx Ak;clear eW6 ez cez fez;have ez:=ez';have cez:=ez.cells8;have fez:=ez.frozen;refine bodyPost_ret (v := .agg #[.bool b5,.slice A5 n5 c5,.bool b6,.slice A6 n6 c6,.bool b7,.slice A7 n7 c7,.bool b8,.slice A8 n8 c8]) (by simp[results,Tryz.results82,go_sem,cez]) rfl ?_
 exact Ai.mk ⟨_,_,_,_,_,_,_,_,_,_,_,_,_,_,_,_,rfl,hr1,hr2⟩ hx
theorem bB:(Tryz.prog.info? 30).map (fun i=>(i.zero,i.size,i.bytes))=some (some (.agg #[.bool false,.slice none 0 0,.bool false,.slice none 0 0,.bool false,.slice none 0 0,.bool false,.slice none 0 0]),8,128):=by kernel_rfl
theorem VD(W:World)(base ty g:Nat)(v:Value)(l:List (Rat×Rat))(p q:Rat){b1 b2 b3 b4:Bool}{A1 A2 A3 A4:Option Addr}{n1 n2 n3 n4 c1 c2 c3 c4:Nat}(h:EZ base 30 W v l)
  (hq:Ko W (.agg #[.bool b1,.slice A1 n1 c1,.bool b2,.slice A2 n2 c2,.bool b3,.slice A3 n3 c3,.bool b4,.slice A4 n4 c4]) p q) (hn:l.length<=1000000) (hb:base<=W.heap.size) (hg:g=W.heap.size) :
  ∃ v' w',(Builtin.append_ #[51,51] ty #[v,.slice (some ⟨g,0,none⟩) 1 1]).run Tryz.prog (W.alloc (.cells #[.bool b1,.slice A1 n1 c1,.bool b2,.slice A2 n2 c2,.bool b3,.slice A3 n3 c3,.bool b4,.slice A4 n4 c4] 30)) = .ok v' w' /\
   (EZ base 30 w' v' (l ++ [(p,q)])/\Cc (blk v) W w'/\∀ g∈blk v',g∈blk v\/W.heap.size<=g):=by
 subst hg;obtain⟨i0,hi,hz0,hz1,hz2⟩:=info_parts bB;have hB:=Ba.new W 30 #[.bool b1,.slice A1 n1 c1,.bool b2,.slice A2 n2 c2,.bool b3,.slice A3 n3 c3,.bool b4,.slice A4 n4 c4] (by simp[Ah]);have hx:=(Ext.refl W).alloc (.cells #[.bool b1,.slice A1 n1 c1,.bool b2,.slice A2 n2 c2,.bool b3,.slice A3 n3 c3,.bool b4,.slice A4 n4 c4] 30);obtain⟨v',w',a,b,c,d⟩:=BB.append_at (P:=Tryz.prog) (x:=(p,q)) (EZ.ext h hx) 51 ty i0 _ 128 Tryz.underlying51 hi hz0 hz1 hz2 rfl (by simp[nodig,Ah,Value.cells]) Ab ⟨W.heap.size,0,none⟩ 1
  #[.bool b1,.slice A1 n1 c1,.bool b2,.slice A2 n2 c2,.bool b3,.slice A3 n3 c3,.bool b4,.slice A4 n4 c4] rfl (hq.ext hx) hB.news (by simp[Value.oneCell']) (by simp[nodig,Ah]) (by simp only[maxLen];omega) Aa (Nat.le_trans hb hx.size) (fun _ _ _ k hq=>Ko.kd hq k)
 refine⟨v',w',a,b,(Cc.of_ext hx).trans c,fun g hg=>?_⟩;rcases d g hg with q | q
 ·exact .inl q
 ·right;have:=hx.size;omega
set_option maxRecDepth 20000 in
theorem Ve(a:World)(v:Value)(W:Nat->Rat)(P Q:Rat)(base S D M K N aP:Nat)(hv:PP base 23 a v W)(hC:J9 W S D M)(hK:Ow W (pd W) K)(hPQ:P < Q)(hP:qsz P<=aP)(hQ:qsz Q<=aP)
  (hdeep:∀ d p q,Hp.Node P Q d p q->N<=d->rc W p q<=1) (h0:∀ d p q,Hp.Node P Q d p q->0<=rc W p q) (ht:1+D*(M+(3*aP+N+4)+1)+M+(3*aP+N+4)+1<=100000000000) :
  ∀(n d:Nat) (p q:Rat) (u o:Value) (l:List (Rat×Rat)) (w:World),Hp.Node P Q d p q->N<=n+d->d<=N->Ext a w->Qv w u p q->EZ a.heap.size 30 w o l->l.length+(Jc (rc W) n p q).length<=1000 ->
   Calls Tryz.prog 64 #[v,o,u] w (SE a.heap.size 30 w o (l ++ Jc (rc W) n p q)):=by
 intro nn;induction nn using Nat.strongRecOn with
 | _ nn ih =>
  intro d p q u o l w hn hN hd hx hu ho hl;obtain⟨hp,hq⟩:=hn.qsz hP hQ;have hin:∀ X (x:Ext w X) y z,Ce X y p->Ce X z q->Bg 51 #[v,y,z] X (fun r _=>r = .int .i64 (rc W p q)):=fun X x y z hy hz=>by
   have:=iX v y z W p q base S D M (3*aP+N+4) K X (hv.ext (hx.trans x)) hy hz hC hK Aa Aa Aa;have e:((V (Gp W (pd W) K) p:Nat):Int) - (V (Gp W (pd W) K) q:Nat)=rc W p q:=LY hK p q;rw[e]at this;exact this
  obtain⟨A0,n0,c0,rfl⟩:=hv.cell;have hu':=hu;obtain⟨d1,A1,n1,c1,d2,A2,n2,c2,d3,A3,n3,c3,d4,A4,n4,c4,rfl,hu1,hu2⟩:=hu;obtain⟨Ao,co,rfl⟩:=ho.len;obtain⟨R,hR⟩:∃ R,R=rc W p q:=⟨_,rfl⟩
  have hR0:=h0 d p q hn;have hRd:=hdeep d p q hn;rw[<-hR]at hin hR0 hRd;have HC:=Af (Au hin (Au hu1 (Au hu2 (Au hR (Au ho (Au hu' hx))))));clear hin hu1 hu2 hR ho hu' hx
  go_enter Tryz.func64,Tryz.ntmps64
  obtain⟨W1,eW1,ec,y1⟩:=Ba.made w 92 #[.slice A0 n0 c0] (by simp[Ah]);obtain⟨W2,eW2,ea,y2⟩:=Ba.made W1 30 #[.bool d1,.slice A1 n1 c1,.bool d2,.slice A2 n2 c2,.bool d3,.slice A3 n3 c3,.bool d4,.slice A4 n4 c4] (by simp[Ah]);have s1:W1.heap.size=w.heap.size+1:=by rw[eW1,World.size_alloc]
  rw[s1]at ea;have hx:=y1.trans y2;replace ec:=ec.ext y2
  go_upto_region 1 with(fail)
  rw[<-eW1,<-eW2];clear eW1 eW2 y1 y2 s1;obtain⟨cea0,cea1,cea2,cea3,cea4,cea5,cea6,cea7⟩:=ea.cells8;have fea:=ea.frozen;have cec0:=ec.cells1
  go_wp2_with fail
  refine AQ (HC.out.1 _ hx _ _ (HC.out.2.1.ext hx) (HC.out.2.2.1.ext hx)) ?_;rintro r4 w4 rfl hx4;clear cea0 cea1 cea2 cea3 cea4 cea5 cea6 cea7 fea cec0;replace ea:=ea.ext hx4;replace ec:=ec.ext hx4;replace hx:=hx.trans hx4;clear hx4;have fin0:R=0->SE a.heap.size 30 w (.slice Ao l.length co) (l ++ Jc (rc W) nn p q) (.returned (.slice Ao l.length co)) w4:=fun h=>by
   rw[LG (by rw[<-HC.out.2.2.2.1];exact h),List.append_nil];exact⟨_,rfl,HC.out.2.2.2.2.1.ext hx,Cc.of_ext hx,fun g hg => .inl hg⟩
  have H0:=Af fin0;clear fin0;by_cases hz:R=0
  ·have hb:(R==0)=true:=by simpa using hz
   have HF:=Af (H0.out hz);clear hz;go_wp2
   go_ret
   exact HF.out
  clear H0;have hb0:(R==0)=false:=by simpa using hz
  by_cases hone:R=1
  ·have hb1:(R==1)=true:=by simpa using hone
   have H1:=Af hone;have hl9:l.length<=1000000:=by omega
   clear hone hz hl;have hsz4:=hx.size;have has:=HC.out.2.2.2.2.2.2.size;obtain⟨cea0,cea1,cea2,cea3,cea4,cea5,cea6,cea7⟩:=ea.cells8;have fea:=ea.frozen
   go_wp2_with fail
   refine AQ (Yr _ _ p q _ (HC.out.2.1.ext hx) (HC.out.2.2.1.ext hx)) ?_;rintro r5 w5 hr5 hx5;have hx6:=hx.trans hx5;clear cea0 cea1 cea2 cea3 cea4 cea5 cea6 cea7 fea ea ec hx5 hx;obtain⟨e1,B1,m1,k1,e2,B2,m2,k2,e3,B3,m3,k3,e4,B4,m4,k4,rfl⟩:=hr5.cells;have H5:=Af hr5;clear hr5;have hsz5:=hx6.size
   go_wp2_with (at_builtin;refine Bu rfl _ _ 51 rfl (.slice Ao l.length co) (.slice (some ⟨w5.heap.size,0,none⟩) 1 1) rfl rfl (VD w5 a.heap.size _ _ _ l p q (HC.out.2.2.2.2.1.ext hx6) H5.out hl9 Aa rfl) ?_)
   intro v' w7 hown U hat;have HF:SE a.heap.size 30 w (.slice Ao l.length co) (l ++ Jc (rc W) nn p q) (.returned v') w7:=by
    rw[K9 (by rw[<-HC.out.2.2.2.1];exact H1.out)];exact⟨_,rfl,hown,(Cc.of_ext hx6).trans U,fun g hg=>(hat g hg).imp id fun q=>Aa⟩
   have HF:=Af HF;clear hown U hat;go_wp2
   go_ret
   exact HF.out
  ·have hb1:(R==1)=false:=by simpa using hone
   have hR2:2<=R:=by omega
   have hdN:d < N:=by
    rcases Nat.lt_or_ge d N with q | q
    ·exact q
    ·have:=hRd q;omega
   obtain⟨n,rfl⟩:∃ n,nn=n+1:=⟨nn - 1,Aa⟩
   replace ih:=ih n Aa;obtain⟨m,hm⟩:∃ m,m=(p+q) / 2:=⟨_,rfl⟩
   have hiso:Jc (rc W) (n+1) p q=Jc (rc W) n p m ++ Jc (rc W) n m q:=by
    rw[hm];exact M6 (by rw[<-HC.out.2.2.2.1];exact hz) (by rw[<-HC.out.2.2.2.1];exact hone)
   obtain⟨n1',n2'⟩:=hn.half;rw[<-hm]at n1' n2';obtain⟨hmq,-⟩:=n2'.qsz hP hQ;have hmid:∀ X (x:Ext w X),Bg 112 #[.agg #[.bool d1,.slice A1 n1 c1,.bool d2,.slice A2 n2 c2,.bool d3,.slice A3 n3 c3,.bool d4,.slice A4 n4 c4]] X (fun r w'=>BX w' r m):=fun X x=>by
    have:=WO _ p q (3*aP+N+4) X (HC.out.2.2.2.2.2.1.ext x) Aa Aa Aa;rw[<-hm]at this;exact this
   have HM:=Af (Au hmid (Au hiso (Au n1' (Au n2' (show qsz m<=274877906944 by omega)))));clear hmid hiso n1' n2' hmq hm;have HL:=Af hl;clear hR0 hRd hz hone hl hp hq hn hR2;obtain⟨cea0,cea1,cea2,cea3,cea4,cea5,cea6,cea7⟩:=ea.cells8;have fea:=ea.frozen
   go_wp2_with fail
   refine AQ (HM.out.1 _ hx) ?_;rintro r5 w5 hr5 hx5;obtain⟨e1,B1,m1,k1,e2,B2,m2,k2,rfl⟩:=hr5.cells;clear cea0 cea1 cea2 cea3 cea4 cea5 cea6 cea7 fea;replace ea:=ea.ext hx5;replace ec:=ec.ext hx5;replace hx:=hx.trans hx5;clear hx5;obtain⟨W6,eW6,em,y6⟩:=Ba.made w5 28 #[.bool e1,.slice B1 m1 k1,.bool e2,.slice B2 m2 k2] (by simp[Ah]);have hmm:=(hr5.ext y6).has HM.out.2.2.2.2;have hgm:=ea.lt;replace ea:=ea.ext y6
   replace ec:=ec.ext y6;replace hx:=hx.trans y6;clear y6
   go_upto_region 7 with(fail)
   rw[<-eW6];clear eW6 hr5;generalize w5.heap.size=gm at *;have HX:=Af (Au hmm hx);clear hmm;have hos:∀ g∈blk (.slice Ao l.length co),g < w.heap.size:=fun g hg=>(BB.blk_ge HC.out.2.2.2.2.1 g hg).2;have HO:=Af hos;clear hos;have hsz6:=hx.size;have ha6:=HC.out.2.2.2.2.2.2.size;have hlen:(Jc (rc W) n p m).length+(Jc (rc W) n m q).length+l.length<=1000:=by
    have h1:=HL.out;rw[HM.out.2.1,List.length_append]at h1;omega
   have HLn:=Af hlen;clear hlen;have hcall1:∀ X,Ext W6 X->Calls Tryz.prog 64 #[.agg #[.slice A0 n0 c0],.slice Ao l.length co,.agg #[.bool d1,.slice A1 n1 c1,.bool d2,.slice A2 n2 c2,.bool e1,.slice B1 m1 k1,.bool e2,.slice B2 m2 k2]] X
     (SE a.heap.size 30 X (.slice Ao l.length co) (l ++ Jc (rc W) n p m)):=fun X x =>
    ih (d+1) p m _ _ l X HM.out.2.2.1 Aa Aa (HC.out.2.2.2.2.2.2.trans (HX.out.2.trans x)) ⟨_,_,_,_,_,_,_,_,_,_,_,_,_,_,_,_,rfl,HC.out.2.1.ext (HX.out.2.trans x),HX.out.1.ext x⟩ (HC.out.2.2.2.2.1.ext (HX.out.2.trans x)) (by have:=HLn.out;omega)
   have hcall2:∀ X r,KD W6 X->Ext a X->EZ a.heap.size 30 X r (l ++ Jc (rc W) n p m)->Calls Tryz.prog 64 #[.agg #[.slice A0 n0 c0],r,.agg #[.bool e1,.slice B1 m1 k1,.bool e2,.slice B2 m2 k2,.bool d3,.slice A3 n3 c3,.bool d4,.slice A4 n4 c4]] X
     (SE a.heap.size 30 X r (l ++ Jc (rc W) n p m ++ Jc (rc W) n m q)):=fun X r k x hr =>
    ih (d+1) m q _ _ _ X HM.out.2.2.2.1 Aa Aa x ⟨_,_,_,_,_,_,_,_,_,_,_,_,_,_,_,_,rfl,HX.out.1.kd k,(HC.out.2.2.1.ext HX.out.2).kd k⟩ hr (by have:=HLn.out;rw[List.length_append];omega)
   have HK:=Af (Au hcall1 hcall2);clear hcall1 hcall2;obtain⟨cea0,cea1,cea2,cea3,cea4,cea5,cea6,cea7⟩:=ea.cells8;have fea:=ea.frozen;obtain⟨cem0,cem1,cem2,cem3⟩:=em.cells4;have fem:=em.frozen;have cec0:=ec.cells1;have hkeep:∀(G:List Nat) (X Y:World),Cc G X Y->(∀ g∈G,g < w.heap.size\/W6.heap.size<=g)->(X.cell? ⟨w.heap.size+1,0,none⟩=some (.bool d1)/\X.cell? ⟨w.heap.size+1,1,none⟩=some (.slice A1 n1 c1)/\X.cell? ⟨w.heap.size+1,2,none⟩=some (.bool d2)/\X.cell? ⟨w.heap.size+1,3,none⟩=some (.slice A2 n2 c2)/\X.cell? ⟨w.heap.size+1,4,none⟩=some (.bool d3)/\X.cell? ⟨w.heap.size+1,5,none⟩=some (.slice A3 n3 c3)/\X.cell? ⟨w.heap.size+1,6,none⟩=some (.bool d4)/\X.cell? ⟨w.heap.size+1,7,none⟩=some (.slice A4 n4 c4)/\X.cell? ⟨gm,0,none⟩=some (.bool e1)/\X.cell? ⟨gm,1,none⟩=some (.slice B1 m1 k1)/\X.cell? ⟨gm,2,none⟩=some (.bool e2)/\X.cell? ⟨gm,3,none⟩=some (.slice B2 m2 k2)/\X.cell? ⟨w.heap.size,0,none⟩=some (.slice A0 n0 c0))->(Y.cell? ⟨w.heap.size+1,0,none⟩=some (.bool d1)/\Y.cell? ⟨w.heap.size+1,1,none⟩=some (.slice A1 n1 c1)/\Y.cell? ⟨w.heap.size+1,2,none⟩=some (.bool d2)/\Y.cell? ⟨w.heap.size+1,3,none⟩=some (.slice A2 n2 c2)/\Y.cell? ⟨w.heap.size+1,4,none⟩=some (.bool d3)/\Y.cell? ⟨w.heap.size+1,5,none⟩=some (.slice A3 n3 c3)/\Y.cell? ⟨w.heap.size+1,6,none⟩=some (.bool d4)/\Y.cell? ⟨w.heap.size+1,7,none⟩=some (.slice A4 n4 c4)/\Y.cell? ⟨gm,0,none⟩=some (.bool e1)/\Y.cell? ⟨gm,1,none⟩=some (.slice B1 m1 k1)/\Y.cell? ⟨gm,2,none⟩=some (.bool e2)/\Y.cell? ⟨gm,3,none⟩=some (.slice B2 m2 k2)/\Y.cell? ⟨w.heap.size,0,none⟩=some (.slice A0 n0 c0)):=fun G X Y U hG ⟨a0,a1,a2,a3,a4,a5,a6,a7,b0,b1,b2,b3,c0⟩=>by
    have gl1:=ea.lt;have gl2:=em.lt;have gl3:=ec.lt;have q:∀ g i x,(w.heap.size<=g/\g < W6.heap.size)->X.cell? ⟨g,i,none⟩=some x->Y.cell? ⟨g,i,none⟩=some x:=fun g i x hg hc=>UQ U (fun hm=>by rcases hG g hm with z | z<;>omega) hc;exact⟨q _ _ _ Aa a0,q _ _ _ Aa a1,q _ _ _ Aa a2,q _ _ _ Aa a3,q _ _ _ Aa a4,q _ _ _ Aa a5,q _ _ _ Aa a6,q _ _ _ Aa a7,q _ _ _ Aa b0,q _ _ _ Aa b1,q _ _ _ Aa b2,q _ _ _ Aa b3,q _ _ _ Aa c0⟩
   have HE:=Af hkeep;clear hkeep;have hS0:W6.cell? ⟨w.heap.size+1,0,none⟩=some (.bool d1)/\W6.cell? ⟨w.heap.size+1,1,none⟩=some (.slice A1 n1 c1)/\W6.cell? ⟨w.heap.size+1,2,none⟩=some (.bool d2)/\W6.cell? ⟨w.heap.size+1,3,none⟩=some (.slice A2 n2 c2)/\W6.cell? ⟨w.heap.size+1,4,none⟩=some (.bool d3)/\W6.cell? ⟨w.heap.size+1,5,none⟩=some (.slice A3 n3 c3)/\W6.cell? ⟨w.heap.size+1,6,none⟩=some (.bool d4)/\W6.cell? ⟨w.heap.size+1,7,none⟩=some (.slice A4 n4 c4)/\W6.cell? ⟨gm,0,none⟩=some (.bool e1)/\W6.cell? ⟨gm,1,none⟩=some (.slice B1 m1 k1)/\W6.cell? ⟨gm,2,none⟩=some (.bool e2)/\W6.cell? ⟨gm,3,none⟩=some (.slice B2 m2 k2)/\W6.cell? ⟨w.heap.size,0,none⟩=some (.slice A0 n0 c0):=⟨cea0,cea1,cea2,cea3,cea4,cea5,cea6,cea7,cem0,cem1,cem2,cem3,cec0⟩
   have hS1:W6.drew.cell? ⟨w.heap.size+1,0,none⟩=some (.bool d1)/\W6.drew.cell? ⟨w.heap.size+1,1,none⟩=some (.slice A1 n1 c1)/\W6.drew.cell? ⟨w.heap.size+1,2,none⟩=some (.bool d2)/\W6.drew.cell? ⟨w.heap.size+1,3,none⟩=some (.slice A2 n2 c2)/\W6.drew.cell? ⟨w.heap.size+1,4,none⟩=some (.bool d3)/\W6.drew.cell? ⟨w.heap.size+1,5,none⟩=some (.slice A3 n3 c3)/\W6.drew.cell? ⟨w.heap.size+1,6,none⟩=some (.bool d4)/\W6.drew.cell? ⟨w.heap.size+1,7,none⟩=some (.slice A4 n4 c4)/\W6.drew.cell? ⟨gm,0,none⟩=some (.bool e1)/\W6.drew.cell? ⟨gm,1,none⟩=some (.slice B1 m1 k1)/\W6.drew.cell? ⟨gm,2,none⟩=some (.bool e2)/\W6.drew.cell? ⟨gm,3,none⟩=some (.slice B2 m2 k2)/\W6.drew.cell? ⟨w.heap.size,0,none⟩=some (.slice A0 n0 c0):=HE.out [] W6 W6.drew (Cc.of_ext (Ext.refl W6).drew) (fun g hg=>by cases hg) hS0
   clear hS0 cea0 cea1 cea2 cea3 cea4 cea5 cea6 cea7 cem0 cem1 cem2 cem3 cec0 fea fem;clear ih hC hK hPQ hP hQ hdeep h0 ht hN hd hdN hv
   go_region_held3 (fun w'=>w'.cell? ⟨w.heap.size+1,0,none⟩=some (.bool d1)/\w'.cell? ⟨w.heap.size+1,1,none⟩=some (.slice A1 n1 c1)/\w'.cell? ⟨w.heap.size+1,2,none⟩=some (.bool d2)/\w'.cell? ⟨w.heap.size+1,3,none⟩=some (.slice A2 n2 c2)/\w'.cell? ⟨w.heap.size+1,4,none⟩=some (.bool d3)/\w'.cell? ⟨w.heap.size+1,5,none⟩=some (.slice A3 n3 c3)/\w'.cell? ⟨w.heap.size+1,6,none⟩=some (.bool d4)/\w'.cell? ⟨w.heap.size+1,7,none⟩=some (.slice A4 n4 c4)/\w'.cell? ⟨gm,0,none⟩=some (.bool e1)/\w'.cell? ⟨gm,1,none⟩=some (.slice B1 m1 k1)/\w'.cell? ⟨gm,2,none⟩=some (.bool e2)/\w'.cell? ⟨gm,3,none⟩=some (.slice B2 m2 k2)/\w'.cell? ⟨w.heap.size,0,none⟩=some (.slice A0 n0 c0))
    (first | (exact HE.out _ _ _ U2 hG2 (by assumption)) | (exact HE.out _ _ _ U1 hG1 (by assumption)) | (exact hS1))
    ((first
     | (have hU1:=U1;clear hU1;go_at_call 64;refine Calls.mono (HK.out.2 _ _ (((KD.refl W6).drew).trans U1.kd) (U1.from_ (HC.out.2.2.2.2.2.2.trans hx).drew fun g hg=>(BB.blk_ge HC.out.2.2.2.2.1 g hg).1) hown1) ?_;rintro e w2 ⟨r2,rfl,hown2,U2,hat2⟩;have hG2:∀ g∈blk r1,g < w.heap.size\/W6.heap.size<=g:=fun g hg=>(hat1 g hg).imp (HO.out g) id)
     | (go_at_call 64;refine Calls.mono (HK.out.1 W6.drew (Ext.refl W6).drew) ?_;rintro e w1 ⟨r1,rfl,hown1,U1,hat1⟩;have hG1:∀ g∈blk (.slice Ao l.length co),g < w.heap.size\/W6.heap.size<=g:=fun g hg=>Or.inl (HO.out g hg))))
   have hgm1:w1.heap.size > gm:=by
    have hne:gm∉blk (.slice Ao l.length co):=fun hm=>by have:=HO.out _ hm;omega
    exact(Array.getElem?_eq_some_iff.1 (U1.1 gm _ hne em.1)).1
   have UA:Cc (blk (.slice Ao l.length co)) w w1:=(Cc.of_ext hx.drew).trans U1;have HF:SE a.heap.size 30 w (.slice Ao l.length co) (l ++ Jc (rc W) (n+1) p q) (.returned r2) w2:=by
    rw[HM.out.2.1,<-List.append_assoc];refine⟨r2,rfl,hown2,UA.new_trans U2 fun g hg=>(hat1 g hg).imp id fun z=>Nat.le_trans hsz6 z,fun g hg=>?_⟩;rcases hat2 g hg with z | z
    ·exact(hat1 g z).imp id fun z=>Nat.le_trans hsz6 z
    ·right;omega
   have HFF:=Af HF;clear HF UA hown1 hown2 U1 U2 hat1 hat2 hG1 hG2;go_wp2
   go_ret
   exact HFF.out
set_option maxRecDepth 20000 in
theorem bA(v:Value)(q:Rat)(w:World)(hv:Ce w v q)(hs:qsz q<=274877906944):Bg 121 #[v] w (fun r w'=>BX w' r (ab q)):=by
 have HV:=Af hv;obtain⟨b,B,m1,e1,b',B',m1',e1',x0,y0,rfl,-⟩:=hv.form;clear hv;have hsn:sz q.num.natAbs<=274877906944:=by have:=Fs q;omega
 have HS:=Af hsn;clear hs hsn
 go_enter Tryz.func121,Tryz.ntmps121
 obtain⟨W1,eW1,ea,y1⟩:=Ba.made w 28 #[.bool b,.slice B m1 e1,.bool b',.slice B' m1' e1'] (by simp[Ah]);obtain⟨W2,eW2,ez,y2⟩:=Ba.made W1 28 #[.bool false,.slice none 0 0,.bool false,.slice none 0 0] (by simp[Ah]);have s1:W1.heap.size=w.heap.size+1:=by rw[eW1,World.size_alloc]
 rw[s1]at ez;have hx:=y1.trans y2;replace ea:=ea.ext y2
 go_upto_region 1 with(fail)
 rw[<-eW1,<-eW2];clear eW1 eW2 y1 y2 s1;have cea:=ea.cells4;have fea:=ea.frozen
 go_wp2_with fail
 refine AQ (Gn _ q _ (HV.out.ext hx)) ?_;rintro r3 w3 hr3 hx3;obtain⟨b5,A5,n5,c5,b6,A6,n6,c6,rfl⟩:=hr3.cells;clear cea fea;replace ea:=ea.ext hx3;replace ez:=ez.ext hx3;replace hx:=hx.trans hx3;clear hx3;have cea:=ea.cells4;have fea:=ea.frozen
 go_upto_region 2 with(fail)
 obtain⟨W4,eW,ea',U⟩:=ea.put4 (.bool b5) (.slice A5 n5 c5) (.bool b6) (.slice A6 n6 c6);rw[<-eW];clear eW ea;replace hr3:=hr3.kd U.kd;replace ez:=ez.upd U Ak;replace hx:=U.from_ hx Ak;have ea:=ea';clear U ea';have hnd:AO W4 (.agg #[.bool b5,.slice A5 n5 c5]) q.num/\AO W4 (.agg #[.bool b6,.slice A6 n6 c6]) (q.den:Nat):=by
  obtain⟨_,_,_,_,_,_,_,_,e,h1,h2⟩:=hr3;cases e;exact⟨h1,h2⟩
 have HN:=Af hnd;clear hnd hr3;clear cea fea;have cea:=ea.cells4;have fea:=ea.frozen
 go_wp2_with fail
 refine AQ (jG _ q.num _ (HN.out.1.has (by have:=HS.out;omega))) ?_;rintro r5 w5 hr5 hx5;obtain⟨b7,A7,n7,c7,rfl⟩:=hr5.cells;have HD:=Af (Au hr5 (HN.out.2.ext hx5));clear cea fea HN hr5;replace ea:=ea.ext hx5;replace ez:=ez.ext hx5;replace hx:=hx.trans hx5;clear hx5;have cea:=ea.cells4;have fea:=ea.frozen
 go_upto_region 3 with(fail)
 obtain⟨W6,eW6,ea',U⟩:=ea.put42 (.bool b7) (.slice A7 n7 c7) rfl rfl;rw[<-eW6];have HE:=Af (Au (HD.out.1.kd U.kd) (HD.out.2.kd U.kd));replace ez:=ez.upd U Ac;replace hx:=U.from_ hx Ac;clear eW6 ea cea fea HD U;have ea:=ea';clear ea';have cea:=ea.cells4;have fea:=ea.frozen;have cez:=ez.cells4;have fez:=ez.frozen;have hq:BX W6 (.agg #[.bool b7,.slice A7 n7 c7,.bool b6,.slice A6 n6 c6]) (ab q):=by
  obtain⟨h1,h2⟩:=bN q;exact⟨_,_,_,_,_,_,_,_,rfl,by rw[h1];exact HE.out.1,by rw[h2];exact HE.out.2⟩
 have Hq:=Af hq;clear hq HE;go_wp2;have hr:=Hq.out;obtain⟨W8,eW,ez',U⟩:=ez.put4 (.bool b7) (.slice A7 n7 c7) (.bool b6) (.slice A6 n6 c6);rw[<-eW];clear eW ez;replace hr:=hr.kd U.kd;replace hx:=U.from_ hx Ak;have ez:=ez';clear U ez';clear cez fez;have cez:=ez.cells4;have fez:=ez.frozen;refine bodyPost_ret (v := .agg #[.bool b7,.slice A7 n7 c7,.bool b6,.slice A6 n6 c6]) (by simp[results,Tryz.results121,go_sem,cez]) rfl ?_
 exact Ai.mk hr hx
set_option maxRecDepth 20000 in
theorem YK(v:Value)(F:Nat->Rat)(s:Nat)(w:World)(hv:AB 0 w v F)(zF:ZI F)(fF:Ae F)(h0:F≠pz)(hs:∀ i,qsz (F i)<=s)(hs9:s<=1000000)(hn:pl F<=1000) :
  Bg 67 #[v] w (fun r w'=>∃ j,P2 (Gu F (pl F - 1)+1) j/\AO w' r (2^j)):=by
 have hp:=AL fF h0;obtain⟨A,c,l,rfl,k1,k2,hA,k3,k4,k5⟩:=hv.form;have HA:=Af (Au hA (Au k3 k5));clear hA k3 k4 k5 hv
 go_enter Tryz.func67,Tryz.ntmps67
 obtain⟨W1,eW1,ez,y1⟩:=Ba.made w 26 #[.bool false,.slice none 0 0] (by simp[Ah])
 go_upto_region 1 with(fail)
 rw[<-eW1];clear eW1;have hx:=y1
 go_wp2_with fail
 refine AQ (WJ 1 _ Aa Aa) ?_;rintro r2 w2 hr2 hx2;obtain⟨b5,A5,n5,c5,b6,A6,n6,c6,rfl⟩:=hr2.cells;replace ez:=ez.ext hx2;replace hx:=hx.trans hx2;clear hx2;obtain⟨W3,eW3,el,y3⟩:=Ba.made w2 28 #[.bool b5,.slice A5 n5 c5,.bool b6,.slice A6 n6 c6] (by simp[Ah]);have hl:=Eb.mk el (hr2.ext y3);have hgl:=ez.lt;replace ez:=ez.ext y3;replace hx:=hx.trans y3;clear y3;clear hr2 el
 go_upto_region 2 with(fail)
 rw[<-eW3];clear eW3;generalize w2.heap.size=gl at *;have hld:ld F=(l[pl F - 1]'(by have:=HA.out.2.1;omega):Rat):=by rw[<-Cq,HA.out.2.2];rfl
 have hls:=hs (pl F - 1);obtain⟨g,o,b,A2,n2,c2,rfl,h64,q0,q1,hq⟩:=HA.out.1.at_ (j:=pl F - 1) (by have:=HA.out.2.1;omega);have hqh:Bj w (.agg #[.bool b,.slice A2 n2 c2]) (l[pl F - 1]'(by have:=HA.out.2.1;omega)):=hq.has (by
  have h1:F (pl F - 1)=(l[pl F - 1]'(by have:=HA.out.2.1;omega):Rat):=hld;rw[h1,Bn]at hls;omega)
 have hqq:qsz ((l[pl F - 1]'(by have:=HA.out.2.1;omega):Rat))<=274877906944:=by
  have h1:F (pl F - 1)=(l[pl F - 1]'(by have:=HA.out.2.1;omega):Rat):=hld;rw[h1]at hls;omega
 obtain⟨y,hy⟩:∃ y,y=(l[pl F - 1]'(by have:=HA.out.2.1;omega)):=⟨_,rfl⟩
 rw[<-hy]at hld hqh hqq;have HQ:=Af (Au hqh (Au hqq hld));clear hqh hqq hld hy hq hls;replace q0:=hx.cell q0;replace q1:=hx.cell q1
 go_wp2_with fail
 refine AQ (GL _ y _ (HQ.out.1.ext hx)) ?_;rintro r4 w4 hr4 hx4;clear q0 q1;replace ez:=ez.ext hx4;replace hl:=hl.ext hx4;replace hx:=hx.trans hx4;clear hx4
 go_wp2_with fail
 refine AQ (bA _ _ _ (hr4.has HQ.out.2.1) HQ.out.2.1) ?_;rintro r5 w5 hr5 hx5;obtain⟨b7,A7,n7,c7,b8,A8,n8,c8,rfl⟩:=hr5.cells;replace ez:=ez.ext hx5;replace hl:=hl.ext hx5;replace hx:=hx.trans hx5;clear hx5;obtain⟨W6,eW6,ed,y6⟩:=Ba.made w5 28 #[.bool b7,.slice A7 n7 c7,.bool b8,.slice A8 n8 c8] (by simp[Ah]);have hd:=Eb.mk ed (hr5.ext y6);rw[<-HQ.out.2.2]at hd;have hgd:=hl.lt;replace ez:=ez.ext y6;replace hl:=hl.ext y6
 replace hx:=hx.trans y6;clear y6;clear hr4 hr5 ed
 go_upto_region 3 with(fail)
 rw[<-eW6];clear eW6;generalize w5.heap.size=gd at *;obtain⟨N,hN⟩:∃ N,pl F=N+1:=⟨pl F - 1,Aa⟩
 have e1:Gu F 0+1=((1:Int):Rat):=by show(0:Rat)+1=1;grind
 rw[<-e1]at hl;have HN:=Af hN;rw[hN]at hn k1 ⊢;rw[Nat.add_sub_cancel,show(((N+1:Nat):Int))=(N:Int)+1 from Aa,show((N:Int)+1 - 1)=(N:Int)from by omega];clear hN hp e1;go_wp2
 go_loopw [25] (fun iv wr=>∃ i:Nat,i<=N/\iv = .int .i64 (i:Nat)/\Eb wr gl 28 (Gu F i+1)/\Eb wr gd 28 (ab (ld F))/\Ba wr w.heap.size 26 #[.bool false,.slice none 0 0]/\Ext w wr) (fun iv _=>N - (intOf iv).toNat)
 case atStart=>exact⟨0,Aa,rfl,hl,hd,ez,hx⟩
 case round =>
  clear hl hd ez hx;obtain⟨i,hi,rfl,hl,hd,ez,hx⟩:=hrel;by_cases hiN:i < N
  ·have hls:=hs i
   have hlt:i < l.length:=by have:=HA.out.2.1;have:=HN.out;omega
   have hli:F i=(l[i]:Rat):=by rw[<-Cq hlt,HA.out.2.2]
   obtain⟨g',o',b3,A3,n3,c3,e3,-,q0,q1,hq⟩:=HA.out.1.at_ hlt;cases e3;have hqh:Bj w (.agg #[.bool b3,.slice A3 n3 c3]) l[i]:=hq.has (by rw[hli,Bn]at hls;omega);have hqq:qsz (l[i]:Rat)<=s:=by rw[hli]at hls;exact hls
   obtain⟨yi,hy⟩:∃ y,y=l[i]:=⟨_,rfl⟩
   rw[<-hy]at hli hqh hqq;have HI:=Af (Au hqh (Au hqq hli));clear hqh hqq hli hy hq hls hlt;replace q0:=hx.cell q0;replace q1:=hx.cell q1;obtain⟨W7,eW7,e6,y7⟩:=Ba.made wr 26 #[.bool b3,.slice A3 n3 c3] (by simp[Ah])
   go_upto_region 6 with(fail)
   rw[<-eW7];clear eW7 q0 q1;have hg6:=ez.lt;replace ez:=ez.ext y7;replace hl:=hl.ext y7;replace hd:=hd.ext y7;replace hx:=hx.trans y7;clear y7;generalize wr.heap.size=g6 at *;have HDq:=Af hd;obtain⟨b9,A9,n9,c9,b10,A10,n10,c10,ed,hdq⟩:=hd;have hqa:qsz (ab (ld F))<=274877906944:=by rw[Na];have:qsz (ld F)<=s:=hs _;omega
   have hqi:qsz (ab (yi:Rat))<=274877906944:=by rw[Na];have:=HI.out.2.1;omega
   have hne:ab (ld F)≠0:=fun e=>CV fF h0 (TP.1 e);have HB:=Af (Au (hdq.has hqa) (Au hqi hne));clear hqa hqi hne;have hgd2:=ed.lt;have ce6:=e6.cells2;have fe6:=e6.frozen;have ced:=ed.cells4;have fed:=ed.frozen
   go_cut [7,8] (fun pv ev wx=>∃ gc,pv = .pointer (some ⟨gc,0,none⟩)/\ev = .int .i64 0/\Eb wx gc 28 (ab (yi:Rat) / ab (ld F))/\W7.heap.size<=gc/\Ext W7 wx)
   case first =>
    refine BG 9 [7] (fun x=>10) [30,31,32,33,34,29,35,36,7] [[],[0],[0,1],[],[0,1,2,3],[0,1,2,3,4],[0,1,2,3,4,5],[0,1,2,3,4,5],[],[0,1,2,3,4,5,6,8],[0,1,2,3,4,5,6,7,8,9]] [6,4] [_,_] [(kv ?_),(fun γ=>γ 1),(fun γ=>γ 2),(kv ?_),(fun γ=>γ 4),(fun γ=>γ 4),(fun γ=>γ 6),(kv ?_),(fun γ=>γ 8)] (fun γ w'=>[True,BX w' (γ 1) (yi:Rat),BX w' (γ 2) (ab (yi:Rat)),True,Jr w' (γ 4) (ab (yi:Rat) / ab (ld F)),True,BX w' (γ 6) (ab (yi:Rat) / ab (ld F)),True,Bh w' (γ 8) W7.heap.size #[.bool false,.slice none 0 0,.bool false,.slice none 0 0] 28]) Np Cg Cg Cg Cg Cg P5 Cg Nj ?m1 ?s1 ?_ ?l1
    case s1 =>
     iterate 9 refine⟨?_,?_⟩
     trivial
     iterate 1 focus
      refine Bi fun _ w' he R hR=>?_;have hc:=he.cells;have cq0:=(e6.ext he).cells2;have cq1:=(ed.ext he).cells4;go_simp;exact C8 hR
     ·refine Bi fun _ w' he R hR=>?_
      go_simp;exact BF (GL _ yi w' (HI.out.1.ext (hx.trans he))) hR
     ·refine Gj fun γ w' he hf R hR=>?_;have f1:BX w' (γ 1) (yi:Rat):=hf 1 Ab;clear hf
      go_simp;exact BF (bA _ _ w' (f1.has (by have:=HI.out.2.1;omega)) (by have:=HI.out.2.1;omega)) hR
     iterate 1 focus
      refine Bi fun _ w' he R hR=>?_;have hc:=he.cells;have cq0:=(e6.ext he).cells2;have cq1:=(ed.ext he).cells4;go_simp;exact C8 hR
     ·refine Gj fun γ w' he hf R hR=>?_;have f2:BX w' (γ 2) (ab (yi:Rat)):=hf 2 Ab;clear hf
      go_simp;exact BF (Xm _ _ _ _ w' (f2.has HB.out.2.1) (HB.out.1.ext he) HB.out.2.2) hR
     ·refine Bi fun _ w' he R hR=>?_
      have hc:=he.cells;go_simp
      (try go_ints);(try(rw[if_neg Aa]));(try(rw[if_pos Aa]));(try go_simp);(try go_ints)
      exact C8 hR
     ·refine Gj fun γ w' he hf R hR=>?_;have f4:Jr w' (γ 4) (ab (yi:Rat) / ab (ld F)):=hf 4 Ab;clear hf
      obtain⟨a,e,ha⟩:=f4;go_simp;exact hR _ _ (Ext.refl _) rfl ha
     ·refine Gj fun γ w' he hf R hR=>?_;have f4:Jr w' (γ 4) (ab (yi:Rat) / ab (ld F)):=hf 4 Ab;clear hf
      obtain⟨a,e,ha⟩:=f4;have hc:=he.cells;go_simp
      (try go_ints);(try(rw[if_neg Aa]));(try(rw[if_pos Aa]));(try go_simp);(try go_ints)
      exact C8 hR
     ·refine Bi fun _ w' he R hR=>?_
      go_simp;exact hR _ _ ((Ext.refl _).alloc _) rfl (Bh.mk (Nat.le_trans Ac he.size) (by simp[Ah]))
    case m1 =>
     exact⟨⟨⟨⟨⟨⟨⟨⟨⟨trivial,(fun γ wA w' e h=>h)⟩,(fun γ wA w' e h=>(show BX wA (γ 1) (yi:Rat)from h).ext e)⟩,(fun γ wA w' e h=>(show BX wA (γ 2) (ab (yi:Rat))from h).ext e)⟩,(fun γ wA w' e h=>h)⟩,(fun γ wA w' e h=>(show Jr wA (γ 4) (ab (yi:Rat) / ab (ld F))from h).ext e)⟩,(fun γ wA w' e h=>h)⟩,(fun γ w w' e h=>BX.ext h e)⟩,(fun γ wA w' e h=>h)⟩,(fun γ wA w' e h=>(show Bh wA (γ 8) W7.heap.size #[.bool false,.slice none 0 0,.bool false,.slice none 0 0] 28 from h).ext e)⟩
    case l1 =>
     intro Pn hPs hPn;obtain rfl:=Je hPs hPn;clear hPs hPn
     ·intro γ w8 hx8 hF hA
      clear hA;have p1:BX w8 (γ 1) (yi:Rat):=(AC.get hF 1 Ab).resolve_left Ab;have p2:BX w8 (γ 2) (ab (yi:Rat)):=(AC.get hF 2 Ab).resolve_left Ab;have p4:Jr w8 (γ 4) (ab (yi:Rat) / ab (ld F)):=(AC.get hF 4 Ab).resolve_left Ab;have p6:BX w8 (γ 6) (ab (yi:Rat) / ab (ld F)):=(AC.get hF 6 Ab).resolve_left Ab;have p8:Bh w8 (γ 8) W7.heap.size #[.bool false,.slice none 0 0,.bool false,.slice none 0 0] 28:=(AC.get hF 8 Ab).resolve_left Ab
      clear hF;show AJ _ _ _ _ 3 [7] 9 _ _;simp only[Bw,Nat.reduceAdd,Cw,Xl];generalize γ 1=g1 at *;generalize γ 2=g2 at *;generalize γ 4=g4 at *;generalize γ 6=g6 at *;generalize γ 8=g8 at *;clear γ;obtain⟨a4,rfl,-⟩:=p4;obtain⟨gc,rfl,hgc,ec⟩:=p8;obtain⟨bx,Ax,nx',cx,by',Ay,ny,cy,rfl⟩:=p6.cells;clear ce6 ced p1 p2;have cec:=ec.cells4;have fec:=ec.frozen
      repeat' first
       | (refine AJ.nil ?_;simp only[IG];go_wp2;done)
       | (refine AJ.nil ?_;(try simp only[IG]);go_wp2)
       | (refine AJ.mk _ ⟨?_,trivial⟩ (fun h=>?_)<;>first | exact absurd h Ab | ((try clear h);simp only[Df,IG];go_wp2;first | show AJ _ _ _ _ _ [7] _ _ _ | show AJ _ _ _ _ _ [] _ _ _))
      all_goals
       skip;obtain⟨W9,eW,ec',U⟩:=ec.put4 (.bool bx) (.slice Ax nx' cx) (.bool by') (.slice Ay ny cy);rw[<-eW];clear eW ec;replace p6:=p6.kd U.kd;replace hx8:=U.from_ hx8 Ak;have ec:=ec';clear U ec'
       go_meet
       case rel=>exact⟨gc,rfl,rfl,Eb.mk ec p6,hgc,hx8⟩
    intro γ w8 hx8 hF hA;clear hA;have p1:BX w8 (γ 1) (yi:Rat):=AC.get hF 1 Ab;have p2:BX w8 (γ 2) (ab (yi:Rat)):=AC.get hF 2 Ab;have p4:Jr w8 (γ 4) (ab (yi:Rat) / ab (ld F)):=AC.get hF 4 Ab;have p6:BX w8 (γ 6) (ab (yi:Rat) / ab (ld F)):=AC.get hF 6 Ab;have p8:Bh w8 (γ 8) W7.heap.size #[.bool false,.slice none 0 0,.bool false,.slice none 0 0] 28:=AC.get hF 8 Ab;clear hF;simp only[Bw,Nat.reduceAdd]
    generalize γ 1=g1 at *;generalize γ 2=g2 at *;generalize γ 4=g4 at *;generalize γ 6=g6 at *;generalize γ 8=g8 at *;clear γ;obtain⟨a4,rfl,-⟩:=p4;obtain⟨gc,rfl,hgc,ec⟩:=p8;obtain⟨bx,Ax,nx',cx,by',Ay,ny,cy,rfl⟩:=p6.cells;clear ce6 ced p1 p2;have cec:=ec.cells4;have fec:=ec.frozen;go_wp2;skip;obtain⟨W9,eW,ec',U⟩:=ec.put4 (.bool bx) (.slice Ax nx' cx) (.bool by') (.slice Ay ny cy);rw[<-eW];clear eW ec
    replace p6:=p6.kd U.kd;replace hx8:=U.from_ hx8 Ak;have ec:=ec';clear U ec'
    go_meet
    case rel=>exact⟨gc,rfl,rfl,Eb.mk ec p6,hgc,hx8⟩
   case rest =>
   clear ce6 ced fe6 fed e6 ed hdq;obtain⟨gc,rfl,rfl,hcq,hgc,hx8⟩:=hcut;have hd:Eb W7 gd 28 (ab (ld F)):=HDq.out;have hgl7:=hl.lt;have hgd7:=hd.lt;have hez7:=ez.lt;replace ez:=ez.ext hx8;replace hl:=hl.ext hx8;replace hd:=hd.ext hx8;replace hx:=hx.trans hx8;clear hx8;obtain⟨bx,Ax,nx',cx,by',Ay,ny,cy,ec,hcz⟩:=hcq;have hqq:qsz (ab (yi:Rat) / ab (ld F))<=4*s+4:=by
    have h1:=J5 (ab (yi:Rat)) (ab (ld F));have h2:qsz (ld F)<=s:=hs _;rw[Na,Na]at h1;have:=HI.out.2.1;omega
   have HZ:=Af (Au (hcz.has Aa) hqq);clear hcz hqq;have cec:=ec.cells4;have fec:=ec.frozen
   go_upto_region 7 with(fail)
   refine EE 2 [37,38] [7] [_] [(kv ?_),(fun γ=>γ 1)] (fun γ w'=>[True,BX w' (γ 1) ((1:Int):Rat)]) ?s2 ?_
   case s2 =>
    iterate 2 refine⟨?_,?_⟩
    trivial
    iterate 1 focus
     refine Bi fun _ w' he R hR=>?_;have hc:=he.cells;have cq0:=(ec.ext he).cells4;go_simp;exact C8 hR
    ·refine Bi fun _ w' he R hR=>?_
     go_simp;exact BF (WJ 1 w' Aa Aa) hR
   intro γ w10 hx10 hF;have p1:BX w10 (γ 1) ((1:Int):Rat):=AC.get hF 1 Ab;clear hF;simp only[Bw,Nat.reduceAdd];generalize γ 1=g1 at *;clear γ
   go_wp2_with fail
   refine AQ (Ut _ _ (ab (yi:Rat) / ab (ld F)) ((1:Int):Rat) _ (HZ.out.1.ext hx10) (p1.has Ab)) ?_;rintro r11 w11 hr11 hx11;obtain⟨bz,Az,nz,cz',bw,Aw,nw,cw,rfl⟩:=hr11.cells;have x1011:=hx10.trans hx11;clear p1 cec fec;replace ez:=ez.ext x1011;replace hl:=hl.ext x1011;replace hd:=hd.ext x1011;replace ec:=ec.ext x1011;replace hx:=hx.trans x1011;clear x1011;clear hx10 hx11;have cec:=ec.cells4;have fec:=ec.frozen
   go_upto_region 8 with(fail)
   obtain⟨W12,eW,ec',U⟩:=ec.put4 (.bool bz) (.slice Az nz cz') (.bool bw) (.slice Aw nw cw);rw[<-eW];clear eW ec;replace hr11:=hr11.kd U.kd;replace ez:=ez.upd U Ak;replace hl:=hl.upd U Ak;replace hd:=hd.upd U Ak;replace hx:=U.from_ hx Ak;have ec:=ec';clear U ec';obtain⟨bl,Al,nl,cl,bl',Al',nl',cl',el,hlz⟩:=hl;have hqx:qsz (ab (yi:Rat) / ab (ld F)+((1:Int):Rat))<=4*s+8:=by
    have h1:=Fb (ab (yi:Rat) / ab (ld F)) ((1:Int):Rat);have h2:qsz (((1:Int):Rat))=1:=by decide
    have h3:=HZ.out.2;omega
   have hql:qsz (Gu F i+1)<=2*s+8:=by
    have h1:=Fb (Gu F i) 1;have h2:qsz (1:Rat)=1:=by decide
    have h3:=LB hs (Nat.le_trans (Dw (F 0)) (hs 0)) i;omega
   have HX:=Af (Au (hr11.has Aa) (Au (hlz.has Aa) (show qsz (ab (yi:Rat) / ab (ld F)+((1:Int):Rat))+qsz (Gu F i+1) < 274877906944 by omega)));clear hqx hql;have HR:=Af (Au hr11 hlz);clear hr11 hlz;have cec:=ec.cells4;have fec:=ec.frozen;have cel:=el.cells4;have fel:=el.frozen
   go_wp2_with fail
   refine AQ (WH _ _ _ _ _ HX.out.1 HX.out.2.1 HX.out.2.2) ?_;rintro r13 w13 rfl hx13;clear HX cec fec cel fel;have e13:ab (yi:Rat) / ab (ld F)+((1:Int):Rat) - (Gu F i+1)=ab (F i / ld F) - Gu F i:=by
    rw[VV,HI.out.2.2];show _+(1:Rat) - _=_;grind
   rw[e13];have hnext:Gu F (i+1)=if Gu F i < ab (F i / ld F)then ab (F i / ld F)else Gu F i:=rfl;replace HR:=Af (Au (HR.out.1.ext hx13) (HR.out.2.ext hx13));replace ez:=ez.ext hx13;replace hd:=hd.ext hx13;replace ec:=ec.ext hx13;replace el:=el.ext hx13;replace hx:=hx.trans hx13;clear hx13;by_cases hgt:Gu F i < ab (F i / ld F)
   ·have hdec:decide (KV (ab (F i / ld F) - Gu F i) > 0)=true:=by rw[Io,decide_eq_true hgt]
    rw[if_pos hgt]at hnext;have cec:=ec.cells4;have fec:=ec.frozen;have cel:=el.cells4;have fel:=el.frozen
    go_upto_region 10 with(fail)
    have hr13:=HR.out.1;obtain⟨W14,eW,el',U⟩:=el.put4 (.bool bz) (.slice Az nz cz') (.bool bw) (.slice Aw nw cw);rw[<-eW];clear eW el;replace hr13:=hr13.kd U.kd;replace ez:=ez.upd U Ak;replace hd:=hd.upd U Ak;replace hx:=U.from_ hx Ak;have el:=el';clear U el';have hl:=Eb.mk el hr13;rw[show ab (yi:Rat) / ab (ld F)+((1:Int):Rat)=Gu F (i+1)+1 from by rw[hnext,VV,HI.out.2.2];rfl]at hl;clear hdec hnext HR HZ e13 hr13
    go_wp2
    go_roundw
    case rel=>exact⟨i+1,Aa,by go_num,hl,hd,ez,hx⟩
    case measure=>simp[intOf];omega
   ·have hdec:decide (KV (ab (F i / ld F) - Gu F i) > 0)=false:=by rw[Io,decide_eq_false hgt]
    rw[if_neg hgt]at hnext;have hl:=Eb.mk el HR.out.2;rw[<-hnext]at hl;clear hnext HR HZ e13;go_wp2
    go_roundw
    case rel=>exact⟨i+1,Aa,by go_num,hl,hd,ez,hx⟩
    case measure=>simp[intOf];omega
  ·obtain rfl:i=N:=by omega
   have ez11:=ez.lt;have hql:qsz (Gu F i+1)<=2*s+8:=by
    have h1:=Fb (Gu F i) 1;have h2:qsz (1:Rat)=1:=by decide
    have h3:=LB hs (Nat.le_trans (Dw (F 0)) (hs 0)) i;omega
   obtain⟨J,hJ,hJ9⟩:∃ J,P2 (Gu F i+1) J/\J<=32*(2*s+8)+1:=P2.qsz (by have:=FK F i;grind) hql;have HJ:=Af (Au hJ (show qsz (Gu F i+1)<=3000000 by omega));clear hJ hql;have hJ8:J<=100000000:=by omega
   clear hJ9;obtain⟨rr,hrr⟩:∃ r,r=Gu F i+1:=⟨_,rfl⟩
   rw[<-hrr]at HJ hl;have Hrr:=Af hrr;clear hrr hi hiN h0 hs hs9 zF fF hd HQ HA
   go_wp2_with fail
   refine AQ (Jb 1 _ Aa Aa) ?_;rintro r14 w14 hr14 hx14;obtain⟨b11,A11,n11,c11,rfl⟩:=hr14.cells;replace ez:=ez.ext hx14;replace hl:=hl.ext hx14;replace hx:=hx.trans hx14;clear hx14;obtain⟨W15,eW15,eo,y15⟩:=Ba.made w14 26 #[.bool b11,.slice A11 n11 c11] (by simp[Ah]);have ho:=Bp.mk eo (hr14.kd y15.kd);have hgo:=hl.lt;replace ez:=ez.ext y15;replace hl:=hl.ext y15;replace hx:=hx.trans y15;clear y15;clear eo hr14
   go_wp2;rw[<-eW15];clear eW15;generalize w14.heap.size=go at *
   go_loopw [47] (fun _ wr=>∃ j:Nat,j<=J/\Bp wr go 26 (2^j)/\Eb wr gl 28 rr/\Ba wr w.heap.size 26 #[.bool false,.slice none 0 0]/\Ext w wr) (fun _ wr=>2^(J+1) - jU wr go 26)
   case atStart=>exact⟨0,Aa,ho,hl,ez,hx⟩
   case round =>
    clear ho hl ez hx;obtain⟨j,hj,⟨b7,A7,n7,c7,eo,hoz⟩,⟨bl,Al,nl,cl,bl',Al',nl',cl',el,hlz⟩,ez,hx⟩:=hrel;have Hoz:=Af (Au hoz (Au eo hlz));clear hoz hlz;have hgl3:=el.lt;have hgo3:=eo.lt;have hjz:sz ((2:Int)^j).natAbs<=1+j:=GM j;have Hjz:=Af hjz;have hjq:qsz (((2:Int)^j:Int):Rat)<=1+j:=by rw[Bn];omega
    have HS:=Af (Au (show sz ((2:Int)^j).natAbs<=1099511627776 by omega) (Au (show qsz (((2:Int)^j:Int):Rat)<=274877906944 by omega) (show qsz (((2:Int)^j:Int):Rat)+qsz rr < 274877906944 by have:=HJ.out.2;omega)));clear hjz hjq;have ceo:=eo.cells2;have feo:=eo.frozen;have cel:=el.cells4;have fel:=el.frozen
    go_upto_region 12 with(fail)
    refine EE 3 [47,48,49] [9,3] [_,_] [(kv ?_),(fun γ=>γ 1),(kv ?_)] (fun γ w'=>[True,BX w' (γ 1) (((2:Int)^j:Int):Rat),True]) ?s3 ?_
    case s3 =>
     iterate 3 refine⟨?_,?_⟩
     trivial
     iterate 1 focus
      refine Bi fun _ w' he R hR=>?_;have hc:=he.cells;have cq0:=(eo.ext he).cells2;have cq1:=(el.ext he).cells4;go_simp;exact C8 hR
     ·refine Bi fun _ w' he R hR=>?_
      go_simp;exact BF (GL _ _ w' ((Hoz.out.1.has HS.out.1).ext he)) hR
     iterate 1 focus
      refine Bi fun _ w' he R hR=>?_;have hc:=he.cells;have cq0:=(eo.ext he).cells2;have cq1:=(el.ext he).cells4;go_simp;exact C8 hR
    intro γ w16 hx16 hF;have p1:BX w16 (γ 1) (((2:Int)^j:Int):Rat):=AC.get hF 1 Ab;clear hF;simp only[Bw,Nat.reduceAdd];generalize γ 1=g1 at *;clear γ
    go_wp2_with fail
    refine AQ (WH _ _ _ rr _ (p1.has HS.out.2.1) ((Hoz.out.2.2.has (by have:=HJ.out.2;omega)).ext hx16) HS.out.2.2) ?_;rintro r17 w17 rfl hx17;generalize hm:KV ((((2:Int)^j:Int):Rat) - rr)=m;have hm1:=Sq (p:=(((2:Int)^j:Int):Rat)) (q:=rr);rw[hm]at hm1;clear hm;have x1617:=hx16.trans hx17;have HO:=Af (Au (Hoz.out.1.ext x1617) (Hoz.out.2.2.ext x1617));clear p1 ceo feo cel fel;replace ez:=ez.ext x1617
    replace eo:=eo.ext x1617;replace el:=el.ext x1617;replace hx:=hx.trans x1617;clear x1617;clear hx16 hx17;have hl:=Eb.mk el HO.out.2;by_cases hjJ:j < J
    ·rw[decide_eq_true (show(((2:Int)^j:Int):Rat)<=rr by have:=HJ.out.1.2 j hjJ;rw[Ig];exact this)]at hm1
     have ceo:=eo.cells2;have feo:=eo.frozen
     go_wp2_with fail
     refine AQ (M8 _ _ _ _ _ (HO.out.1.has HS.out.1) (HO.out.1.has HS.out.1)) ?_;rintro r18 w18 hr18 hx18;obtain⟨b8,A8,n8,c8,rfl⟩:=hr18.cells;clear ceo feo el;replace ez:=ez.ext hx18;replace eo:=eo.ext hx18;replace hl:=hl.ext hx18;replace hx:=hx.trans hx18;clear hx18;have ceo:=eo.cells2;have feo:=eo.frozen;go_wp2;obtain⟨W19,eW,eo',U⟩:=eo.put2 (.bool b8) (.slice A8 n8 c8);rw[<-eW];clear eW eo;replace hr18:=hr18.kd U.kd
     replace ez:=ez.upd U Ak;replace hl:=hl.upd U Ak;replace hx:=U.from_ hx Ak;have eo:=eo';clear U eo';rw[show(2:Int)^j+2^j=2^(j+1) by rw[Int.pow_succ];omega]at hr18;have ho:=Bp.mk eo hr18;have hb1:=OG ho;have hb2:=OG (Bp.mk Hoz.out.2.1 Hoz.out.1);have hpw:2^(j+1)<=2^J:=Nat.pow_le_pow_right Ab hjJ
     go_roundw
     case rel=>exact⟨j+1,hjJ,ho,hl,ez,hx⟩
     case measure =>
      rw[hb1,hb2];rw[Int.natAbs_pow,Int.natAbs_pow];show 2^(J+1) - 2^(j+1) < 2^(J+1) - 2^j;have h1:2^(J+1)=2*2^J:=Nat.pow_succ';have h2:2^(j+1)=2*2^j:=Nat.pow_succ';have h3:=Nat.two_pow_pos j;omega
    ·obtain rfl:j=J:=by omega
     rw[decide_eq_false (show ¬ (((2:Int)^j:Int):Rat)<=rr by have:=HJ.out.1.1;rw[Ig];grind)]at hm1;have ceo:=eo.cells2;have feo:=eo.frozen;have cez:=ez.cells2;have fez:=ez.frozen
     go_upto_region 14 with(fail)
     have hr:=HO.out.1;go_wp2;obtain⟨W3,eW,ez',U⟩:=ez.put2 (.bool b7) (.slice A7 n7 c7);rw[<-eW];clear eW ez;replace hr:=hr.kd U.kd;replace hx:=U.from_ hx Ak;have ez:=ez';clear U ez';clear ceo feo cez fez;have cez:=ez.cells2;have fez:=ez.frozen;refine bodyPost_ret (v := .agg #[.bool b7,.slice A7 n7 c7]) (by simp[results,Tryz.results67,go_sem,cez]) rfl ?_;have hfin:=HJ.out.1;rw[Hrr.out]at hfin;exact Ai.mk ⟨j,by rw[HN.out];exact hfin,hr⟩ hx
theorem Q9(v:Value)(F:Nat->Rat)(D M:Nat)(w:World)(hv:AB 0 w v F)(hR:Pg F D M):Bg 50 #[v] w (fun r w'=>PP w.heap.size 23 w' r (sqf F)):=by
 obtain⟨S,n,M1,T,h1⟩:=hR.sim;obtain⟨S2,h2⟩:=hR.chn;exact Zc v F (sqf F) S n M1 T S2 D M w hv h1 rfl h2
theorem Qf(v:Value)(F:Nat->Rat)(D M:Nat)(w:World)(hv:AB 0 w v F)(hR:Pg F D M):Bg 67 #[v] w (fun r w'=>AO w' r (2^bx F)):=
 Ai.imp (YK v F 1000 w hv hR.z hR.f hR.n0 hR.q Aa hR.pln) fun _ _ ⟨j,h1,h2⟩=>by rw[<-h1.bx];exact h2
theorem Xo(v:Value)(F:Nat->Rat)(D M:Nat)(w:World)(hv:AB 0 w v F)(hR:Pg F D M):Bg 52 #[v] w (fun r w'=>Ko w' r (-(2:Rat)^bx F) ((2:Rat)^bx F)):=by
 have hb:=fun X (x:Ext w X)=>Qf v F D M X (hv.ext x) hR;have hbx:=TL hR.q;obtain⟨j,hj⟩:∃ j,j=bx F:=⟨_,rfl⟩
 rw[<-hj]at hb hbx ⊢;have hz:=GM j;have hq:=(Sc j).1;obtain⟨A0,c0,rfl,-⟩:=hv.shape;have HC:=Af (Au hb (Au (show sz ((2:Int)^j).natAbs<=1099511627776 by omega) (show qsz ((2:Rat)^j)<=274877906944 by omega)));clear hb hbx hj hz hq hv hR
 go_enter Tryz.func52,Tryz.ntmps52
 obtain⟨W1,eW1,ez,y1⟩:=Ba.made w 30 #[.bool false,.slice none 0 0,.bool false,.slice none 0 0,.bool false,.slice none 0 0,.bool false,.slice none 0 0] (by simp[Ah])
 go_upto_region 1 with(fail)
 rw[<-eW1];clear eW1;have hx:=y1;clear y1
 go_wp2_with fail
 refine AQ (HC.out.1 _ hx) ?_;rintro r2 w2 hr2 hx2;obtain⟨b5,A5,n5,c5,rfl⟩:=hr2.cells;have H2:=Af (hr2.has HC.out.2.1);clear hr2;replace ez:=ez.ext hx2;replace hx:=hx.trans hx2;clear hx2
 go_wp2_with fail
 refine AQ (GL _ _ _ H2.out) ?_;rintro r3 w3 hr3 hx3;rw[Ig]at hr3;obtain⟨b6,A6,n6,c6,b7,A7,n7,c7,rfl⟩:=hr3.cells;replace ez:=ez.ext hx3;replace hx:=hx.trans hx3;clear hx3;obtain⟨W4,eW4,eb,y4⟩:=Ba.made w3 28 #[.bool b6,.slice A6 n6 c6,.bool b7,.slice A7 n7 c7] (by simp[Ah]);have hb4:=hr3.ext y4;have hgb:=ez.lt;replace ez:=ez.ext y4;replace hx:=hx.trans y4;clear y4;clear hr3 H2
 go_upto_region 2 with(fail)
 rw[<-eW4];clear eW4;generalize w3.heap.size=gb at *;have HB:=Af (Au hb4 (hb4.has HC.out.2.2));clear hb4;have ceb:=eb.cells4;have feb:=eb.frozen;refine EE 3 [7,8,9] [3] [_] [(kv ?_),(fun γ=>γ 1),(kv ?_)] (fun γ w'=>[True,BX w' (γ 1) (-(2:Rat)^j),True]) ?s1 ?_
 case s1 =>
  iterate 3 refine⟨?_,?_⟩
  trivial
  iterate 1 focus
   refine Bi fun _ w' he R hR=>?_;have hc:=he.cells;have cq0:=(eb.ext he).cells4;go_simp;exact C8 hR
  ·refine Bi fun _ w' he R hR=>?_
   go_simp;exact BF (aA _ _ w' (HB.out.2.ext he)) hR
  iterate 1 focus
   refine Bi fun _ w' he R hR=>?_;have hc:=he.cells;have cq0:=(eb.ext he).cells4;go_simp;exact C8 hR
 intro γ w5 hx5 hF;have p1:BX w5 (γ 1) (-(2:Rat)^j):=AC.get hF 1 Ab;clear hF;simp only[Bw,Nat.reduceAdd];generalize γ 1=g1 at *;clear γ;obtain⟨b8,A8,n8,c8,b9,A9,n9,c9,rfl⟩:=p1.cells;have HF:=Af (Au p1 (HB.out.1.ext hx5));clear ceb feb p1;replace ez:=ez.ext hx5;replace hx:=hx.trans hx5;clear hx5;have p1:=HF.out.1;have p2:=HF.out.2;clear HF;have cez:=ez.cells8;have fez:=ez.frozen;go_wp2;obtain⟨W6,eW,ez',U⟩:=ez.put8 (.bool b8) (.slice A8 n8 c8) (.bool b9) (.slice A9 n9 c9) (.bool b6) (.slice A6 n6 c6) (.bool b7) (.slice A7 n7 c7)
 rw[<-eW];clear eW ez;replace p1:=p1.kd U.kd;replace p2:=p2.kd U.kd;replace hx:=U.from_ hx Ak;have ez:=ez';clear U ez';clear cez fez;have cez:=ez.cells8;have fez:=ez.frozen;refine bodyPost_ret (v := .agg #[.bool b8,.slice A8 n8 c8,.bool b9,.slice A9 n9 c9,.bool b6,.slice A6 n6 c6,.bool b7,.slice A7 n7 c7]) (by simp[results,Tryz.results52,go_sem,cez]) rfl ?_;exact Ai.mk ⟨_,_,_,_,_,_,_,_,_,_,_,_,_,_,_,_,rfl,p1,p2⟩ hx
theorem VS(v:Value)(l:List Int)(D M:Nat)(w:World)(hv:Gd 0 w v l)(hn:l.length<=1000000)(hR:D8 (cz l)=0->Pg (cz l) D M) :
  Bg 27 #[v] w (fun r w'=>SN (cz l) r w'):=by
 have HV:=Af (Au hv hR);obtain⟨A,c,rfl⟩:=hv.len;clear hv hR
 go_enter Tryz.func27,Tryz.ntmps27
 obtain⟨W1,eW1,ez,y1⟩:=Ba.made w 26 #[.bool false,.slice none 0 0] (by simp[Ah])
 go_upto_region 1 with(fail)
 rw[<-eW1];clear eW1;have hx:=y1;clear y1
 go_wp2_with fail
 refine AQ (RO _ l _ (HV.out.1.ext hx) hn) ?_;rintro r2 w2 ⟨u,rfl,hu1,hu2⟩ hx2;have hgz:=ez.lt;replace ez:=ez.ext hx2;replace hx:=hx.trans hx2;clear hx2;obtain⟨E,hE⟩:∃ E,E=D8 (cz l):=⟨_,rfl⟩
 have hc:=FC (cz l);rw[<-hE]at hu1 hu2 hc ⊢;have HE:=Af hE;clear hE;have fin:E≠0->∀ {W:World},Ext w W->Ai w (fun r w'=>SN (cz l) r w') (.returned (.tuple #[.agg #[.bool false,.slice none 0 0],.int .i64 E])) W:=fun hne W h=>Ai.mk ⟨_,by rw[<-HE.out],fun e=>absurd (HE.out.trans e) hne,fun _=>rfl⟩ h;have Hfin:=Af fin;clear fin;rcases hc with⟨-,hc⟩ | ⟨-,hc⟩ | ⟨h0,hp,-,hc⟩
 ·subst hc
  clear hu1 hu2;have cez:=ez.cells2;have fez:=ez.frozen;go_wp2;obtain⟨W3,eW,ez',U⟩:=ez.put2 (.bool false) (.slice none 0 0);rw[<-eW];clear eW ez;replace hx:=U.from_ hx Ak;have ez:=ez';clear U ez';clear cez fez;have cez:=ez.cells2;have fez:=ez.frozen;refine bodyPost_ret (v := .tuple #[.agg #[.bool false,.slice none 0 0],.int .i64 5]) (by simp[results,Tryz.results27,go_sem,cez]) rfl ?_;exact Hfin.out Ab hx
 ·subst hc
  clear hu1 hu2;have cez:=ez.cells2;have fez:=ez.frozen;go_wp2;obtain⟨W3,eW,ez',U⟩:=ez.put2 (.bool false) (.slice none 0 0);rw[<-eW];clear eW ez;replace hx:=U.from_ hx Ak;have ez:=ez';clear U ez';clear cez fez;have cez:=ez.cells2;have fez:=ez.frozen;refine bodyPost_ret (v := .tuple #[.agg #[.bool false,.slice none 0 0],.int .i64 7]) (by simp[results,Tryz.results27,go_sem,cez]) rfl ?_;exact Hfin.out Ab hx
 ·subst hc
  have hR:=HV.out.2 HE.out.symm;have hu:=hu1 rfl;obtain⟨A1,c1,rfl,-⟩:=hu.shape;have HU:=Af (Au hu hR);clear hu1 hu2 hR h0 hu
  go_wp2_with fail
  refine AQ (Qf _ (cz l) D M _ HU.out.1 HU.out.2) ?_;rintro r4 w4 hr4 hx4;obtain⟨b5,A5,n5,c5,rfl⟩:=hr4.cells;clear HU;replace ez:=ez.ext hx4;replace hx:=hx.trans hx4;clear hx4;have cez:=ez.cells2;have fez:=ez.frozen;go_wp2;obtain⟨W3,eW,ez',U⟩:=ez.put2 (.bool b5) (.slice A5 n5 c5);rw[<-eW];clear eW ez;replace hr4:=hr4.kd U.kd;replace hx:=U.from_ hx Ak;have ez:=ez';clear U ez';clear cez fez;have cez:=ez.cells2
  have fez:=ez.frozen;have HF:=Af (show SN (cz l) (.tuple #[.agg #[.bool b5,.slice A5 n5 c5],.int .i64 0]) W3 from⟨_,by rw[<-HE.out],fun _=>hr4,fun e=>absurd HE.out.symm e⟩);clear hr4;refine bodyPost_ret (v := .tuple #[.agg #[.bool b5,.slice A5 n5 c5],.int .i64 0]) (by simp[results,Tryz.results27,go_sem,cez]) rfl ?_;exact Ai.mk HF.out hx
theorem Q0(v u0:Value)(l:List Int)(p q:Rat)(D M t:Nat)(w:World)(hv:Gd 0 w v l)(hu0:Qv w u0 p q)(hn:l.length<=1000000)(hR:D8 (cz l)=0->Pg (cz l) D M)(hp:qsz p<=t)(hq:qsz q<=t)(ht:t<=10000000) :
  Bg 16 #[v,u0] w (fun r _=>I9 (cz l) p q r):=by
 have HV:=Af (Au hv (Au hR (Au hp hq)));obtain⟨A,c,rfl⟩:=hv.len;obtain⟨b1,B1,m1,k1,b2,B2,m2,k2,b3,B3,m3,k3,b4,B4,m4,k4,rfl,hi1,hi2⟩:=hu0;have hsg:=Io (p:=p) (q:=q);have HI:=Af (Au hi1 (Au hi2 (show qsz p+qsz q < 274877906944 by omega)));clear hv hR hi1 hi2;obtain⟨X0,hX0⟩:∃ X,X=rc (sqf (cz l)) p q:=⟨_,rfl⟩
 have HX0:=Af hX0;clear hX0
 go_enter Tryz.func16,Tryz.ntmps16
 obtain⟨W1,eW1,eb,y1⟩:=Ba.made w 30 #[.bool b1,.slice B1 m1 k1,.bool b2,.slice B2 m2 k2,.bool b3,.slice B3 m3 k3,.bool b4,.slice B4 m4 k4] (by simp[Ah])
 go_upto_region 1 with(fail)
 rw[<-eW1];clear eW1;have hx:=y1;clear y1
 go_wp2_with fail
 refine AQ (RO _ l _ (HV.out.1.ext hx) hn) ?_;rintro r2 w2 ⟨u,rfl,hu1,hu2⟩ hx2;replace eb:=eb.ext hx2;replace hx:=hx.trans hx2;clear hx2;obtain⟨E,hE⟩:∃ E,E=D8 (cz l):=⟨_,rfl⟩
 have hc:=FC (cz l);rw[<-hE]at hu1 hu2 hc ⊢;have HE:=Af hE;clear hE;have fin:E≠0->∀ {W:World},Ext w W->Ai w (fun r _=>I9 (cz l) p q r) (.returned (.tuple #[.int .i64 0,.int .i64 E])) W:=fun hne W h=>Ai.mk (by unfold I9;rw[<-HE.out,if_neg (fun z=>hne z.1),if_neg hne]) h;have Hfin:=Af fin;clear fin;rcases hc with⟨-,hc⟩ | ⟨-,hc⟩ | ⟨h0,hpl,-,hc⟩
 ·subst hc
  clear hu1 hu2;go_wp2;refine bodyPost_ret (v := .tuple #[.int .i64 0,.int .i64 5]) (by simp[results,Tryz.results16,go_sem]) rfl ?_;exact Hfin.out Ab hx
 ·subst hc
  clear hu1 hu2;go_wp2;refine bodyPost_ret (v := .tuple #[.int .i64 0,.int .i64 7]) (by simp[results,Tryz.results16,go_sem]) rfl ?_;exact Hfin.out Ab hx
 subst hc;have hR:=HV.out.2.1 HE.out.symm;have hu:=hu1 rfl;obtain⟨A1,c1,rfl,-⟩:=hu.shape;have HU:=Af (Au hu hR);clear hu1 hu2 hR h0 hu;have h22:=Ext.refl w2;have ceb:=eb.cells8;have feb:=eb.frozen
 go_wp2_with fail
 refine AQ (WH _ _ p q _ (HI.out.1.ext hx) (HI.out.2.1.ext hx) HI.out.2.2) ?_;rintro r3 w3 rfl hx3;clear ceb feb;replace eb:=eb.ext hx3;replace hx:=hx.trans hx3;replace h22:=h22.trans hx3;clear hx3;generalize KV (p - q)=m at *;by_cases hqp:q < p
 ·rw[decide_eq_true hqp]at hsg
  have HF:=Af (show I9 (cz l) p q (.tuple #[.int .i64 0,.int .i64 2]) by unfold I9;rw[<-HE.out,if_neg (fun z=>by have:=z.2;grind),if_pos rfl,if_neg Ad]);go_wp2;refine bodyPost_ret (v := .tuple #[.int .i64 0,.int .i64 2]) (by simp[results,Tryz.results16,go_sem]) rfl ?_;exact Ai.mk HF.out hx
 rw[decide_eq_false hqp]at hsg;have HW:=Af (HU.out.1.ext h22);have ceb:=eb.cells8;have feb:=eb.frozen
 go_upto_region 6 with(fail)
 refine EE 6 [21,22,23,24,25,26] [0,3] [_,_] [(kv ?_),(fun γ=>γ 1),(kv ?_),(kv ?_),(kv ?_),(kv ?_)] (fun γ w'=>[True,PP 0 23 w' (γ 1) (sqf (cz l)),True,True,True,True]) ?s1 ?_
 case s1 =>
  iterate 6 refine⟨?_,?_⟩
  trivial
  iterate 1 focus
   refine Bi fun _ w' he R hR=>?_;have hc:=he.cells;go_simp;exact C8 hR
  ·refine Bi fun _ w' he R hR=>?_
   go_simp;exact BF (F:=fun r w''=>PP 0 23 w'' (r) (sqf (cz l))) (Ai.imp (Q9 _ (cz l) D M w' (HW.out.ext he) HU.out.2) fun _ _ h=>h.lower (Nat.zero_le _)) hR
  iterate 4 focus
   refine Bi fun _ w' he R hR=>?_;have hc:=he.cells;have cq0:=(eb.ext he).cells8;go_simp;exact C8 hR
 intro γ w5 hx5 hF;have p1:PP 0 23 w5 (γ 1) (sqf (cz l)):=AC.get hF 1 Ab;clear hF;simp only[Bw,Nat.reduceAdd];generalize γ 1=g1 at *;clear γ;have HP1:=Af p1;obtain⟨cA,cn,cc,rfl⟩:=p1.cell;have hlim:=HU.out.2.lim;have hin:Bg 51 #[.agg #[.slice cA cn cc],.agg #[.bool b1,.slice B1 m1 k1,.bool b2,.slice B2 m2 k2],.agg #[.bool b3,.slice B3 m3 k3,.bool b4,.slice B4 m4 k4]] w5 (fun r _=>r = .int .i64 X0):=by
  obtain⟨S,hC⟩:=HU.out.2.chn;have h9:D*(M+t+1)<=900*(M+t+1):=Nat.mul_le_mul_right _ hlim.2;have:=iX _ _ _ (sqf (cz l)) p q 0 S D M t (kn (sqf (cz l))) w5 HP1.out (HI.out.1.ext (hx.trans hx5)) (HI.out.2.1.ext (hx.trans hx5)) hC HU.out.2.k HV.out.2.2.1 HV.out.2.2.2 Aa;have e:((V (Gp (sqf (cz l)) (pd (sqf (cz l))) (kn (sqf (cz l)))) p:Nat):Int) - (V (Gp (sqf (cz l)) (pd (sqf (cz l))) (kn (sqf (cz l)))) q:Nat)=X0:=by
   rw[HX0.out];exact LY HU.out.2.k _ _
  rw[e]at this;exact this
 have HIN:=Af hin;clear hin p1
 go_wp2_with fail
 refine AQ HIN.out ?_;rintro r6 w6 rfl hx6;have hx7:=(hx.trans hx5).trans hx6;clear hx5 hx6;have HF:=Af (show I9 (cz l) p q (.tuple #[.int .i64 X0,.int .i64 0]) by unfold I9;rw[<-HE.out,if_pos ⟨rfl,Ad⟩,if_pos rfl,if_pos Ad,HX0.out]);go_wp2;refine bodyPost_ret (v := .tuple #[.int .i64 X0,.int .i64 0]) (by simp[results,Tryz.results16,go_sem]) rfl ?_;exact Ai.mk HF.out hx7
theorem Rw(v:Value)(l:List Int)(D M N:Nat)(w:World)(hv:Gd 0 w v l)(hn:l.length<=1000000)(hR:D8 (cz l)=0->Pg (cz l) D M)
  (hdeep:D8 (cz l)=0->∀ d p q,Hp.Node (-(2:Rat)^bx (cz l)) ((2:Rat)^bx (cz l)) d p q->N<=d->rc (sqf (cz l)) p q<=1) (hN:N<=1000000000) (hD:D<=30) :
  Bg 25 #[v] w (fun r w'=>Yw w.heap.size 30 (cz l) N r w'):=by
 have HV:=Af (Au hv (Au hR hdeep));obtain⟨A,c,rfl⟩:=hv.len;clear hv hR hdeep
 go_enter Tryz.func25,Tryz.ntmps25
 go_wp2_with fail
 refine AQ (RO _ l _ HV.out.1 hn) ?_;rintro r2 w2 ⟨u,rfl,hu1,hu2⟩ hx;obtain⟨E,hE⟩:∃ E,E=D8 (cz l):=⟨_,rfl⟩
 have hc:=FC (cz l);rw[<-hE]at hu1 hu2 hc ⊢;have HE:=Af hE;clear hE;have fin:E≠0->∀ {W:World},Ext w W->Ai w (fun r w'=>Yw w.heap.size 30 (cz l) N r w') (.returned (.tuple #[.slice none 0 0,.int .i64 E])) W:=fun hne W h=>Ai.mk ⟨_,by rw[<-HE.out],fun e=>absurd (HE.out.trans e) hne,fun _=>rfl⟩ h;have Hfin:=Af fin;clear fin;rcases hc with⟨-,hc⟩ | ⟨-,hc⟩ | ⟨h0,hpl,-,hc⟩
 ·subst hc
  clear hu1 hu2;go_wp2;refine bodyPost_ret (v := .tuple #[.slice none 0 0,.int .i64 5]) (by simp[results,Tryz.results25,go_sem]) rfl ?_;exact Hfin.out Ab hx
 ·subst hc
  clear hu1 hu2;go_wp2;refine bodyPost_ret (v := .tuple #[.slice none 0 0,.int .i64 7]) (by simp[results,Tryz.results25,go_sem]) rfl ?_;exact Hfin.out Ab hx
 subst hc;have hR:=HV.out.2.1 HE.out.symm;have hu:=hu1 rfl;obtain⟨A1,c1,rfl,-⟩:=hu.shape;have HU:=Af (Au hu hR);clear hu1 hu2 hR h0 hu
 go_wp2_with fail
 refine AQ (Q9 _ (cz l) D M _ HU.out.1 HU.out.2) ?_;rintro r3 w3 hr3 hx3;have hsz3:=hx3.size;have hszx:=hx.size;obtain⟨cA,cn,cc,rfl⟩:=hr3.cell;have HU3:=Af (HU.out.1.ext hx3);have HC:=Af hr3;replace hx:=hx.trans hx3;clear hx3;clear hr3
 go_wp2_with fail
 refine AQ (Xo _ (cz l) D M _ HU3.out HU.out.2) ?_;rintro r4 w4 hr4 hx4;have hsz4:=hx4.size;obtain⟨b1,B1,m1,k1,b2,B2,m2,k2,b3,B3,m3,k3,b4,B4,m4,k4,rfl⟩:=hr4.cells;have HI:=Af hr4;have HX4:=Af (hx.trans hx4);clear hr4;have hcall:Calls Tryz.prog 64 #[.agg #[.slice cA cn cc],.slice none 0 0,.agg #[.bool b1,.slice B1 m1 k1,.bool b2,.slice B2 m2 k2,.bool b3,.slice B3 m3 k3,.bool b4,.slice B4 m4 k4]] w4
   (SE w3.heap.size 30 w4 (.slice none 0 0) ([] ++ Jc (rc (sqf (cz l))) N (-(2:Rat)^bx (cz l)) ((2:Rat)^bx (cz l)))):=by
  obtain⟨S,hC⟩:=HU.out.2.chn;have hbx:=TL HU.out.2.q;have hqj:=Sc (bx (cz l));have hM:=HU.out.2.lim.1;have hpos:=BS (bx (cz l));have hPQ : -(2:Rat)^bx (cz l) < (2:Rat)^bx (cz l):=by grind
  have hsf:=HU.out.2.sf;have h9:D*(M+(3*100000+N+4)+1)<=30*(M+(3*100000+N+4)+1):=Nat.mul_le_mul_right _ hD;have hdp:=HV.out.2.2 HE.out.symm;have hnodes:=UX hsf hPQ hdp N 0 _ _ (Hp.Node.root _ _) Aa;have hlen:(Jc (rc (sqf (cz l))) N (-(2:Rat)^bx (cz l)) ((2:Rat)^bx (cz l))).length<=1000:=by
   have h1:=hnodes.2.1;have h2:rc (sqf (cz l)) (-(2:Rat)^bx (cz l)) ((2:Rat)^bx (cz l))<=1000:=by
    rw[<-LY HU.out.2.k];unfold rts;have h3:=dS (Gp (sqf (cz l)) (pd (sqf (cz l))) (kn (sqf (cz l)))) (-(2:Rat)^bx (cz l));rw[Er]at h3;obtain⟨K0,q1,q2⟩:=Gl hC.f (Bd hC.f) hC.z (Dt hC.z) hC.s hC.d;rw[q1.uniq HU.out.2.k]at q2;have:=hC.e;omega
   omega
  exact Ve w3 _ (sqf (cz l)) _ _ _ S D M (kn (sqf (cz l))) N 100000 HC.out hC HU.out.2.k hPQ Aa Aa hdp (fun d p q hn=>hsf.nonneg (Std.le_of_lt (hn.within hPQ).2.1)) Aa
   N 0 _ _ _ _ [] w4 (Hp.Node.root _ _) Aa Aa hx4 (HI.out.has Aa Aa) (EZ.nil _ _ _) (by simpa using hlen)
 have HK:=Af hcall;clear hcall
 go_wp2_with fail
 refine Calls.mono HK.out ?_;rintro e w5 ⟨r5,rfl,hown,U,-⟩;have hx5:Ext w w5:=U.from_ HX4.out (fun g hg=>by simp[blk,Value.ownBlock]at hg);have HF:=Af (show Yw w.heap.size 30 (cz l) N (.tuple #[r5,.int .i64 0]) w5 from⟨r5,by rw[<-HE.out],fun _=>EZ.lower hown Aa,fun e=>absurd HE.out.symm e⟩);clear hown U hx hx4;go_wp2;refine bodyPost_ret (v := .tuple #[r5,.int .i64 0]) (by simp[results,Tryz.results25,go_sem]) rfl ?_
 exact Ai.mk HF.out hx5
set_option maxRecDepth 20000 in
theorem jW(v:Value)(ns:List Int)(w:World)(hv:Ua w v ns)(hn:ns.length<=1000)(hs:∀ n∈ns,-4294967296 < n/\n < 4294967296):Bg 21 #[v] w (fun r w'=>MX w.heap.size w' r ns):=by
 obtain⟨g,c,rfl,h1,h2,h3⟩:=hv;have H3:=Af (Au h3 hs);clear h3 hs
 go_enter Tryz.func21,Tryz.ntmps21
 go_wp2
 go_loopw [3,4] (fun ov iv wr=>∃ (k:Nat),k<=ns.length/\iv = .int .i64 k/\Ed w.heap.size 26 wr ov (ns.take k)/\Ext w wr) (fun _ iv _=>ns.length - (intOf iv).toNat)
 case atStart=>exact⟨0,Nat.zero_le _,rfl,BB.nil _ _ _ _ _,Ext.refl _⟩
 case round =>
  obtain⟨k,hk,rfl,hown,hx⟩:=hrel;have Hown0:=Af hown;clear hown;by_cases hkl:k < ns.length
  ·have q0:=hx.cell (H3.out.1 k hkl)
   obtain⟨m,hm⟩:∃ m,m=ns[k]:=⟨_,rfl⟩
   rw[<-hm]at q0;have hb:=H3.out.2 ns[k] (List.getElem_mem hkl);rw[<-hm]at hb;have Hm:=Af hm;clear hm
   go_wp2_with fail
   refine AQ (kI m _ hb.1 hb.2) ?_;rintro r w2 hr hx2;obtain⟨b5,A5,n5,c5,rfl⟩:=hr.cells;have Hr:=Af hr;clear hr;have hown:=Hown0.out.ext hx2;have Hown:=Af hown;clear hown;replace hx:=hx.trans hx2;have hsz:=hx.size;have hlk:(ns.take k).length<=1000:=Nat.le_trans (List.length_take_le _ _) Aa;clear hx2 q0 Hown0
   go_wp2_with (at_builtin;refine Bu rfl _ _ 22 rfl u3 (.slice (some ⟨w2.heap.size,0,none⟩) 1 1) rfl rfl (NM w2 w.heap.size _ _ _ _ _ Hown.out Hr.out (by first | (rw[AR];omega) | omega) hsz rfl) ?_)
   first | intro v' w5 hown U | rintro v' w5 ⟨hown,U⟩
   replace hx:=(Hown.out.ext ((Ext.refl w2).alloc _)).from_ U (hx.alloc _) (Nat.le_refl _);have Hown':=Af hown;clear hown U;go_wp2
   go_roundw
   case rel=>exact⟨k+1,Aa,by go_num,by
    rw[List.take_succ_eq_append_getElem hkl,<-Hm.out];exact Hown'.out,hx⟩
   case measure=>simp[intOf]<;>omega
  ·obtain rfl:k=ns.length:=by omega
   have hq:=Ed.row Hown0.out;rw[List.take_of_length_le (Nat.le_refl _)]at hq;have Hq:=Af hq;clear hq Hown0;go_wp2
   go_ret
   exact Ai.mk Hq.out hx
theorem Ti(x y:Int)(w:World)(h1 : -4294967296 < x/\x < 4294967296)(h2 : -4294967296 < y/\y < 4294967296):Bg 45 #[.int .i64 x,.int .i64 y] w (fun r w'=>Ko w' r (x:Rat) (y:Rat)):=by
 go_enter Tryz.func45,Tryz.ntmps45
 obtain⟨W1,eW1,ez,y1⟩:=Ba.made w 30 #[.bool false,.slice none 0 0,.bool false,.slice none 0 0,.bool false,.slice none 0 0,.bool false,.slice none 0 0] (by simp[Ah])
 go_upto_region 1 with(fail)
 rw[<-eW1];clear eW1;have hx:=y1;clear y1
 go_wp2_with fail
 refine AQ (jZ x _ Aa Aa) ?_;rintro r2 w2 hr2 hx2;obtain⟨b5,A5,n5,c5,b6,A6,n6,c6,rfl⟩:=hr2.cells;have H2:=Af hr2;clear hr2;have hgz:=ez.lt;replace ez:=ez.ext hx2;replace hx:=hx.trans hx2;clear hx2
 go_wp2_with fail
 refine AQ (jZ y _ Aa Aa) ?_;rintro r3 w3 hr3 hx3;obtain⟨b7,A7,n7,c7,b8,A8,n8,c8,rfl⟩:=hr3.cells;have p1:=H2.out.ext hx3;replace ez:=ez.ext hx3;replace hx:=hx.trans hx3;clear hx3;have cez:=ez.cells8;have fez:=ez.frozen;go_wp2;obtain⟨W6,eW,ez',U⟩:=ez.put8 (.bool b5) (.slice A5 n5 c5) (.bool b6) (.slice A6 n6 c6) (.bool b7) (.slice A7 n7 c7) (.bool b8) (.slice A8 n8 c8);rw[<-eW];clear eW ez;replace p1:=p1.kd U.kd
 replace hr3:=hr3.kd U.kd;replace hx:=U.from_ hx Ak;have ez:=ez';clear U ez';clear cez fez;have cez:=ez.cells8;have fez:=ez.frozen;refine bodyPost_ret (v := .agg #[.bool b5,.slice A5 n5 c5,.bool b6,.slice A6 n6 c6,.bool b7,.slice A7 n7 c7,.bool b8,.slice A8 n8 c8]) (by simp[results,Tryz.results45,go_sem,cez]) rfl ?_;exact Ai.mk ⟨_,_,_,_,_,_,_,_,_,_,_,_,_,_,_,_,rfl,p1,hr3⟩ hx
theorem TE(v u:Value)(p q p' q':Rat)(w:World)(hv:Ko w v p q)(hu:Ko w u p' q'):Bg 33 #[v,u] w (fun r _=>r = .bool (decide (p=p'/\q=q'))):=by
 obtain⟨b1,A1,n1,c1,b2,A2,n2,c2,b3,A3,n3,c3,b4,A4,n4,c4,rfl,i1,i2⟩:=hv;obtain⟨d1,B1,m1,k1,d2,B2,m2,k2,d3,B3,m3,k3,d4,B4,m4,k4,rfl,j1,j2⟩:=hu;have H:=Af (Au i1 (Au i2 (Au j1 j2)));clear i1 i2 j1 j2
 go_enter Tryz.func33,Tryz.ntmps33
 obtain⟨W1,eW1,ea,y1⟩:=Ba.made w 30 #[.bool b1,.slice A1 n1 c1,.bool b2,.slice A2 n2 c2,.bool b3,.slice A3 n3 c3,.bool b4,.slice A4 n4 c4] (by simp[Ah]);obtain⟨W2,eW2,eb,y2⟩:=Ba.made W1 30 #[.bool d1,.slice B1 m1 k1,.bool d2,.slice B2 m2 k2,.bool d3,.slice B3 m3 k3,.bool d4,.slice B4 m4 k4] (by simp[Ah]);have s1:W1.heap.size=w.heap.size+1:=by rw[eW1,World.size_alloc]
 rw[s1]at eb;have hx:=y1.trans y2;replace ea:=ea.ext y2
 go_upto_region 1 with(fail)
 rw[<-eW1,<-eW2];clear eW1 eW2 y1 y2 s1;have cea:=ea.cells8;have fea:=ea.frozen;have ceb:=eb.cells8;have feb:=eb.frozen
 go_wp2_with fail
 refine AQ (Tv _ _ p p' _ (H.out.1.ext hx) (H.out.2.2.1.ext hx)) ?_;rintro r3 w3 rfl hx3;clear cea fea ceb feb;replace ea:=ea.ext hx3;replace eb:=eb.ext hx3;replace hx:=hx.trans hx3;clear hx3;by_cases hp:p=p'
 ·have hd:decide (p=p')=true:=decide_eq_true hp
  have hq:decide (p=p'/\q=q')=decide (q=q'):=by simp[hp]
  have HQ:=Af hq;clear hq;rw[hd];have HP:=Af hp;clear hp;have cea:=ea.cells8;have fea:=ea.frozen;have ceb:=eb.cells8;have feb:=eb.frozen
  go_wp2_with fail
  refine AQ (Tv _ _ q q' _ (H.out.2.1.ext hx) (H.out.2.2.2.ext hx)) ?_;rintro r4 w4 rfl hx4;generalize decide (q=q')=bb at *;go_wp2
  go_ret
  exact Ai.mk (show Value.bool bb = .bool (decide (p=p'/\q=q'))from by rw[HQ.out]) (hx.trans hx4)
 ·have hd:decide (p=p')=false:=decide_eq_false hp
  have hq:decide (p=p'/\q=q')=false:=decide_eq_false fun z=>hp z.1;have HQ:=Af hq;clear hq;rw[hd];clear hp;go_wp2
  go_ret
  exact Ai.mk (show Value.bool false = .bool (decide (p=p'/\q=q'))from by rw[HQ.out]) hx
set_option maxRecDepth 20000 in
theorem Xn(w:World):Bg 12 #[] w (fun r _=>r = .bool true):=by
 have K1:=Af (show ∀ x∈([-2,0,1]:List Int),sz x.natAbs<=1 by decide +kernel);have hcnt:∀ X v u,Gd 0 X v [-2,0,1]->Qv X u 0 2->Bg 16 #[v,u] X (fun r _=>r = .tuple #[.int .i64 1,.int .i64 0]):=fun X v u hv hu=>by
  refine Ai.imp (Q0 v u [-2,0,1] 0 2 _ 32768 10 X hv hu Ab (fun _=>FZ.pg) (by decide +kernel) (by decide +kernel) Ab) fun r _ h=>?_;rw[h,FZ.err,Yu,ZW.1,if_pos ⟨rfl,by decide +kernel⟩,if_pos rfl,if_pos (by decide +kernel)]
 have hiso:∀ X v,Gd 0 X v [-2,0,1]->Bg 25 #[v] X (fun r w'=>∃ c,r = .tuple #[c,.int .i64 0]/\EZ 0 30 w' c [(-4,0),(0,4)]):=fun X v hv=>by
  obtain⟨N,h1,h2⟩:∃ N,700000000<=N+1/\N+1<=1000000000:=⟨800000000,Aa,Aa⟩
  refine Ai.imp (Rw v [-2,0,1] _ 32768 (N+1) X hv Ab (fun _=>FZ.pg) (fun _ d p q hn hd=>FZ.deep d p q hn Aa) h2 (by have:=FZ.chn.2;omega)) fun r w' ⟨c,e1,e2,_⟩=>?_;rw[FZ.err]at e1;have:=e2 FZ.err;rw[dN]at this;exact⟨c,e1,this.lower (Nat.zero_le _)⟩
 have HC:=Af (Au hcnt hiso);clear hcnt hiso
 go_enter Tryz.func12,Tryz.ntmps12
 go_wp2_with fail
 refine AQ (jW _ [-2,0,1] _ (Ua.new w _ [-2,0,1] Ab) Ab Ab) ?_;rintro r1 w1 h1 hx;have H1:=Af (h1.has (fun x hx=>by have:=K1.out x hx;omega));clear h1;replace hx:=hx.a1
 go_wp2_with fail
 refine AQ (Ti 0 2 _ Aa Aa) ?_;rintro r2 w2 hr2 hx2;have H2:=Af (Au (H1.out.ext hx2) (show Qv w2 r2 0 2 from hr2.has (by decide +kernel) (by decide +kernel)));clear hr2 H1;replace hx:=hx.trans hx2;clear hx2
 go_wp2_with fail
 refine AQ (HC.out.1 _ _ _ H2.out.1 H2.out.2) ?_;rintro r3 w3 rfl hx3;have H3:=Af (H2.out.1.ext hx3);clear H2;replace hx:=hx.trans hx3;clear hx3
 go_wp2_with fail
 refine AQ (HC.out.2 _ _ H3.out) ?_;rintro r4 w4 ⟨c4,rfl,hown⟩ hx4;replace hx:=hx.trans hx4;clear hx4;obtain⟨A,c,rfl⟩:=hown.len;obtain⟨g,o,b1,A1,n1,c1,b2,A2,n2,c2,b3,A3,n3,c3,b4,A4,n4,c4,rfl,q0,q1,q2,q3,q4,q5,q6,q7,hi0⟩:=hown.at_ (j:=0) Ab;obtain⟨g',o',d1,B1,m1,k1,d2,B2,m2,k2,d3,B3,m3,k3,d4,B4,m4,k4,e1,s0,s1,s2,s3,s4,s5,s6,s7,hi1⟩:=hown.at_ (j:=1) Ab;cases e1;have HI:=Af (Au (show Ko w4 _ (-4) 0 from hi0) (show Ko w4 _ 0 4 from hi1));clear hi0 hi1 hown H3
 rw[Nat.zero_mul,Nat.add_zero]at q0 q1 q2 q3 q4 q5 q6 q7;rw[Nat.one_mul]at s0 s1 s2 s3 s4 s5 s6 s7;have hl2:([(-4,0),(0,4)]:List (Rat×Rat)).length=2:=rfl;rw[hl2];clear hl2
 go_upto_region 4 with(fail)
 refine EE 27 [19,20,21,22,23,24,25,26,27,28,29,30,31,32,33,34,35,36,37,38,39,40,41,42,43,44,45] [3,2,5,4] [_,_,_,_] [(kv ?_),(kv ?_),(kv ?_),(kv ?_),(kv ?_),(kv ?_),(kv ?_),(kv ?_),(kv ?_),(kv ?_),(kv ?_),(kv ?_),(kv ?_),(kv ?_),(kv ?_),(kv ?_),(kv ?_),(kv ?_),(kv ?_),(fun γ=>γ 19),(kv (.bool true)),(kv ?_),(kv ?_),(kv ?_),(kv ?_),(kv ?_),(fun γ=>γ 26)] (fun γ w'=>[True,True,True,True,True,True,True,True,True,True,True,True,True,True,True,True,True,True,True,Ko w' (γ 19) (-4) 0,True,True,True,True,True,True,Ko w' (γ 26) 0 4]) ?s1 ?_
 case s1 =>
  iterate 27 refine⟨?_,?_⟩
  trivial
  iterate 3 focus
   refine Bi fun _ w' he R hR=>?_;have hc:=he.cells;go_simp;(try go_ints);(try(rw[if_neg Aa]));(try(rw[if_pos Aa]));(try go_simp);(try go_ints)
   exact C8 hR
  iterate 2 focus
   intro γ w' he hf;clear hf;refine⟨by trivial,?_⟩;intro R hR;have hc:=he.cells;go_simp;(try go_ints);(try(rw[if_neg Aa]));(try(rw[if_pos Aa]));(try go_simp);(try go_ints)
   exact C8 hR
  iterate 2 focus
   refine Bi fun _ w' he R hR=>?_;have hc:=he.cells;go_simp;(try go_ints);(try(rw[if_neg Aa]));(try(rw[if_pos Aa]));(try go_simp);(try go_ints)
   exact C8 hR
  iterate 2 focus
   intro γ w' he hf;clear hf;refine⟨by trivial,?_⟩;intro R hR;have hc:=he.cells;go_simp;(try go_ints);(try(rw[if_neg Aa]));(try(rw[if_pos Aa]));(try go_simp);(try go_ints)
   exact C8 hR
  iterate 2 focus
   refine Bi fun _ w' he R hR=>?_;have hc:=he.cells;go_simp;(try go_ints);(try(rw[if_neg Aa]));(try(rw[if_pos Aa]));(try go_simp);(try go_ints)
   exact C8 hR
  iterate 3 focus
   intro γ w' he hf;clear hf;refine⟨by trivial,?_⟩;intro R hR;have hc:=he.cells;go_simp;(try go_ints);(try(rw[if_neg Aa]));(try(rw[if_pos Aa]));(try go_simp);(try go_ints)
   exact C8 hR
  iterate 2 focus
   refine Bi fun _ w' he R hR=>?_;have hc:=he.cells;go_simp;(try go_ints);(try(rw[if_neg Aa]));(try(rw[if_pos Aa]));(try go_simp);(try go_ints)
   exact C8 hR
  iterate 3 focus
   intro γ w' he hf;clear hf;refine⟨by trivial,?_⟩;intro R hR;have hc:=he.cells;have cq0:=he.cell q0;have cq1:=he.cell q1;have cq2:=he.cell q2;have cq3:=he.cell q3;have cq4:=he.cell q4;have cq5:=he.cell q5;have cq6:=he.cell q6;have cq7:=he.cell q7;have cq8:=he.cell s0;have cq9:=he.cell s1;have cq10:=he.cell s2;have cq11:=he.cell s3;have cq12:=he.cell s4;have cq13:=he.cell s5;have cq14:=he.cell s6;have cq15:=he.cell s7
   go_simp;(try go_ints);(try(rw[if_neg Aa]));(try(rw[if_pos Aa]));(try go_simp);(try go_ints)
   exact C8 hR
  ·intro γ w' he hf;clear hf;refine⟨rfl,?_⟩;intro R hR
   go_simp;exact BF (Ti (-4) 0 w' Aa Aa) hR
  ·intro γ w' he hf;have f19:Ko w' (γ 19) (-4) 0:=hf 19 Ab;clear hf;refine⟨rfl,?_⟩;intro R hR
   go_simp;exact OA (Ai.imp (TE _ _ (-4) 0 (-4) 0 w' (HI.out.1.ext he) f19) fun _ _ h=>h) hR
  iterate 2 focus
   refine Bi fun _ w' he R hR=>?_;have hc:=he.cells;go_simp;(try go_ints);(try(rw[if_neg Aa]));(try(rw[if_pos Aa]));(try go_simp);(try go_ints)
   exact C8 hR
  iterate 3 focus
   intro γ w' he hf;clear hf;refine⟨by trivial,?_⟩;intro R hR;have hc:=he.cells;have cq0:=he.cell q0;have cq1:=he.cell q1;have cq2:=he.cell q2;have cq3:=he.cell q3;have cq4:=he.cell q4;have cq5:=he.cell q5;have cq6:=he.cell q6;have cq7:=he.cell q7;have cq8:=he.cell s0;have cq9:=he.cell s1;have cq10:=he.cell s2;have cq11:=he.cell s3;have cq12:=he.cell s4;have cq13:=he.cell s5;have cq14:=he.cell s6;have cq15:=he.cell s7
   go_simp;(try go_ints);(try(rw[if_neg Aa]));(try(rw[if_pos Aa]));(try go_simp);(try go_ints)
   exact C8 hR
  ·intro γ w' he hf;clear hf;refine⟨rfl,?_⟩;intro R hR
   go_simp;exact BF (Ti 0 4 w' Aa Aa) hR
 intro γ w5 hx5 hF;have p19:Ko w5 (γ 19) (-4) 0:=AC.get hF 19 Ab;have p26:Ko w5 (γ 26) 0 4:=AC.get hF 26 Ab;clear hF;simp only[Bw,Nat.reduceAdd];generalize γ 19=g19 at *;generalize γ 26=g26 at *;clear γ;have H5:=Af (Au (HI.out.2.ext hx5) p26);clear p19 p26 q0 q1 q2 q3 q4 q5 q6 q7 s0 s1 s2 s3 s4 s5 s6 s7
 go_wp2_with fail
 refine AQ (TE _ _ 0 4 0 4 _ H5.out.1 H5.out.2) ?_;rintro r6 w6 rfl hx6;have hx7:=(hx.trans hx5).trans hx6;have hd:decide ((0:Rat)=0/\(4:Rat)=4)=true:=decide_eq_true ⟨rfl,rfl⟩;rw[hd];clear hx hx5 hx6 hd;go_wp2
 go_ret
 exact Ai.mk rfl hx7
set_option maxRecDepth 20000 in
theorem Zl(g c:Nat)(vs:List (Value×List Int))(w:World)(hn:vs.length<=1000)(hc:vs.length<=c)(hv:LX w g vs) :
  Bg 13 #[.slice (some ⟨g,0,none⟩) vs.length c] w (fun r _=>bX vs r):=by
 have HV:=Af hv;clear hv
 go_enter Tryz.func13,Tryz.ntmps13
 go_wp2
 go_loopw [3] (fun iv wr=>∃ i:Nat,i<=vs.length/\iv = .int .i64 (i:Nat)/\(∀ j (h:j < vs.length),j < i->PL vs[j].2)/\Ext w wr) (fun iv _=>vs.length - (intOf iv).toNat)
 case atStart=>exact⟨0,Nat.zero_le _,rfl,fun j h h'=>Aa,Ext.refl _⟩
 case round =>
  obtain⟨i,hi,rfl,hst,hx⟩:=hrel;have Hst:=Af hst;clear hst;by_cases hil:i < vs.length
  ·obtain⟨q0,hp⟩:=HV.out i hil
   obtain⟨A1,c1,e1⟩:=hp.len;rw[e1]at q0 hp;obtain⟨l,hl⟩:∃ l,l=vs[i].2:=⟨_,rfl⟩
   rw[<-hl]at q0 hp;have Hl:=Af (Au hl hp);clear hl hp e1;have q:=hx.cell q0;by_cases hlong:12 < l.length
   ·skip
    go_wp2
    go_ret
    exact Ai.mk ⟨false,rfl,fun h=>by cases h⟩ hx
   ·have hd:∀ X,Ext w X->Bg 15 #[.slice A1 l.length c1] X (fun r _=>r = .int .i64 ((pl (cz l):Int) - 1)):=fun X x=>NV _ l X (Hl.out.2.ext x) Aa
    have HD:=Af hd;clear hd;have hpl:pl (cz l)<=l.length:=BD (Cx l)
    go_wp2_with fail
    refine AQ (HD.out _ hx) ?_;rintro r2 w2 rfl hx2;replace hx:=hx.trans hx2;have q:=hx.cell q0;clear hx2;by_cases hdeg:7 < pl (cz l)
    ·skip
     go_wp2
     go_ret
     exact Ai.mk ⟨false,rfl,fun h=>by cases h⟩ hx
    ·go_wp2
     go_loopw [4] (fun kv wk=>∃ k:Nat,k<=l.length/\kv = .int .i64 (k:Nat)/\(∀ j,j < k->(cz l j).num.natAbs<=4095)/\Ext w wk) (fun kv _=>l.length - (intOf kv).toNat)
     case atStart=>exact⟨0,Nat.zero_le _,rfl,fun j h=>Aa,hx⟩
     case round =>
      clear hx q;obtain⟨k,hk,rfl,hsm,hx⟩:=hrel;have Hsm:=Af hsm;clear hsm;have q:=hx.cell q0;by_cases hkl:k < l.length
      ·obtain⟨g',o',b1,B1,m1,d1,e3,-,r0,r1,hz⟩:=(Hl.out.2.ext hx).at_ hkl
       cases e3;obtain⟨y,hy⟩:∃ y,y=l[k]:=⟨_,rfl⟩
       rw[<-hy]at hz;have Hy:=Af (Au hz (show cz l k=(y:Rat) by rw[Cq hkl,hy]));clear hz hy
       go_wp2_with fail
       refine AQ (dR _ y _ Hy.out.1) ?_;rintro r3 w3 ⟨b,rfl,hbl⟩ hx3;have HB:=Af hbl;clear hbl r0 r1 q;replace hx:=hx.trans hx3;have q:=hx.cell q0;clear hx3;by_cases hb:12 < b
       ·skip
        go_wp2
        go_ret
        exact Ai.mk ⟨false,rfl,fun h=>by cases h⟩ hx
       ·go_wp2
        go_roundw
        case rel=>exact⟨k+1,Aa,by go_num,fun j h1=>by
         rcases Nat.lt_or_ge j k with h | h
         ·exact Hsm.out j h
         ·obtain rfl:j=k:=by omega
          rw[Hy.out.2];have h2:=HB.out.1;have h3:2^b<=2^12:=Nat.pow_le_pow_right Ab Aa;show y.natAbs<=4095;omega,hx⟩
        case measure=>simp[intOf]<;>omega
      ·obtain rfl:k=l.length:=by omega
       go_wp2
       go_roundw
       case rel=>exact⟨i+1,Aa,by go_num,fun j h1 h2=>by
        rcases Nat.lt_or_ge j i with h | h
        ·exact Hst.out j h1 h
        ·obtain rfl:j=i:=by omega
         rw[<-Hl.out.1];exact⟨Aa,Aa,fun i=>by
          rcases Nat.lt_or_ge i l.length with h | h
          ·exact Hsm.out i h
          ·rw[Ik h];decide⟩,hx⟩
       case measure=>simp[intOf]<;>omega
  ·obtain rfl:i=vs.length:=by omega
   go_wp2
   go_ret
   exact Ai.mk ⟨true,rfl,fun _ p hp=>by
    obtain⟨j,hj,rfl⟩:=List.getElem_of_mem hp;exact Hst.out j hj hj⟩ hx
open Go.Deep Go.ChangeShapes Go.ChangeAt
theorem Wp{H:Type}(d:DataW H):1<=Rows.uptoBulk d:=by
 cases d with
 | lit l=>cases l<;>simp[Rows.uptoBulk]
 | nil=>simp[Rows.uptoBulk]
 | ptr d=>simp[Rows.uptoBulk]
 | slice elems spare=>simp[Rows.uptoBulk]
 | agg parts=>simp[Rows.uptoBulk]
 | iface t d=>simp[Rows.uptoBulk]
 | map entries=>simp[Rows.uptoBulk]
 | held h=>simp[Rows.uptoBulk]
theorem Kt{H:Type}{d:DataW H}{l:List (DataW H)}(h:d∈l):Rows.uptoBulk d<=Rows.uptoBulkAll l:=by
 induction l with
 | nil=>cases h
 | cons x r ih =>
  simp only[Rows.uptoBulkAll];cases List.mem_cons.1 h with
  | inl e=>subst e;omega
  | inr e=>have:=ih e;omega
theorem Qx{H:Type}(l:List (DataW H)):l.length<=Rows.uptoBulkAll l:=by
 induction l with
 | nil=>simp[Rows.uptoBulkAll]
 | cons x r ih=>have:=Wp x;simp only[Rows.uptoBulkAll,List.length_cons];omega
section
variable{H:Type}{enc:TypeId×Value->H}{w:World}{spare:Nat->Bool}{held:Bool}
theorem SK{fuel:Nat}{cs:List Value}{x:DataW H×List MemPlace}(h:DataW.trod enc Tryz.prog w 0 spare held fuel 24 cs=some x):∃ A n c,cs=[.slice A n c]/\n<=Rows.uptoBulk x.1:=by
 rcases open_ints Tryz.underlying24 Tryz.underlying113 Fy h with⟨rfl,_⟩ | ⟨a,n,c,zs,rfl,_,hl,hm,hz,rfl,hcell,hwz⟩
 ·exact⟨none,0,0,rfl,Aa⟩
 ·have hzl:n<=zs.length:=by rw[hz];split<;>omega
  refine⟨some a,n,c,rfl,?_⟩;have h1:=Qx (H:=H) (lits .u32 (zs.take n));have h2:(lits (H:=H) .u32 (zs.take n)).length=n:=by simp[lits];omega
  simp only[Rows.uptoBulk];omega
set_option maxRecDepth 100000 in
theorem T9{fuel:Nat}{cs:List Value}{x:DataW H×List MemPlace}(h:DataW.trod enc Tryz.prog w 0 spare held fuel 26 cs=some x):∃ b A n c,cs=[b,.slice A n c]/\n<=Rows.uptoBulk x.1:=by
 obtain⟨y0,y1,n,rfl,hl,h0,h1⟩:=trod_struct2 Tryz.underlying26 h;rw[show Tryz.prog.cellsOf 26=2 from by kernel_rfl]at hl
 match cs,hl with
 | [c0,c1],_ =>
  rw[show Tryz.prog.cellsOf 24=1 from by kernel_rfl]at h1;obtain⟨A,m,c,e1,hd⟩:=SK h1;simp at e1;subst e1;refine⟨c0,A,m,c,rfl,?_⟩;have:=Kt (d:=y1.1) (l:=[y0.1,y1.1]) Ac;simp only[Rows.uptoBulk];omega
set_option maxRecDepth 100000 in
theorem UY{T fuel:Nat}{v:Value}{x:DataW H×List MemPlace}(hT:Tryz.prog.underlying T=some (.slice 26))(h:DataW.trod enc Tryz.prog w 0 spare held fuel T v.cells.toList=some x)(hv:∃ a n c,v = .slice a n c){l:List Jy}(hp:DY w v l)(hb:Rows.uptoBulk x.1<=1048576):Rz l:=by
 obtain⟨a0,n0,c0,rfl⟩:=hv;obtain⟨A,cc,e1,g2,g3,g4⟩:=hp;rcases open_slice hT h with⟨hcs,_⟩ | ⟨a,n,c,m,k,D,Pl,hcs,_,hl,hm,hmm,rfl,hel⟩
 ·simp[Value.cells]at hcs
  obtain⟨rfl,rfl,rfl⟩:=hcs;have hl0:l=[]:=by injection e1 with _ h2 _;exact List.eq_nil_of_length_eq_zero h2.symm
  subst hl0;exact⟨Ac,fun x hx=>by simp at hx⟩
 ·simp[Value.cells]at hcs
  obtain⟨rfl,rfl,rfl⟩:=hcs;have hnl:n0=l.length:=by injection e1
  have hAa:A=some a:=by injection e1 with h1;exact h1.symm
  have hnm:n0<=m:=by rw[hmm];split<;>omega
  rw[show Tryz.prog.cellsOf 26=2 from by kernel_rfl]at hel;simp only[Rows.uptoBulk]at hb;have hlen:=Qx (H:=H) ((List.range n0).map D);simp only[List.length_map,List.length_range]at hlen;refine⟨Aa,fun r hr=>?_⟩;obtain⟨j,hj,rfl⟩:=List.getElem_of_mem hr;obtain⟨g,o,hA2,_,hc⟩:=g4 Aa;obtain⟨cs,q1,q2,q3⟩:=hc j hj;obtain⟨cs',h1,h2⟩:=hel j Aa;obtain⟨_,h5,h6⟩:=World.cells?_some h1;rw[hAa]at hA2;injection hA2 with hA2
  subst hA2;have hD:=Kt (d:=D j) (l:=(List.range n0).map D) (List.mem_map.2 ⟨j,List.mem_range.2 Aa,rfl⟩);obtain⟨b,A1,m1,c1,rfl,k1⟩:=T9 h2;obtain⟨s,eq,B1,d1,e2,dv⟩:=q3;subst e2;obtain rfl:=Ri eq;have t1:=q2 1 Aa;have u1:=h6 1 Aa;rw[K4,K4]at u1;rw[t1]at u1;simp at u1;have k1':m1<=Rows.uptoBulk (D j):=k1;omega
end
variable{H:Type}{enc:TypeId×Value->H}{w:World}{spare:Nat->Bool}{held:Bool}
end Go.Proofs.YtmhgnigpmompmaaGreat
namespace Go.Proofs.YtmhgnigpmompmaaGreat
open Go.RowKit Go.Hp
end Go.Proofs.YtmhgnigpmompmaaGreat
