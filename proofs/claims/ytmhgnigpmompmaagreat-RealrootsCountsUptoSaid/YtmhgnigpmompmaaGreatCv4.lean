/- Lemmas. -/
import Derived.Test.YtmhgnigpmompmaaGreatCv1
import Derived.Test.YtmhgnigpmompmaaGreatCv2
import Derived.Test.YtmhgnigpmompmaaGreatCv3
import Derived.RangeFuncNested
import Derived.RangeFuncBound
import Derived.RangeFuncCalls
import Derived.RangeFuncLeaves
import Derived.Shelf.Abstract
import Derived.Shelf.RegionOpen
import Derived.WalkKit
import Derived.OwnWalkIn
import Derived.TacticsInMore
import Derived.LoopNIn
import Derived.LoopIn
import Derived.ProofKit
import Derived.ChangeSlices
import Derived.Deep.Slices
import Derived.Deep.Cut
import Derived.Deep.DeepCutAuto
import Derived.Shelf.Strings.BuilderK
import Derived.Shelf.Strconv.Itoa3
import Derived.Test.YtmhgnigpmompmaaGreatChecked
import Derived.Laws.IdiomStrings
set_option linter.unusedVariables false
set_option linter.unusedSimpArgs false
set_option maxHeartbeats 16000000
namespace Go.Hp
/-! ### the resultant with the derivative -/
theorem EL{F:Nat→Rat}(h:ZI F):ZI (pd F):=fun i=>by
 obtain⟨n,e⟩:=h (i+1);exact⟨((i+1:Nat):Int)*n,by unfold pd;rw[e,Rat.intCast_mul];rfl⟩
theorem Q0{F:Nat→Rat}{n:Nat}(h:BB (n+1) F):BB n (pd F):=fun i hi=>by unfold pd;rw[h (i+1) Aa];exact Rat.mul_zero _
theorem Ng{F:Nat→Rat}(fF:Af F):pl (pd F)=pl F - 1:=by
 by_cases h:pl F=0
 ·rw[(BG fF).1 h]
  have:pd pz=pz:=by funext i;exact Rat.mul_zero _
  rw[this,Ca]
 ·obtain⟨m,hm⟩:∃ m,pl F=m+1:=⟨pl F - 1,Aa⟩
  have hs:BB (m+1) F:=hm▸AU fF;have ht:=Ex fF Aa;rw[hm]at ht ⊢;refine KE (Q0 hs) fun h0=>?_;obtain⟨k,rfl⟩:∃ k,m=k+1:=⟨m - 1,Aa⟩
  show((k+1:Nat):Rat)*F (k+1)≠0;intro e;rcases Rat.mul_eq_zero.1 e with e | e
  ·have:((k+1:Nat):Rat)=((0:Nat):Rat):=e
   have:=Rat.natCast_inj.1 this;omega
  ·exact ht e
structure BP(F:Nat→Rat):Prop where
 z:ZI F
 f:Af F
 n:F≠pz
 l:0 < ld F
 c:cn F=1
theorem BP.pp{F:Nat→Rat}(hz:ZI F)(h:Af F)(h0:F≠pz):BP (Hp.pp F):=⟨Iu hz h,DI h,Yb hz h h0,Ma hz h h0,Ri hz h h0⟩
theorem BP.pcn{F:Nat→Rat}(h:BP F):Hp.pcn F=1:=by
 have:=h.l;unfold Hp.pcn;rw[if_neg Au,h.c];rfl
theorem BP.self{F:Nat→Rat}(h:BP F):Hp.pp F=F:=by
 have e:=O6 h.z h.f h.n;rw[h.pcn]at e;rw[show(((1:Int)):Rat)=1 from rfl,Cn]at e;exact e.symm
theorem BP.pos{F:Nat→Rat}(h:BP F):0 < pl F:=Be h.f h.n
theorem Eo{F:Nat→Rat}(h:Af F):∃ S,∀ i,qsz (F i)≤S:=by
 obtain⟨n,h⟩:=h;induction n generalizing F with
 | zero=>exact⟨1,fun i=>by rw[h i (Nat.zero_le _)];decide⟩
 | succ n ih =>
  obtain⟨S,hS⟩:=ih h.tl;refine⟨max S (qsz (F 0)),fun i=>?_⟩
  match i with
  | 0=>exact Nat.le_max_right _ _
  | i+1=>exact Nat.le_trans (hS i) (Nat.le_max_left _ _)
theorem Xy{F G:Nat→Rat}(fF:Af F)(fG:Af G)(zF:ZI F)(zG:ZI G):Ik F G (GR F G):=by
 obtain⟨S,hS⟩:=Eo fF;obtain⟨T,hT⟩:=Eo fG;exact(YD fF fG zF zG (S:=max S T) (fun i=>Nat.le_trans (hS i) (Nat.le_max_left _ _)) (fun i=>Nat.le_trans (hT i) (Nat.le_max_right _ _))).1
theorem aO{F G:Nat→Rat}(h:Af F)(k:Af G)(hF:F≠pz)(hG:G≠pz):ld (cv F G)=ld F*ld G:=by
 have h1:=GK h k hF hG;have h2:=Be h hF;have h3:=Be k hG;unfold ld;rw[h1];have:=RI (n:=pl F - 1) (m:=pl G - 1) (by rw[show pl F - 1+1=pl F by omega];exact AU h) (by rw[show pl G - 1+1=pl G by omega];exact AU k);rw[show pl F+pl G - 1 - 1=pl F - 1+(pl G - 1) by omega];exact this
theorem BP.mul{F G:Nat→Rat}(h:BP F)(k:BP G):BP (cv F G):=
 ⟨h.z.cv k.z,h.f.cv k.f,fun e=>by rcases JY h.f k.f e with e | e;exact h.n e;exact k.n e,by rw[aO h.f k.f h.n k.n];exact Rat.mul_pos h.l k.l,by rw[Oc h.z k.z h.f k.f,h.c,k.c]⟩
theorem Kc:BP pone:=by
 have e:pl pone=1:=KE Ey fun _=>by show(1:Rat)≠0;decide
 refine⟨fun i=>?_,Dx,Pw,?_,?_⟩
 ·match i with
  | 0=>exact⟨1,rfl⟩
  | i+1=>exact⟨0,rfl⟩
 ·unfold ld;rw[e];show(0:Rat) < 1;decide
 ·unfold cn;rw[e];rfl
theorem BP.one{F:Nat→Rat}(h:BP F)(h1:pl F≤1):F=pone:=by
 have hp:=h.pos;have e1:pl F=1:=by omega
 have hc:=h.c;have hl:=h.l;unfold ld at hl;unfold cn at hc;rw[e1]at hl hc;have hc':Int.gcd ((0:Nat):Int) (F 0).num=1:=hc;obtain⟨z,hz⟩:=h.z 0;rw[hz]at hc' hl;have hn:((z:Int):Rat).num=z:=rfl;rw[hn]at hc';have hz0:0 < z:=by exact_mod_cast hl
 have h2:z.natAbs=1:=by simpa[Int.gcd] using hc'
 have h3:z=1:=by omega
 funext i
 match i with
 | 0=>rw[hz,h3];rfl
 | i+1=>exact(AU h.f) (i+1) Aa
theorem BP.gcd{F G:Nat→Rat}(h:BP F)(zG:ZI G)(fG:Af G):BP (GR F G)∧GZ F (GR F G)∧GZ G (GR F G)∧Dv (GR F G) F∧Dv (GR F G) G∧∃ U V,Af U∧Af V∧pad (cv U F) (cv V G)=GR F G:=by
 have k:=Xy h.f fG h.z zG;obtain⟨D,hD⟩:∃ D,D=GR F G:=⟨_,rfl⟩
 rw[←hD]at k ⊢;obtain⟨f1,z1,l1,c1,g1⟩:=k;have k':Ik F G D:=⟨f1,z1,l1,c1,g1⟩
 have hn:D≠pz:=fun e=>by
  have:=g1.2.2.1;rw[e,Ns]at this;exact h.n (Mk this)
 refine⟨⟨z1,f1,hn,l1 hn,by rw[c1,h.c,Nat.gcd_one_left]⟩,k'.zdv h.z h.f hn,k'.symm_.zdv zG fG hn,(LJ D).trans g1.2.2.1,(LJ D).trans g1.2.2.2.1,?_⟩;obtain⟨U,V,fU,fV,e⟩:=g1.bez h.f fG;refine⟨psc (ld D) U,psc (ld D) V,fU.psc _,fV.psc _,?_⟩;have e2:psc (ld D) (pad (cv U F) (cv V G))=psc (ld D) (mn D):=by rw[e]
 have e3:psc (ld D) (mn D)=D:=by
  unfold mn;rw[Cu];have:=D8 f1 hn;rw[show ld D*(1 / ld D)=1 by grind,Cn]
 rw[e3]at e2;rw[D6,D6,←e2]
 funext n;simp only[pad,psc];grind
theorem Qn{F D:Nat→Rat}(fD:Af D)(nD:D≠pz)(h:GZ F D):ZI (pq F D)∧Af (pq F D)∧F=cv (pq F D) D:=by
 obtain⟨Q,zQ,fQ,e⟩:=h;have:=(Nc fQ fD nD).1;rw[←e]at this;rw[this];exact⟨zQ,fQ,e⟩
theorem BP.quot{F D:Nat→Rat}(h:BP F)(k:BP D)(hd:GZ F D):BP (pq F D)∧F=cv (pq F D) D:=by
 obtain⟨zQ,fQ,e⟩:=Qn k.f k.n hd;have nQ:pq F D≠pz:=fun e2=>h.n (by rw[e,e2,CG]);have h1:ld F=ld (pq F D)*ld D:=by rw[←aO fQ k.f nQ k.n,←e]
 have h2:cn F=cn (pq F D)*cn D:=by rw[←Oc zQ k.z fQ k.f,←e]
 refine⟨⟨zQ,fQ,nQ,?_,?_⟩,e⟩
 ·have a:=h.l;have b:=k.l
  rw[h1]at a;rcases Std.lt_trichotomy 0 (ld (pq F D))with c | c | c
  ·exact c
  ·rw[←c]at a;rw[Rat.zero_mul]at a;exact absurd a Ab
  ·exfalso
   have:=Rat.mul_neg_iff_of_pos_right b |>.2 c
   grind
 ·rw[h.c,k.c]at h2;omega
def Ec(F G:Nat→Rat):Prop:=∃ U V,Af U∧Af V∧pad (cv U F) (cv V G)=pone
theorem Ec.symm{F G:Nat→Rat}(h:Ec F G):Ec G F:=by
 obtain⟨U,V,a,b,e⟩:=h;exact⟨V,U,b,a,by rw[←e];funext n;simp only[pad];grind⟩
theorem Ec.dv{F G D:Nat→Rat}(h:Ec F G)(k:Dv D F):Ec D G:=by
 obtain⟨U,V,a,b,e⟩:=h;obtain⟨Q,fQ,rfl⟩:=k;exact⟨cv U Q,V,a.cv fQ,b,by rw[AJ];exact e⟩
theorem Ec.euclid{F G H:Nat→Rat}(h:Ec F G)(fH:Af H)(k:Dv F (cv G H)):Dv F H:=by
 obtain⟨U,V,a,b,e⟩:=h;have h1:Dv F (cv (pad (cv U F) (cv V G)) H):=by
  rw[Dk];refine Dv.pad ?_ ?_
  ·rw[AJ,Bw F H,←AJ]
   exact(Dv.refl F).mul (a.cv fH)
  ·rw[AJ];exact k.mul b
 rw[e,Db]at h1;exact h1
theorem Ec.self{F:Nat→Rat}(fF:Af F)(h:Ec F F):pl F=1:=by
 obtain⟨U,V,a,b,e⟩:=h;have h1:Dv F pone:=by rw[←e];exact((Dv.refl F).mul a).pad ((Dv.refl F).mul b)
 have hn:F≠pz:=fun e2=>Pw (Mk (by rw[e2]at h1;exact h1));have h2:=Dv.le fF Dx Pw h1;have h3:pl pone≤1:=Bq Ey;have:=Be fF hn;omega
theorem Ec.of_gcd{F G:Nat→Rat}(h:BP F)(zG:ZI G)(fG:Af G)(h1:pl (GR F G)≤1):Ec F G:=by
 obtain⟨k,-,-,-,-,U,V,a,b,e⟩:=h.gcd zG fG;rw[k.one h1]at e;exact⟨U,V,a,b,e⟩
theorem Ec.gcd{F G:Nat→Rat}(c:Ec F G)(h:BP F)(zG:ZI G)(fG:Af G):GR F G=pone:=by
 obtain⟨k,-,-,d1,d2,-⟩:=h.gcd zG fG;have h1:=Ec.self k.f ((c.dv d1).symm.dv d2);exact k.one Aa
theorem Cb{F:Nat→Rat}(h:Af F):Af (pd F):=by
 obtain⟨n,h⟩:=h;exact⟨n,Q0 (h.mono (Nat.le_succ n))⟩
theorem gH{F:Nat→Rat}(fF:Af F)(hn:F≠pz)(h:Dv F (pd F)):pl F=1:=by
 have h1:=Ng fF;have h2:=Be fF hn;rcases Nat.lt_or_ge 1 (pl F)with h3 | h3
 ·have h4:pd F≠pz:=fun e=>by rw[e,Ca]at h1;omega
  have:=Dv.le fF (Cb fF) h4 h;omega
 ·omega
def pw(F:Nat→Rat):Nat→Nat→Rat
 | 0=>pone
 | n+1=>cv (pw F n) F
theorem SH{F:Nat→Rat}(h:Af F):∀ n,Af (pw F n)
 | 0=>Dx
 | n+1=>(SH h n).cv h
theorem RJ{F:Nat→Rat}(h:BP F):∀ n,BP (pw F n)
 | 0=>Kc
 | n+1=>(RJ h n).mul h
theorem aA{F:Nat→Rat}(h:BP F):∀ n,pl (pw F n)=n*(pl F - 1)+1
 | 0=>by show pl pone=_;rw[show pl pone=1 from KE Ey fun _=>by show(1:Rat)≠0;decide];omega
 | n+1=>by
  have h1:=GK (RJ h n).f h.f (RJ h n).n h.n;have h2:=h.pos;show pl (cv (pw F n) F)=_;rw[h1,aA h n,Nat.succ_mul];omega
/-! ### the rounds -/
noncomputable def yw(W C:Nat→Rat):Nat→(Nat→Rat)×(Nat→Rat)
 | 0=>(W,C)
 | k+1=>(GR (yw W C k).1 (yw W C k).2,pq (yw W C k).2 (GR (yw W C k).1 (yw W C k).2))
noncomputable def ya(W C:Nat→Rat)(k:Nat):Nat→Rat:=pq (yw W C k).1 (yw W C (k+1)).1
section
variable{W C:Nat→Rat}
theorem PN(hW:BP W)(hC:BP C):∀ k,BP (yw W C k).1∧BP (yw W C k).2
 | 0=>⟨hW,hC⟩
 | k+1=>by
  obtain⟨h1,h2⟩:=PN hW hC k;obtain⟨k1,k2,k3,-⟩:=h1.gcd h2.z h2.f;exact⟨k1,(h2.quot k1 k3).1⟩
theorem iK(hW:BP W)(hC:BP C)(k:Nat):BP (ya W C k)∧(yw W C k).1=cv (ya W C k) (yw W C (k+1)).1∧(yw W C k).2=cv (yw W C (k+1)).2 (yw W C (k+1)).1∧GZ (yw W C k).1 (yw W C (k+1)).1∧GZ (yw W C k).2 (yw W C (k+1)).1:=by
 obtain⟨h1,h2⟩:=PN hW hC k;obtain⟨k1,k2,k3,-⟩:=h1.gcd h2.z h2.f;have q1:=h1.quot k1 k2;have q2:=h2.quot k1 k3;exact⟨q1.1,q1.2,q2.2,k2,k3⟩
theorem Jo{A B D:Nat→Rat}(h:GZ A B)(k:GZ B D):GZ A D:=by
 obtain⟨Q,a,b,rfl⟩:=h;obtain⟨R,c,d,rfl⟩:=k;exact⟨cv Q R,a.cv c,b.cv d,(AJ _ _ _).symm⟩
theorem KY{A B:Nat→Rat}(h:GZ A B):Dv B A:=by
 obtain⟨Q,a,b,rfl⟩:=h;exact⟨Q,b,rfl⟩
theorem Xn(hW:BP W)(hC:BP C):∀ k,GZ W (yw W C k).1∧GZ C (yw W C k).2
 | 0=>⟨⟨pone,Kc.z,Dx,(Db _).symm⟩,⟨pone,Kc.z,Dx,(Db _).symm⟩⟩
 | k+1=>by
  obtain⟨h1,h2⟩:=Xn hW hC k;obtain⟨p,e1,e2,d1,d2⟩:=iK hW hC k;have q:=(PN hW hC (k+1)).1;exact⟨Jo h1 d1,Jo h2 ⟨(yw W C (k+1)).1,q.z,q.f,by rw[Bw];exact e2⟩⟩
end
noncomputable def rd(F:Nat→Rat):Nat→Rat:=psc (1 / ((cn F:Nat):Rat)) F
theorem XW:rd pz=pz:=FU _
theorem Ra(F:Nat→Rat):rd F=psc (if ld F < 0 then -1 else 1) (pp F):=by
 unfold rd pp pcn
 split
 ·rw[Cu]
  congr 1;have:(((-(cn F:Int):Int)):Rat) = -((cn F:Nat):Rat):=by simp;rfl
  rw[this];grind
 ·rw[Cn];rfl
theorem JJ(p:Prop)[Decidable p]:(if p then(-1:Rat)else 1)=1∨(if p then(-1:Rat)else 1) = -1:=by split;exact .inr rfl;exact .inl rfl
theorem JH{e:Rat}(h:e=1∨e = -1):e≠0:=by rcases h with rfl | rfl<;>decide
theorem Y6{e:Rat}{F:Nat→Rat}(h:e=1∨e = -1)(z:ZI F):ZI (psc e F):=by
 rcases h with rfl | rfl
 ·rw[Cn];exact z
 ·exact z.psc (-1)
theorem Yr{e:Rat}{F:Nat→Rat}(h:e=1∨e = -1)(i:Nat):qsz (psc e F i)=qsz (F i):=by
 rcases h with rfl | rfl
 ·rw[Cn]
 ·have:psc (-1) F i = - F i:=by show -1*F i=_;grind
  rw[this,G6]
noncomputable def nx(A B:Nat→Rat):Nat→Rat:=
 open Classical in if pr A B=pz then pz else psc (if 0 < ld (pr A B)then -1 else 1) (pp (CO (pl (pr A B)) (pr A B)))
theorem Jb{A B:Nat→Rat}(h:pr A B=pz):nx A B=pz:=by unfold nx;rw[if_pos h]
theorem TI{A B:Nat→Rat}(h:pr A B≠pz):nx A B=psc (if 0 < ld (pr A B)then -1 else 1) (pp (CO (pl (pr A B)) (pr A B))):=by unfold nx;rw[if_neg h]
section
variable{A B:Nat→Rat}
theorem Uq{R:Nat→Rat}{n:Nat}(hs:BB n R)(h0:R≠pz):(0 < KL n R↔0 < ld R)∧KL n R≠0:=by
 have fR:Af R:=⟨n,hs⟩
 obtain⟨-,e⟩:=Tm hs h0;have hp:=Ma (Eh hs) (Dr (n:=n) fR) (Nf (n:=n) fR h0);have hc:KL n R≠0:=fun e0=>h0 (by rw[←e,e0,Qi]);have hl:ld R=KL n R*ld (pp (CO n R)):=by
  conv=>lhs;rw[←e]
  exact K7 hc (DI (Dr (n:=n) fR))
 refine⟨?_,hc⟩;rw[hl];constructor
 ·intro h;exact Rat.mul_pos h hp
 ·intro h
  rcases Std.lt_trichotomy 0 (KL n R)with a | a | a
  ·exact a
  ·exact absurd a.symm hc
  ·exfalso
   have:=(Rat.mul_neg_iff_of_pos_right hp).2 a;grind
theorem K3(fA:Af A)(fB:Af B)(h0:B≠pz):ZI (nx A B)∧Af (nx A B)∧pl (nx A B)=pl (pr A B)∧pl (nx A B) < pl B∧(pr A B≠pz→∃ c:Rat,0 < c∧pr A B=psc (-c) (nx A B)):=by
 have hp:=Be fB h0;have hs:=Ea fA fB h0;have fR:=EQ fA fB;have hlt:=Bq hs;by_cases hR:pr A B=pz
 ·rw[Jb hR,hR]
  exact⟨ZI.pz,Af.pz,rfl,by rw[Ca];omega,fun h=>absurd rfl h⟩
 ·obtain⟨R,hRe⟩:∃ R,R=pr A B:=⟨_,rfl⟩
  rw[TI hR];rw[←hRe]at hR fR hlt ⊢;have hsR:=AU fR;have zc:=Eh hsR;have fc:=Dr (n:=pl R) fR;have nc:=Nf (n:=pl R) fR hR;have hpm:=JJ (0 < ld R);have hpl:pl (psc (if 0 < ld R then(-1:Rat)else 1) (pp (CO (pl R) R)))=pl R:=by
   rw[DX (JH hpm) (DI fc),EE zc fc,Lt fR]
  refine⟨Y6 hpm (Iu zc fc),(DI fc).psc _,hpl,by rw[hpl];omega,fun _=>?_⟩;obtain⟨-,e⟩:=Tm hsR hR;obtain⟨k1,k2⟩:=Uq hsR hR;by_cases hl:0 < ld R
  ·refine⟨KL (pl R) R,k1.2 hl,?_⟩
   rw[if_pos hl,Cu]
   conv=>lhs;rw[←e]
   congr 1;grind
  ·refine⟨-KL (pl R) R,?_,?_⟩
   ·have:¬ 0 < KL (pl R) R:=fun q=>hl (k1.1 q)
    grind
   ·rw[if_neg hl,Cu]
    conv=>lhs;rw[←e]
    congr 1;grind
end
theorem TU{P Q:Nat→Rat}{q:Rat}(zP:ZI P)(zQ:ZI Q)(fQ:Af Q)(nQ:Q≠pz)(hq:q≠0)(e:P=psc q Q):pp P=pp Q:=by
 have fP:Af P:=by rw[e];exact fQ.psc q
 have nP:P≠pz:=fun h=>nQ ((BG fQ).1 (by rw[←DX hq fQ,←e,h,Ca]));have h1:=BP.pp zP fP nP;have h2:=BP.pp zQ fQ nQ;have hcP:(pcn P:Rat)≠0:=fun h=>EI zP fP nP (by exact_mod_cast h);have hcQ:(pcn Q:Rat)≠0:=fun h=>EI zQ fQ nQ (by exact_mod_cast h);obtain⟨r,hr⟩:∃ r:Rat,r=1 / (pcn P:Rat)*q*(pcn Q:Rat):=⟨_,rfl⟩
 have hr0:r≠0:=by rw[hr];grind
 have e2:pp P=psc r (pp Q):=by
  have e3:=O6 zQ fQ nQ
  conv=>lhs;unfold pp;rw[e,e3]
  rw[Cu,Cu,hr];congr 1;rw[←e3,←e]
 have hrp:0 < r:=by
  have a:=h1.l;rw[e2,K7 hr0 h2.f]at a;have b:=h2.l;rcases Std.lt_trichotomy 0 r with c | c | c
  ·exact c
  ·exact absurd c.symm hr0
  ·exfalso
   have:=(Rat.mul_neg_iff_of_pos_right b).2 c;grind
 have e4:psc ((r.den:Int):Rat) (pp P)=psc ((r.num:Int):Rat) (pp Q):=by
  rw[e2,Cu];congr 1;have:=K6 r;have hd:((r.den:Nat):Rat)≠0:=Ju r.den_pos;have h5:(((r.den:Int)):Rat)=((r.den:Nat):Rat):=rfl;rw[h5]
  conv=>lhs;rw[this]
  grind
 have hn:r.num≠0:=fun h=>hr0 (Rat.num_eq_zero.1 h);have hdn:(r.den:Int)≠0:=by have:=r.den_pos;omega
 have c1:=Ii hdn h1.z h1.f;have c2:=Ii hn h2.z h2.f;rw[e4,c2,h1.c,h2.c]at c1;have hnp:0≤r.num:=Rat.num_nonneg.2 Au;have hr1:r=1:=by
  have h3:r.num=(r.den:Int):=by omega
  rw[K6 r,h3];have hd:((r.den:Nat):Rat)≠0:=Ju r.den_pos;show((r.den:Nat):Rat) / ((r.den:Nat):Rat)=1;grind
 rw[e2,hr1,Cn]
theorem bT{A B:Nat→Rat}(fA:Af A)(fB:Af B)(h0:B≠pz)(e:Rat){d:Rat}(hd:d≠0):pr (psc e A) (psc d B)=psc e (pr A B):=by
 have h1:psc d B≠pz:=fun h=>h0 ((BG fB).1 (by rw[←DX hd fB,h,Ca]));have h2:=(GU (fA.psc e) (fB.psc d) h1 (Q:=psc (e / d) (pq A B)) (R:=psc e (pr A B)) ((DJ A B).psc _) (by
  rw[D6,OP,Cu,show e / d*d=e by grind]
  funext i
  have:=congrFun (Ko A B) i;simp only[psc,pad]at this ⊢;rw[this];grind) (by rw[DX hd fB];exact(Ea fA fB h0).psc e)).2
 exact h2.symm
def Fg(F0 G0:Nat→Rat)(D S:Nat)(A B:Nat→Rat):Prop:=∃ A' B' e d,Gs F0 G0 D S A' B'∧A=psc e A'∧B=psc d B'∧(e=1∨e = -1)∧(d=1∨d = -1)
section
variable{F0 G0 A B:Nat→Rat}{D S:Nat}
theorem Fg.start(fF:Af F0)(fG:Af G0)(zF:ZI F0)(zG:ZI G0)(qF:∀ i,qsz (F0 i)≤S)(qG:∀ i,qsz (G0 i)≤S):Fg F0 G0 (pl F0+pl G0) S (rd F0) (rd G0):=
 ⟨_,_,_,_,Gs.start fF fG zF zG qF qG,Ra F0,Ra G0,JJ _,JJ _⟩
theorem Fg.facts(h:Fg F0 G0 D S A B):Af A∧Af B∧ZI A∧ZI B∧pl A+pl B≤D∧(∀ i,qsz (A i)≤(S+1)*2^D)∧(∀ i,qsz (B i)≤(S+1)*2^D):=by
 obtain⟨A',B',e,d,h,rfl,rfl,he,hd⟩:=h;have hr:=h.room rfl;refine⟨h.fA.psc _,h.fB.psc _,Y6 he h.zA,Y6 hd h.zB,?_,fun i=>by rw[Yr he];exact hr.1 i,fun i=>by rw[Yr hd];exact hr.2.1 i⟩;rw[DX (JH he) h.fA,DX (JH hd) h.fB];exact h.deg
theorem Fg.step(h:Fg F0 G0 D S A B)(h0:B≠pz):Fg F0 G0 D S B (nx A B):=by
 obtain⟨A',B',e,d,h,rfl,rfl,he,hd⟩:=h;have hB':B'≠pz:=fun q=>h0 (by rw[q,FU]);have hst:=(h.step hB' (R:=De A' B' (pl A'+1 - pl B')) rfl).1;have hend:=(Kb h.fA h.fB hB').2;have hl:=SE (D8 h.fB hB') (pl A'+1 - pl B');have hpr:=bT h.fA h.fB hB' e (JH hd);by_cases hR:pr A' B'=pz
 ·have e1:nx (psc e A') (psc d B')=pz:=Jb (by rw[hpr,hR,FU])
  rw[hend,hR,FU,GH]at hst;exact⟨B',pz,d,1,hst,rfl,by rw[e1,FU],hd,.inl rfl⟩
 ·have fR:=EQ h.fA h.fB
  have hR2:pr (psc e A') (psc d B')≠pz:=fun q=>hR (by
   rw[hpr]at q;exact(BG fR).1 (by rw[←DX (JH he) fR,q,Ca]))
  refine⟨B',_,d,_,hst,rfl,?_,hd,JJ (0 < ld (pr (psc e A') (psc d B')))⟩;rw[TI hR2];congr 1;have fR2:Af (pr (psc e A') (psc d B')):=by rw[hpr];exact fR.psc e
  refine TU (q:=((dl (pl (pr (psc e A') (psc d B'))) (pr (psc e A') (psc d B')):Nat):Rat)*e*(1 / ld B'^(pl A'+1 - pl B'))) (Eh (AU fR2)) (Fa h.zA h.zB _) (TQ h.fA h.fB hB') (fun q=>hR ?_) ?_ ?_
  ·rw[q]at hend
   exact(BG fR).1 (by rw[←DX hl fR,←hend,Ca])
  ·have h1:=Uh (pl (pr (psc e A') (psc d B'))) (pr (psc e A') (psc d B'))
   have h2:=JH he;grind
  ·rw[hend,Cu]
   unfold CO
   conv=>lhs;arg 2;rw[hpr]
   rw[Cu];congr 1;grind
end
noncomputable def jA(F G:Nat→Rat):Nat→(Nat→Rat)×(Nat→Rat)
 | 0=>(rd F,rd G)
 | k+1=>((jA F G k).2,nx (jA F G k).1 (jA F G k).2)
noncomputable def Co(F G:Nat→Rat)(k:Nat):Nat→Rat:=(jA F G k).1
theorem Ku(F G:Nat→Rat)(k:Nat):Co F G (k+2)=nx (Co F G k) (Co F G (k+1)):=rfl
noncomputable def EA(F G:Nat→Rat)(K:Nat):List (Nat→Rat):=(List.range K).map (Co F G)
theorem CP(F G:Nat→Rat)(K:Nat):(EA F G K).length=K:=by simp[EA]
theorem Rx(F G:Nat→Rat)(K:Nat):EA F G (K+1)=EA F G K ++ [Co F G K]:=by simp[EA,List.range_succ]
theorem TK{F G:Nat→Rat}{K i:Nat}(h:i < (EA F G K).length):(EA F G K)[i]=Co F G i:=by simp[EA]
def NN(F G:Nat→Rat)(K:Nat):Prop:=1≤K∧Co F G K=pz∧∀ j,1≤j→j < K→Co F G j≠pz
theorem NN.uniq{F G:Nat→Rat}{K L:Nat}(h:NN F G K)(k:NN F G L):K=L:=by
 rcases Nat.lt_trichotomy K L with a | a | a
 ·exact absurd h.2.1 (k.2.2 K h.1 a)
 ·exact a
 ·exact absurd k.2.1 (h.2.2 L k.1 a)
theorem JK{F G:Nat→Rat}{S:Nat}(fF:Af F)(fG:Af G)(zF:ZI F)(zG:ZI G)(qF:∀ i,qsz (F i)≤S)(qG:∀ i,qsz (G i)≤S):∀ k,(∀ j,1≤j→j≤k→Co F G j≠pz)→Fg F G (pl F+pl G) S (Co F G k) (Co F G (k+1))
 | 0,_=>Fg.start fF fG zF zG qF qG
 | k+1,h=>(JK fF fG zF zG qF qG k fun j a b=>h j a Aa).step (h (k+1) Aa Aa)
theorem M4{F G:Nat→Rat}{S:Nat}(fF:Af F)(fG:Af G)(zF:ZI F)(zG:ZI G)(qF:∀ i,qsz (F i)≤S)(qG:∀ i,qsz (G i)≤S)(k:Nat)(h:∀ j,1≤j→j≤k→Co F G j≠pz):pl (Co F G (k+1))+k≤pl G:=by
 induction k with
 | zero =>
  show pl (rd G)+0≤_;by_cases h0:G=pz
  ·rw[h0,XW,Ca];omega
  ·rw[Ra,DX (JH (JJ _)) (DI fG),EE zG fG];omega
 | succ k ih =>
  have h1:=ih fun j a b=>h j a Aa;obtain⟨f1,f2,-⟩:=(JK fF fG zF zG qF qG k fun j a b=>h j a Aa).facts;have h2:=(K3 f1 f2 (h (k+1) Aa Aa)).2.2.2.1;rw[Ku];omega
theorem FN{F G:Nat→Rat}{S:Nat}(fF:Af F)(fG:Af G)(zF:ZI F)(zG:ZI G)(qF:∀ i,qsz (F i)≤S)(qG:∀ i,qsz (G i)≤S):∃ K,NN F G K∧K≤pl G+1:=by
 have hx:∃ k,Co F G (k+1)=pz:=Classical.byContradiction fun hn=>by
  have h1:=M4 fF fG zF zG qF qG (pl G) fun j a b=>fun e=>hn ⟨j - 1,by rw[show j - 1+1=j by omega];exact e⟩;exact hn ⟨pl G,by
   obtain⟨f1,f2,-⟩:=(JK fF fG zF zG qF qG (pl G) fun j a b=>fun e=>hn ⟨j - 1,by rw[show j - 1+1=j by omega];exact e⟩).facts;exact(BG f2).1 Aa⟩
 obtain⟨k,h1,h2⟩:=Oo hx;have hne:∀ j,1≤j→j < k+1→Co F G j≠pz:=fun j a b e=>h2 (j - 1) Aa (by rw[show j - 1+1=j by omega];exact e);refine⟨k+1,⟨Aa,h1,hne⟩,?_⟩;have:=M4 fF fG zF zG qF qG k fun j a b=>hne j a Aa;omega
open Go.RowKit
def RA:Value→Bool
 | .bool _=>true
 | _=>false
def NZ(w:World)(v:Value):Prop:=∀ g∈blk v,∀ i c,w.cell? ⟨g,i,none⟩≠some (.bool c)
theorem PL{w:World}{g:Nat}{t:TypeId}{cur:Array Value}{n c:Nat}(hb:w.heap[g]? = some (.cells cur t (0,0)))(h:∀ u∈cur.toList,RA u=false):NZ w (.slice (some ⟨g,0,none⟩) n c):=by
 intro g' hg i b e;have:g'=g:=by simpa[blk,Value.ownBlock] using hg
 subst this;rw[cell_of_row w g' i cur t (0,0) hb]at e;have:=h (.bool b) (by
  have:=Array.mem_of_getElem? e;simpa using this)
 cases this
theorem WR{w:World}{g:Nat}{t:TypeId}{cur:Array Value}{n c:Nat}(hb:w.heap[g]? = some (.cells cur t (0,0)))(h:NZ w (.slice (some ⟨g,0,none⟩) n c)):∀ u∈cur.toList,RA u=false:=by
 intro u hu;obtain⟨i,hi,rfl⟩:=List.getElem_of_mem hu;have h1:=h g (by simp[blk,Value.ownBlock]) i;rw[cell_of_row w g i cur t (0,0) hb]at h1;have hi':i < cur.size:=by simpa using hi
 rw[Array.getElem?_eq_getElem hi']at h1;rw[Array.getElem_toList];cases hc:cur[i]with
 | bool b=>exact absurd (by rw[hc]) (h1 b)
 | _=>rfl
section
variable{P:Program}
theorem Mj(w:World)(k base:Nat)(t ty e:TypeId)(i:TypeInfo)(z:Value)(bytes:Nat)(ht:P.underlying t=some (.slice e))(hi:P.info? e=some i)(hz:i.zero=some z)
  (hsize:i.size=k) (hby:i.bytes=bytes) (hzs:z.cells.size=k) (hzd:nodig z.cells=true) (hsz:0 < k)
  (v:Value) (n:Nat) (xs:List Value) (hown:LQ k base e w v n xs)
  (a:Addr) (c:Nat) (news:List Value) (hl:news.length=k) (hnews:∀ j u,news[j]? = some u→w.cell? (a.add j)=some u) (h1:∀ u∈news,u.oneCell'=true) (hnd:∀ u∈news,Ag u=false)
  (h63:n+1≤maxLen) (hbytes:(n+1)*bytes≤140737488355328) (hbase:base≤w.heap.size) (hvb:NZ w v) (hnb:∀ u∈news,RA u=false) (hzB:∀ u∈z.cells.toList,RA u=false) :
  ∃ v' w',(Builtin.append_ #[t,t] ty #[v,.slice (some a) 1 c]).run P w = .ok v' w'∧LQ k base e w' v' (n+1) (xs ++ news)∧Cs (blk v) w w'∧NZ w' v':=by
 subst hsize;subst hby;have hl':news.length=1*i.size:=by rw[Nat.one_mul];exact hl
 have hlen:(xs ++ news).length=(n+1)*i.size:=by rw[List.length_append,hown.1,hl,Nat.succ_mul]
 have hsmall:n+1≤9223372036854775807:=by simp only[maxLen]at h63;omega
 have hzl:=C9.1 hzd;have hzc:∀ m,∀ u∈(Builtin.zeroCells z.cells m).toList,Ag u=false:=by
  intro m u hu;simp only[Builtin.zeroCells,Array.toList_map,Array.toList_range,List.mem_map,List.mem_range]at hu;obtain⟨j,hj,rfl⟩:=hu;have:j % z.cells.size < z.cells.size:=Nat.mod_lt _ Aa;rw[getElem!_pos z.cells _ this];exact hzl _ Ac
 have hzb:∀ m,∀ u∈(Builtin.zeroCells z.cells m).toList,RA u=false:=by
  intro m u hu;simp only[Builtin.zeroCells,Array.toList_map,Array.toList_range,List.mem_map,List.mem_range]at hu;obtain⟨j,hj,rfl⟩:=hu;have:j % z.cells.size < z.cells.size:=Nat.mod_lt _ Aa;rw[getElem!_pos z.cells _ this];exact hzB _ Ac
 have hxb:∀ u∈xs,RA u=false:=by
  rcases hown.2 with⟨_,h0⟩ | ⟨g,cap,cur,ev,_,hb,_,_,_,htake⟩
  ·intro u hu
   have:xs=[]:=List.eq_nil_of_length_eq_zero (by rw[hown.1,h0,Nat.zero_mul]);rw[this]at hu;cases hu
  ·intro u hu
   rw[←htake]at hu;exact WR hb.1 (by rw[ev]at hvb;exact hvb) _ (List.mem_of_mem_take hu)
 have hxd:∀ u∈xs,Ag u=false:=by
  rcases hown.2 with⟨_,h0⟩ | ⟨g,cap,cur,_,_,hb,_,_,_,htake⟩
  ·intro u hu
   have:xs=[]:=List.eq_nil_of_length_eq_zero (by rw[hown.1,h0,Nat.zero_mul]);rw[this]at hu;cases hu
  ·intro u hu
   rw[←htake]at hu;exact C9.1 hb.2 _ (List.mem_of_mem_take hu)
 have grown:∀(old:Nat),old < n+1 →
   LQ i.size base e (w.drew.alloc (.cells (xs.toArray ++ news.toArray ++ Builtin.zeroCells z.cells (grownCap w (n+1) old e - (n+1))) e)) (.slice (some ⟨w.heap.size,0,none⟩) (n+1) (grownCap w (n+1) old e)) (n+1) (xs ++ news) ∧
   (∀ G,Cs G w (w.drew.alloc (.cells (xs.toArray ++ news.toArray ++ Builtin.zeroCells z.cells (grownCap w (n+1) old e - (n+1))) e))) ∧
   NZ (w.drew.alloc (.cells (xs.toArray ++ news.toArray ++ Builtin.zeroCells z.cells (grownCap w (n+1) old e - (n+1))) e)) (.slice (some ⟨w.heap.size,0,none⟩) (n+1) (grownCap w (n+1) old e)):=by
  intro old ho;have hge:=grownCap_ge w (n+1) old e;have hcm:grownCap w (n+1) old e≤maxLen:=grownCap_le_maxLen w (n+1) old e h63;refine⟨⟨hlen,.inr ⟨w.heap.size,_,_,rfl,hbase,⟨heap_alloc_new w.drew _,?_⟩,hge,hcm,?_,?_⟩⟩,fun G=>Cs.of_ext ((Ext.refl w).drew.alloc _),PL (heap_alloc_new w.drew _) ?_⟩
  ·rw[C9]
   intro u hu;simp only[Array.toList_append,List.mem_append]at hu;rcases hu with(hu | hu) | hu
   ·exact hxd u (by simpa using hu)
   ·exact hnd u (by simpa using hu)
   ·exact hzc _ u hu
  ·simp only[Array.size_append,List.size_toArray,size_zeroCells,hzs,hown.1,hl]
   rw[←Nat.succ_mul,←Nat.add_mul];congr 1;omega
  ·simp only[Array.toList_append,List.append_assoc]
   rw[←List.append_assoc,←hlen];exact List.take_left
  ·intro u hu
   simp only[Array.toList_append,List.mem_append]at hu;rcases hu with(hu | hu) | hu
   ·exact hxb u (by simpa using hu)
   ·exact hnb u (by simpa using hu)
   ·exact hzb _ u hu
 rcases hown.2 with⟨rfl,rfl⟩ | ⟨g,cap,cur,rfl,hbg,hb,hnc,hcm,hcs,htake⟩
 ·have hx:xs=[]:=List.eq_nil_of_length_eq_zero (by simpa using hown.1)
  subst hx;have hr:=run_append_nil (P:=P) w t ty e i z ht hi hz a 1 c news hl' hnews Aa Aa (by have hb:=hbytes;simp only[Nat.zero_add]at hb;omega);have hgr:=grown 0 Aa;simp only[Nat.zero_add,List.nil_append,Array.empty_append]at hgr ⊢;exact⟨_,_,hr,hgr.1,hgr.2.1 _,hgr.2.2⟩
 ·have hg:=hb.1
  by_cases hroom:n+1≤cap
  ·have hfit:n*i.size+news.length≤cur.size:=by rw[hl,hcs,←Nat.succ_mul];exact Nat.mul_le_mul_right _ hroom
   have hr:=run_append_room (P:=P) w t ty e i ht hi g n cap cur hg a 1 c news hl' hnews h1 hroom hfit;have hnew:∀ u∈cur.toList.take (n*i.size) ++ news ++ cur.toList.drop (n*i.size+news.length),Ag u=false:=by
    intro u hu;simp only[List.mem_append]at hu;rcases hu with(hu | hu) | hu
    ·exact C9.1 hb.2 _ (List.mem_of_mem_take hu)
    ·exact hnd u hu
    ·exact C9.1 hb.2 _ (List.mem_of_mem_drop hu)
   have hbx:Bj (w.setRow g (cur.toList.take (n*i.size) ++ news ++ cur.toList.drop (n*i.size+news.length)).toArray) g e _:=⟨setRow_heap w g cur _ e _ hg,C9.2 (by simpa using hnew)⟩
   refine⟨_,_,hr,⟨hlen,.inr ⟨g,cap,_,rfl,hbg,hbx,hroom,hcm,?_,?_⟩⟩,⟨fun g' o hg' ho=>?_,MP hb fun h hne _=>setRow_other w g h _ hne,fun a' ha hG=>?_⟩,PL hbx.1 ?_⟩
   ·simp only[List.size_toArray,List.length_append,List.length_take,List.length_drop,Array.length_toList]
    omega
   ·rw[htake,←hlen]
    exact List.take_left
   ·rw[setRow_other w g g' _ (fun e=>hg' (by simp[blk,Value.ownBlock,e]))];exact ho
   ·have hga:a'.heap.size≤g:=hG g (by simp[blk,Value.ownBlock])
    exact ha.grown (row:=some g) ⟨rfl,rfl,rfl,by simp[World.setRow],fun k _ hk=>setRow_other w g k _ (fun e=>hk (by rw[e]))⟩ (fun k hk=>by cases hk;exact hga)
   ·intro u hu
    have hcb:=WR hb.1 hvb;have hu':u∈cur.toList.take (n*i.size) ++ news ++ cur.toList.drop (n*i.size+news.length):=by simpa using hu
    simp only[List.mem_append]at hu';rcases hu' with(hu | hu) | hu
    ·exact hcb _ (List.mem_of_mem_take hu)
    ·exact hnb u hu
    ·exact hcb _ (List.mem_of_mem_drop hu)
  ·have holds:∀ j u,xs[j]? = some u→w.cell? ((⟨g,0,none⟩:Addr).add j)=some u:=hown.owns.cells (g:=g) rfl
   have hr:=run_append_grow (P:=P) w t ty e i z ht hi hz ⟨g,0,none⟩ n cap xs hown.1 holds a 1 c news hl' hnews Aa Aa (growslice_fits Aa hbytes);have hgr:=grown cap Aa;exact⟨_,_,hr,hgr.1,hgr.2.1 _,hgr.2.2⟩
end
section
variable{α:Type}{k:Nat}{rd:World→Value→α→Prop}{base:Nat}{e:TypeId}{w w':World}{v:Value}{l:List α}
theorem BI.append_blk{P:Program}(h:BI k rd base e w v l)(t ty:TypeId)(i:TypeInfo)(z:Value)(bytes:Nat)(ht:P.underlying t=some (.slice e))(hi:P.info? e=some i)(hz:i.zero=some z)
  (hsize:i.size=k) (hby:i.bytes=bytes) (hzs:z.cells.size=k) (hzd:nodig z.cells=true) (hsz:0 < k) {x:α}
  (a:Addr) (c:Nat) (news:Array Value) (hl:news.size=k) (hx:rd w (.agg news) x) (hnews:∀ j u,news.toList[j]? = some u→w.cell? (a.add j)=some u) (h1:∀ u∈news.toList,u.oneCell'=true) (hnd:nodig news=true)
  (h63:l.length+1≤maxLen) (hbytes:(l.length+1)*bytes≤140737488355328) (hbase:base≤w.heap.size) (hr:∀ w' u y,KD w w'→rd w u y→rd w' u y) (hvb:NZ w v) (hnb:∀ u∈news.toList,RA u=false) (hzB:∀ u∈z.cells.toList,RA u=false) :
  ∃ v' w',(Builtin.append_ #[t,t] ty #[v,.slice (some a) 1 c]).run P w = .ok v' w'∧BI k rd base e w' v' (l ++ [x])∧Cs (blk v) w w'∧NZ w' v':=by
 obtain⟨ess,g1,g2,g3,g5⟩:=h;obtain⟨v',w',hrun,hown,hupd,hblk⟩:=Mj (P:=P) w k base t ty e i z bytes ht hi hz hsize hby hzs hzd hsz v l.length _ g3 a c news.toList (by simpa using hl) hnews h1 (C9.1 hnd) h63 hbytes hbase hvb hnb hzB;refine⟨v',w',hrun,⟨ess ++ [news],by simp[g1],?_,?_,?_⟩,hupd,hblk⟩
 ·intro d hd
  rcases List.mem_append.1 hd with hd | hd
  ·exact g2 d hd
  ·simp at hd;subst hd;exact hl
 ·have e1:(ess ++ [news]).flatMap Array.toList=ess.flatMap Array.toList ++ news.toList:=by simp
  rw[e1,List.length_append];exact hown
 ·intro j hj hj'
  rcases Nat.lt_or_ge j l.length with hlt | hge
  ·rw[List.getElem_append_left hlt,List.getElem_append_left Aa]
   exact hr _ _ _ hupd.kd (g5 j hlt Aa)
  ·have:j=l.length:=by simp at hj;omega
   subst this;rw[List.getElem_append_right Aa,List.getElem_append_right Aa];simpa using hr _ _ _ hupd.kd hx
end
theorem KD.own{A B:World}{row:Option Nat}(hg:A.grownBy B row)(hr:∀ r,row=some r→∃ o:Obj,A.heap[r]? = some o∧o.isCells=false):KD A B:=fun _ _ e=>cell_kept e hg hr
theorem Bj.own{A B:World}{row:Option Nat}{g:Nat}{t:TypeId}{cs:Array Value}(h:Bj A g t cs)(hg:A.grownBy B row)(hr:∀ r,row=some r→∃ o:Obj,A.heap[r]? = some o∧o.isCells=false):Bj B g t cs:=
 ⟨(hg.block g h.lt (fun e=>by obtain⟨o,h1,h2⟩:=hr g e.symm;rw[h.1]at h1;cases h1;cases h2)).trans h.1,h.2⟩
theorem gW{A B C:World}{g:Nat}{u v x y:Value}(B0:Nat)(e:Ext A B)(h:C=(((B.setCell ⟨g,0,none⟩ u).setCell ⟨g,1,none⟩ v).setCell ⟨g,2,none⟩ x).setCell ⟨g,3,none⟩ y):KeepsFrom B0 A C:=by
 subst h;have k1:KeepsFrom B0 A B:=⟨e.size,fun k o _ h0 _=>e.blk h0⟩
 exact k1.trans (((((KeepsOthers.setCell _ _ _).trans (KeepsOthers.setCell _ _ _)).trans (KeepsOthers.setCell _ _ _)).trans (KeepsOthers.setCell _ _ _)).from _)
theorem bQ{A B C:World}{g n₀:Nat}{u v x y:Value}(e:Below n₀ A B)(h:C=(((B.setCell ⟨g,0,none⟩ u).setCell ⟨g,1,none⟩ v).setCell ⟨g,2,none⟩ x).setCell ⟨g,3,none⟩ y)(hg:n₀≤g):Below n₀ A C:=by
 subst h;exact(((e.setCell (p:=⟨g,0,none⟩) hg _).setCell (p:=⟨g,1,none⟩) hg _).setCell (p:=⟨g,2,none⟩) hg _).setCell (p:=⟨g,3,none⟩) hg _
theorem QC{A B:World}{G:List Nat}{g i:Nat}{v:Value}(U:Cs G A B)(hg:g∉G)(h:A.cell? ⟨g,i,none⟩=some v):B.cell? ⟨g,i,none⟩=some v:=by
 obtain⟨o,ho,hc⟩:=cells_of_cell h;exact(World.cell?_of_block ((U.1 g o hg ho).trans ho.symm)).trans h
theorem CK.own{A B:World}{row:Option Nat}{g:Nat}{t:TypeId}{q:Rat}(h:CK A g t q)(hg:A.grownBy B row)(hr:∀ r,row=some r→∃ o:Obj,A.heap[r]? = some o∧o.isCells=false):CK B g t q:=by
 obtain⟨b,A1,n,c,b',A1',n',c',h1,h2⟩:=h;exact CK.mk (h1.own hg hr) (h2.kd (KD.own hg hr))
theorem eG{F:Nat→Rat}(z:ZI F)(x:Int):∀ n,∃ y:Int,CV n F (x:Rat)=(y:Rat):=by
 intro n;induction n generalizing F with
 | zero=>exact⟨0,rfl⟩
 | succ n ih =>
  obtain⟨y,hy⟩:=ih (F:=tl F) fun i=>z (i+1);obtain⟨a,ha⟩:=z 0;exact⟨a+x*y,by rw[DZ,hy,ha];simp⟩
theorem Ml{F:Nat→Rat}(z:ZI F)(x:Int):∃ y:Int,ev F (x:Rat)=(y:Rat):=eG z x _
theorem Od{F:Nat→Rat}{n:Nat}(fF:Af F)(h0:F≠pz)(hn:pl F≤n):∃ X:Nat→Rat,LF X n∧∀ k,k < n→ev F (X k)≠0∧∃ m:Nat,m < 2*n∧X k=((m:Int):Rat):=by
 classical
 obtain⟨l,hl⟩:∃ l,l=(List.range (2*n)).map (fun k:Nat=>(((k:Nat):Int):Rat)):=⟨_,rfl⟩
 have hnd:l.Nodup:=by
  rw[hl,List.nodup_iff_pairwise_ne,List.pairwise_map];refine List.Pairwise.imp (R:=fun a b=>a < b) ?_ List.pairwise_lt_range;intro a b hab e;have:((a:Nat):Int)=((b:Nat):Int):=by exact_mod_cast e
  omega
 obtain⟨R,hR⟩:∃ R,R=l.filter fun x=>decide (ev F x=0):=⟨_,rfl⟩
 obtain⟨N,hN⟩:∃ N,N=l.filter fun x=>!decide (ev F x=0):=⟨_,rfl⟩
 have hlen:R.length+N.length=2*n:=by
  have h1:R.length+N.length=l.length:=by
   rw[hR,hN];clear hR hN hl hnd;induction l with
   | nil=>rfl
   | cons a l ih =>
    simp only[List.filter_cons];by_cases e:ev F a=0
    ·simp[e];omega
    ·simp[e];omega
  rw[h1,hl];simp
 have hRl:R.length < pl F:=by
  rcases Nat.lt_or_ge R.length (pl F)with a | a
  ·exact a
  ·exact absurd (Ip ((AU fF).mono a) (by rw[hR];exact hnd.sublist (List.filter_sublist)) (fun x hx=>by rw[hR,List.mem_filter]at hx;simpa using hx.2)) h0
 have hNn:N.Nodup:=by rw[hN];exact hnd.sublist (List.filter_sublist)
 have hNg:∀ k (h:k < n),∃ h':k < N.length,N.getD k 0=N[k]:=fun k h=>⟨Aa,by rw[List.getD_eq_getElem?_getD,List.getElem?_eq_getElem Aa];rfl⟩
 refine⟨fun k=>N.getD k 0,fun i k hi hk=>?_,fun k hk=>?_⟩
 ·obtain⟨a1,a2⟩:=hNg i hi
  obtain⟨b1,b2⟩:=hNg k Aa;show N.getD i 0≠N.getD k 0;rw[a2,b2];intro e;rw[List.nodup_iff_pairwise_ne,List.pairwise_iff_getElem]at hNn;exact hNn k i b1 a1 hk e.symm
 ·obtain⟨a1,a2⟩:=hNg k hk
  show ev F (N.getD k 0)≠0∧∃ m:Nat,m < 2*n∧N.getD k 0=_;rw[a2];obtain⟨y,hy⟩:∃ y,y=N[k]:=⟨_,rfl⟩
  have hm:y∈N:=by rw[hy];exact List.getElem_mem a1
  rw[←hy];clear hy a2;rw[hN,List.mem_filter,hl]at hm;obtain⟨b1,b2⟩:=hm;obtain⟨m,c1,c2⟩:=List.mem_map.1 b1;refine⟨by simpa using b2,m,List.mem_range.1 c1,c2.symm⟩
theorem TF{F D:Nat→Rat}{n s:Nat}(zF:ZI F)(fF:Af F)(h0:F≠pz)(zD:ZI D)(fD:Af D)(hd:GZ F D)(hn:pl F≤n)(hn9:n≤16)(hs:∀ i,qsz (F i)≤s)(hs9:s≤5)(i:Nat):qsz (D i)≤36000:=by
 obtain⟨X,hA,hX⟩:=Od fF h0 hn;have hX1:∀ k,k < n→qsz (X k)≤1:=fun k hk=>by
  obtain⟨-,m,h1,h2⟩:=hX k hk;have h3:bp 1=4294967296:=rfl;have h4:sz ((m:Nat):Int).natAbs≤1:=Cj (by rw[h3];omega);rw[h2,Bi];omega
 have hX2:∀ k,k < n→qsz (X k)≤2:=fun k hk=>Nat.le_trans (hX1 k hk) Aa;obtain⟨Q,zQ,fQ,e⟩:=hd;have hY:∀ k,k < n→qsz (ev D (X k))≤113:=fun k hk=>by
  have h1:=PG ((AU fF).mono hn) hs (hX1 k hk);have h2:n*(s+1+1)≤16*7:=Nat.mul_le_mul hn9 Aa;obtain⟨h3,m,-,h4⟩:=hX k hk;have h5:ev F (X k)=ev Q (X k)*ev D (X k):=by rw[e,Gm fQ fD]
  rw[h4]at h1 h3 h5 ⊢;obtain⟨a,ha⟩:=Ml zF (m:Int);obtain⟨b,hb⟩:=Ml zQ (m:Int);obtain⟨c,hc⟩:=Ml zD (m:Int);rw[ha]at h1 h3;rw[ha,hb,hc]at h5;rw[hc];have h6:a=b*c:=by exact_mod_cast h5
  have h7:a≠0:=fun e=>h3 (by rw[e];rfl);rw[Bi]at h1 ⊢;have h8:c.natAbs≤a.natAbs:=Nat.le_of_dvd Aa (Int.natAbs_dvd_natAbs.2 ⟨b,by rw[h6,Int.mul_comm]⟩);have:=Bp h8;omega
 have hDn:D≠pz:=fun e2=>h0 (by rw[e,e2,Kk]);have hDl:pl D≤pl F:=Dv.le fD fF h0 ⟨Q,fQ,e⟩;obtain⟨Y,hYe⟩:∃ Y,Y=fun k=>ev D (X k):=⟨_,rfl⟩
 have hD:D=Z4 X Y n n:=Kl hA ((AU fD).mono Aa) (Ps X Y n n (Nat.le_refl _)) fun k hk=>by
  rw[Yl hA hk n (Nat.le_refl _),if_pos hk,hYe]
 have hc:∀ j,j < n→CD 2235 (dY X Y n j):=fun j hj=>by
  have h1:=fJ j n hX2 Aa;have h2:=PG (Px X j n).1 (fun j=>h1.elem j) (hX1 j hj);have h3:(n+1)*(3+7*n+1+1)≤17*117:=Nat.mul_le_mul Aa Aa;have h4:=Fu (Y j) (ev (lgp X j n) (X j));have h5:=hY j hj;have h6:qsz (Y j)≤113:=by rw[hYe];exact h5
  exact(h1.psc _).mono Aa
 have hl:∀ m,m≤n→CD (1+m*2236) (Z4 X Y n m):=by
  intro m;induction m with
  | zero=>intro _;exact CD.pz
  | succ m ih=>intro h;exact((ih Aa).pad (hc m h)).mono Aa
 rw[hD];have h9:n*2236≤16*2236:=Nat.mul_le_mul_right _ hn9;exact Nat.le_trans ((hl n (Nat.le_refl _)).elem i) Aa
theorem Ec.mul{F G H:Nat→Rat}(fF:Af F)(fG:Af G)(fH:Af H)(h:Ec F G)(k:Ec F H):Ec F (cv G H):=by
 obtain⟨U,V,a,b,e⟩:=h;obtain⟨X,Y,c,d,e'⟩:=k;refine⟨pad (cv (pad (cv U F) (cv V G)) X) (cv U (cv Y H)),cv V Y,(((a.cv fF).pad (b.cv fG)).cv c).pad (a.cv (d.cv fH)),b.cv d,?_⟩;have h1:cv (pad (cv U F) (cv V G)) (pad (cv X F) (cv Y H))=pone:=by rw[e,e',Db]
 rw[←h1,FW,Dk (cv U F) (cv V G) (cv Y H),Dk _ _ F];have e1:cv (cv (pad (cv U F) (cv V G)) X) F=cv (pad (cv U F) (cv V G)) (cv X F):=AJ _ _ _;have e2:cv (cv U (cv Y H)) F=cv (cv U F) (cv Y H):=by rw[AJ,Bw (cv Y H) F,←AJ]
 have e3:cv (cv V Y) (cv G H)=cv (cv V G) (cv Y H):=by rw[AJ,AJ,←AJ Y G H,Bw Y G,AJ]
 rw[e1,e2,e3]
 funext n;simp only[pad];grind
theorem Ec.one(F:Nat→Rat):Ec F pone:=⟨pz,pone,Af.pz,Dx,by rw[CG,Db];funext n;simp only[pad,pz];grind⟩
theorem Ec.pw{F G:Nat→Rat}(fF:Af F)(fG:Af G)(h:Ec F G):∀ n,Ec F (pw G n)
 | 0=>Ec.one F
 | n+1=>Ec.mul fF (SH fG n) fG (Ec.pw fF fG h n) h
theorem V8{W:Nat→Rat}(hW:BP W):∀(n:Nat) {C:Nat→Rat},BP C→pl C≤n→∃ P R N,BP P∧BP R∧C=cv P R∧Ec P W∧Dv R (pw W N):=by
 intro n;induction n with
 | zero=>intro C hC hn;have:=hC.pos;omega
 | succ n ih =>
  intro C hC hn;obtain⟨k,z1,-,-,d2,-⟩:=hC.gcd hW.z hW.f;by_cases h1:pl (GR C W)≤1
  ·exact⟨C,pone,0,hC,Kc,(KQ C).symm,Ec.of_gcd hC hW.z hW.f h1,Dv.refl _⟩
  ·obtain⟨q1,q2⟩:=hC.quot k z1
   have h2:=GK q1.f k.f q1.n k.n;rw[←q2]at h2;obtain⟨P,R,N,a,b,c,d,e⟩:=ih q1 Aa;refine⟨P,cv R (GR C W),N+1,a,b.mul k,by rw[←AJ,←c];exact q2,d,?_⟩;obtain⟨X,fX,eX⟩:=e;obtain⟨Y,fY,eY⟩:=d2;refine⟨cv X Y,fX.cv fY,?_⟩;show cv (pw W N) W=_;rw[eX]
   conv=>lhs;rw[eY]
   rw[AJ,AJ X Y,←AJ R Y,Bw R Y,AJ Y R]
theorem VX{D A B:Nat→Rat}(fD:Af D)(nD:D≠pz)(fA:Af A)(fB:Af B)(h:cv D A=cv D B):A=B:=by
 have h1:=(Nc fA fD nD).1;have h2:=(Nc fB fD nD).1;rw[Bw]at h1 h2;rw[h]at h1;exact h1.symm.trans h2
noncomputable def yc(g:Nat→Rat):Nat→Rat:=GR g (pd g)
noncomputable def y0(g:Nat→Rat):Nat→Rat:=pq g (yc g)
section
variable{g:Nat→Rat}
theorem EO(h:BP g):BP (yc g)∧BP (y0 g)∧g=cv (y0 g) (yc g)∧GZ g (yc g)∧GZ (pd g) (yc g):=by
 obtain⟨k,z1,z2,-⟩:=h.gcd (EL h.z) (Cb h.f);obtain⟨q1,q2⟩:=h.quot k z1;exact⟨k,q1,q2,z1,z2⟩
theorem bM(h:BP g):∃ V,Af V∧pd g=cv V (yc g)∧Ec (y0 g) V:=by
 obtain⟨k,z1,z2,d1,d2,U,V,a,b,e⟩:=h.gcd (EL h.z) (Cb h.f);obtain⟨q1,q2⟩:=h.quot k z1;obtain⟨zQ,fQ,eQ⟩:=Qn k.f k.n z2;refine⟨pq (pd g) (yc g),fQ,eQ,U,V,a,b,?_⟩;refine VX k.f k.n ((a.cv q1.f).pad (b.cv fQ)) Dx ?_;rw[KQ];show cv (yc g) (pad (cv U (y0 g)) (cv V (pq (pd g) (yc g))))=yc g
 conv=>rhs;unfold yc;rw[←e]
 rw[FW];congr 1
 ·rw[Bw,AJ];congr 1;exact q2.symm
 ·rw[Bw,AJ];congr 1;exact eQ.symm
theorem gT(h:BP g):Dv (yc g) (cv (y0 g) (pd (yc g))):=by
 obtain⟨k,q1,q2,z1,z2⟩:=EO h;have h1:=KY z2;rw[q2,Lv,←q2]at h1;have h2:Dv (yc g) (psb (pad (cv (pd (y0 g)) (yc g)) (cv (y0 g) (pd (yc g)))) (cv (pd (y0 g)) (yc g))):=h1.psb ((Dv.refl _).mul (Cb q1.f));have e:psb (pad (cv (pd (y0 g)) (yc g)) (cv (y0 g) (pd (yc g)))) (cv (pd (y0 g)) (yc g))=cv (y0 g) (pd (yc g)):=by
  funext n;simp only[psb,pad];grind
 rw[e]at h2;exact h2
theorem ZW(h:BP g):∃ N,Dv (yc g) (pw (y0 g) N):=by
 obtain⟨k,q1,q2,z1,z2⟩:=EO h;obtain⟨P,R,N,a,b,c,d,e⟩:=V8 q1 _ k (Nat.le_refl _);have h1:=gT h;have hP:Dv P (cv (y0 g) (cv (pd P) R)):=by
  have h2:Dv P (cv (y0 g) (pd (yc g))):=Dv.trans ⟨R,b.f,by rw[Bw];exact c⟩ h1;rw[c,Lv,FW]at h2;have h3:Dv P (cv (y0 g) (cv P (pd R))):=by
   rw[Bw P,←AJ];exact(Dv.refl P).mul (q1.f.cv (Cb b.f))
  have h4:=h2.psb h3;have e4:psb (pad (cv (y0 g) (cv (pd P) R)) (cv (y0 g) (cv P (pd R)))) (cv (y0 g) (cv P (pd R)))=cv (y0 g) (cv (pd P) R):=by
   funext n;simp only[psb,pad];grind
  rw[e4]at h4;exact h4
 have h5:=d.euclid ((Cb a.f).cv b.f) hP;have h6:Ec P R:=((Ec.pw a.f q1.f d N).symm.dv e).symm;rw[Bw]at h5;have h7:=h6.euclid (Cb a.f) h5;have h8:=a.one (by have:=gH a.f a.n h7;omega);refine⟨N,?_⟩;rw[c,h8,Db];exact e
theorem ZR(E:Nat→Rat)(fE:Af E):∀ k:Nat,cv E (pd (pw E k))=psc ((k:Nat):Rat) (cv (pw E k) (pd E))
 | 0=>by
  have e:pd (pw E 0)=pz:=by
   funext i;show((i+1:Nat):Rat)*pone (i+1)=0
   show((i+1:Nat):Rat)*0=0;exact Rat.mul_zero _
  rw[e,Kk]
  funext i;simp only[psc,pz];grind
 | k+1=>by
  show cv E (pd (cv (pw E k) E))=psc _ (cv (cv (pw E k) E) (pd E));rw[Lv,FW];have e1:cv E (cv (pd (pw E k)) E)=psc ((k:Nat):Rat) (cv (cv (pw E k) E) (pd E)):=by
   rw[←AJ,ZR E fE k,D6,AJ,AJ,Bw (pd E) E]
  have e2:cv E (cv (pw E k) (pd E))=cv (cv (pw E k) E) (pd E):=by rw[←AJ,Bw E]
  rw[e1,e2]
  funext i;simp only[pad,psc]
  have:(((k+1:Nat)):Rat)=(k:Rat)+1:=by push_cast;rfl
  rw[this];grind
theorem Yj{E C:Nat→Rat}(fE:Af E){k:Nat}(h:Dv (pw E k) C):Dv (pw E k) (cv E (pd C)):=by
 obtain⟨H,fH,rfl⟩:=h;rw[Lv,FW];refine Dv.pad ?_ ?_
 ·rw[←AJ]
  exact(Dv.refl _).mul (fE.cv (Cb fH))
 ·rw[Bw H,←AJ,ZR E fE,D6]
  refine Dv.psc _ ?_;rw[AJ,Bw];exact(Dv.refl _).mul ((Cb fE).cv fH)
theorem ZN(h:BP g){E:Nat→Rat}(hE:BP E)(hd:Dv (cv E E) (y0 g)):pl E=1:=by
 obtain⟨k,q1,q2,z1,z2⟩:=EO h;obtain⟨V,fV,eV,cV⟩:=bM h;have hE0:Dv E (y0 g):=Dv.trans ⟨E,hE.f,rfl⟩ hd;have cE:Ec E V:=cV.dv hE0;have hE1:Dv E (pd (y0 g)):=by
  obtain⟨U,fU,e⟩:=hd;rw[e,Lv];refine Dv.pad ?_ ?_
  ·rw[←AJ];exact(Dv.refl E).mul ((Cb fU).cv hE.f)
  ·rw[Lv,FW]
   exact((Dv.refl E).mul (Cb hE.f)).mul fU |>.pad ((by rw[Bw E];exact(Dv.refl E).mul (Cb hE.f):Dv E (cv E (pd E))).mul fU)
 have key:∀ n,Dv (pw E n) (yc g):=by
  intro n;induction n with
  | zero=>exact⟨yc g,k.f,(KQ _).symm⟩
  | succ n ih =>
   have h1:Dv (pw E (n+1)) (cv V (yc g)):=by
    rw[←eV,q2,Lv];refine Dv.pad ?_ ?_
    ·obtain⟨X,fX,eX⟩:=hE1
     obtain⟨Y,fY,eY⟩:=ih;refine⟨cv X Y,fX.cv fY,?_⟩;show cv (pd (y0 g)) (yc g)=cv (cv X Y) (cv (pw E n) E);rw[eX]
     conv=>lhs;rw[eY]
     rw[AJ,AJ X Y,←AJ E Y,Bw E Y,AJ Y E,Bw E (pw E n)]
    ·obtain⟨X,fX,eX⟩:=hd
     obtain⟨Y,fY,eY⟩:=Yj hE.f ih;refine⟨cv X Y,fX.cv fY,?_⟩;show cv (y0 g) (pd (yc g))=cv (cv X Y) (cv (pw E n) E);rw[eX,AJ,AJ,eY,AJ X Y];congr 1;rw[←AJ,Bw E Y,AJ,Bw E (pw E n)]
   exact(Ec.pw fV hE.f cE.symm (n+1)).symm.euclid k.f h1
 have h1:=Dv.le (SH hE.f (pl (yc g))) k.f k.n (key (pl (yc g)));rw[aA hE]at h1;have h2:=hE.pos;rcases Nat.lt_or_ge 1 (pl E)with h3 | h3
 ·have:pl (yc g)*1≤pl (yc g)*(pl E - 1):=Nat.mul_le_mul_left _ Aa
  omega
 ·omega
end
def jS:World→Value→Value×Nat→Prop:=fun _ c u=>c = .agg #[u.1,.int .i64 (u.2:Nat)]∧∃ A n k,u.1 = .slice A n k
theorem AP.updB{b:Nat}{G:List Nat}{w w':World}{v:Value}{F:Nat→Rat}(h:AP b w v F)(U:Cs G w w')(hG:∀ g∈G,∀ i c,w.cell? ⟨g,i,none⟩≠some (.bool c)):AP b w' v F:=by
 obtain⟨l,⟨A,c,h1,h2,h3,h4⟩,h5,rfl⟩:=h;refine⟨l,⟨A,c,h1,h2,h3,fun h0=>?_⟩,h5,rfl⟩;obtain⟨g,o,ha,hb,hc⟩:=h4 h0;have hg:g∉G:=fun hm=>by
  obtain⟨cs,q1,q2,q3⟩:=hc 0 h0;obtain⟨b,A1,n,c1,e⟩:=q3.cells;obtain rfl:=RU e;exact hG g hm _ b (q2 0 Aa)
 refine⟨g,o,ha,hb,fun j hj=>?_⟩;obtain⟨cs,q1,q2,q3⟩:=hc j hj;refine⟨cs,q1,fun i hi=>?_,q3.kd U.kd⟩;have e:cs[i]? = some (cs[i]'(Aa)):=Array.getElem?_eq_getElem Aa;rw[e];exact QC U hg ((q2 i hi).trans e)
structure Su(base:Nat)(t:TypeId)(w:World)(v:Value)(us:List (Value×Nat))(l:List ((Nat→Rat)×Nat)):Prop where
 out:BI 2 jS base t w v us
 len:us.length=l.length
 nb:NZ w v
 el:∀ i (h:i < us.length) (h':i < l.length),us[i].2=l[i].2∧AP 0 w us[i].1 l[i].1
section
variable{base:Nat}{t:TypeId}{w w':World}{v:Value}{us:List (Value×Nat)}{l:List ((Nat→Rat)×Nat)}
theorem NZ.nil(w:World):NZ w (.slice none 0 0):=fun g hg=>by simp[blk,Value.ownBlock]at hg
theorem Su.nil(base:Nat)(t:TypeId)(w:World):Su base t w (.slice none 0 0) [] []:=⟨BI.nil _ _ _ _ _,rfl,NZ.nil w,fun i h=>by simp at h⟩
theorem NZ.ext{k:Nat}{α:Type}{rd:World→Value→α→Prop}{b:Nat}{m:List α}(h:NZ w v)(o:BI k rd b t w v m)(x:Ext w w'):NZ w' v:=fun g hg i c e=>by
 have:=(BI.blk_ge o g hg).2;rw[x.cells g i this]at e;exact h g hg i c e
theorem Su.ext(h:Su base t w v us l)(x:Ext w w'):Su base t w' v us l:=
 ⟨h.out.ext x fun _ _ q=>q,h.len,h.nb.ext h.out x,fun i a b=>⟨(h.el i a b).1,(h.el i a b).2.ext x⟩⟩
theorem Su.base_le{b:Nat}(h:Su base t w v us l)(hb:b≤base):Su b t w v us l:=by
 obtain⟨⟨ess,h1,h2,⟨h3,h4⟩,h5⟩,k2,k3,k4⟩:=h;refine⟨⟨ess,h1,h2,⟨h3,?_⟩,h5⟩,k2,k3,k4⟩;rcases h4 with h4 | ⟨g,cap,cur,a,c,d⟩
 ·exact .inl h4
 ·exact .inr ⟨g,cap,cur,a,Nat.le_trans hb c,d⟩
theorem Su.shape(h:Su base t w v us l):∃ A c,v = .slice A l.length c:=by
 obtain⟨A,c,e⟩:=h.out.len;exact⟨A,c,by rw[e,h.len]⟩
theorem Su.at_{A:Option Addr}{n c:Nat}(h:Su base t w (.slice A n c) us l){i:Nat}(hi:i < l.length) :
  ∃ g o E d,A=some ⟨g,o,none⟩∧w.cell? ⟨g,o+i*2,none⟩=some (.slice E (pl l[i].1) d)∧w.cell? ⟨g,o+i*2+1,none⟩=some (.int .i64 (l[i].2:Nat))∧AP 0 w (.slice E (pl l[i].1) d) l[i].1:=by
 obtain⟨h0,h1,-,h2⟩:=h;have hi':i < us.length:=by omega
 obtain⟨A',c',e,-,-,hA⟩:=BI.row h0;have eA:A'=A:=by injection e with h1;exact h1.symm
 subst eA;obtain⟨g,o,ha,hb,hc⟩:=hA Aa;obtain⟨cs,q1,q2,q3,-⟩:=hc i hi';obtain⟨k1,k2⟩:=h2 i hi' hi;obtain⟨E,d,e2,-⟩:=AP.shape k2;have e3:cs=#[us[i].1,.int .i64 (us[i].2:Nat)]:=by injection q3
 refine⟨g,o,E,d,ha,?_,?_,by rw[←e2];exact k2⟩
 ·have:=q2 0 Aa
  rw[e3,e2]at this;exact this
 ·have:=q2 1 Aa
  rw[e3,k1]at this;exact this
theorem Su.append{P:Program}{A:Option Addr}{n c:Nat}{F:Nat→Rat}(h:Su base t w v us l)(hu:AP 0 w (.slice A n c) F)(e:Nat)
  (tt ty:TypeId) (i:TypeInfo) (z:Value) (bytes:Nat) (hT:P.underlying tt=some (.slice t)) (hi:P.info? t=some i) (hz:i.zero=some z) (hsize:i.size=2) (hby:i.bytes=bytes) (hzs:z.cells.size=2) (hzd:nodig z.cells=true) (hzB:∀ u∈z.cells.toList,RA u=false)
  (h63:l.length+1≤maxLen) (hbytes:(l.length+1)*bytes≤140737488355328) (hbase:base≤w.heap.size) :
  ∃ v' w',(Builtin.append_ #[tt,tt] ty #[v,.slice (some ⟨w.heap.size,0,none⟩) 1 1]).run P (w.alloc (.cells #[.slice A n c,.int .i64 (e:Nat)] t)) = .ok v' w'∧Su base t w' v' (us ++ [(.slice A n c,e)]) (l ++ [(F,e)]) ∧
   Cs (blk v) (w.alloc (.cells #[.slice A n c,.int .i64 (e:Nat)] t)) w'∧NZ (w.alloc (.cells #[.slice A n c,.int .i64 (e:Nat)] t)) v:=by
 have hb:=Bj.new w t #[.slice A n c,.int .i64 (e:Nat)] (by simp[Ag]);have x:=(Ext.refl w).alloc (.cells #[.slice A n c,.int .i64 (e:Nat)] t);have h':=h.ext x;have hu':=hu.ext x;have hl:=h.len;obtain⟨v',w',a,b,U,B⟩:=BI.append_blk (P:=P) (x:=((Value.slice A n c),e)) h'.out tt ty i z bytes hT hi hz hsize hby hzs hzd Ab ⟨w.heap.size,0,none⟩ 1 #[.slice A n c,.int .i64 (e:Nat)] rfl ⟨rfl,_,_,_,rfl⟩ (Nz w t _) (by simp[Value.oneCell']) (by simp[nodig,Ag]) Aa (by rw[hl];exact hbytes) (Nat.le_trans hbase x.size) (fun _ _ _ _ q=>q) h'.nb (by simp[RA]) hzB
 refine⟨v',w',a,⟨b,by simp[hl],B,fun j a1 a2=>?_⟩,U,h'.nb⟩;by_cases hj:j < us.length
 ·rw[List.getElem_append_left hj,List.getElem_append_left Aa]
  obtain⟨k1,k2⟩:=h'.el j hj Aa;exact⟨k1,k2.updB U h'.nb⟩
 ·rw[List.getElem_append_right Aa,List.getElem_append_right Aa]
  have e0:j - us.length=0:=by simp at a1;omega
  have e1:j - l.length=0:=by omega
  simp only[e0,e1,List.getElem_cons_zero];exact⟨trivial,hu'.updB U h'.nb⟩
end
def jR:World→Value→Value→Prop:=fun _ c u=>c = .agg #[u]∧∃ A n k,u = .slice A n k
structure Gz(base eb:Nat)(t:TypeId)(w:World)(v:Value)(us:List Value)(l:List (Nat→Rat)):Prop where
 out:BI 1 jR base t w v us
 len:us.length=l.length
 nb:NZ w v
 el:∀ i (h:i < us.length) (h':i < l.length),AP eb w us[i] l[i]
section
variable{base eb:Nat}{t:TypeId}{w w':World}{v:Value}{us:List Value}{l:List (Nat→Rat)}
theorem Gz.nil(base eb:Nat)(t:TypeId)(w:World):Gz base eb t w (.slice none 0 0) [] []:=⟨BI.nil _ _ _ _ _,rfl,NZ.nil w,fun i h=>by simp at h⟩
theorem Gz.ext(h:Gz base eb t w v us l)(x:Ext w w'):Gz base eb t w' v us l:=
 ⟨h.out.ext x fun _ _ q=>q,h.len,h.nb.ext h.out x,fun i a b=>(h.el i a b).ext x⟩
theorem Gz.base_le{b:Nat}(h:Gz base eb t w v us l)(hb:b≤base):Gz b eb t w v us l:=by
 obtain⟨⟨ess,h1,h2,⟨h3,h4⟩,h5⟩,k2,k3,k4⟩:=h;refine⟨⟨ess,h1,h2,⟨h3,?_⟩,h5⟩,k2,k3,k4⟩;rcases h4 with h4 | ⟨g,cap,cur,a,c,d⟩
 ·exact .inl h4
 ·exact .inr ⟨g,cap,cur,a,Nat.le_trans hb c,d⟩
theorem Gz.el_le{b:Nat}(h:Gz base eb t w v us l)(hb:b≤eb):Gz base b t w v us l:=⟨h.out,h.len,h.nb,fun i h1 h2=>(h.el i h1 h2).base_le hb⟩
theorem Gz.shape(h:Gz base eb t w v us l):∃ A c,v = .slice A l.length c:=by
 obtain⟨A,c,e⟩:=h.out.len;exact⟨A,c,by rw[e,h.len]⟩
theorem Gz.at_{A:Option Addr}{n c:Nat}(h:Gz base eb t w (.slice A n c) us l){i:Nat}(hi:i < l.length) :
  ∃ g o E d,A=some ⟨g,o,none⟩∧w.cell? ⟨g,o+i,none⟩=some (.slice E (pl l[i]) d)∧AP 0 w (.slice E (pl l[i]) d) l[i]:=by
 obtain⟨h0,h1,-,h2⟩:=h;have hi':i < us.length:=by omega
 obtain⟨A',c',e,-,-,hA⟩:=BI.row h0;have eA:A'=A:=by injection e with h1;exact h1.symm
 subst eA;obtain⟨g,o,ha,hb,hc⟩:=hA Aa;obtain⟨cs,q1,q2,q3,-⟩:=hc i hi';have k2:=h2 i hi' hi;obtain⟨E,d,e2,-⟩:=AP.shape k2;have e3:cs=#[us[i]]:=by injection q3
 refine⟨g,o,E,d,ha,?_,by rw[←e2];exact k2.base_le (Nat.zero_le _)⟩;have:=q2 0 Aa;rw[e3,e2,Nat.mul_one]at this;exact this
theorem Gz.append{P:Program}{A:Option Addr}{n c:Nat}{F:Nat→Rat}(h:Gz base eb t w v us l)(hu:AP eb w (.slice A n c) F)
  (tt ty:TypeId) (i:TypeInfo) (z:Value) (bytes:Nat) (hT:P.underlying tt=some (.slice t)) (hi:P.info? t=some i) (hz:i.zero=some z) (hsize:i.size=1) (hby:i.bytes=bytes) (hzs:z.cells.size=1) (hzd:nodig z.cells=true) (hzB:∀ u∈z.cells.toList,RA u=false)
  (h63:l.length+1≤maxLen) (hbytes:(l.length+1)*bytes≤140737488355328) (hbase:base≤w.heap.size) :
  ∃ v' w',(Builtin.append_ #[tt,tt] ty #[v,.slice (some ⟨w.heap.size,0,none⟩) 1 1]).run P (w.alloc (.cells #[.slice A n c] t)) = .ok v' w'∧Gz base eb t w' v' (us ++ [.slice A n c]) (l ++ [F]) ∧
   Cs (blk v) (w.alloc (.cells #[.slice A n c] t)) w'∧NZ (w.alloc (.cells #[.slice A n c] t)) v:=by
 have hb:=Bj.new w t #[.slice A n c] (by simp[Ag]);have x:=(Ext.refl w).alloc (.cells #[.slice A n c] t);have h':=h.ext x;have hu':=hu.ext x;have hl:=h.len;obtain⟨v',w',a,b,U,B⟩:=BI.append_blk (P:=P) (x:=Value.slice A n c) h'.out tt ty i z bytes hT hi hz hsize hby hzs hzd Ab ⟨w.heap.size,0,none⟩ 1 #[.slice A n c] rfl ⟨rfl,_,_,_,rfl⟩ (Nz w t _) (by simp[Value.oneCell']) (by simp[nodig,Ag]) Aa (by rw[hl];exact hbytes) (Nat.le_trans hbase x.size) (fun _ _ _ _ q=>q) h'.nb (by simp[RA]) hzB
 refine⟨v',w',a,⟨b,by simp[hl],B,fun j a1 a2=>?_⟩,U,h'.nb⟩;by_cases hj:j < us.length
 ·rw[List.getElem_append_left hj,List.getElem_append_left Aa]
  exact(h'.el j hj Aa).updB U h'.nb
 ·rw[List.getElem_append_right Aa,List.getElem_append_right Aa]
  have e0:j - us.length=0:=by simp at a1;omega
  have e1:j - l.length=0:=by omega
  simp only[e0,e1,List.getElem_cons_zero];exact hu'.updB U h'.nb
end
theorem CZ.updN{α:Type}{k:Nat}{rd:World→Value→α→Prop}{base g o n c:Nat}{w w':World}{l:List α}{G:List Nat}(h:CZ k rd base w (.slice (some ⟨g,o,none⟩) n c) l)(U:Cs G w w')(hg:g∉G)(hr:∀ u x,rd w u x→rd w' u x):CZ k rd base w' (.slice (some ⟨g,o,none⟩) n c) l:=by
 obtain⟨A,c,h1,h2,h3,h4⟩:=h;refine⟨A,c,h1,h2,h3,fun h0=>?_⟩;obtain⟨g',o',ha,hb,hc⟩:=h4 h0;have e:A=some ⟨g,o,none⟩:=by injection h1 with h5;exact h5.symm
 rw[e]at ha;injection ha with ha;injection ha with ha1 ha2;subst ha1;refine⟨g,o',by rw[e,ha2],hb,fun j hj=>?_⟩;obtain⟨cs,q1,q2,q3⟩:=hc j hj;refine⟨cs,q1,fun i hi=>?_,hr _ _ q3⟩;rw[←q2 i hi];have hs:cs[i]? = some cs[i]:=Array.getElem?_eq_getElem Aa;have hcell:=(q2 i hi).trans hs;have hlt:=World.block_lt_of_cell? w _ hcell;have hblk:=U.1 g w.heap[g] hg (Array.getElem?_eq_getElem hlt);unfold World.cell?
 simp only[hblk,Array.getElem?_eq_getElem hlt]
def NA(G:List Nat)(w:World)(v:Value)(F:Nat→Rat):Prop:=AP 0 w v F∧∃ g o c,v = .slice (some ⟨g,o,none⟩) (pl F) c∧c≤9223372036854775807∧g∉G
theorem NA.ext{G:List Nat}{w w':World}{v:Value}{F:Nat→Rat}(h:NA G w v F)(e:Ext w w'):NA G w' v F:=⟨h.1.ext e,h.2⟩
theorem NA.upd{L G:List Nat}{w w':World}{v:Value}{F:Nat→Rat}(h:NA G w v F)(U:Cs L w w')(hL:∀ g∈L,g∈G):NA G w' v F:=by
 obtain⟨⟨l,h1,h2,h3⟩,g,o,c,rfl,hc,hg⟩:=h;exact⟨⟨l,CZ.updN h1 U (fun hm=>hg (hL g hm)) fun _ _ q=>q.kd U.kd,h2,h3⟩,g,o,c,rfl,hc,hg⟩
theorem AP.off{base:Nat}{G:List Nat}{w:World}{v:Value}{F:Nat→Rat}(h:AP base w v F)(h0:0 < pl F)(hG:∀ g∈G,base≤g→g < w.heap.size→False):NA G w v F:=by
 have h':=h.base_le (Nat.zero_le _);obtain⟨A,c,l,rfl,k1,k2,hA,k3,k4,k5⟩:=h.form;obtain⟨g,o,b,A1,n,c1,rfl,hb,q0,q1,hq⟩:=hA.at_ (j:=0) Aa;exact⟨h',g,o,c,rfl,k2,fun hm=>hG g hm hb (World.block_lt_of_cell? w _ q0)⟩
theorem Js.sizes{F0 G0 F G:Nat→Rat}{D S:Nat}{x y:Int}(h:Js F0 G0 D S F G x y){M:Nat}(hM:M=(S+1)*2^D)(hB:8+8*((D+1)*((D+1)*M))≤1099511627776) :
  (∀ i,qsz (F i)≤M)∧(∀ i,qsz (G i)≤M)∧sz x.natAbs+2*(D*M)+2≤549755813888∧sz y.natAbs+D*(D*M)+2≤549755813888∧M+(pl F+1)*(M+1)+M≤549755813888∧1+D*(D*M)≤549755813888∧1+D*M≤549755813888∧M≤549755813888∧D*D≤549755813888∧D≤549755813888:=by
 have up:∀ a:Nat,a≤D→(S+1)*2^a≤M:=fun a ha=>by rw[hM];exact Nat.mul_le_mul_left _ (Nat.pow_le_pow_right Ab ha)
 have h1:=up (D - (pl F+pl G)) Aa;have hlen:=h.len;have sx:=h.sx;have sy:=h.sy;rw[←hM]at sx sy;have e1:(D - (pl F+pl G))*(D*M)≤D*(D*M):=Nat.mul_le_mul_right _ Aa;have e2:(D+1)*((D+1)*M)=D*(D*M)+2*(D*M)+M:=by rw[Nat.succ_mul,Nat.succ_mul,Nat.mul_add];omega
 have e3:(pl F+1)*(M+1)≤(D+1)*(M+1):=Nat.mul_le_mul_right _ Aa;have e4:(D+1)*(M+1)=D*M+M+D+1:=by rw[Nat.succ_mul,Nat.mul_succ];omega
 have hM1:1≤M:=by rw[hM];exact Nat.mul_pos Aa (Nat.pow_pos Ab)
 have e5:D*1≤D*M:=Nat.mul_le_mul_left _ hM1;have e6:D*D≤D*(D*M):=Nat.mul_le_mul_left _ (by rw[Nat.mul_one]at e5;exact e5);refine⟨fun i=>by have:=h.qF i;omega,fun i=>by have:=h.qG i;omega,?_,?_,?_,?_,?_,?_,?_,?_⟩<;>omega
theorem Js.more{F0 G0 F G:Nat→Rat}{D S:Nat}{x y:Int}(h:Js F0 G0 D S F G x y){M:Nat}(hM:M=(S+1)*2^D)(hB:8+8*((D+1)*((D+1)*M))≤1099511627776)(h1:1 < pl G)(hl:pl G≤pl F){R:Nat→Rat}(hR:R=De F G (pl F+1 - pl G))(h0:R≠pz){b d k n:Nat}(hb:b=pl G - 1)(hd:d=pl F - 1 - (pl R - 1))(hk:k=(pl F+1 - pl G)*(pl G - 1)) :
  (∀ i,qsz (R i)≤M)∧sz (pcn R).natAbs≤M∧sz (ld G).num.natAbs≤M∧(1+b*M≤1099511627776∧b≤1099511627776)∧(1+d*M≤1099511627776∧d≤1099511627776)∧(1+k*M≤1099511627776∧k≤1099511627776)∧sz (YN n x*pcn R^b).natAbs≤1099511627776∧sz (pcn R^b).natAbs≤1099511627776∧sz ((ld G).num^d).natAbs≤1099511627776∧sz ((ld G).num^k).natAbs≤1099511627776∧sz (YN n x).natAbs≤1099511627776:=by
 obtain⟨s1,s2,s3,s4,s5,s6,s7,s8,s9,s10⟩:=h.sizes hM hB;obtain⟨-,-,r3⟩:=h.room hl hR;have hlen:=h.len;have up:∀ a:Nat,a≤D→(S+1)*2^a≤M:=fun a ha=>by rw[hM];exact Nat.mul_le_mul_left _ (Nat.pow_le_pow_right Ab ha)
 have hRq:∀ i,qsz (R i)≤M:=fun i=>by have a:=r3 i;have b:=up (D - (pl F+pl G)+(pl F+1 - pl G)) Aa;omega
 have p1:sz (pcn R).natAbs≤M:=by rw[Fj];exact FV hRq _
 have p2:sz (ld G).num.natAbs≤M:=Nat.le_trans (ER _) (s2 (pl G - 1));have c1:b*M≤D*M:=Nat.mul_le_mul_right _ Aa;have c2:d*M≤D*M:=Nat.mul_le_mul_right _ Aa;have c3:k≤D*D:=by rw[hk];exact Nat.mul_le_mul Aa Aa
 have c4:k*M≤D*(D*M):=by rw[←Nat.mul_assoc];exact Nat.mul_le_mul_right _ c3
 have t1:=Gf _ _ p1 b;have t2:=Gf _ _ p2 d;have t3:=Gf _ _ p2 k;have t4:=Cc (YN n x).natAbs (pcn R^b).natAbs;rw[←Int.natAbs_mul]at t4;rw[M7]at t4;refine⟨hRq,p1,p2,⟨Aa,Aa⟩,⟨Aa,Aa⟩,⟨Aa,Aa⟩,Aa,Aa,Aa,Aa,by rw[M7];omega⟩
theorem Rj(n:Nat):((n:Int).tmod 2==1)=decide (n % 2=1):=by
 rw[show((n:Int).tmod 2)=((n % 2:Nat):Int)from by simp[Int.tmod]];rcases Nat.mod_two_eq_zero_or_one n with h | h<;>rw[h]<;>rfl
def NS:Value→Nat
 | .slice _ n _=>n
 | _=>0
end Go.Hp
namespace Go.Proofs.YtmhgnigpmompmaaGreat
open Go.RowKit Go.Hp
theorem aW(v u:Value)(F G:Nat→Rat)(M:Nat)(w:World)(hv:AP 0 w v F)(hu:AP 0 w u G)(hs:∀ i,qsz (F i)≤M)(ht:∀ i,qsz (G i)≤M)(h0:G≠pz)(hn:pl F≤549755813888)(hm:pl G≤549755813888)(hst:M+(pl F+1)*(M+1)+M≤549755813888) :
  Bh 95 #[v,u] w ((ZU w.heap.size (G7 F G (pl F+1 - pl G)) (De F G (pl F+1 - pl G)))):=by
 obtain⟨l,h1,h2,-,rfl⟩:=hv.hz (fun i=>by have:=hs i;omega);obtain⟨m,k1,k2,-,rfl⟩:=hu.hz (fun i=>by have:=ht i;omega);exact bR v u l m M M w h1 k1 hs ht Aa Aa h0 (by rw[h2];omega)
theorem IJ(v:Value)(F:Nat→Rat)(w:World)(hv:AP 0 w v F)(hs:∀ i,qsz (F i)≤1099511627776)(hn:pl F≤1099511627776) :
  Bh 85 #[v] w (fun r w'=>AP w.heap.size w' r (pp F)):=by
 obtain⟨l,h1,h2,-,rfl⟩:=hv.hz hs;exact Fp v l w h1 Aa
theorem VK(v u:Value)(F:Nat→Rat)(a:Int)(w:World)(hv:AP 0 w v F)(hs:∀ i,qsz (F i)≤1099511627776)(hu:Bu w u a)(hn:pl F≤1099511627776) :
  Bh 96 #[v,u] w (fun r w'=>AP 0 w' r (psc (a:Rat) F)):=by
 obtain⟨l,h1,h2,-,rfl⟩:=hv.hz hs;exact Ah.imp (QA v u l a w h1 hu Aa) fun _ _ h=>h.base_le (Nat.zero_le _)
end Go.Proofs.YtmhgnigpmompmaaGreat
namespace Go.Hp
end Go.Hp
namespace Go.Proofs.YtmhgnigpmompmaaGreat
open Go.RowKit Go.Hp
end Go.Proofs.YtmhgnigpmompmaaGreat
namespace Go.Hp
open Go.RowKit
theorem Il.of{l:List Rat}(h:co l (l.length - 1)≠0):Il l:=fun h0=>by rw[←DW];exact h
end Go.Hp
namespace Go.Proofs.YtmhgnigpmompmaaGreat
open Go.RowKit Go.Hp
end Go.Proofs.YtmhgnigpmompmaaGreat
namespace Go.Hp
open Go.RowKit
theorem KF(b o i:Nat):(⟨b,o,none⟩:Addr).add i=⟨b,o+i,none⟩:=by unfold Addr.add;split<;>simp_all
abbrev Raw:=Bool×List Nat×Bool×List Nat
def Fe(w:World)(v:Value)(x:Raw):Prop:=∃ A n c A' n' c',v = .agg #[.bool x.1,.slice A n c,.bool x.2.2.1,.slice A' n' c']∧BJ w (.slice A n c) x.2.1∧BJ w (.slice A' n' c') x.2.2.2
def KM(w:World)(v:Value)(l:List Raw):Prop:=CZ 4 Fe 0 w v l
theorem Fe.ext{w w':World}{v:Value}{x:Raw}(h:Fe w v x)(e:Ext w w'):Fe w' v x:=by
 obtain⟨A,n,c,A',n',c',h1,h2,h3⟩:=h;exact⟨A,n,c,A',n',c',h1,h2.ext e,h3.ext e⟩
theorem KM.ext{w w':World}{v:Value}{l:List Raw}(h:KM w v l)(e:Ext w w'):KM w' v l:=CZ.ext h e fun _ _ q=>q.ext e
def Tz(x:Raw):Prop:=x.2.1.length≤2∧x.2.2.2.length≤2
def Jz(x:Raw):Rat:=Rat.divInt (iv x.1 x.2.1) (iv x.2.2.1 x.2.2.2)
theorem Nw(b:Bool)(ds:List Nat):(iv b ds).natAbs=nv ds:=by unfold iv;cases b<;>simp
theorem MR{w:World}{v:Value}{ds:List Nat}(h:BJ w v ds):sz (nv ds)≤ds.length:=by
 obtain⟨_,_,_,_,_,hA⟩:=h;exact Yo hA.1
theorem Fe.has{w:World}{v:Value}{x:Raw}(h:Fe w v x)(hs:Tz x):BQ w v (Jz x)∧qsz (Jz x)≤2:=by
 obtain⟨A,n,c,A',n',c',rfl,h2,h3⟩:=h;have s1:=MR h2;have s2:=MR h3;obtain⟨k1,k2⟩:=hs;have e1:=Nw x.1 x.2.1;have e2:=Nw x.2.2.1 x.2.2.2;exact⟨⟨_,A,n,c,_,A',n',c',_,_,rfl,⟨_,_,⟨_,rfl,h2⟩,rfl,Aa⟩,⟨_,_,⟨_,rfl,h3⟩,rfl,Aa⟩,by rw[e1];omega,by rw[e2];omega,rfl⟩,
  Dl (by rw[e1];omega) (by rw[e2];omega) Aa⟩
theorem KM.has{w:World}{v:Value}{l:List Raw}(h:KM w v l)(hs:∀ x∈l,Tz x):KU 0 w v (l.map Jz):=by
 obtain⟨A,c,h1,h2,h3,h4⟩:=h;refine⟨A,c,by simpa using h1,by simpa using h2,h3,fun h0=>?_⟩;obtain⟨g,o,q1,q2,q3⟩:=h4 (by simpa using h0);refine⟨g,o,q1,q2,fun j hj=>?_⟩;have hj':j < l.length:=by simpa using hj
 obtain⟨cs,r1,r2,r3⟩:=q3 j hj';refine⟨cs,r1,r2,?_⟩;rw[List.getElem_map];exact(r3.has (hs _ (List.getElem_mem hj'))).1
theorem KM.len{w:World}{v:Value}{l:List Raw}(h:KM w v l):∃ A c,v = .slice A l.length c∧l.length≤c∧c≤9223372036854775807:=by
 obtain⟨A,c,h1,h2,h3,h4⟩:=h;exact⟨A,c,h1,h2,h3⟩
theorem KM.at_{w:World}{A:Option Addr}{n c:Nat}{l:List Raw}(h:KM w (.slice A n c) l){j:Nat}(hj:j < l.length) :
  ∃ g o A1 n c A1' n' c',A=some ⟨g,o,none⟩∧w.cell? ⟨g,o+j*4,none⟩=some (.bool l[j].1)∧w.cell? ⟨g,o+j*4+1,none⟩=some (.slice A1 n c)∧w.cell? ⟨g,o+j*4+2,none⟩=some (.bool l[j].2.2.1)∧w.cell? ⟨g,o+j*4+3,none⟩=some (.slice A1' n' c')∧n=l[j].2.1.length∧n'=l[j].2.2.2.length:=by
 obtain⟨A',c',e1,h2,h3,h4⟩:=h;have e5:A'=A:=by injection e1 with h1;exact h1.symm
 subst e5;obtain⟨g,o,ha,hb,hc⟩:=h4 Aa;obtain⟨cs,q1,q2,q3⟩:=hc j hj;obtain⟨A1,n1,c1,A2,n2,c2,e,d1,d2⟩:=q3;obtain rfl:=Tx e;obtain⟨_,_,f1,_⟩:=d1;obtain⟨_,_,f2,_⟩:=d2;exact⟨g,o,A1,n1,c1,A2,n2,c2,ha,q2 0 Aa,q2 1 Aa,q2 2 Aa,q2 3 Aa,by injection f1,by injection f2⟩
end Go.Hp
namespace Go.Proofs.YtmhgnigpmompmaaGreat
open Go.RowKit Go.Hp Go.Deep Go.ChangeShapes Go.ChangeAt
section
variable{H:Type}{enc:TypeId×Value→H}{w:World}{spare:Nat→Bool}{held:Bool}
theorem Vo{fuel:Nat}{cs:List Value}{x:DataW H×List MemPlace}(h:DataW.trod enc Tryz.prog w 0 spare held fuel 24 cs=some x):∃ A n c ds,cs=[.slice A n c]∧BJ w (.slice A n c) ds:=by
 rcases open_ints Tryz.underlying24 Tryz.underlying113 EH h with⟨rfl,_⟩ | ⟨a,n,c,zs,rfl,_,hl,hm,hz,_,hcell,hwz⟩
 ·exact⟨none,0,0,[],rfl,none,0,rfl,Nat.le_refl _,Aa,fun d hd=>by simp at hd,fun h=>by simp at h⟩
 ·have hzl:n≤zs.length:=by rw[hz];split<;>omega
  have hw:∀ z∈zs,0≤z∧z < 4294967296:=fun z hz=>by
   have:=hwz z hz;simp[Lit.wf]at this;have e1:IntKind.u32.min=0:=rfl;have e2:IntKind.u32.max=4294967295:=rfl;omega
  have hlen:((zs.take n).map Int.toNat).length=n:=by simp;omega
  refine⟨some a,n,c,(zs.take n).map Int.toNat,rfl,some a,c,by rw[hlen],by rw[hlen];exact hl,GG hm,?_,fun _=>⟨a,rfl,fun j hj=>?_⟩⟩
  ·intro d hd
   obtain⟨z,hz1,rfl⟩:=List.mem_map.1 hd;have:=hw z (List.mem_of_mem_take hz1);omega
  ·rw[hlen]at hj
   have hjz:j < zs.length:=by omega
   rw[hcell j hjz,List.getElem_map,List.getElem_take];have:=hw zs[j] (List.getElem_mem hjz);rw[show zs.getD j 0=zs[j]from by rw[List.getD_eq_getElem?_getD,List.getElem?_eq_getElem hjz];rfl];congr 2;omega
set_option maxRecDepth 100000 in
theorem KW{fuel:Nat}{cs:List Value}{x:DataW H×List MemPlace}(h:DataW.trod enc Tryz.prog w 0 spare held fuel 26 cs=some x):∃ b A n c ds,cs=[.bool b,.slice A n c]∧BJ w (.slice A n c) ds:=by
 obtain⟨y0,y1,n,_,hl,h0,h1⟩:=trod_struct2 Tryz.underlying26 h;rw[show Tryz.prog.cellsOf 26=2 from by kernel_rfl]at hl
 match cs,hl with
 | [c0,c1],_ =>
  rw[show Tryz.prog.cellsOf 4=1 from by kernel_rfl]at h0;rw[show Tryz.prog.cellsOf 24=1 from by kernel_rfl]at h1;obtain⟨b,e0,_⟩:=DataW.trod_bool Tryz.underlying4 h0;obtain⟨A,m,c,ds,e1,hd⟩:=Vo h1;simp at e0 e1;subst e0 e1;exact⟨b,A,m,c,ds,rfl,hd⟩
set_option maxRecDepth 100000 in
theorem Mq{fuel:Nat}{cs:List Value}{x:DataW H×List MemPlace}(h:DataW.trod enc Tryz.prog w 0 spare held fuel 28 cs=some x):∃ r:Raw,∃ cs':Array Value,cs=cs'.toList∧cs'.size=4∧Fe w (.agg cs') r:=by
 obtain⟨y0,y1,n,_,hl,h0,h1⟩:=trod_struct2 Tryz.underlying28 h;rw[show Tryz.prog.cellsOf 28=4 from by kernel_rfl]at hl
 match cs,hl with
 | [c0,c1,c2,c3],_ =>
  rw[show Tryz.prog.cellsOf 26=2 from by kernel_rfl]at h0 h1;obtain⟨b,A,m,c,ds,e0,hd⟩:=KW h0;obtain⟨b',A',m',c',ds',e1,hd'⟩:=KW h1;simp at e0 e1;obtain⟨rfl,rfl⟩:=e0;obtain⟨rfl,rfl⟩:=e1;exact⟨(b,ds,b',ds'),#[.bool b,.slice A m c,.bool b',.slice A' m' c'],rfl,rfl,A,m,c,A',m',c',rfl,hd,hd'⟩
end
end Go.Proofs.YtmhgnigpmompmaaGreat
namespace Go.Hp
open Go.RowKit
end Go.Hp
namespace Go.Proofs.YtmhgnigpmompmaaGreat
open Go.RowKit Go.Hp
end Go.Proofs.YtmhgnigpmompmaaGreat
namespace Go.Hp
open Go.RowKit
theorem Fe.cells{w:World}{v:Value}{x:Raw}(h:Fe w v x):∃ b A n c b' A' n' c',v = .agg #[.bool b,.slice A n c,.bool b',.slice A' n' c']:=by
 obtain⟨A,n,c,A',n',c',e,_⟩:=h;exact⟨_,A,n,c,_,A',n',c',e⟩
end Go.Hp
namespace Go.Proofs.YtmhgnigpmompmaaGreat
open Go.RowKit Go.Hp
end Go.Proofs.YtmhgnigpmompmaaGreat
namespace Go.Hp
open Go.RowKit
def Ql(w:World)(v:Value)(p:Rat×Rat):Prop:=
 ∃ b1 A1 n1 c1 b2 A2 n2 c2 b3 A3 n3 c3 b4 A4 n4 c4,v = .agg #[.bool b1,.slice A1 n1 c1,.bool b2,.slice A2 n2 c2,.bool b3,.slice A3 n3 c3,.bool b4,.slice A4 n4 c4] ∧
  BQ w (.agg #[.bool b1,.slice A1 n1 c1,.bool b2,.slice A2 n2 c2]) p.1∧BQ w (.agg #[.bool b3,.slice A3 n3 c3,.bool b4,.slice A4 n4 c4]) p.2
theorem Ql.ext{w w':World}{v:Value}{p:Rat×Rat}(h:Ql w v p)(e:Ext w w'):Ql w' v p:=by
 obtain⟨b1,A1,n1,c1,b2,A2,n2,c2,b3,A3,n3,c3,b4,A4,n4,c4,h1,h2,h3⟩:=h;exact⟨b1,A1,n1,c1,b2,A2,n2,c2,b3,A3,n3,c3,b4,A4,n4,c4,h1,h2.ext e,h3.ext e⟩
def Vf(w:World)(v:Value)(l:List (Rat×Rat)):Prop:=CZ 8 Ql 0 w v l
def X9(w:World)(A:Option Addr)(l:List (Rat×Rat)):Prop:=DK 8 Ql 0 w A l
theorem Vf.ext{w w':World}{v:Value}{l:List (Rat×Rat)}(h:Vf w v l)(e:Ext w w'):Vf w' v l:=CZ.ext h e fun _ _ q=>q.ext e
theorem X9.at_{w:World}{A:Option Addr}{l:List (Rat×Rat)}(h:X9 w A l){j:Nat}(hj:j < l.length) :
  ∃ g o b1 A1 n1 c1 b2 A2 n2 c2 b3 A3 n3 c3 b4 A4 n4 c4,A=some ⟨g,o,none⟩∧w.cell? ⟨g,o+j*8,none⟩=some (.bool b1)∧w.cell? ⟨g,o+j*8+1,none⟩=some (.slice A1 n1 c1)∧w.cell? ⟨g,o+j*8+2,none⟩=some (.bool b2)∧w.cell? ⟨g,o+j*8+3,none⟩=some (.slice A2 n2 c2) ∧
   w.cell? ⟨g,o+j*8+4,none⟩=some (.bool b3)∧w.cell? ⟨g,o+j*8+5,none⟩=some (.slice A3 n3 c3)∧w.cell? ⟨g,o+j*8+6,none⟩=some (.bool b4)∧w.cell? ⟨g,o+j*8+7,none⟩=some (.slice A4 n4 c4) ∧
   BQ w (.agg #[.bool b1,.slice A1 n1 c1,.bool b2,.slice A2 n2 c2]) l[j].1∧BQ w (.agg #[.bool b3,.slice A3 n3 c3,.bool b4,.slice A4 n4 c4]) l[j].2:=by
 obtain⟨g,o,ha,hb,hc⟩:=h Aa;obtain⟨cs,q1,q2,q3⟩:=hc j hj;obtain⟨b1,A1,n1,c1,b2,A2,n2,c2,b3,A3,n3,c3,b4,A4,n4,c4,e,h1,h2⟩:=q3;obtain rfl:cs=#[.bool b1,.slice A1 n1 c1,.bool b2,.slice A2 n2 c2,.bool b3,.slice A3 n3 c3,.bool b4,.slice A4 n4 c4]:=by injection e
 exact⟨g,o,b1,A1,n1,c1,b2,A2,n2,c2,b3,A3,n3,c3,b4,A4,n4,c4,ha,q2 0 Aa,q2 1 Aa,q2 2 Aa,q2 3 Aa,q2 4 Aa,q2 5 Aa,q2 6 Aa,q2 7 Aa,h1,h2⟩
theorem Vf.len{w:World}{v:Value}{l:List (Rat×Rat)}(h:Vf w v l):∃ A c,v = .slice A l.length c∧l.length≤c∧c≤9223372036854775807∧X9 w A l:=h
def px(l:List (Rat×Rat))(i:Nat):Rat:=(l.getD i (0,0)).1
def py(l:List (Rat×Rat))(i:Nat):Rat:=(l.getD i (0,0)).2
theorem fZ{l:List (Rat×Rat)}{i:Nat}(h:i < l.length):px l i=l[i].1:=by unfold px;rw[List.getD_eq_getElem?_getD,List.getElem?_eq_getElem h];rfl
theorem gZ{l:List (Rat×Rat)}{i:Nat}(h:i < l.length):py l i=l[i].2:=by unfold py;rw[List.getD_eq_getElem?_getD,List.getElem?_eq_getElem h];rfl
theorem LF.step{X:Nat→Rat}{n:Nat}(h:LF X n)(k:∀ j,j < n→X n≠X j):LF X (n+1):=fun i j hi hj=>by
 rcases Nat.lt_or_ge i n with l | l
 ·exact h i j l hj
 ·obtain rfl:i=n:=by omega
  exact k j hj
theorem OL{v:Value}{cs:Array Value}(h:v.cells.toList=cs.toList)(hs:cs.size=4):v = .agg cs:=by
 have hc:v.cells=cs:=Array.toList_inj.1 h;subst hc;cases v<;>first | rfl | (exfalso;simp[Value.cells]at hs)
abbrev JQ:=Bool×List Nat
def PD(w:World)(v:Value)(x:JQ):Prop:=PE w v x.1 x.2
theorem PD.ext{w w':World}{v:Value}{x:JQ}(h:PD w v x)(e:Ext w w'):PD w' v x:=by
 obtain⟨u,h1,h2⟩:=h;exact⟨u,h1,h2.ext e⟩
def En(w:World)(v:Value)(l:List JQ):Prop:=CZ 2 PD 0 w v l
theorem En.ext{w w':World}{v:Value}{l:List JQ}(h:En w v l)(e:Ext w w'):En w' v l:=CZ.ext h e fun _ _ q=>q.ext e
abbrev Ki:=Raw×Raw
def QI(w:World)(v:Value)(x:Ki):Prop:=
 ∃ b1 A1 n1 c1 b2 A2 n2 c2 b3 A3 n3 c3 b4 A4 n4 c4,v = .agg #[.bool b1,.slice A1 n1 c1,.bool b2,.slice A2 n2 c2,.bool b3,.slice A3 n3 c3,.bool b4,.slice A4 n4 c4] ∧
  Fe w (.agg #[.bool b1,.slice A1 n1 c1,.bool b2,.slice A2 n2 c2]) x.1∧Fe w (.agg #[.bool b3,.slice A3 n3 c3,.bool b4,.slice A4 n4 c4]) x.2
theorem QI.ext{w w':World}{v:Value}{x:Ki}(h:QI w v x)(e:Ext w w'):QI w' v x:=by
 obtain⟨b1,A1,n1,c1,b2,A2,n2,c2,b3,A3,n3,c3,b4,A4,n4,c4,h1,h2,h3⟩:=h;exact⟨b1,A1,n1,c1,b2,A2,n2,c2,b3,A3,n3,c3,b4,A4,n4,c4,h1,h2.ext e,h3.ext e⟩
def Kg(w:World)(v:Value)(l:List Ki):Prop:=CZ 8 QI 0 w v l
def Rk(w:World)(A:Option Addr)(l:List Ki):Prop:=DK 8 QI 0 w A l
theorem Kg.ext{w w':World}{v:Value}{l:List Ki}(h:Kg w v l)(e:Ext w w'):Kg w' v l:=CZ.ext h e fun _ _ q=>q.ext e
theorem Rk.at_{w:World}{A:Option Addr}{l:List Ki}(h:Rk w A l){j:Nat}(hj:j < l.length) :
  ∃ g o b1 A1 n1 c1 b2 A2 n2 c2 b3 A3 n3 c3 b4 A4 n4 c4,A=some ⟨g,o,none⟩∧w.cell? ⟨g,o+j*8,none⟩=some (.bool b1)∧w.cell? ⟨g,o+j*8+1,none⟩=some (.slice A1 n1 c1)∧w.cell? ⟨g,o+j*8+2,none⟩=some (.bool b2)∧w.cell? ⟨g,o+j*8+3,none⟩=some (.slice A2 n2 c2) ∧
   w.cell? ⟨g,o+j*8+4,none⟩=some (.bool b3)∧w.cell? ⟨g,o+j*8+5,none⟩=some (.slice A3 n3 c3)∧w.cell? ⟨g,o+j*8+6,none⟩=some (.bool b4)∧w.cell? ⟨g,o+j*8+7,none⟩=some (.slice A4 n4 c4) ∧
   Fe w (.agg #[.bool b1,.slice A1 n1 c1,.bool b2,.slice A2 n2 c2]) l[j].1∧Fe w (.agg #[.bool b3,.slice A3 n3 c3,.bool b4,.slice A4 n4 c4]) l[j].2:=by
 obtain⟨g,o,ha,hb,hc⟩:=h Aa;obtain⟨cs,q1,q2,q3⟩:=hc j hj;obtain⟨b1,A1,n1,c1,b2,A2,n2,c2,b3,A3,n3,c3,b4,A4,n4,c4,e,h1,h2⟩:=q3;obtain rfl:cs=#[.bool b1,.slice A1 n1 c1,.bool b2,.slice A2 n2 c2,.bool b3,.slice A3 n3 c3,.bool b4,.slice A4 n4 c4]:=by injection e
 exact⟨g,o,b1,A1,n1,c1,b2,A2,n2,c2,b3,A3,n3,c3,b4,A4,n4,c4,ha,q2 0 Aa,q2 1 Aa,q2 2 Aa,q2 3 Aa,q2 4 Aa,q2 5 Aa,q2 6 Aa,q2 7 Aa,h1,h2⟩
def bG(x:Ki):Prop:=Tz x.1∧Tz x.2
def dK(x:Ki):Rat×Rat:=(Jz x.1,Jz x.2)
theorem Kg.has{w:World}{v:Value}{l:List Ki}(h:Kg w v l)(hs:∀ x∈l,bG x):Vf w v (l.map dK)∧(∀ i,i < l.length→qsz (px (l.map dK) i)≤2∧qsz (py (l.map dK) i)≤2):=by
 obtain⟨A,c,h1,h2,h3,h4⟩:=h;refine⟨⟨A,c,by simpa using h1,by simpa using h2,h3,fun h0=>?_⟩,fun i hi=>?_⟩
 ·obtain⟨g,o,q1,q2,q3⟩:=h4 (by simpa using h0)
  refine⟨g,o,q1,q2,fun j hj=>?_⟩;have hj':j < l.length:=by simpa using hj
  obtain⟨cs,r1,r2,b1,A1,n1,c1,b2,A2,n2,c2,b3,A3,n3,c3,b4,A4,n4,c4,e,k1,k2⟩:=q3 j hj';refine⟨cs,r1,r2,?_⟩;rw[List.getElem_map];have hsm:=hs _ (List.getElem_mem hj');exact⟨b1,A1,n1,c1,b2,A2,n2,c2,b3,A3,n3,c3,b4,A4,n4,c4,e,(k1.has hsm.1).1,(k2.has hsm.2).1⟩
 ·obtain⟨g,o,q1,q2,q3⟩:=h4 Aa
  obtain⟨cs,r1,r2,b1,A1,n1,c1,b2,A2,n2,c2,b3,A3,n3,c3,b4,A4,n4,c4,e,k1,k2⟩:=q3 i hi;have hsm:=hs _ (List.getElem_mem hi);rw[fZ (by simpa using hi),gZ (by simpa using hi),List.getElem_map];exact⟨(k1.has hsm.1).2,(k2.has hsm.2).2⟩
end Go.Hp
namespace Go.Proofs.YtmhgnigpmompmaaGreat
open Go.RowKit Go.Hp Go.Deep Go.ChangeShapes Go.ChangeAt
section
variable{H:Type}{enc:TypeId×Value→H}{w:World}{spare:Nat→Bool}{held:Bool}
theorem UV{α:Type}{k E:Nat}(hk:0 < k){rd:World→Value→α→Prop}(hsz:Tryz.prog.cellsOf E=k)
  (hop:∀ {fuel:Nat} {cs:List Value} {x:DataW H×List MemPlace},DataW.trod enc Tryz.prog w 0 spare held fuel E cs=some x→∃ r:α,∃ cs':Array Value,cs=cs'.toList∧cs'.size=k∧rd w (.agg cs') r)
  {T fuel:Nat} {v:Value} {x:DataW H×List MemPlace} (hT:Tryz.prog.underlying T=some (.slice E)) (h:DataW.trod enc Tryz.prog w 0 spare held fuel T v.cells.toList=some x) (hv:∃ a n c,v = .slice a n c):∃ l:List α,CZ k rd 0 w v l:=by
 obtain⟨a0,n0,c0,rfl⟩:=hv;rcases open_slice hT h with⟨hcs,_⟩ | ⟨a,n,c,m,k',D,Pl,hcs,_,hl,hm,hmm,_,hel⟩
 ·simp[Value.cells]at hcs
  obtain⟨rfl,rfl,rfl⟩:=hcs;exact⟨[],CZ.nil k rd 0 w⟩
 ·simp[Value.cells]at hcs
  obtain⟨rfl,rfl,rfl⟩:=hcs;have hnm:n0≤m:=by rw[hmm];split<;>omega
  rw[hsz]at hel;have key:∀ i,i < n0→∃ r:α,∃ cs:Array Value,cs.size=k∧(∀ j,j < k→w.cell? ((a.add (i*k)).add j)=cs[j]?)∧rd w (.agg cs) r:=fun i hi=>by
   obtain⟨cs',h1,h2⟩:=hel i Aa;obtain⟨r,cs,rfl,h3,h4⟩:=hop h2;obtain⟨_,h5,h6⟩:=World.cells?_some h1;exact⟨r,cs,h3,fun j hj=>by rw[h6 j hj];simp,h4⟩
  have hc:∀ n',n'≤n0→∃ l:List α,l.length=n'∧∀ i (h:i < l.length),∃ cs:Array Value,cs.size=k∧(∀ j,j < k→w.cell? ((a.add (i*k)).add j)=cs[j]?)∧rd w (.agg cs) l[i]:=by
   intro n';induction n' with
   | zero=>intro _;exact⟨[],rfl,fun i h=>by simp at h⟩
   | succ n' ih =>
    intro hn;obtain⟨l,hl1,hl2⟩:=ih Aa;obtain⟨r,cs,k1,k2,k3⟩:=key n' Aa;refine⟨l ++ [r],by simp[hl1],fun i hi=>?_⟩;rcases Nat.lt_or_ge i l.length with h' | h'
    ·rw[List.getElem_append_left h'];exact hl2 i h'
    ·have e:i=n':=by simp at hi;omega
     subst e;refine⟨cs,k1,k2,?_⟩;rw[List.getElem_append_right h'];simpa[hl1] using k3
  obtain⟨l,hl1,hl2⟩:=hc n0 (Nat.le_refl _);refine⟨l,some a,c0,by rw[hl1],Aa,GG hm,fun h0=>?_⟩;obtain⟨b,off,spot⟩:=a;obtain⟨cs,k1,k2,k3⟩:=hl2 0 h0;have hs:spot=none:=by
   have:=k2 0 hk;rw[Array.getElem?_eq_getElem Aa]at this;simpa[Addr.add] using World.cell?_spot this
  subst hs;refine⟨b,off,rfl,Nat.zero_le _,fun j hj=>?_⟩;obtain⟨cs,k1,k2,k3⟩:=hl2 j hj;refine⟨cs,k1,fun i hi=>?_,k3⟩;rw[←k2 i hi,KF,KF]
set_option maxRecDepth 100000 in
theorem Zy{fuel:Nat}{cs:List Value}{x:DataW H×List MemPlace}(h:DataW.trod enc Tryz.prog w 0 spare held fuel 26 cs=some x):∃ r:JQ,∃ cs':Array Value,cs=cs'.toList∧cs'.size=2∧PD w (.agg cs') r:=by
 obtain⟨b,A,n,c,ds,rfl,hd⟩:=KW h;exact⟨(b,ds),#[.bool b,.slice A n c],rfl,rfl,_,rfl,hd⟩
theorem Sn{T fuel:Nat}{v:Value}{x:DataW H×List MemPlace}(hT:Tryz.prog.underlying T=some (.slice 26))(h:DataW.trod enc Tryz.prog w 0 spare held fuel T v.cells.toList=some x)(hv:∃ a n c,v = .slice a n c):∃ l:List JQ,En w v l:=
 UV Ab EH (fun h=>Zy h) hT h hv
end
end Go.Proofs.YtmhgnigpmompmaaGreat
namespace Go.Hp
open Go.RowKit
def Zo(x:JQ):Int:=iv x.1 x.2
theorem PD.has{w:World}{v:Value}{x:JQ}(h:PD w v x)(hs:x.2.length≤1099511627776):Bu w v (Zo x)∧sz (Zo x).natAbs≤x.2.length:=by
 have h':=h;obtain⟨s,rfl,hd⟩:=h';refine⟨⟨x.1,x.2,h,rfl,hs⟩,?_⟩;have:=MR hd;unfold Zo;rw[Nw];exact this
theorem En.len{w:World}{v:Value}{l:List JQ}(h:En w v l):∃ A c,v = .slice A l.length c∧l.length≤c∧c≤9223372036854775807:=by
 obtain⟨A,c,h1,h2,h3,h4⟩:=h;exact⟨A,c,h1,h2,h3⟩
theorem En.at_{w:World}{A:Option Addr}{n c:Nat}{l:List JQ}(h:En w (.slice A n c) l){j:Nat}(hj:j < l.length) :
  ∃ g o A1 c,A=some ⟨g,o,none⟩∧w.cell? ⟨g,o+j*2,none⟩=some (.bool l[j].1)∧w.cell? ⟨g,o+j*2+1,none⟩=some (.slice A1 l[j].2.length c)∧PD w (.agg #[.bool l[j].1,.slice A1 l[j].2.length c]) l[j]:=by
 obtain⟨A',c',e1,h2,h3,h4⟩:=h;have e5:A'=A:=by injection e1 with h1;exact h1.symm
 subst e5;obtain⟨g,o,q1,q2,q3⟩:=h4 Aa;obtain⟨cs,r1,r2,r3⟩:=q3 j hj;have hr:=r3;obtain⟨s,e,A1,c1,e2,k⟩:=r3;subst e2;have e:=RU e;subst e;exact⟨g,o,A1,c1,q1,r2 0 Aa,r2 1 Aa,hr⟩
theorem En.has{w:World}{v:Value}{l:List JQ}{d:Nat}(h:En w v l)(hs:∀ x∈l,x.2.length≤d)(hd:d≤1099511627776:=by omega):Dt 0 w v (l.map Zo)∧∀ x∈l.map Zo,sz x.natAbs≤d:=by
 obtain⟨A,c,h1,h2,h3,h4⟩:=h;have key:∀ j (hj:j < l.length),∃ cs:Array Value,cs.size=2∧PD w (.agg cs) l[j]:=fun j hj=>by
  obtain⟨g,o,q1,q2,q3⟩:=h4 Aa;obtain⟨cs,r1,r2,r3⟩:=q3 j hj;exact⟨cs,r1,r3⟩
 refine⟨⟨A,c,by simpa using h1,by simpa using h2,h3,fun h0=>?_⟩,fun x hx=>?_⟩
 ·obtain⟨g,o,q1,q2,q3⟩:=h4 (by simpa using h0)
  refine⟨g,o,q1,q2,fun j hj=>?_⟩;have hj':j < l.length:=by simpa using hj
  obtain⟨cs,r1,r2,r3⟩:=q3 j hj';refine⟨cs,r1,r2,?_⟩;rw[List.getElem_map];exact(r3.has (Nat.le_trans (hs _ (List.getElem_mem hj')) hd)).1
 ·obtain⟨y,hy,rfl⟩:=List.mem_map.1 hx
  obtain⟨j,hj,rfl⟩:=List.getElem_of_mem hy;obtain⟨cs,-,r3⟩:=key j hj;have:=hs _ (List.getElem_mem hj);exact Nat.le_trans (r3.has Aa).2 this
theorem En.qsz{w:World}{v:Value}{l:List JQ}{d:Nat}(h:En w v l)(hs:∀ x∈l,x.2.length≤d)(hd:d≤1099511627776:=by omega)(h1:1≤d:=by omega)(i:Nat):qsz (cz (l.map Zo) i)≤d:=OX (h.has hs hd).2 h1 i
theorem Ed(k:Nat)(F:Nat→Rat):Dq (k+1) F=Dq k F ++ [(F k).num]:=by simp[Dq,List.range_succ]
theorem FP{n:Nat}(h:n≤1099511627776):n+1≤maxLen:=by simp only[maxLen];omega
theorem bY(l:List Int):Dq l.length (cz l)=l:=by
 apply List.ext_getElem
 ·rw[AY]
 ·intro i h1 h2;rw[Cf,Ch h2];rfl
end Go.Hp
namespace Go.Proofs.YtmhgnigpmompmaaGreat
open Go.RowKit Go.Hp
theorem Fz(W:World)(base ty g:Nat)(v:Value)(l:List Int)(q:Int){b:Bool}{A:Option Addr}{n c:Nat}(h:CE base 26 W v l)(hq:AO W (.agg #[.bool b,.slice A n c]) q)(hn:l.length≤1099511627776)(hb:base≤W.heap.size)(hg:g=W.heap.size) :
  ∃ v' w',(Builtin.append_ #[22,22] ty #[v,.slice (some ⟨g,0,none⟩) 1 1]).run Tryz.prog (W.alloc (.cells #[.bool b,.slice A n c] 26)) = .ok v' w'∧(CE base 26 w' v' (l ++ [q])∧Cs (blk v) (W.alloc (.cells #[.bool b,.slice A n c] 26)) w'):=by
 subst hg;obtain⟨g,cs,e1,h1,h2,h3,h4⟩:=Es.mk hq (base:=W.heap.size) (Nat.le_refl _) 26;cases e1;obtain⟨i0,hi,hz0,hz1,hz2⟩:=info_parts GA;have ho:=AO.one h4;have hx:=(Ext.refl W).alloc (.cells #[.bool b,.slice A n c] 26);obtain⟨v',w',a,b,c⟩:=BI.append (P:=Tryz.prog) (h.ext hx) 22 ty i0 _ 32 Tryz.underlying22 hi hz0 hz1 hz2 rfl (by simp[nodig,Ag,Value.cells]) Ab ⟨W.heap.size,0,none⟩ 1 cs h3 h4 h2.news ho.1 ho.2.1 (FP hn) Aa (Nat.le_trans hb hx.size) (fun _ _ _ k hq=>AO.kd hq k)
 exact⟨v',w',a,b,c⟩
theorem CW(v:Value)(l:List Int)(w:World)(hv:Dt 0 w v l)(hn:l.length≤1099511627776):Bh 47 #[v] w (fun r w'=>AP w.heap.size w' r (cz l)):=by
 have hqs:=hv.sz;obtain⟨A,c,rfl,hl,hc,hA⟩:=hv;have HA:Hid (GI 0 w A l):=Ad hA;clear hA;have HQ:=Ad hqs;clear hqs
 go_enter Tryz.func47,Tryz.ntmps47
 go_wp2
 go_loopw [3,4] (fun ov iv wr=>∃ (k:Nat),k≤l.length∧iv = .int .i64 k∧CE w.heap.size 26 wr ov (Dq k (cz l))∧Ext w wr) (fun _ iv _=>l.length - (intOf iv).toNat)
 case atStart=>exact⟨0,Nat.zero_le _,rfl,BI.nil _ _ _ _ _,Ext.refl _⟩
 case round =>
  obtain⟨k,hk,rfl,hown,hx⟩:=hrel;by_cases hkl:k < l.length
  ·obtain⟨g,o,b,A1,n,c1,rfl,_,q0,q1,hq⟩:=HA.out.at_ (j:=k) hkl
   replace q0:=hx.cell q0;replace q1:=hx.cell q1;have Hq:=Ad (hq.kd hx.kd);clear hq
   go_wp2_with fail
   refine AL (EN _ _ _ Hq.out) ?_;rintro r w2 hr hx2;obtain⟨b5,A5,n5,c5,rfl⟩:=hr.cells;have Hr:=Ad hr;clear hr;replace hown:=hown.ext hx2;replace hx:=hx.trans hx2;have Hown:=Ad hown;clear hown;have hsz:=hx.size;clear hx2 q0 q1 Hq
   go_wp2_with (at_builtin;refine AB rfl _ _ 22 rfl u3 (.slice (some ⟨w2.heap.size,0,none⟩) 1 1) rfl rfl (Fz w2 w.heap.size _ _ _ _ _ Hown.out Hr.out (by first | (rw[AY];omega) | omega) hsz rfl) ?_)
   first | intro v' w5 hown U | rintro v' w5 ⟨hown,U⟩
   replace hx:=(Hown.out.ext ((Ext.refl w2).alloc _)).from_ U (hx.alloc _) (Nat.le_refl _);have Hown':=Ad hown;clear hown U;go_wp2
   go_roundw
   case rel=>exact⟨k+1,Aa,by go_num,by rw[Ed,Ch hkl];exact Hown'.out,hx⟩
   case measure=>simp[intOf]<;>omega
  ·obtain rfl:k=l.length:=by omega
   rw[bY]at hown;obtain⟨A2,c2,rfl,h2,h3,h4⟩:=CE.row hown;have Hrow:Hid (LU w.heap.size wr A2 l):=Ad h4;clear h4 hown;have hx0:=hx;go_wp2;clear hx
   go_loopw [5] (fun nv wx=>∃ m:Nat,m≤l.length∧nv = .int .i64 m∧(∀ j,m≤j→(h:j < l.length)→l[j]=0)∧Ext wr wx) (fun nv _=>(intOf nv).toNat)
   case atStart=>exact⟨l.length,Nat.le_refl _,rfl,fun j h1 h2=>Aa,Ext.refl _⟩
   case round =>
    obtain⟨m,hm,rfl,hz,hx⟩:=hrel;have Hz:=Ad hz;clear hz;by_cases h0:0 < m
    ·obtain⟨m,rfl⟩:∃ k,m=k+1:=⟨m - 1,Aa⟩
     have hml:m < l.length:=by omega
     have Hrow':Hid (LU w.heap.size _ A2 l):=Ad Hrow.out;obtain⟨g,o,b,A1,n,c1,rfl,hb,q0,q1,hq⟩:=Hrow'.out.at_ (j:=m) hml;replace q0:=hx.cell q0;replace q1:=hx.cell q1;have Hq:=Ad ((hq.has (HQ.out _ (List.getElem_mem hml))).kd hx.kd);clear hq
     go_wp2_with fail
     refine AL (IX _ l[m] _ Hq.out) ?_;rintro r w2 rfl hx2;by_cases hd0:l[m]'(Aa)=0
     ·have hb:(l[m].sign==0)=true:=by rw[hd0];rfl
      have Hd:=Ad hd0;clear hd0;go_wp2
      go_roundw
      case rel=>exact⟨m,Aa,by go_num,fun j h1 h2=>by
       rcases Nat.eq_or_lt_of_le h1 with e | e
       ·subst e;exact Hd.out
       ·exact Hz.out j Aa h2,hx.trans hx2⟩
      case measure=>simp[intOf]<;>omega
     ·have hb:(l[m].sign==0)=false:=by
       have:l[m].sign≠0:=fun e=>hd0 (Int.sign_eq_zero_iff_zero.1 e);simpa using this
      have Hd:=Ad hd0;clear hd0;go_wp2
      go_ret
      have hlen:=Ie hm Hz.out (fun h _=>by simpa using Hd.out);have hR:=(LG.trim (Hrow.out.ext (hx.trans hx2)) h2 h3)
      rw[hlen]at hR;exact Ah.mk (AP.of_trim hR rfl) ((hx0.trans hx).trans hx2)
    ·obtain rfl:m=0:=by omega
     have hlen:=Ie hm Hz.out (fun h hh=>Aa);have hR:=(LG.trim (Hrow.out.ext hx) h2 h3)
     rw[hlen]at hR;have HR:=Ad (Ak hR hlen);clear hR hlen;go_wp2
     go_ret
     exact Ah.mk (AP.of_trim HR.out.1 rfl) (hx0.trans hx)
theorem Fw(v:Value)(l:List Int)(w:World)(hv:Dt 0 w v l)(hn:l.length≤1099511627776):Bh 15 #[v] w (fun r _=>r = .int .i64 ((pl (cz l):Int) - 1)):=by
 have HV:=Ad hv;obtain⟨A,c,rfl⟩:=hv.len;clear hv;have hpl:pl (cz l)≤l.length:=Bq (BK l)
 go_enter Tryz.func15,Tryz.ntmps15
 go_wp2_with fail
 refine AL (CW _ l _ HV.out hn) ?_;rintro r w1 hr hx1;obtain⟨A2,c2,rfl,-⟩:=hr.shape;clear hr;go_wp2
 go_ret
 exact Ah.mk rfl hx1
theorem Ro(v:Value)(l:List Int)(k:Nat)(w:World)(hv:Dt 0 w v l)(hk:k≤9223372036854775807):Bh 131 #[v,.int .i64 (k:Nat)] w (fun r w'=>AO w' r (cz l k).num):=by
 obtain⟨A,c,rfl,hl,hc,hA⟩:=hv;by_cases hkl:k < l.length
 ·obtain⟨g,o,b,A1,n,c1,rfl,_,q0,q1,hq⟩:=GI.at_ hA (j:=k) hkl
  rw[Ch hkl];have Hq:=Ad hq;clear hq hA;have hkc:(k:Int) < l.length:=by omega
  replace q0:=((Ext.refl w).alloc (.cells #[.bool false,.slice none 0 0] 26)).cell q0;replace q1:=((Ext.refl w).alloc (.cells #[.bool false,.slice none 0 0] 26)).cell q1
  go_enter Tryz.func131,Tryz.ntmps131
  go_wp2_with fail
  refine AL (EN _ _ _ (Hq.out.kd ((Ext.refl w).alloc _).kd)) ?_;rintro r w1 hr hx1;clear q0 q1;obtain⟨b5,A5,n5,c5,rfl⟩:=hr.cells;have hc1:=hx1.cells;have hf1:=hx1.frozens;have Hfin:=Ad (Ci hr hx1.a1 (AX.at_ hx1 (g:=w.heap.size+0) Ac (by simp[Ag])) Aa);clear hr;go_wp2;refine bodyPost_ret (v := .agg #[.bool b5,.slice A5 n5 c5]) (by simp[results,Tryz.results131,go_sem,hc1]) rfl ?_;exact Hfin.out
 ·have hz:(cz l k).num=0:=by rw[Iw Aa];rfl
  have hkc:¬ (k:Int) < l.length:=by omega
  have Hz:=Ad hz;clear hz hA;rw[Hz.out]
  go_enter Tryz.func131,Tryz.ntmps131
  go_wp2_with fail
  refine AL (Jy 0 _ Aa Aa) ?_;rintro r w1 hr hx1;obtain⟨b5,A5,n5,c5,rfl⟩:=hr.cells;have hc1:=hx1.cells;have hf1:=hx1.frozens;have Hfin:=Ad (Ci hr hx1.a1 (AX.at_ hx1 (g:=w.heap.size+0) Ac (by simp[Ag])) Aa);clear hr;go_wp2;refine bodyPost_ret (v := .agg #[.bool b5,.slice A5 n5 c5]) (by simp[results,Tryz.results131,go_sem,hc1]) rfl ?_;exact Hfin.out
theorem YO(v:Value)(l:List Int)(w:World)(hv:Dt 0 w v l):Bh 131 #[v,.int .i64 (-1)] w (fun r w'=>AO w' r 0):=by
 obtain⟨A,c,rfl,hl,hc,hA⟩:=hv;clear hA
 go_enter Tryz.func131,Tryz.ntmps131
 go_wp2_with fail
 refine AL (Jy 0 _ Aa Aa) ?_;rintro r w1 hr hx1;obtain⟨b5,A5,n5,c5,rfl⟩:=hr.cells;have hc1:=hx1.cells;have hf1:=hx1.frozens;have Hfin:=Ad (Ci hr hx1.a1 (AX.at_ hx1 (g:=w.heap.size+0) Ac (by simp[Ag])) Aa);clear hr;go_wp2;refine bodyPost_ret (v := .agg #[.bool b5,.slice A5 n5 c5]) (by simp[results,Tryz.results131,go_sem,hc1]) rfl ?_;exact Hfin.out
theorem KG(v:Value)(l:List Int)(w:World)(hv:Dt 0 w v l)(hn:l.length≤1099511627776):Bh 74 #[v] w (fun r w'=>AO w' r (ld (cz l)).num):=by
 have HV:=Ad hv;obtain⟨A,c,rfl⟩:=hv.len;clear hv;have hpl:pl (cz l)≤l.length:=Bq (BK l);obtain⟨X,hX⟩:∃ X,X=(ld (cz l)).num:=⟨_,rfl⟩
 rw[←hX];have HX:=Ad hX;clear hX
 go_enter Tryz.func74,Tryz.ntmps74
 go_wp2_with fail
 refine AL (Fw _ l _ (HV.out.ext ((Ext.refl w).alloc _)) hn) ?_;rintro r w1 rfl hx;by_cases h0:0 < pl (cz l)
 ·obtain⟨k,hk⟩:∃ k:Nat,k=pl (cz l) - 1:=⟨_,rfl⟩
  have e1:(pl (cz l):Int) - 1=(k:Nat):=by omega
  have hl:X=(cz l k).num:=by rw[HX.out];unfold ld;rw[hk]
  have HL:=Ad hl;rw[e1];have hk9:k≤9223372036854775807:=by omega
  clear e1 hl hk
  go_wp2_with fail
  refine AL (Ro _ l k _ (HV.out.ext hx.a1) hk9) ?_;rintro r w2 hr hx2;rw[←HL.out]at hr;have hx1:=hx.trans hx2;clear hx hx2;obtain⟨b5,A5,n5,c5,rfl⟩:=hr.cells;have hc1:=hx1.cells;have hf1:=hx1.frozens;have Hfin:=Ad (Ci hr hx1.a1 (AX.at_ hx1 (g:=w.heap.size+0) Ac (by simp[Ag])) Aa);clear hr;go_wp2;refine bodyPost_ret (v := .agg #[.bool b5,.slice A5 n5 c5]) (by simp[results,Tryz.results74,go_sem,hc1]) rfl ?_
  exact Hfin.out
 ·have e1:(pl (cz l):Int) - 1 = -1:=by omega
  have hl:X=0:=by rw[HX.out];unfold ld;rw[show pl (cz l) - 1=0 from Aa,(BG (Af.cz l)).1 Aa];rfl
  have HL:=Ad hl;rw[e1];clear e1 hl
  go_wp2_with fail
  refine AL (YO _ l _ (HV.out.ext hx.a1)) ?_;rintro r w2 hr hx2;rw[←HL.out]at hr;have hx1:=hx.trans hx2;clear hx hx2;obtain⟨b5,A5,n5,c5,rfl⟩:=hr.cells;have hc1:=hx1.cells;have hf1:=hx1.frozens;have Hfin:=Ad (Ci hr hx1.a1 (AX.at_ hx1 (g:=w.heap.size+0) Ac (by simp[Ag])) Aa);clear hr;go_wp2;refine bodyPost_ret (v := .agg #[.bool b5,.slice A5 n5 c5]) (by simp[results,Tryz.results74,go_sem,hc1]) rfl ?_
  exact Hfin.out
end Go.Proofs.YtmhgnigpmompmaaGreat
namespace Go.Hp
open Go.RowKit
theorem bE{F:Nat→Rat}{a:Int}(hz:ZI F)(ha:a≠0)(i:Nat)(hd:a∣(F i).num):psc (1 / (a:Rat)) F i=(((F i).num / a:Int):Rat):=by
 obtain⟨k,hk⟩:=hd;have ha':(a:Rat)≠0:=fun e=>ha (by exact_mod_cast e);rw[hk,Int.mul_ediv_cancel_left _ ha];show 1 / (a:Rat)*F i=_;rw[hz.num i,hk,Rat.intCast_mul];grind
theorem Sv{base:Nat}{w:World}{v:Value}{n:Nat}{F:Nat→Rat}{e:TypeId}(h:CE base e w v (Dq n F))(hs:∀ i,qsz (F i)≤1099511627776):Dt 0 w v (Dq n F):=
 LG.has h.row fun x hx=>by
  obtain⟨i,hi,rfl⟩:=List.getElem_of_mem hx;rw[Cf];have:=hs i;unfold qsz at this;omega
end Go.Hp
namespace Go.Proofs.YtmhgnigpmompmaaGreat
open Go.RowKit Go.Hp
theorem Jk(W:World)(v x:Value)(base b ty:Nat)(l:List Int)(q:Int)(h:CE base 26 W v l)(hx:Es W x b q 26)(hn:l.length≤1099511627776)(hb:base≤W.heap.size) :
  ∃ v' w',(Builtin.append_ #[22,22] ty #[v,x]).run Tryz.prog W = .ok v' w'∧(CE base 26 w' v' (l ++ [q])∧Cs (blk v) W w'):=by
 obtain⟨g,cs,rfl,h1,h2,h3,h4⟩:=hx;obtain⟨i0,hi,hz0,hz1,hz2⟩:=info_parts GA;have ho:=AO.one h4;obtain⟨v',w',a,b,c⟩:=BI.append (P:=Tryz.prog) h 22 ty i0 _ 32 Tryz.underlying22 hi hz0 hz1 hz2 rfl (by simp[nodig,Ag,Value.cells]) Ab ⟨g,0,none⟩ 1 cs h3 h4 h2.news ho.1 ho.2.1 (FP hn) Aa hb (fun _ _ _ k hq=>AO.kd hq k);exact⟨v',w',a,b,c⟩
theorem GX(v:Value)(l:List Int)(w:World)(hv:Dt 0 w v l)(hs:∀ i,qsz (cz l i)≤549755813888)(hn:l.length≤1099511627776):Bh 126 #[v] w (fun r w'=>AO w' r (cn (cz l):Nat)):=by
 obtain⟨A,c,rfl,hl,hc,hA⟩:=hv;have HA:Hid (GI 0 w A l):=Ad hA;clear hA;have HS:=Ad hs;clear hs;rw[ZV (BK l)]
 go_enter Tryz.func126,Tryz.ntmps126
 go_wp2_with fail
 refine AL (Jy 0 _ Aa Aa) ?_;rintro r w1 hr hx1;obtain⟨b5,A5,n5,c5,rfl⟩:=hr.cells;have ea:=(Bj.new w 26 #[.bool false,.slice none 0 0] (by simp[Ag])).ext hx1;obtain⟨W0,eW,eb,x0⟩:=Bj.made w1 26 #[.bool b5,.slice A5 n5 c5] (by simp[Ag]);replace hr:=hr.kd x0.kd;replace ea:=ea.ext x0;have hs1:=hx1.size;have hx:=hx1.a1.trans x0;have hgb:w.heap.size < w1.heap.size:=by simp at hs1;omega
 go_wp2;rw[←eW];clear eW x0 hx1 hs1;generalize w1.heap.size=gb at *
 go_loopw [4] (fun iv wr=>∃ k:Nat,k≤l.length∧iv = .int .i64 k∧Bj wr w.heap.size 26 #[.bool false,.slice none 0 0]∧Bg wr gb 26 (ct k (cz l):Nat)∧Ext w wr) (fun iv _=>l.length - (intOf iv).toNat)
 case atStart=>exact⟨0,Nat.zero_le _,rfl,ea,Bg.mk eb hr,hx⟩
 case round =>
  clear hx ea eb hr;obtain⟨k,hk,rfl,ea,⟨b,B,bn,bc,eb,hb⟩,hx⟩:=hrel;have Hb:=Ad hb;clear hb;by_cases hkl:k < l.length
  ·obtain⟨g,o,b1,A1,n,c1,rfl,_,q0,q1,hq⟩:=HA.out.at_ (j:=k) hkl
   replace q0:=hx.cell q0;replace q1:=hx.cell q1;have Hq:=Ad (hq.kd hx.kd);clear hq;have hsk:=FV HS.out k;have hqk:=HS.out k;rw[Ch hkl,Bi]at hqk;have HK:=Ad (Ak hsk hqk);clear hsk hqk;obtain⟨r0,r1⟩:=eb.cells2;have e1:Int.gcd (ct k (cz l):Nat) l[k]=ct (k+1) (cz l):=by rw[Gd,Ch hkl];rfl
   have He:=Ad e1;clear e1
   go_wp2_with fail
   refine Ae 6 [12,13,14,15,16,17] [[],[],[],[1,2],[1,2,3],[0,1,2,3,4],[0,1,2,3,4,5]] [3,0,4] [_,_,_] [(kv ?_),(kv ?_),(kv ?_),(kv ?_),(kv ?_),(fun γ=>γ 5)] (fun γ w'=>[True,True,True,True,True,AO w' (γ 5) (ct (k+1) (cz l):Nat)]) Bn Aj Aj Bo Aj Bl Br ?hstep1 ?_
   case hstep1 =>
    iterate 6 refine⟨?_,?_⟩
    trivial
    iterate 5 focus
     intro γ w' he hf;clear hf;refine⟨by trivial,?_⟩;intro R hR;have hc:=he.cells;have cq0:=he.cell q0;have cq1:=he.cell q1;have cq2:=he.cell r0;have cq3:=he.cell r1;go_simp;(try go_ints);(try(rw[if_neg Aa]));(try(rw[if_pos Aa]));(try go_simp);(try go_ints)
     refine hR _ _ (Ext.refl _) ?_ trivial;rfl
    ·intro γ w' he hf;clear hf;refine⟨trivial,?_⟩;intro R hR
     go_simp;exact Bd (He.out▸Uc _ _ (ct k (cz l):Nat) l[k] w' ((Hb.out.kd he.kd).has (by have:=HK.out.1;simp;omega)) (Hq.out.kd he.kd) (by have:=HK.out.1;simp;omega) (by have:=HK.out.2;omega)) hR
   intro γ w2 hx2 hF;have p5:AO w2 (γ 5) (ct (k+1) (cz l):Nat):=AA.get hF 5 Ab;clear hF;simp only[Bf,Nat.reduceAdd];generalize γ 5=g5 at *;clear γ;obtain⟨b6,A6,n6,c6,rfl⟩:=p5.cells;replace ea:=ea.ext hx2;replace eb:=eb.ext hx2;replace hx:=hx.trans hx2;clear hx2 q0 q1 r0 r1 He HK Hb Hq;obtain⟨ceb0,ceb1⟩:=eb.cells2;have feb:=eb.frozen;go_wp2;obtain⟨W3,eW,eb',U⟩:=eb.put2 (.bool b6) (.slice A6 n6 c6) rfl rfl
   rw[←eW];clear eW eb;replace p5:=p5.kd U.kd;replace ea:=ea.upd U Ai;replace hx:=U.from_ hx Ai;have eb:=eb';clear U eb'
   go_roundw
   case rel=>exact⟨k+1,Aa,by go_num,ea,Bg.mk eb p5,hx⟩
   case measure=>simp[intOf];omega
  ·obtain rfl:k=l.length:=by omega
   obtain⟨cea0,cea1⟩:=ea.cells2;have fea:=ea.frozen;obtain⟨ceb0,ceb1⟩:=eb.cells2;have feb:=eb.frozen;go_wp2;have hr:=Hb.out;obtain⟨W3,eW,ea',U⟩:=ea.put2 (.bool b) (.slice B bn bc) rfl rfl;rw[←eW];clear eW ea;replace hr:=hr.kd U.kd;replace hx:=U.from_ hx Ai;have ea:=ea';clear U ea';clear cea0 cea1;obtain⟨cea0,cea1⟩:=ea.cells2;have fea:=ea.frozen;refine bodyPost_ret (v := .agg #[.bool b,.slice B bn bc]) (by simp[results,Tryz.results126,go_sem,cea0,cea1]) rfl ?_
   exact Ah.mk hr hx
set_option maxRecDepth 20000 in
theorem OO(v u:Value)(l:List Int)(a:Int)(w:World)(hv:Dt 0 w v l)(hu:Bu w u a)(hs:∀ i,qsz (cz l i)≤549755813888)(sa:sz a.natAbs≤549755813888)(ha:a≠0)(hd:∀ i,a∣(cz l i).num)(hn:l.length≤549755813888) :
  Bh 125 #[v,u] w (fun r w'=>AP w.heap.size w' r (psc (1 / (a:Rat)) (cz l))):=by
 have HU:=Ad hu;obtain⟨b1,A1,n1,c1,rfl⟩:=hu.cells;obtain⟨A,c,rfl,hl,hc,hA⟩:=hv;clear hu;have HA:Hid (GI 0 w A l):=Ad hA;clear hA;obtain⟨G,hG⟩:∃ G,G=psc (1 / (a:Rat)) (cz l):=⟨_,rfl⟩
 have hGi:∀ i,G i=(((cz l i).num / a:Int):Rat):=fun i=>by rw[hG];exact bE (ZI.cz l) ha i (hd i)
 have hGs:BB l.length G:=by rw[hG];exact(BK l).psc _
 have hGq:∀ i,qsz (G i)≤549755813888:=fun i=>by
  rw[hGi,Bi];have h1:=Kv (hd i);have h2:=hs i;unfold qsz at h2;omega
 rw[←hG];have HG:=Ad (Ak hGi (Ak hGs (Ak hGq (show ZI G from fun i=>⟨_,hGi i⟩))));clear hG hGi hGs hGq;have HS:=Ad (Ak hs (Ak ha hd));clear hs ha hd
 go_enter Tryz.func125,Tryz.ntmps125
 go_wp2
 go_loopw [5,6] (fun ov iv wr=>∃ (k:Nat),k≤l.length∧iv = .int .i64 k∧CE (w.heap.size+1) 26 wr ov (Dq k G)∧Ext (w.alloc (.cells #[.bool b1,.slice A1 n1 c1] 26)) wr) (fun _ iv _=>l.length - (intOf iv).toNat)
 case atStart=>exact⟨0,Nat.zero_le _,rfl,BI.nil _ _ _ _ _,Ext.refl _⟩
 case round =>
  obtain⟨k,hk,rfl,hown,hx⟩:=hrel;by_cases hkl:k < l.length
  ·obtain⟨g,o,b,A2,n,c2,rfl,_,q0,q1,hq⟩:=HA.out.at_ (j:=k) hkl
   replace q0:=hx.a1.cell q0;replace q1:=hx.a1.cell q1;have ca0:=hx.box (g:=w.heap.size) (i:=0) rfl rfl;have ca1:=hx.box (g:=w.heap.size) (i:=1) rfl rfl;have hqk:=HS.out.1 k;rw[Ch hkl,Bi]at hqk;have hGk:l[k] / a=(G k).num:=by rw[HG.out.1,Ch hkl];rfl
   have Hq:=Ad (Ak hq (Ak hqk hGk));clear hq hqk hGk;have Hown:=Ad hown;clear hown
   go_wp2_with fail
   refine Ae 8 [13,14,15,16,17,18,19,20] [[],[],[],[1,2],[1,2,3],[],[1,2,3,4,5],[1,2,3,4,5,6],[0,1,2,3,4,5,6,7],[0,1,2,3,4,5,6,7,8]] [5,0,6,3] [_,_,_,_] [(kv ?_),(kv ?_),(kv ?_),(kv ?_),(kv ?_),(kv ?_),(fun γ=>γ 6),(fun γ=>γ 7)] (fun γ w'=>[True,True,True,True,True,True,AO w' (γ 6) (G k).num,Es w' (γ 7) (wr.heap.size) ((G k).num) 26]) Bn Aj Aj Bo Aj Bl Br ?hstep2 ?_
   case hstep2 =>
    iterate 8 refine⟨?_,?_⟩
    trivial
    iterate 6 focus
     intro γ w' he hf;clear hf;refine⟨by trivial,?_⟩;intro R hR;have hc:=he.cells;have cq0:=he.cell q0;have cq1:=he.cell q1;have cq2:=he.cell ca0;have cq3:=he.cell ca1;go_simp;(try go_ints);(try(rw[if_neg Aa]));(try(rw[if_pos Aa]));(try go_simp);(try go_ints)
     refine hR _ _ (Ext.refl _) ?_ trivial;rfl
    ·intro γ w' he hf;clear hf;refine⟨trivial,?_⟩;intro R hR
     go_simp;exact Bd (Hq.out.2.2▸Io _ _ _ _ w' (Hq.out.1.kd (hx.a1.trans he).kd) (HU.out.kd (hx.a1.trans he).kd) HS.out.2.1 (by have:=Hq.out.2.1;omega) sa) hR
    ·intro γ w' he hf;have f6:AO w' (γ 6) (G k).num:=hf 6 Ab;clear hf;refine⟨trivial,?_⟩;intro R hR
     refine AO.el f6 fun b5 A5 n5 c5 e6 f6'=>?_;clear f6;go_simp;exact hR _ _ ((Ext.refl _).alloc _) rfl (Es.mk f6' (Nat.le_trans Ac he.size) _)
   intro γ w1 hx1 hF;have p6:AO w1 (γ 6) (G k).num:=AA.get hF 6 Ab;have p7:Es w1 (γ 7) (wr.heap.size) ((G k).num) 26:=AA.get hF 7 Ab;clear hF;simp only[Bf,Nat.reduceAdd];generalize γ 6=g6 at *;generalize γ 7=g7 at *;clear γ;have hs:w.heap.size+1≤wr.heap.size:=by have:=hx.size;simpa using this
   have hs1:=hx1.size;refine AB rfl _ _ 22 rfl u5 g7 rfl rfl (Jk w1 _ _ (w.heap.size+1) _ _ _ _ (Hown.out.ext hx1) p7 (by rw[AY];omega) Aa) ?_;rintro v' w2 ⟨hown,U⟩;replace hx:=(Hown.out.ext hx1).from_ U (hx.trans hx1) Ac;have Hown':=Ad hown;clear hown U p7 p6 q0 q1 ca0 ca1;go_wp2
   go_roundw
   case rel=>exact⟨k+1,Aa,by go_num,by rw[Ed];exact Hown'.out,hx⟩
   case measure=>simp[intOf]<;>omega
  ·obtain rfl:k=l.length:=by omega
   have hh:=Sv hown (fun i=>by have:=HG.out.2.2.1 i;omega);obtain⟨A2,c2,e2⟩:=hh.len;rw[AY]at e2;rw[e2]at hh;clear hown;subst e2;have hczl:=EC HG.out.2.2.2 HG.out.2.1;have HH:=Ad (Ak hh hczl);clear hh hczl
   go_wp2_with fail
   refine AL (CW _ _ _ HH.out.1 (by rw[AY];omega)) ?_;rintro r w9 hr hx9;rw[HH.out.2]at hr;have hsz:=hx.a1.size;have Hr:=Ad hr;clear hr;go_wp2
   go_ret
   exact Ah.mk (Hr.out.base_le hsz) (hx.a1.trans hx9)
theorem EG(v:Value)(l:List Int)(w:World)(hv:Dt 0 w v l)(hs:∀ i,qsz (cz l i)≤549755813888)(hn:l.length≤549755813888) :
  Bh 104 #[v] w (fun r w'=>AP w.heap.size w' r (pp (cz l))):=by
 have HV:=Ad hv;obtain⟨A,c,rfl⟩:=hv.len;clear hv;have hfin:=Af.cz l;have hzi:=ZI.cz l;have HX:=Ad (Ak hs (Ak hfin hzi));clear hs hfin hzi
 go_enter Tryz.func104,Tryz.ntmps104
 go_wp2_with fail
 refine AL (GX _ l _ HV.out HX.out.1 Aa) ?_;rintro r1 w1 hr1 hx1;obtain⟨b5,A5,n5,c5,rfl⟩:=hr1.cells;obtain⟨W0,eW,eb,x0⟩:=Bj.made w1 26 #[.bool b5,.slice A5 n5 c5] (by simp[Ag]);replace hr1:=hr1.kd x0.kd;have hs1:=hx1.size;replace hx1:=hx1.trans x0;have hcz:sz ((cn (cz l):Nat):Int).natAbs≤549755813888:=by have:=FV HX.out.1 (pl (cz l));simpa[cn] using this
 have Hr1:=Ad (Ak hr1 hcz);clear hr1 hcz;subst eW;clear x0;obtain⟨C,hC⟩:∃ C,C=cn (cz l):=⟨_,rfl⟩
 rw[←hC]at Hr1;have HC:=Ad hC;clear hC
 go_upto_region 2 with(fail)
 generalize w1.alloc (.cells #[.bool b5,.slice A5 n5 c5] 26)=W0 at *;generalize w1.heap.size=gb at *;obtain⟨ceb0,ceb1⟩:=eb.cells2;have feb:=eb.frozen
 go_wp2_with fail
 refine AL (IX _ (C:Int) _ (Hr1.out.1.has (by have:=Hr1.out.2;omega))) ?_;rintro r2 w2 rfl hx2;by_cases h0:C=0
 ·have hb:((C:Int).sign==0)=true:=by rw[h0];rfl
  have hF:cz l=pz:=Classical.byContradiction fun h=>IW HX.out.2.2 HX.out.2.1 h (by rw[←HC.out,h0]);have HF:=Ad hF;clear hF h0;go_wp2
  go_ret
  rw[HF.out,GH];exact Ah.mk (AP.nil _ _) (hx1.trans hx2)
 ·have hb:((C:Int).sign==0)=false:=by
   have:(C:Int).sign≠0:=fun e=>h0 (by have:=Int.sign_eq_zero_iff_zero.1 e;omega);simpa using this
  have hF:cz l≠pz:=fun h=>h0 (by rw[HC.out,h,Nk]);have HF:=Ad hF;clear hF h0;replace eb:=eb.ext hx2;have Hr2:=Ad (Hr1.out.1.kd hx2.kd);replace hx1:=hx1.trans hx2;have hHC:=Hr1.out.2;clear hx2 ceb0 ceb1 feb
  go_wp2_with fail
  refine AL (KG _ l _ (HV.out.ext hx1) Aa) ?_;rintro r3 w3 hr3 hx3;have hlz:sz (ld (cz l)).num.natAbs≤1099511627776:=by have:=HX.out.1 (pl (cz l) - 1);unfold qsz at this;show sz (cz l (pl (cz l) - 1)).num.natAbs≤_;omega
  have Hr3:=Ad (hr3.has hlz);clear hr3 hlz;replace eb:=eb.ext hx3;have Hr4:=Ad (Hr2.out.kd hx3.kd);replace hx1:=hx1.trans hx3;clear hx3 Hr2
  go_wp2_with fail
  refine AL (IX _ (ld (cz l)).num _ Hr3.out) ?_;rintro r4 w4 rfl hx4;replace eb:=eb.ext hx4;have Hr2:=Ad (Hr4.out.kd hx4.kd);replace hx1:=hx1.trans hx4;clear hx4 Hr3 Hr4;have hldz:ld (cz l)=((ld (cz l)).num:Rat):=HX.out.2.2.num _;have hpd:=fun i=>Ji HX.out.2.1 i;have hpn:=EI HX.out.2.2 HX.out.2.1 HF.out;have hpa:sz (pcn (cz l)).natAbs≤549755813888:=by rw[Fj];simpa[HC.out] using hHC
  by_cases hneg:(ld (cz l)).num < 0
  ·have hb2:decide ((ld (cz l)).num < 0)=true:=by simpa using hneg
   have hpc:pcn (cz l) = -(C:Int):=by
    unfold pcn;rw[hldz,if_pos (by exact_mod_cast hneg),HC.out]
   have Hpc:=Ad (Ak hpc (Ak hpd (Ak hpn hpa)));clear hpc hldz hpd hpn hpa hneg;obtain⟨ceb0,ceb1⟩:=eb.cells2;have feb:=eb.frozen
   go_wp2_with fail
   refine AL (Uj _ (C:Int) _ (Hr2.out.has Aa)) ?_;rintro r5 w5 hr5 hx5;obtain⟨b6,A6,n6,c6,rfl⟩:=hr5.cells;replace eb:=eb.ext hx5;replace hx1:=hx1.trans hx5;clear hx5 ceb0 ceb1 feb Hr2;obtain⟨ceb0,ceb1⟩:=eb.cells2;have feb:=eb.frozen
   go_upto_region 6 with(fail)
   obtain⟨W3,eW,eb',U⟩:=eb.put2 (.bool b6) (.slice A6 n6 c6) rfl rfl;rw[←eW];clear eW eb;replace hr5:=hr5.kd U.kd;replace hx1:=U.from_ hx1 Ai;have eb:=eb';clear U eb';clear ceb0 ceb1 feb;obtain⟨ceb0,ceb1⟩:=eb.cells2;have feb:=eb.frozen;rw[←Hpc.out.1]at hr5;have Hr5:=Ad (hr5.has (by have:=Hpc.out.2.2.2;omega));clear hr5
   go_wp2_with fail
   refine AL (OO _ _ l (pcn (cz l)) _ (HV.out.ext hx1) Hr5.out HX.out.1 Hpc.out.2.2.2 Hpc.out.2.2.1 Hpc.out.2.1 hn) ?_;rintro r6 w6 hr6 hx6;have hsz:=hx1.size;have Hr6:=Ad hr6;clear hr6;go_wp2
   go_ret
   exact Ah.mk (Hr6.out.base_le hsz) (hx1.trans hx6)
  ·have hb2:decide ((ld (cz l)).num < 0)=false:=by simpa using hneg
   have hpc:pcn (cz l)=(C:Int):=by
    unfold pcn;rw[hldz,if_neg (by intro h;exact hneg (by exact_mod_cast h)),HC.out]
   have Hpc:=Ad (Ak hpc (Ak hpd (Ak hpn hpa)));clear hpc hldz hpd hpn hpa hneg;obtain⟨ceb0,ceb1⟩:=eb.cells2;have feb:=eb.frozen;have hr5:=Hr2.out;rw[←Hpc.out.1]at hr5;have Hr5:=Ad (hr5.has (by have:=Hpc.out.2.2.2;omega));clear hr5
   go_wp2_with fail
   refine AL (OO _ _ l (pcn (cz l)) _ (HV.out.ext hx1) Hr5.out HX.out.1 Hpc.out.2.2.2 Hpc.out.2.2.1 Hpc.out.2.1 hn) ?_;rintro r6 w6 hr6 hx6;have hsz:=hx1.size;have Hr6:=Ad hr6;clear hr6;go_wp2
   go_ret
   exact Ah.mk (Hr6.out.base_le hsz) (hx1.trans hx6)
end Go.Proofs.YtmhgnigpmompmaaGreat
namespace Go.Hp
open Go.RowKit
def JU(w:World)(v:Value)(x:Int):Prop:=∃ a,v = .tuple #[a,.int .i64 0]∧AO w a x
theorem JU.ext{w w':World}{v:Value}{x:Int}(h:JU w v x)(e:Ext w w'):JU w' v x:=by
 obtain⟨a,h1,h2⟩:=h;exact⟨a,h1,h2.kd e.kd⟩
theorem BD.dens{w:World}{b b':Bool}{A A':Option Addr}{n c n' c':Nat}{q:Rat}(h:BD w (.agg #[.bool b,.slice A n c,.bool b',.slice A' n' c']) q)(hs:qsz q≤274877906944):Bu w (.agg #[.bool b',.slice A' n' c']) (q.den:Int)∧Bu w (.agg #[.bool b,.slice A n c]) q.num:=by
 have h1:=h.parts4;have h2:=Ht q;have h3:=Fh q;exact⟨h1.2.has Aa,h1.1.has Aa⟩
theorem AP.upd{base:Nat}{G:List Nat}{w w':World}{v:Value}{F:Nat→Rat}(h:AP base w v F)(U:Cs G w w')(hG:∀ g∈G,g < base):AP base w' v F:=by
 obtain⟨l,h1,h2,h3⟩:=h;exact⟨l,CZ.upd h1 U hG fun _ _ q=>q.kd U.kd,h2,h3⟩
def LD(bs n:Nat)(F:Nat→Rat)(r:Value)(w':World):Prop:=∃ a b,r = .tuple #[a,b]∧AP bs w' a (pp (CO n F))∧BD w' b (KL n F)
theorem PV(n:Nat):CO n pz=pz:=FU _
theorem SB(n:Nat):KL n pz=0:=by
 unfold KL;rw[PV,GH];show(0:Rat) / 0=0
 decide +kernel
end Go.Hp
namespace Go.Proofs.YtmhgnigpmompmaaGreat
open Go.RowKit Go.Hp
theorem X8(W:World)(base ty g:Nat)(v:Value)(l:List Int)(q:Int){b:Bool}{A:Option Addr}{n c:Nat}(h:CE base 26 W v l)(hq:AO W (.agg #[.bool b,.slice A n c]) q)(hn:l.length≤1099511627776)(hb:base≤W.heap.size)(hg:g=W.heap.size) :
  ∃ v' w',(Builtin.append_ #[23,23] ty #[v,.slice (some ⟨g,0,none⟩) 1 1]).run Tryz.prog (W.alloc (.cells #[.bool b,.slice A n c] 26)) = .ok v' w'∧(CE base 26 w' v' (l ++ [q])∧Cs (blk v) (W.alloc (.cells #[.bool b,.slice A n c] 26)) w'):=by
 subst hg;obtain⟨g,cs,e1,h1,h2,h3,h4⟩:=Es.mk hq (base:=W.heap.size) (Nat.le_refl _) 26;cases e1;obtain⟨i0,hi,hz0,hz1,hz2⟩:=info_parts GA;have ho:=AO.one h4;have hx:=(Ext.refl W).alloc (.cells #[.bool b,.slice A n c] 26);obtain⟨v',w',a,b,c⟩:=BI.append (P:=Tryz.prog) (h.ext hx) 23 ty i0 _ 32 Tryz.underlying23 hi hz0 hz1 hz2 rfl (by simp[nodig,Ag,Value.cells]) Ab ⟨W.heap.size,0,none⟩ 1 cs h3 h4 h2.news ho.1 ho.2.1 (FP hn) Aa (Nat.le_trans hb hx.size) (fun _ _ _ k hq=>AO.kd hq k)
 exact⟨v',w',a,b,c⟩
set_option maxRecDepth 20000 in
theorem RS(v:Value)(l:List Rat)(w:World)(hv:KU 0 w v l)(hn:l.length≤1099511627776)(h0:co l=pz) :
  Bh 116 #[v] w (fun r w'=>LD w.heap.size 0 pz r w'):=by
 have HV:=Ad hv;obtain⟨A0,c0,rfl⟩:=hv.len;have H0:=Ad h0;clear hv h0
 go_enter Tryz.func116,Tryz.ntmps116
 go_wp2_with fail
 refine AL (Km _ l _ (HV.out.ext ((Ext.refl w).alloc _)) hn) ?_;rintro r1 w1 hr1 hx1;rw[H0.out]at hr1;obtain⟨A1,c1,l1,rfl,k1,k2,-⟩:=hr1.form;rw[Ca];clear hr1 HV k1
 go_wp2_with fail
 refine AL (Ye 0 _ Aa Aa) ?_;rintro r2 w2 hr2 hx2;obtain⟨b5,A5,n5,c5,b6,A6,n6,c6,rfl⟩:=hr2.cells;have ea:=((Bj.new w 28 #[.bool false,.slice none 0 0,.bool false,.slice none 0 0] (by simp[Ag])).ext hx1).ext hx2;have hx:=hx1.a1.trans hx2;obtain⟨cea0,cea1,cea2,cea3⟩:=ea.cells4;have fea:=ea.frozen;clear hx1 hx2;go_wp2;obtain⟨W3,eW,ea',U⟩:=ea.put4 (.bool b5) (.slice A5 n5 c5) (.bool b6) (.slice A6 n6 c6) rfl rfl rfl rfl
 rw[←eW];clear eW ea;replace hr2:=hr2.kd U.kd;replace hx:=U.from_ hx Ai;have ea:=ea';clear U ea';clear cea0 cea1 cea2 cea3;obtain⟨cea0,cea1,cea2,cea3⟩:=ea.cells4;have fea:=ea.frozen;refine bodyPost_ret (v := .tuple #[.slice none 0 0,.agg #[.bool b5,.slice A5 n5 c5,.bool b6,.slice A6 n6 c6]]) (by simp[results,Tryz.results116,go_sem,cea0,cea1,cea2,cea3]) rfl ?_;exact Ah.mk ⟨_,_,rfl,by rw[PV,GH];exact AP.nil _ _,by rw[SB];exact hr2⟩ hx
set_option maxRecDepth 20000 in
theorem YJ(v:Value)(l:List Rat)(s:Nat)(w:World)(hv:KU 0 w v l)(hn:l.length≤1000)(hs:∀ i,qsz (co l i)≤s)(hs0:s≤1000000)(h0:co l≠pz) :
  Bh 116 #[v] w (fun r w'=>LD w.heap.size (pl (co l)) (co l) r w'):=by
 have HV:=Ad hv;obtain⟨A0,c0,rfl⟩:=hv.len;have hfin:=Af.co l;have hNorm:=fun w' (e:Ext w w')=>Km _ l w' (hv.ext e) Aa;have hplen:=Bq (FM l);obtain⟨F,hF⟩:∃ F,F=co l:=⟨_,rfl⟩
 rw[←hF]at hfin h0 hs hplen hNorm;rw[←hF];have hpos:=Be hfin h0;obtain⟨n,hn0⟩:∃ n,n=pl F:=⟨_,rfl⟩
 have hsup:BB n F:=by rw[hn0];exact AU hfin
 have hdl:∀ k,k≤n→sz (dl k F)≤1+1000*1000000:=fun k hk=>by
  have:=UD hs k;have h2:k*s≤1000*1000000:=Nat.mul_le_mul Aa hs0;omega
 have hcq:∀ i,qsz (CO n F i)≤1+1000*1000000+1+1000000:=fun i=>by
  have:=KP (n:=n) hs i;have h2:n*s≤1000*1000000:=Nat.mul_le_mul Aa hs0;omega
 rw[←hn0]at hpos ⊢;have hn3:n≤1000:=by omega
 have HX:=Ad (Ak hn0 (Ak hfin (Ak h0 (Ak hs (Ak hs0 (Ak hsup (Ak hdl hcq)))))));have HN:=Ad hNorm;clear hn0 hfin h0 hs hs0 hsup hdl hcq hNorm hF hv HV hplen hn
 go_enter Tryz.func116,Tryz.ntmps116
 go_wp2_with fail
 refine AL (HN.out _ ((Ext.refl w).alloc _)) ?_;rintro r1 w1 hr1 hx1;obtain⟨A1,c1,l1,rfl,k1,k2,hA,k3,-,k5⟩:=hr1.form;rw[←HX.out.1]at k1 k3 ⊢;have HA:=Ad (Ak hA (Ak k3 k5));clear hA k3 k5 hr1 HN;have ea:=(Bj.new w 28 #[.bool false,.slice none 0 0,.bool false,.slice none 0 0] (by simp[Ag])).ext hx1;have hx:=hx1.a1;have hs1:=hx1.size;rw[World.size_alloc]at hs1;clear hx1
 go_wp2_with fail
 refine AL (Jv 1 _ Aa Aa) ?_;rintro r2 w2 hr2 hx2;obtain⟨b5,A5,n5,c5,rfl⟩:=hr2.cells;obtain⟨W0,eW,eb,x0⟩:=Bj.made w2 26 #[.bool b5,.slice A5 n5 c5] (by simp[Ag]);replace hr2:=hr2.kd x0.kd;have hs2:=hx2.size;have Hx1:=Ad (hx2.trans x0);replace ea:=ea.ext (hx2.trans x0);have hgb:w.heap.size < w2.heap.size:=by omega
 clear hx2;go_wp2;rw[←eW];clear eW x0;generalize w2.heap.size=gb at *
 go_loopw [28] (fun iv wr=>∃ k:Nat,k≤n∧iv = .int .i64 k∧Bj wr w.heap.size 28 #[.bool false,.slice none 0 0,.bool false,.slice none 0 0]∧Bg wr gb 26 (dl k F:Nat)∧Ext w1 wr) (fun iv _=>n - (intOf iv).toNat)
 case atStart=>exact⟨0,Nat.zero_le _,rfl,ea,Bg.mk eb hr2,Hx1.out⟩
 case round =>
  clear ea eb hr2 Hx1;obtain⟨k,hk,rfl,ea,⟨b,B,bn,bc,eb,hb⟩,hx2⟩:=hrel;have Hb:=Ad hb;clear hb;by_cases hkn:k < n
  ·have hkl1:k < l1.length:=by have:=HA.out.2.1;omega
   obtain⟨g,o,b1,B1,n1,d1,b2,B2,n2,d2,rfl,_,q0,q1,q2,q3,hq⟩:=HA.out.1.at_ (j:=k) hkl1;rw[←DW,HA.out.2.2]at hq;replace q0:=hx2.cell q0;replace q1:=hx2.cell q1;replace q2:=hx2.cell q2;replace q3:=hx2.cell q3;have hqs:=HX.out.2.2.2.1 k;have hqd:=(hq.ext hx2).dens (by have:=HX.out.2.2.2.2.1;omega);have hdk:=HX.out.2.2.2.2.2.2.1 k Aa;obtain⟨L,hL⟩:∃ L,L=dl k F:=⟨_,rfl⟩
   obtain⟨D,hD⟩:∃ D,D=(F k).den:=⟨_,rfl⟩
   have hDp:0 < D:=by rw[hD];exact(F k).den_pos
   have hLp:0 < L:=by rw[hL];exact KZ F k
   have hG:Int.gcd (L:Int) (D:Int)=Nat.gcd L D:=Int.gcd_natCast_natCast L D;have hGp:0 < Nat.gcd L D:=Nat.gcd_pos_of_pos_left _ hLp;have hGd:((Nat.gcd L D:Nat):Int)∣(D:Int):=Int.natCast_dvd_natCast.2 (Nat.gcd_dvd_right L D);have hGn:((Nat.gcd L D:Nat):Int)≠0:=by omega
   have hGs:sz ((Nat.gcd L D:Nat):Int).natAbs≤1099511627776:=by
    rw[Int.natAbs_natCast];have:=Bp (Nat.le_of_dvd hLp (Nat.gcd_dvd_left L D));rw[←hL]at hdk;omega
   have hstep:(L:Int)*((D:Int) / ((Nat.gcd L D:Nat):Int))=(dl (k+1) F:Nat):=by
    rw[←YF,hL,hD];norm_cast
   obtain⟨X,hX⟩:∃ X:Int,X=(D:Int) / ((Nat.gcd L D:Nat):Int):=⟨_,rfl⟩
   rw[←hX]at hstep;have hXs:sz X.natAbs≤1099511627776:=by
    have h1:=Kv hGd;rw[←hX]at h1;have h2:=Fh (F k);rw[←hD]at h2;have:=HX.out.2.2.2.2.1;omega
   have hLs:sz ((L:Nat):Int).natAbs≤1099511627776:=by rw[Int.natAbs_natCast,hL];omega
   rw[←hL]at Hb;rw[←hD]at hqd;have HG:=Ad (Ak hX (Ak hG (Ak hGd (Ak hGn (Ak hGs (Ak hstep (Ak hXs hLs)))))));have Hq:=Ad hqd.1;clear hq hqs hqd hdk hG hGp hGd hGn hGs hstep hXs hX hL hD hDp hLp hLs;go_wp2;obtain⟨W9,eW9,e9,x9⟩:=Bj.made wr 28 #[.bool b1,.slice B1 n1 d1,.bool b2,.slice B2 n2 d2] (by simp[Ag]);rw[←eW9];clear eW9 q0 q1 q2 q3;replace hx2:=hx2.trans x9;replace ea:=ea.ext x9;replace eb:=eb.ext x9
   have Hq':=Ad (Hq.out.kd x9.kd);have Hb':=Ad ((Hb.out.kd x9.kd).has HG.out.2.2.2.2.2.2.2);clear Hq Hb x9;generalize wr.heap.size=gp at e9 ⊢;have s0:=e9.cell (i:=0) rfl;have s1:=e9.cell (i:=1) rfl;have s2:=e9.cell (i:=2) rfl;have s3:=e9.cell (i:=3) rfl;clear e9;obtain⟨r0,r1⟩:=eb.cells2
   go_cut [7] (fun pv wy=>∃ gc,pv = .pointer (some ⟨gc,0,none⟩)∧Bg wy gc 26 X∧Ext W9 wy)
   case first =>
    refine Bz 11 [9] (fun x=>12) [33,34,35,36,37,38,39,32,40,41,7] [[],[0],[],[],[3],[2,3,4],[0,1,2,3,4,5],[0,1,2,3,4,5,6],[0,1,2,3,4,5,6,7],[0,1,2,3,4,5,6,7],[],[0,1,2,3,4,5,6,7,8,10],[0,1,2,3,4,5,6,7,8,9,10,11]] [6,4] [_,_] [(kv ?_),(kv ?_),(kv ?_),(kv ?_),(kv ?_),(fun γ=>γ 5),(fun γ=>γ 6),(fun γ=>γ 6),(fun γ=>γ 8),(kv ?_),(fun γ=>γ 10)] (fun γ w'=>[True,True,True,True,True,AO w' (γ 5) (Nat.gcd L D:Nat),JU w' (γ 6) X,True,AO w' (γ 8) X,True,AZ w' (γ 10) W9.heap.size #[.bool false,.slice none 0 0] 26]) Bn Aj Aj Aj Aj Aj Bo Aj Bl ?hmono1 ?hstep1 ?_ ?hlate1
    case hstep1 =>
     iterate 11 refine⟨?_,?_⟩
     trivial
     iterate 5 focus
      intro γ w' he hf;clear hf;refine⟨by trivial,?_⟩;intro R hR;have hc:=he.cells;have cq0:=he.cell s0;have cq1:=he.cell s1;have cq2:=he.cell s2;have cq3:=he.cell s3;have cq4:=he.cell r0;have cq5:=he.cell r1;go_simp;refine hR _ _ (Ext.refl _) ?_ trivial;rfl
     ·intro γ w' he hf;clear hf;refine⟨trivial,?_⟩;intro R hR
      go_simp;exact Bd (HG.out.2.1▸Ux _ _ (L:Int) (D:Int) w' (Hb'.out.kd he.kd) (Hq'.out.kd he.kd)) hR
     ·intro γ w' he hf;have f5:AO w' (γ 5) (Nat.gcd L D:Nat):=hf 5 Ab;clear hf;refine⟨trivial,?_⟩;intro R hR
      go_simp;exact Bd (HG.out.1▸I9 _ _ (D:Int) (Nat.gcd L D:Nat) w' (Hq'.out.kd he.kd) (f5.has HG.out.2.2.2.2.1) HG.out.2.2.2.1 HG.out.2.2.1) hR
     ·intro γ w' he hf;clear hf;refine⟨trivial,?_⟩;intro R hR
      have hc:=he.cells;go_simp
      (try go_ints);(try(rw[if_neg Aa]));(try(rw[if_pos Aa]));(try go_simp);(try go_ints)
      refine hR _ _ (Ext.refl _) ?_ trivial;rfl
     ·intro γ w' he hf;have f6:JU w' (γ 6) X:=hf 6 Ab;clear hf;refine⟨trivial,?_⟩;intro R hR
      obtain⟨a,e,ha⟩:=f6;go_simp;exact hR _ _ (Ext.refl _) rfl ha
     ·intro γ w' he hf;have f6:JU w' (γ 6) X:=hf 6 Ab;clear hf;refine⟨trivial,?_⟩;intro R hR
      obtain⟨a,e,ha⟩:=f6;have hc:=he.cells;go_simp
      (try go_ints);(try(rw[if_neg Aa]));(try(rw[if_pos Aa]));(try go_simp);(try go_ints)
      refine hR _ _ (Ext.refl _) ?_ trivial;rfl
     ·intro γ w' he hf;clear hf;refine⟨trivial,?_⟩;intro R hR
      go_simp;exact hR _ _ ((Ext.refl _).alloc _) rfl (AZ.mk (Nat.le_trans Ac he.size) (by simp[Ag]))
    case hmono1 =>
     exact⟨⟨⟨⟨⟨⟨⟨⟨⟨⟨⟨trivial,(fun γ wA w' e h=>h)⟩,(fun γ wA w' e h=>h)⟩,(fun γ wA w' e h=>h)⟩,(fun γ wA w' e h=>h)⟩,(fun γ wA w' e h=>h)⟩,(fun γ wA w' e h=>(show AO wA (γ 5) (Nat.gcd L D:Nat)from h).ext e)⟩,(fun γ wA w' e h=>(show JU wA (γ 6) X from h).ext e)⟩,(fun γ wA w' e h=>h)⟩,(fun γ w w' e h=>AO.ext_ h e)⟩,(fun γ wA w' e h=>h)⟩,(fun γ wA w' e h=>(show AZ wA (γ 10) W9.heap.size #[.bool false,.slice none 0 0] 26 from h).ext e)⟩
    case hlate1 =>
     intro Pn hPs hPn;obtain rfl:=Gn hPs hPn;clear hPs hPn
     ·intro γ w8 hx8 hF hA
      clear hA;have p5:AO w8 (γ 5) (Nat.gcd L D:Nat):=(AA.get hF 5 Ab).resolve_left Ab;have p6:JU w8 (γ 6) X:=(AA.get hF 6 Ab).resolve_left Ab;have p8:AO w8 (γ 8) X:=(AA.get hF 8 Ab).resolve_left Ab;have p10:AZ w8 (γ 10) W9.heap.size #[.bool false,.slice none 0 0] 26:=(AA.get hF 10 Ab).resolve_left Ab;clear hF;show AC _ _ _ _ 3 [9] 11 _ _;simp only[Bf,Nat.reduceAdd,Ck,Array.getD_eq_getD_getElem?,List.getElem?_toArray,List.getElem?_cons_succ,List.getElem?_cons_zero,Option.getD_some]
      generalize γ 5=g5 at *;generalize γ 6=g6 at *;generalize γ 8=g8 at *;generalize γ 10=g10 at *;clear γ;obtain⟨a6,rfl,-⟩:=p6;obtain⟨gc,rfl,hgc,ec⟩:=p10;obtain⟨b7,A7,n7,c7,rfl⟩:=p8.cells;clear s0 s1 s2 s3 r0 r1 p5;obtain⟨cec0,cec1⟩:=ec.cells2;have fec:=ec.frozen;refine AC.mk 2 ⟨?_,trivial⟩ (fun _=>?_)
      ·simp only[Bb,List.toList_toArray,List.drop_succ_cons,List.drop_zero,List.take_succ_cons,List.take_zero]
       go_wp2;show AC _ _ _ _ _ [] _ _ _;refine AC.nil ?_;simp only[List.toList_toArray,List.drop_succ_cons,List.drop_zero];go_wp2;skip;obtain⟨W4,eW,ec',U⟩:=ec.put2 (.bool b7) (.slice A7 n7 c7) rfl rfl;rw[←eW];clear eW ec;replace p8:=p8.kd U.kd;replace hx8:=U.from_ hx8 Ai;have ec:=ec';clear U ec'
       go_meet
       case rel=>exact⟨gc,rfl,Bg.mk ec p8,hx8⟩
      ·simp only[Bb,List.toList_toArray,List.drop_succ_cons,List.drop_zero,List.take_succ_cons,List.take_zero]
       go_wp2;refine AC.mk 1 ⟨?_,trivial⟩ (fun h=>by cases(show false=true from h))
       ·simp only[Bb,List.toList_toArray,List.drop_succ_cons,List.drop_zero,List.take_succ_cons,List.take_zero]
        go_wp2;show AC _ _ _ _ _ [] _ _ _;refine AC.nil ?_;simp only[List.toList_toArray,List.drop_succ_cons,List.drop_zero];go_wp2;skip;obtain⟨W4,eW,ec',U⟩:=ec.put2 (.bool b7) (.slice A7 n7 c7) rfl rfl;rw[←eW];clear eW ec;replace p8:=p8.kd U.kd;replace hx8:=U.from_ hx8 Ai;have ec:=ec';clear U ec'
        go_meet
        case rel=>exact⟨gc,rfl,Bg.mk ec p8,hx8⟩
    intro γ w8 hx8 hF hA;clear hA;have p5:AO w8 (γ 5) (Nat.gcd L D:Nat):=AA.get hF 5 Ab;have p6:JU w8 (γ 6) X:=AA.get hF 6 Ab;have p8:AO w8 (γ 8) X:=AA.get hF 8 Ab;have p10:AZ w8 (γ 10) W9.heap.size #[.bool false,.slice none 0 0] 26:=AA.get hF 10 Ab;clear hF;simp only[Bf,Nat.reduceAdd];generalize γ 5=g5 at *;generalize γ 6=g6 at *;generalize γ 8=g8 at *;generalize γ 10=g10 at *;clear γ;obtain⟨a6,rfl,-⟩:=p6
    obtain⟨gc,rfl,hgc,ec⟩:=p10;obtain⟨b7,A7,n7,c7,rfl⟩:=p8.cells;clear s0 s1 s2 s3 r0 r1 p5;obtain⟨cec0,cec1⟩:=ec.cells2;have fec:=ec.frozen;go_wp2;skip;obtain⟨W4,eW,ec',U⟩:=ec.put2 (.bool b7) (.slice A7 n7 c7) rfl rfl;rw[←eW];clear eW ec;replace p8:=p8.kd U.kd;replace hx8:=U.from_ hx8 Ai;have ec:=ec';clear U ec'
    go_meet
    case rel=>exact⟨gc,rfl,Bg.mk ec p8,hx8⟩
   case rest =>
    clear s0 s1 s2 s3 r0 r1;obtain⟨gc,rfl,⟨b7,A7,n7,c7,ec,hc⟩,hx3⟩:=hcut;have Hc:=Ad (hc.has HG.out.2.2.2.2.2.2.1);clear hc;replace ea:=ea.ext hx3;replace eb:=eb.ext hx3;replace hx2:=hx2.trans hx3;obtain⟨cec0,cec1⟩:=ec.cells2;have fec:=ec.frozen;obtain⟨ceb0,ceb1⟩:=eb.cells2;have feb:=eb.frozen
    go_wp2_with fail
    refine AL (DF _ _ (L:Int) X _ (Hb'.out.kd hx3.kd) Hc.out) ?_;rintro r4 w4 hr4 hx4;rw[HG.out.2.2.2.2.2.1]at hr4;obtain⟨b8,A8,n8,c8,rfl⟩:=hr4.cells;replace ea:=ea.ext hx4;replace eb:=eb.ext hx4;replace hx2:=hx2.trans hx4;clear ceb0 ceb1 feb cec0 cec1 fec ec hx3 hx4 Hc Hb' Hq';obtain⟨ceb0,ceb1⟩:=eb.cells2;have feb:=eb.frozen;go_wp2;obtain⟨W5,eW,eb',U⟩:=eb.put2 (.bool b8) (.slice A8 n8 c8) rfl rfl
    rw[←eW];clear eW eb;replace hr4:=hr4.kd U.kd;replace ea:=ea.upd U Ai;replace hx2:=U.from_ hx2 Ai;have eb:=eb';clear U eb'
    go_roundw
    case rel=>exact⟨k+1,Aa,by go_num,ea,Bg.mk eb hr4,hx2⟩
    case measure=>simp[intOf]<;>omega
  ·obtain rfl:n=k:=by omega
   have hgbl:=eb.lt;have hb0:=Hb.out;go_wp2
   go_loopw [9,48] (fun zv iv wr=>∃ k:Nat,k≤n∧iv = .int .i64 k∧CE (gb+1) 26 wr zv (Dq k (CO n F))∧Bj wr w.heap.size 28 #[.bool false,.slice none 0 0,.bool false,.slice none 0 0]∧Bj wr gb 26 #[.bool b,.slice B bn bc]∧AO wr (.agg #[.bool b,.slice B bn bc]) (dl n F:Nat)∧Ext w1 wr) (fun _ iv _=>n - (intOf iv).toNat)
   case atStart=>exact⟨0,Nat.zero_le _,rfl,BI.nil _ _ _ _ _,ea,eb,hb0,hx2⟩
   case round =>
    clear ea eb hx2 hgbl hb0 Hb;obtain⟨k,hk,rfl,hown,ea,eb,hb,hx2⟩:=hrel;have Hb:=Ad hb;clear hb;have hgbl:=eb.lt;by_cases hkn:k < n
    ·have hkl1:k < l1.length:=by have:=HA.out.2.1;omega
     obtain⟨g,o,b1,B1,n1,d1,b2,B2,n2,d2,rfl,_,q0,q1,q2,q3,hq⟩:=HA.out.1.at_ (j:=k) hkl1;rw[←DW,HA.out.2.2]at hq;replace q0:=hx2.cell q0;replace q1:=hx2.cell q1;replace q2:=hx2.cell q2;replace q3:=hx2.cell q3;have hqs:=HX.out.2.2.2.1 k;have hqd:=(hq.ext hx2).dens (by have:=HX.out.2.2.2.2.1;omega);have hdk:=HX.out.2.2.2.2.2.2.1 n (Nat.le_refl _);obtain⟨L,hL⟩:∃ L,L=dl n F:=⟨_,rfl⟩
     obtain⟨D,hD⟩:∃ D,D=(F k).den:=⟨_,rfl⟩
     have hDn:(D:Int)≠0:=by have:=(F k).den_pos;omega
     have hDd:(D:Int)∣(L:Int):=by rw[hD,hL];exact Int.natCast_dvd_natCast.2 (PM F n k hkn)
     have hval:(F k).num*((L:Int) / (D:Int))=(CO n F k).num:=by rw[U0 HX.out.2.2.2.2.2.1,hL,hD]
     obtain⟨X,hX⟩:∃ X:Int,X=(L:Int) / (D:Int):=⟨_,rfl⟩
     rw[←hX]at hval;have hLs:sz ((L:Nat):Int).natAbs≤1099511627776:=by rw[Int.natAbs_natCast,hL];omega
     have hXs:sz X.natAbs≤1099511627776:=by
      have h1:=Kv hDd;rw[←hX]at h1;omega
     rw[←hL]at Hb;rw[←hD]at hqd;have HG:=Ad (Ak hX (Ak hDn (Ak hDd (Ak hval (Ak hLs (Ak hXs hL))))));have Hq:=Ad hqd;have Hown:=Ad hown;clear hq hqs hqd hdk hDn hDd hval hX hL hD hLs hXs hown;have hB9:=Bj.made wr 28 #[.bool b1,.slice B1 n1 d1,.bool b2,.slice B2 n2 d2] (by simp[Ag]);obtain⟨W9,eW9,e9,x9⟩:=hB9
     go_upto_region 15 with(fail)
     rw[←eW9];clear eW9 q0 q1 q2 q3;replace hx2:=hx2.trans x9;replace ea:=ea.ext x9;replace eb:=eb.ext x9;have Hq':=Ad (Ak (Hq.out.1.kd x9.kd) (Hq.out.2.kd x9.kd));have Hb':=Ad (Hb.out.kd x9.kd);have Hown':=Ad (Hown.out.ext x9);have hgb9:=eb.lt;clear Hq Hb Hown x9;generalize wr.heap.size=gp at e9 ⊢;have s0:=e9.cell (i:=0) rfl;have s1:=e9.cell (i:=1) rfl;have s2:=e9.cell (i:=2) rfl;have s3:=e9.cell (i:=3) rfl
     clear e9;obtain⟨r0,r1⟩:=eb.cells2
     go_wp2_with fail
     refine AL (I9 _ _ (L:Int) (D:Int) _ (Hb'.out.has HG.out.2.2.2.2.1) Hq'.out.1 HG.out.2.1 HG.out.2.2.1) ?_;rintro r3 w3 ⟨a3,rfl,hr3⟩ hx3;rw[←HG.out.1]at hr3;obtain⟨b7,A7,n7,c7,rfl⟩:=hr3.cells;have hBa:=Bj.made w3 26 #[.bool b7,.slice A7 n7 c7] (by simp[Ag]);obtain⟨Wa,eWa,e5,xa⟩:=hBa;clear r0 r1
     go_upto_region 16 with(fail)
     rw[←eWa];replace hx3:=hx3.trans xa;have Hr3:=Ad ((hr3.kd xa.kd).has HG.out.2.2.2.2.2.1);clear eWa xa hr3;generalize w3.heap.size=gq at e5 ⊢;obtain⟨ce50,ce51⟩:=e5.cells2;have fe5:=e5.frozen;replace s0:=hx3.cell s0;replace s1:=hx3.cell s1;replace s2:=hx3.cell s2;replace s3:=hx3.cell s3;replace ea:=ea.ext hx3;replace eb:=eb.ext hx3;replace hx2:=hx2.trans hx3;have Hb:=Ad (Hb'.out.kd hx3.kd);have Hown:=Ad (Hown'.out.ext hx3)
     go_wp2_with fail
     refine AL (DF _ _ (F k).num X _ (Hq'.out.2.kd hx3.kd) Hr3.out) ?_;rintro r4 w4 hr4 hx4;rw[HG.out.2.2.2.1]at hr4;obtain⟨b8,A8,n8,c8,rfl⟩:=hr4.cells;have Hr:=Ad hr4;clear hr4;replace ea:=ea.ext hx4;replace eb:=eb.ext hx4;replace hx2:=hx2.trans hx4;have Hb':=Ad (Hb.out.kd hx4.kd);have Hown':=Ad (Hown.out.ext hx4);have hsz:=eb.lt;clear s0 s1 s2 s3 hx3 hx4 e5 ce50 ce51 fe5 Hr3 Hq' Hb Hown
     go_wp2_with (at_builtin;refine AB rfl _ _ 23 rfl u9 (.slice (some ⟨w4.heap.size,0,none⟩) 1 1) rfl rfl (X8 w4 (gb+1) _ _ _ _ _ Hown'.out Hr.out (by rw[AY];omega) Aa rfl) ?_)
     first | intro v' w5 hown U | rintro v' w5 ⟨hown,U⟩
     have hb2:=BI.blk_ge (Hown'.out.ext ((Ext.refl w4).alloc (.cells #[.bool b8,.slice A8 n8 c8] 26)));have hx5:=(Ext.refl w4).alloc (.cells #[.bool b8,.slice A8 n8 c8] 26);replace ea:=(ea.ext hx5).upd U (fun hm=>by have:=(hb2 _ hm).1;omega);replace eb:=(eb.ext hx5).upd U (fun hm=>by have:=(hb2 _ hm).1;omega);have Hb:=Ad ((Hb'.out.kd hx5.kd).kd U.kd);replace hx2:=U.from_ (hx2.trans hx5) (fun g hg=>by have:=(hb2 _ hg).1;omega)
     have Hown:=Ad hown;clear hown U hb2 hx5 Hb' Hown';go_wp2
     go_roundw
     case rel=>exact⟨k+1,Aa,by go_num,by rw[Ed];exact Hown.out,ea,eb,by rw[←HG.out.2.2.2.2.2.2];exact Hb.out,hx2⟩
     case measure=>simp[intOf]<;>omega
    ·obtain rfl:n=k:=by omega
     obtain⟨A2,c2,hv2⟩:=(CE.row hown).len;rw[AY]at hv2;have hz2:=Sv hown (fun i=>by have:=HX.out.2.2.2.2.2.2.2 i;omega);have hzs:=CE.row hown;rw[hv2]at hz2 hzs;have hczl:=EC (Eh HX.out.2.2.2.2.2.1) (show BB n (CO n F)from(HX.out.2.2.2.2.2.1).psc _);have Hz:=Ad (Ak hz2 (Ak hzs hczl));clear hz2 hzs hczl hown;subst hv2
     go_wp2_with fail
     refine AL (Fp _ _ _ Hz.out.1 (by rw[AY];omega)) ?_;rintro r2 w2 hr2 hx3;rw[Hz.out.2.2]at hr2;replace ea:=ea.ext hx3;replace eb:=eb.ext hx3;replace hx2:=hx2.trans hx3;have Hb':=Ad (Hb.out.kd hx3.kd);have hzz:=Hz.out.2.1.ext hx3;obtain⟨A3,c3,l3,rfl,k3,k4,hA3,k5,-,k6⟩:=hr2.form;have hppl:pl (pp (CO n F))=n:=by
      rw[EE (Eh HX.out.2.2.2.2.2.1) (Dr HX.out.2.1),Lt HX.out.2.1,←HX.out.1]
     rw[hppl]at k3 k5 hr2 ⊢;have hlast:n - 1 < (Dq n (CO n F)).length:=by rw[AY];omega
     obtain⟨gz,oz,y1,Y1,yn1,yc1,rfl,_,q0,q1,hqz⟩:=hzz.at_ (j:=n - 1) hlast;obtain⟨gg,og,z1,Z1,zn1,zc1,rfl,_,p0,p1,hqg⟩:=hA3.at_ (j:=n - 1) Aa;rw[Cf]at hqz;have hg3:l3[n - 1]'(by omega)=(pp (CO n F) (n - 1)).num:=by
      have:=Ch (l:=l3) (i:=n - 1) Aa;rw[k6]at this;rw[this];rfl
     rw[hg3]at hqg;have hzn:=Eh HX.out.2.2.2.2.2.1;have hfn:=Dr (n:=n) HX.out.2.1;have hne:=Nf (n:=n) HX.out.2.1 HX.out.2.2.1;have hpn:=EI hzn hfn hne;have hpd:=Ji hfn (n - 1);have hpa:(pp (CO n F) (n - 1)).num=(CO n F (n - 1)).num / pcn (CO n F):=by rw[OB hzn hfn hne];rfl
     have htop:(CO n F (n - 1)).num≠0:=by
      have h1:=Ex hfn (by rw[Lt HX.out.2.1,←HX.out.1];exact hpos);rw[Lt HX.out.2.1,←HX.out.1]at h1;intro e;exact h1 (by rw[hzn.num,e];rfl)
     obtain⟨u,hu⟩:=hpd;have hpu:(pp (CO n F) (n - 1)).num=u:=by rw[hpa,hu,Int.mul_ediv_cancel_left _ hpn]
     have hun:u≠0:=fun e=>htop (by rw[hu,e,Int.mul_zero]);rw[hpu]at hqg;have hquo:(CO n F (n - 1)).num / u=pcn (CO n F):=by rw[hu,Int.mul_ediv_cancel _ hun]
     have hdv:u∣(CO n F (n - 1)).num:=⟨pcn (CO n F),by rw[hu,Int.mul_comm]⟩
     have hcs:=HX.out.2.2.2.2.2.2.2 (n - 1);have hzs1:sz (CO n F (n - 1)).num.natAbs≤1099511627776:=by unfold qsz at hcs;omega
     have hus:sz u.natAbs≤1099511627776:=by
      have h1:=Fb hzn hfn HX.out.2.2.2.2.2.2.2 (n - 1);unfold qsz at h1;rw[hpu]at h1;omega
     have hpcs:sz (pcn (CO n F)).natAbs≤1099511627776:=by
      rw[Fj];have:=FV HX.out.2.2.2.2.2.2.2 (pl (CO n F));show sz (ct _ _)≤_;omega
     have hdl:=HX.out.2.2.2.2.2.2.1 n (Nat.le_refl _);have hdl2:sz (((dl n F:Nat):Int)).natAbs≤1099511627776:=by rw[Int.natAbs_natCast];omega
     have hdln:((dl n F:Nat):Int)≠0:=by have:=KZ F n;omega
     have hcf:=(Tm HX.out.2.2.2.2.2.1 HX.out.2.2.1).1;have hcf2:Rat.divInt (pcn (CO n F)) ((dl n F:Nat):Int)=KL n F:=by rw[hcf];exact(Jn _ _).symm
     have HQ:=Ad (Ak (hqz.has hzs1) (Ak (hqg.has hus) (Ak hun (Ak hdv (Ak hquo (Ak hpcs (Ak hdl2 (Ak hdln hcf2))))))));have HP:=Ad hr2;clear hqz hqg hg3 hzn hfn hne hpn hpa htop hu hpu hun hquo hdv hcs hzs1 hus hpcs hdl hdl2 hdln hcf hcf2 hr2 hA3 k5 k6 hppl hzz hlast hx3
     go_upto_region 19 with(fail)
     obtain⟨wt,hwt⟩:∃ wt:World,wt=w2:=⟨_,rfl⟩
     subst hwt
     go_cut [15] (fun pv wy=>∃ gc,pv = .pointer (some ⟨gc,0,none⟩)∧Bg wy gc 26 (pcn (CO n F))∧Ext wt wy)
     case first =>
      refine Bz 17 [15] (fun x=>18) [70,71,72,73,74,75,76,77,78,79,80,81,82,69,83,84,15] [[],[],[1],[1,2],[0,1,2,3],[0,1,2,3,4],[],[],[7],[7,8],[6,7,8,9],[6,7,8,9,10],[0,1,2,3,4,5,6,7,8,9,10,11],[0,1,2,3,4,5,6,7,8,9,10,11,12],[0,1,2,3,4,5,6,7,8,9,10,11,12,13],[0,1,2,3,4,5,6,7,8,9,10,11,12,13],[],[0,1,2,3,4,5,6,7,8,9,10,11,12,13,14,16],[0,1,2,3,4,5,6,7,8,9,10,11,12,13,14,15,16,17]] [9,14] [_,_] [(kv ?_),(kv ?_),(kv ?_),(kv ?_),(kv ?_),(kv ?_),(kv ?_),(kv ?_),(kv ?_),(kv ?_),(kv ?_),(kv ?_),(fun γ=>γ 12),(fun γ=>γ 12),(fun γ=>γ 14),(kv ?_),(fun γ=>γ 16)] (fun γ w'=>[True,True,True,True,True,True,True,True,True,True,True,True,JU w' (γ 12) (pcn (CO n F)),True,AO w' (γ 14) (pcn (CO n F)),True,AZ w' (γ 16) wt.heap.size #[.bool false,.slice none 0 0] 26]) Bn Aj Aj Aj Aj Aj Bo Aj Bl ?hmono2 ?hstep2 ?_ ?hlate2
      case hstep2 =>
       iterate 17 refine⟨?_,?_⟩
       trivial
       iterate 12 focus
        intro γ w' he hf;clear hf;refine⟨by trivial,?_⟩;intro R hR;have hc:=he.cells;have cq0:=he.cell q0;have cq1:=he.cell q1;have cq2:=he.cell p0;have cq3:=he.cell p1;go_simp;(try go_ints);(try(rw[if_neg Aa]));(try(rw[if_pos Aa]));(try go_simp);(try go_ints)
        refine hR _ _ (Ext.refl _) ?_ trivial;rfl
       ·intro γ w' he hf;clear hf;refine⟨trivial,?_⟩;intro R hR
        go_simp;exact Bd (HQ.out.2.2.2.2.1▸I9 _ _ _ _ w' (HQ.out.1.kd he.kd) (HQ.out.2.1.kd he.kd) HQ.out.2.2.1 HQ.out.2.2.2.1) hR
       ·intro γ w' he hf;clear hf;refine⟨trivial,?_⟩;intro R hR
        have hc:=he.cells;go_simp
        (try go_ints);(try(rw[if_neg Aa]));(try(rw[if_pos Aa]));(try go_simp);(try go_ints)
        refine hR _ _ (Ext.refl _) ?_ trivial;rfl
       ·intro γ w' he hf;have f12:JU w' (γ 12) (pcn (CO n F)):=hf 12 Ab;clear hf;refine⟨trivial,?_⟩;intro R hR
        obtain⟨a,e,ha⟩:=f12;go_simp;exact hR _ _ (Ext.refl _) rfl ha
       ·intro γ w' he hf;have f12:JU w' (γ 12) (pcn (CO n F)):=hf 12 Ab;clear hf;refine⟨trivial,?_⟩;intro R hR
        obtain⟨a,e,ha⟩:=f12;have hc:=he.cells;go_simp
        (try go_ints);(try(rw[if_neg Aa]));(try(rw[if_pos Aa]));(try go_simp);(try go_ints)
        refine hR _ _ (Ext.refl _) ?_ trivial;rfl
       ·intro γ w' he hf;clear hf;refine⟨trivial,?_⟩;intro R hR
        go_simp;exact hR _ _ ((Ext.refl _).alloc _) rfl (AZ.mk (Nat.le_trans Ac he.size) (by simp[Ag]))
      case hmono2 =>
       exact⟨⟨⟨⟨⟨⟨⟨⟨⟨⟨⟨⟨⟨⟨⟨⟨⟨trivial,(fun γ wA w' e h=>h)⟩,(fun γ wA w' e h=>h)⟩,(fun γ wA w' e h=>h)⟩,(fun γ wA w' e h=>h)⟩,(fun γ wA w' e h=>h)⟩,(fun γ wA w' e h=>h)⟩,(fun γ wA w' e h=>h)⟩,(fun γ wA w' e h=>h)⟩,(fun γ wA w' e h=>h)⟩,(fun γ wA w' e h=>h)⟩,(fun γ wA w' e h=>h)⟩,(fun γ wA w' e h=>h)⟩,(fun γ wA w' e h=>(show JU wA (γ 12) (pcn (CO n F))from h).ext e)⟩,(fun γ wA w' e h=>h)⟩,(fun γ w w' e h=>AO.ext_ h e)⟩,(fun γ wA w' e h=>h)⟩,(fun γ wA w' e h=>(show AZ wA (γ 16) wt.heap.size #[.bool false,.slice none 0 0] 26 from h).ext e)⟩
      case hlate2 =>
       intro Pn hPs hPn;obtain rfl:=Gn hPs hPn;clear hPs hPn
       ·intro γ w8 hx8 hF hA
        clear hA;have pf12:JU w8 (γ 12) (pcn (CO n F)):=(AA.get hF 12 Ab).resolve_left Ab;have pf14:AO w8 (γ 14) (pcn (CO n F)):=(AA.get hF 14 Ab).resolve_left Ab;have pf16:AZ w8 (γ 16) wt.heap.size #[.bool false,.slice none 0 0] 26:=(AA.get hF 16 Ab).resolve_left Ab;clear hF;show AC _ _ _ _ 3 [15] 17 _ _;simp only[Bf,Nat.reduceAdd,Ck,Array.getD_eq_getD_getElem?,List.getElem?_toArray,List.getElem?_cons_succ,List.getElem?_cons_zero,Option.getD_some]
        generalize γ 12=g12 at *;generalize γ 14=g14 at *;generalize γ 16=g16 at *;clear γ;obtain⟨a6,rfl,-⟩:=pf12;obtain⟨gc,rfl,hgc,ec⟩:=pf16;obtain⟨b7,A7,n7,c7,rfl⟩:=pf14.cells;clear q0 q1 p0 p1;obtain⟨cec0,cec1⟩:=ec.cells2;have fec:=ec.frozen;refine AC.mk 2 ⟨?_,trivial⟩ (fun _=>?_)
        ·simp only[Bb,List.toList_toArray,List.drop_succ_cons,List.drop_zero,List.take_succ_cons,List.take_zero]
         go_wp2;show AC _ _ _ _ _ [] _ _ _;refine AC.nil ?_;simp only[List.toList_toArray,List.drop_succ_cons,List.drop_zero];go_wp2;skip;obtain⟨W4,eW,ec',U⟩:=ec.put2 (.bool b7) (.slice A7 n7 c7) rfl rfl;rw[←eW];clear eW ec;replace pf14:=pf14.kd U.kd;replace hx8:=U.from_ hx8 Ai;have ec:=ec';clear U ec'
         go_meet
         case rel=>exact⟨gc,rfl,Bg.mk ec pf14,hx8⟩
        ·simp only[Bb,List.toList_toArray,List.drop_succ_cons,List.drop_zero,List.take_succ_cons,List.take_zero]
         go_wp2;refine AC.mk 1 ⟨?_,trivial⟩ (fun h=>by cases(show false=true from h))
         ·simp only[Bb,List.toList_toArray,List.drop_succ_cons,List.drop_zero,List.take_succ_cons,List.take_zero]
          go_wp2;show AC _ _ _ _ _ [] _ _ _;refine AC.nil ?_;simp only[List.toList_toArray,List.drop_succ_cons,List.drop_zero];go_wp2;skip;obtain⟨W4,eW,ec',U⟩:=ec.put2 (.bool b7) (.slice A7 n7 c7) rfl rfl;rw[←eW];clear eW ec;replace pf14:=pf14.kd U.kd;replace hx8:=U.from_ hx8 Ai;have ec:=ec';clear U ec'
          go_meet
          case rel=>exact⟨gc,rfl,Bg.mk ec pf14,hx8⟩
      intro γ w8 hx8 hF hA;clear hA;have pf12:JU w8 (γ 12) (pcn (CO n F)):=AA.get hF 12 Ab;have pf14:AO w8 (γ 14) (pcn (CO n F)):=AA.get hF 14 Ab;have pf16:AZ w8 (γ 16) wt.heap.size #[.bool false,.slice none 0 0] 26:=AA.get hF 16 Ab;clear hF;simp only[Bf,Nat.reduceAdd];generalize γ 12=g12 at *;generalize γ 14=g14 at *;generalize γ 16=g16 at *;clear γ;obtain⟨a6,rfl,-⟩:=pf12;obtain⟨gc,rfl,hgc,ec⟩:=pf16
      obtain⟨b7,A7,n7,c7,rfl⟩:=pf14.cells;clear q0 q1 p0 p1;obtain⟨cec0,cec1⟩:=ec.cells2;have fec:=ec.frozen;go_wp2;skip;obtain⟨W4,eW,ec',U⟩:=ec.put2 (.bool b7) (.slice A7 n7 c7) rfl rfl;rw[←eW];clear eW ec;replace pf14:=pf14.kd U.kd;replace hx8:=U.from_ hx8 Ai;have ec:=ec';clear U ec'
      go_meet
      case rel=>exact⟨gc,rfl,Bg.mk ec pf14,hx8⟩
     case rest =>
      clear q0 q1 p0 p1;obtain⟨gc,rfl,⟨b7,A7,n7,c7,ec,hc⟩,hx3⟩:=hcut;have Hc:=Ad (hc.has HQ.out.2.2.2.2.2.1);clear hc;have HbL:=Ad ((Hb'.out.kd hx3.kd).has HQ.out.2.2.2.2.2.2.1);replace ea:=ea.ext hx3;replace eb:=eb.ext hx3;obtain⟨cec0,cec1⟩:=ec.cells2;have fec:=ec.frozen;obtain⟨ceb0,ceb1⟩:=eb.cells2;have feb:=eb.frozen
      go_wp2_with fail
      refine AL (eT _ _ (pcn (CO n F)) ((dl n F:Nat):Int) _ Hc.out HbL.out HQ.out.2.2.2.2.2.2.2.1) ?_;rintro r4 w4 ⟨a4,rfl,hr4⟩ hx4;rw[HQ.out.2.2.2.2.2.2.2.2]at hr4;obtain⟨b8,A8,n8,c8,b9,A9,n9,c9,rfl⟩:=hr4.cells;replace ea:=ea.ext hx4;replace hx3:=hx3.trans hx4;clear ceb0 ceb1 feb cec0 cec1 fec ec eb Hc HbL hx4;have hBa:=Bj.made w4 28 #[.bool b8,.slice A8 n8 c8,.bool b9,.slice A9 n9 c9] (by simp[Ag])
      obtain⟨Wa,eWa,e5,xa⟩:=hBa
      go_upto_region 21 with(fail)
      rw[←eWa];replace hr4:=hr4.ext xa;replace ea:=ea.ext xa;replace hx3:=hx3.trans xa;clear eWa xa;generalize w4.heap.size=gr at e5 ⊢;have HP':=Ad (HP.out.ext hx3);have hxx:=hx.trans (hx2.trans hx3);clear HP hx3 hx2;obtain⟨ce50,ce51,ce52,ce53⟩:=e5.cells4;have fe5:=e5.frozen;refine Ae 3 [91,92,2] [[],[],[0],[0,1,2]] [14,17] [_,_] [(kv ?_),(kv ?_),(kv ?_)] (fun γ w'=>[True,True,True]) Bn Aj Aj Bo Aj Bl Br ?hstep3 ?_
      case hstep3 =>
       iterate 3 refine⟨?_,?_⟩
       trivial
       iterate 3 focus
        intro γ w' he hf;clear hf;refine⟨by trivial,?_⟩;intro R hR;have hc:=he.cells;have cq0:=he.cell ce50;have cq1:=he.cell ce51;have cq2:=he.cell ce52;have cq3:=he.cell ce53;go_simp;(try go_ints);(try(rw[if_neg Aa]));(try(rw[if_pos Aa]));(try go_simp);(try go_ints)
        refine hR _ _ (Ext.refl _) ?_ trivial;rfl
      intro γ w9 hx9 hF;clear hF;simp only[Bf,Nat.reduceAdd];clear γ;replace ea:=ea.ext hx9;replace hr4:=hr4.ext hx9;replace hxx:=hxx.trans hx9;have hp:=HP'.out.ext hx9;clear hx9 ce50 ce51 ce52 ce53 fe5 e5 HP';obtain⟨cea0,cea1,cea2,cea3⟩:=ea.cells4;have fea:=ea.frozen;go_wp2;obtain⟨W3,eW,ea',U⟩:=ea.put4 (.bool b8) (.slice A8 n8 c8) (.bool b9) (.slice A9 n9 c9) rfl rfl rfl rfl;rw[←eW];clear eW ea;replace hr4:=hr4.kd U.kd
      replace hp:=hp.upd U Ai;replace hxx:=U.from_ hxx Ai;have ea:=ea';clear U ea';have HP:=Ad (hp.base_le (show w.heap.size≤_ by omega));clear hp;clear cea0 cea1 cea2 cea3;obtain⟨cea0,cea1,cea2,cea3⟩:=ea.cells4;have fea:=ea.frozen;refine bodyPost_ret (v := .tuple #[_,.agg #[.bool b8,.slice A8 n8 c8,.bool b9,.slice A9 n9 c9]]) (by simp[results,Tryz.results116,go_sem,cea0,cea1,cea2,cea3];rfl) rfl ?_
      exact Ah.mk ⟨_,_,rfl,HP.out,hr4⟩ hxx
theorem AO.cast{w:World}{v:Value}{x y:Int}(h:AO w v x)(e:x=y):AO w v y:=e▸h
set_option maxRecDepth 20000 in
theorem R9(v:Value)(l:List Rat)(w:World)(hv:KU 0 w v l)(hn:l.length≤1099511627776)(h0:co l=pz) :
  Bh 72 #[v] w (fun r w'=>LD 0 0 pz r w'):=by
 have HV:=Ad hv;obtain⟨A0,c0,rfl⟩:=hv.len;have H0:=Ad h0;clear hv h0
 go_enter Tryz.func72,Tryz.ntmps72
 go_wp2_with fail
 refine AL (Fy _ l _ (HV.out.ext ((Ext.refl w).alloc _)) hn) ?_;rintro r1 w1 hr1 hx1;rw[H0.out]at hr1;obtain⟨A1,c1,l1,rfl,k1,k2,-⟩:=hr1.form;rw[Ca];clear hr1 HV k1
 go_wp2_with fail
 refine AL (MI 0 _ Aa Aa) ?_;rintro r2 w2 hr2 hx2;obtain⟨b5,A5,n5,c5,b6,A6,n6,c6,rfl⟩:=hr2.cells;have ea:=((Bj.new w 28 #[.bool false,.slice none 0 0,.bool false,.slice none 0 0] (by simp[Ag])).ext hx1).ext hx2;have hx:=hx1.a1.trans hx2;obtain⟨cea0,cea1,cea2,cea3⟩:=ea.cells4;have fea:=ea.frozen;clear hx1 hx2;go_wp2;obtain⟨W3,eW,ea',U⟩:=ea.put4 (.bool b5) (.slice A5 n5 c5) (.bool b6) (.slice A6 n6 c6) rfl rfl rfl rfl
 rw[←eW];clear eW ea;replace hr2:=hr2.kd U.kd;replace hx:=U.from_ hx Ai;have ea:=ea';clear U ea';clear cea0 cea1 cea2 cea3;obtain⟨cea0,cea1,cea2,cea3⟩:=ea.cells4;have fea:=ea.frozen;refine bodyPost_ret (v := .tuple #[.slice none 0 0,.agg #[.bool b5,.slice A5 n5 c5,.bool b6,.slice A6 n6 c6]]) (by simp[results,Tryz.results72,go_sem,cea0,cea1,cea2,cea3]) rfl ?_;exact Ah.mk ⟨_,_,rfl,by rw[PV,GH];exact AP.nil _ _,by rw[SB];exact hr2⟩ hx
set_option maxRecDepth 20000 in
theorem Yh(v:Value)(l:List Rat)(s:Nat)(w:World)(hv:KU 0 w v l)(hn:l.length≤1000)(hs:∀ i,qsz (co l i)≤s)(hs0:s≤1000000)(h0:co l≠pz) :
  Bh 72 #[v] w (fun r w'=>LD 0 (pl (co l)) (co l) r w'):=by
 have HV:=Ad hv;obtain⟨A0,c0,rfl⟩:=hv.len;have hfin:=Af.co l;have hNorm:=fun w' (e:Ext w w')=>Fy _ l w' (hv.ext e) Aa;have hplen:=Bq (FM l);obtain⟨F,hF⟩:∃ F,F=co l:=⟨_,rfl⟩
 rw[←hF]at hfin h0 hs hplen hNorm;rw[←hF];have hpos:=Be hfin h0;obtain⟨n,hn0⟩:∃ n,n=pl F:=⟨_,rfl⟩
 have hsup:BB n F:=by rw[hn0];exact AU hfin
 have hdl:∀ k,k≤n→sz (dl k F)≤1+1000*1000000:=fun k hk=>by
  have:=UD hs k;have h2:k*s≤1000*1000000:=Nat.mul_le_mul Aa hs0;omega
 have hcq:∀ i,qsz (CO n F i)≤1+1000*1000000+1+1000000:=fun i=>by
  have:=KP (n:=n) hs i;have h2:n*s≤1000*1000000:=Nat.mul_le_mul Aa hs0;omega
 rw[←hn0]at hpos ⊢;have hn3:n≤1000:=by omega
 have HX:=Ad (Ak hn0 (Ak hfin (Ak h0 (Ak hs (Ak hs0 (Ak hsup (Ak hdl hcq)))))));have HN:=Ad hNorm;clear hn0 hfin h0 hs hs0 hsup hdl hcq hNorm hF hv HV hplen hn
 go_enter Tryz.func72,Tryz.ntmps72
 go_wp2_with fail
 refine AL (HN.out _ ((Ext.refl w).alloc _)) ?_;rintro r1 w1 hr1 hx1;obtain⟨lh,hh1,hh2,-,hh4⟩:=hr1.hs (fun i=>by have:=HX.out.2.2.2.1 i;have:=HX.out.2.2.2.2.1;omega);obtain⟨A1,c1,l1,rfl,k1,k2,hA,k3,-,k5⟩:=hr1.form;rw[←HX.out.1]at k1 k3 hh1 hh2 ⊢;have HA:=Ad (Ak hA (Ak k3 k5));have HH:=Ad (Ak hh1 (Ak hh2 hh4));clear hA k3 k5 hr1 HN hh1 hh2 hh4;have ea:=(Bj.new w 28 #[.bool false,.slice none 0 0,.bool false,.slice none 0 0] (by simp[Ag])).ext hx1
 have hx:=hx1.a1;have hs1:=hx1.size;rw[World.size_alloc]at hs1;clear hx1
 go_wp2_with fail
 refine AL (Jy 1 _ Aa Aa) ?_;rintro r2 w2 hr2 hx2;obtain⟨b5,A5,n5,c5,rfl⟩:=hr2.cells;obtain⟨W0,eW,eb,x0⟩:=Bj.made w2 26 #[.bool b5,.slice A5 n5 c5] (by simp[Ag]);replace hr2:=hr2.kd x0.kd;have hs2:=hx2.size;have Hx1:=Ad (hx2.trans x0);replace ea:=ea.ext (hx2.trans x0);have hgb:w.heap.size < w2.heap.size:=by omega
 clear hx2;go_wp2;rw[←eW];clear eW x0;generalize w2.heap.size=gb at *
 go_loopw [6] (fun iv wr=>∃ k:Nat,k≤n∧iv = .int .i64 k∧Bj wr w.heap.size 28 #[.bool false,.slice none 0 0,.bool false,.slice none 0 0]∧Bg wr gb 26 (dl k F:Nat)∧Ext w1 wr) (fun iv _=>n - (intOf iv).toNat)
 case atStart=>exact⟨0,Nat.zero_le _,rfl,ea,Bg.mk eb hr2,Hx1.out⟩
 case round =>
  clear ea eb hr2 Hx1;obtain⟨k,hk,rfl,ea,⟨b,B,bn,bc,eb,hb⟩,hx2⟩:=hrel;have Hb:=Ad hb;clear hb;by_cases hkn:k < n
  ·have hkl1:k < l1.length:=by have:=HA.out.2.1;omega
   obtain⟨g,o,b1,B1,n1,d1,b2,B2,n2,d2,rfl,_,q0,q1,q2,q3,hq⟩:=HA.out.1.at_ (j:=k) hkl1;rw[←DW,HA.out.2.2]at hq;replace q0:=hx2.cell q0;replace q1:=hx2.cell q1;replace q2:=hx2.cell q2;replace q3:=hx2.cell q3;have hqs:=HX.out.2.2.2.1 k;have hqd:=(hq.ext hx2).dens (by have:=HX.out.2.2.2.2.1;omega);have hdk:=HX.out.2.2.2.2.2.2.1 k Aa;obtain⟨L,hL⟩:∃ L,L=dl k F:=⟨_,rfl⟩
   obtain⟨D,hD⟩:∃ D,D=(F k).den:=⟨_,rfl⟩
   have hDp:0 < D:=by rw[hD];exact(F k).den_pos
   have hLp:0 < L:=by rw[hL];exact KZ F k
   have hG:Int.gcd (L:Int) (D:Int)=Nat.gcd L D:=Int.gcd_natCast_natCast L D;have hGp:0 < Nat.gcd L D:=Nat.gcd_pos_of_pos_left _ hLp;have hGn:((Nat.gcd L D:Nat):Int)≠0:=by omega
   have hLs:sz ((L:Nat):Int).natAbs≤4294967296:=by rw[Int.natAbs_natCast,hL];omega
   have hDs:sz ((D:Nat):Int).natAbs≤1000000:=by
    have h2:=Fh (F k);rw[←hD]at h2;have:=HX.out.2.2.2.2.1;omega
   have hGs:sz ((Nat.gcd L D:Nat):Int).natAbs≤4294967296:=by
    rw[Int.natAbs_natCast];have:=Bp (Nat.le_of_dvd hLp (Nat.gcd_dvd_left L D));rw[←hL]at hdk;omega
   have hMs:sz ((L:Int)*(D:Int)).natAbs≤4294967296+1000000:=Fq hLs hDs;have hstep:(L:Int)*(D:Int) / ((Nat.gcd L D:Nat):Int)=(dl (k+1) F:Nat):=by
    rw[←Xd,hL,hD];norm_cast
   rw[←hL]at Hb;rw[←hD]at hqd;have HG:=Ad (Ak hG (Ak hGn (Ak hLs (Ak hDs (Ak hGs (Ak hMs hstep))))));have Hq:=Ad hqd.1;clear hq hqs hqd hdk hG hGp hGn hGs hstep hL hD hDp hLp hLs hDs hMs;obtain⟨r0,r1⟩:=eb.cells2
   go_wp2_with fail
   refine Ae 15 [23,24,25,26,27,28,29,30,31,32,33,34,35,36,37] [[],[],[],[1,2],[1,2,3],[1,2,3,4],[0,1,2,3,4,5],[],[],[],[8,9],[8,9,10],[8,9,10,11],[0,1,2,3,4,5,6,7,8,9,10,11,12],[0,1,2,3,4,5,6,7,8,9,10,11,12,13],[0,1,2,3,4,5,6,7,8,9,10,11,12,13,14]] [5,4,6] [_,_,_] [(kv ?_),(kv ?_),(kv ?_),(kv ?_),(kv ?_),(kv ?_),(fun γ=>γ 6),(kv ?_),(kv ?_),(kv ?_),(kv ?_),(kv ?_),(kv ?_),(fun γ=>γ 13),(fun γ=>γ 14)] (fun γ w'=>[True,True,True,True,True,True,AO w' (γ 6) ((L:Int)*(D:Int)),True,True,True,True,True,True,AO w' (γ 13) (Nat.gcd L D:Nat),AO w' (γ 14) (dl (k+1) F:Nat)]) Bn Aj Aj Bo Aj Bl Br ?hstep1 ?_
   case hstep1 =>
    iterate 15 refine⟨?_,?_⟩
    trivial
    iterate 6 focus
     intro γ w' he hf;clear hf;refine⟨by trivial,?_⟩;intro R hR;have hc:=he.cells;have cq0:=he.cell q0;have cq1:=he.cell q1;have cq2:=he.cell q2;have cq3:=he.cell q3;have cq4:=he.cell r0;have cq5:=he.cell r1;go_simp;(try go_ints);(try(rw[if_neg Aa]));(try(rw[if_pos Aa]));(try go_simp);(try go_ints)
     refine hR _ _ (Ext.refl _) ?_ trivial;rfl
    ·intro γ w' he hf;clear hf;refine⟨trivial,?_⟩;intro R hR
     go_simp;exact Bd (FQ _ _ (L:Int) (D:Int) w' ((Hb.out.kd he.kd).has (by have:=HG.out.2.2.1;omega)) (Hq.out.kd he.kd) (by have:=HG.out.2.2.1;omega) (by have:=HG.out.2.2.2.1;omega)) hR
    iterate 6 focus
     intro γ w' he hf;clear hf;refine⟨by trivial,?_⟩;intro R hR;have hc:=he.cells;have cq0:=he.cell q0;have cq1:=he.cell q1;have cq2:=he.cell q2;have cq3:=he.cell q3;have cq4:=he.cell r0;have cq5:=he.cell r1;go_simp;(try go_ints);(try(rw[if_neg Aa]));(try(rw[if_pos Aa]));(try go_simp);(try go_ints)
     refine hR _ _ (Ext.refl _) ?_ trivial;rfl
    ·intro γ w' he hf;clear hf;refine⟨trivial,?_⟩;intro R hR
     go_simp;exact Bd (F:=fun r w''=>AO w'' (r) (Nat.gcd L D:Nat)) (Ah.imp (Uc _ _ (L:Int) (D:Int) w' ((Hb.out.kd he.kd).has (by have:=HG.out.2.2.1;omega)) (Hq.out.kd he.kd) (by have:=HG.out.2.2.1;omega) (by have:=HG.out.2.2.2.1;omega)) fun _ _ h=>AO.cast h (congrArg _ HG.out.1)) hR
    ·intro γ w' he hf;have f6:AO w' (γ 6) ((L:Int)*(D:Int)):=hf 6 Ab;have f13:AO w' (γ 13) (Nat.gcd L D:Nat):=hf 13 Ab;clear hf;refine⟨trivial,?_⟩;intro R hR
     go_simp;exact Bd (F:=fun r w''=>AO w'' (r) (dl (k+1) F:Nat)) (Ah.imp (Io _ _ ((L:Int)*(D:Int)) (Nat.gcd L D:Nat) w' (f6.has (by have:=HG.out.2.2.2.2.2.1;omega)) (f13.has (by have:=HG.out.2.2.2.2.1;omega)) HG.out.2.1 (by have:=HG.out.2.2.2.2.2.1;omega) (by have:=HG.out.2.2.2.2.1;omega)) fun _ _ h=>AO.cast h HG.out.2.2.2.2.2.2) hR
   intro γ w8 hx8 hF;have p6:AO w8 (γ 6) ((L:Int)*(D:Int)):=AA.get hF 6 Ab;have p13:AO w8 (γ 13) (Nat.gcd L D:Nat):=AA.get hF 13 Ab;have p14:AO w8 (γ 14) (dl (k+1) F:Nat):=AA.get hF 14 Ab;clear hF;simp only[Bf,Nat.reduceAdd];generalize γ 6=g6 at *;generalize γ 13=g13 at *;generalize γ 14=g14 at *;clear γ;obtain⟨b8,A8,n8,c8,rfl⟩:=p14.cells;replace ea:=ea.ext hx8;replace eb:=eb.ext hx8;replace hx2:=hx2.trans hx8
   clear q0 q1 q2 q3 r0 r1 p6 p13 hx8 Hb Hq;obtain⟨ceb0,ceb1⟩:=eb.cells2;have feb:=eb.frozen;go_wp2;obtain⟨W5,eW,eb',U⟩:=eb.put2 (.bool b8) (.slice A8 n8 c8) rfl rfl;rw[←eW];clear eW eb;replace p14:=p14.kd U.kd;replace ea:=ea.upd U Ai;replace hx2:=U.from_ hx2 Ai;have eb:=eb';clear U eb'
   go_roundw
   case rel=>exact⟨k+1,Aa,by go_num,ea,Bg.mk eb p14,hx2⟩
   case measure=>simp[intOf]<;>omega
  ·obtain rfl:n=k:=by omega
   have hgbl:=eb.lt;have hb0:=Hb.out;go_wp2
   go_loopw [7,8] (fun zv iv wr=>∃ k:Nat,k≤n∧iv = .int .i64 k∧CE (gb+1) 26 wr zv (Dq k (CO n F))∧Bj wr w.heap.size 28 #[.bool false,.slice none 0 0,.bool false,.slice none 0 0]∧Bj wr gb 26 #[.bool b,.slice B bn bc]∧AO wr (.agg #[.bool b,.slice B bn bc]) (dl n F:Nat)∧Ext w1 wr) (fun _ iv _=>n - (intOf iv).toNat)
   case atStart=>exact⟨0,Nat.zero_le _,rfl,BI.nil _ _ _ _ _,ea,eb,hb0,hx2⟩
   case round =>
    clear ea eb hx2 hgbl hb0 Hb;obtain⟨k,hk,rfl,hown,ea,eb,hb,hx2⟩:=hrel;have Hb:=Ad hb;clear hb;have hgbl:=eb.lt;by_cases hkn:k < n
    ·have hkl1:k < l1.length:=by have:=HA.out.2.1;omega
     obtain⟨g,o,b1,B1,n1,d1,b2,B2,n2,d2,rfl,_,q0,q1,q2,q3,hq⟩:=HA.out.1.at_ (j:=k) hkl1;rw[←DW,HA.out.2.2]at hq;replace q0:=hx2.cell q0;replace q1:=hx2.cell q1;replace q2:=hx2.cell q2;replace q3:=hx2.cell q3;have hqs:=HX.out.2.2.2.1 k;have hqd:=(hq.ext hx2).dens (by have:=HX.out.2.2.2.2.1;omega);have hdk:=HX.out.2.2.2.2.2.2.1 n (Nat.le_refl _);obtain⟨L,hL⟩:∃ L,L=dl n F:=⟨_,rfl⟩
     obtain⟨D,hD⟩:∃ D,D=(F k).den:=⟨_,rfl⟩
     have hDn:(D:Int)≠0:=by have:=(F k).den_pos;omega
     have hDd:(D:Int)∣(L:Int):=by rw[hD,hL];exact Int.natCast_dvd_natCast.2 (PM F n k hkn)
     have hval:(F k).num*((L:Int) / (D:Int))=(CO n F k).num:=by rw[U0 HX.out.2.2.2.2.2.1,hL,hD]
     obtain⟨X,hX⟩:∃ X:Int,X=(L:Int) / (D:Int):=⟨_,rfl⟩
     rw[←hX]at hval;have hLs:sz ((L:Nat):Int).natAbs≤4294967296:=by rw[Int.natAbs_natCast,hL];omega
     have hDs:sz ((D:Nat):Int).natAbs≤1000000:=by
      have h2:=Fh (F k);rw[←hD]at h2;have:=HX.out.2.2.2.2.1;omega
     have hNs:sz (F k).num.natAbs≤1000000:=by
      have h2:=Ht (F k);have:=HX.out.2.2.2.2.1;omega
     have hXs:sz X.natAbs≤4294967296:=by
      have h1:=Kv hDd;rw[←hX]at h1;omega
     rw[←hL]at Hb;rw[←hD]at hqd;have HG:=Ad (Ak hX (Ak hDn (Ak hDs (Ak hval (Ak hLs (Ak hXs (Ak hL hNs)))))));have Hq:=Ad hqd;have Hown:=Ad hown;clear hq hqs hqd hdk hDn hDd hval hX hL hD hLs hXs hDs hNs hown
     go_wp2_with fail
     obtain⟨ceb0,ceb1⟩:=eb.cells2;have feb:=eb.frozen;refine Ae 15 [44,45,46,47,48,49,50,51,52,53,54,55,56,57,58] [[],[],[],[1,2],[1,2,3],[1,2,3,4],[],[],[],[7,8],[7,8,9],[7,8,9,10],[6,7,8,9,10,11],[1,2,3,4,5,6,7,8,9,10,11,12],[1,2,3,4,5,6,7,8,9,10,11,12,13],[0,1,2,3,4,5,6,7,8,9,10,11,12,13,14],[0,1,2,3,4,5,6,7,8,9,10,11,12,13,14,15]] [7,4,8,5] [_,_,_,_] [(kv ?_),(kv ?_),(kv ?_),(kv ?_),(kv ?_),(kv ?_),(kv ?_),(kv ?_),(kv ?_),(kv ?_),(kv ?_),(kv ?_),(fun γ=>γ 12),(fun γ=>γ 13),(fun γ=>γ 14)] (fun γ w'=>[True,True,True,True,True,True,True,True,True,True,True,True,AO w' (γ 12) X,AO w' (γ 13) (CO n F k).num,Es w' (γ 14) (wr.heap.size) ((CO n F k).num) 26]) Bn Aj Aj Bo Aj Bl Br ?hstep2 ?_
     case hstep2 =>
      iterate 15 refine⟨?_,?_⟩
      trivial
      iterate 12 focus
       intro γ w' he hf;clear hf;refine⟨by trivial,?_⟩;intro R hR;have hc:=he.cells;have cq0:=he.cell q0;have cq1:=he.cell q1;have cq2:=he.cell q2;have cq3:=he.cell q3;have cq4:=he.cell ceb0;have cq5:=he.cell ceb1;go_simp;(try go_ints);(try(rw[if_neg Aa]));(try(rw[if_pos Aa]));(try go_simp);(try go_ints)
       refine hR _ _ (Ext.refl _) ?_ trivial;rfl
      ·intro γ w' he hf;clear hf;refine⟨trivial,?_⟩;intro R hR
       go_simp;exact Bd (F:=fun r w''=>AO w'' (r) X) (Ah.imp (Io _ _ (L:Int) (D:Int) w' ((Hb.out.kd he.kd).has (by have:=HG.out.2.2.2.2.1;omega)) (Hq.out.1.kd he.kd) HG.out.2.1 (by have:=HG.out.2.2.2.2.1;omega) (by have:=HG.out.2.2.1;omega)) fun _ _ h=>AO.cast h HG.out.1.symm) hR
      ·intro γ w' he hf;have f12:AO w' (γ 12) X:=hf 12 Ab;clear hf;refine⟨trivial,?_⟩;intro R hR
       go_simp;exact Bd (F:=fun r w''=>AO w'' (r) (CO n F k).num) (Ah.imp (FQ _ _ (F k).num X w' (Hq.out.2.kd he.kd) (f12.has (by have:=HG.out.2.2.2.2.2.1;omega)) (by have:=HG.out.2.2.2.2.2.2.2;omega) (by have:=HG.out.2.2.2.2.2.1;omega)) fun _ _ h=>AO.cast h HG.out.2.2.2.1) hR
      ·intro γ w' he hf;have f13:AO w' (γ 13) (CO n F k).num:=hf 13 Ab;clear hf;refine⟨trivial,?_⟩;intro R hR
       refine AO.el f13 fun b5 A5 n5 c5 e13 f13'=>?_;clear f13;go_simp;exact hR _ _ ((Ext.refl _).alloc _) rfl (Es.mk f13' (Nat.le_trans Ac he.size) _)
     intro γ w8 hx8 hF;have p12:AO w8 (γ 12) X:=AA.get hF 12 Ab;have p13:AO w8 (γ 13) (CO n F k).num:=AA.get hF 13 Ab;have p14:Es w8 (γ 14) (wr.heap.size) ((CO n F k).num) 26:=AA.get hF 14 Ab;clear hF;simp only[Bf,Nat.reduceAdd];generalize γ 12=g12 at *;generalize γ 13=g13 at *;generalize γ 14=g14 at *;clear γ;have hs8:=hx8.size;refine AB rfl _ _ 22 rfl u7 g14 rfl rfl (Jk w8 _ _ (gb+1) _ _ _ _ (Hown.out.ext hx8) p14 (by rw[AY];omega) Aa) ?_
     rintro v' w5 ⟨hown,U⟩;have hb2:=BI.blk_ge (Hown.out.ext hx8);replace ea:=(ea.ext hx8).upd U (fun hm=>by have:=(hb2 _ hm).1;omega);replace eb:=(eb.ext hx8).upd U (fun hm=>by have:=(hb2 _ hm).1;omega);have Hb':=Ad ((Hb.out.kd hx8.kd).kd U.kd);replace hx2:=U.from_ (hx2.trans hx8) (fun g hg=>by have:=(hb2 _ hg).1;omega);have Hown':=Ad hown;clear hown U hb2 hx8 Hb Hown p12 p13 p14 q0 q1 q2 q3 Hq;go_wp2
     go_roundw
     case rel=>exact⟨k+1,Aa,by go_num,by rw[Ed];exact Hown'.out,ea,eb,by rw[←HG.out.2.2.2.2.2.2.1];exact Hb'.out,hx2⟩
     case measure=>simp[intOf]<;>omega
    ·obtain rfl:n=k:=by omega
     obtain⟨A2,c2,hv2⟩:=(CE.row hown).len;rw[AY]at hv2;have hz2:=Sv hown (fun i=>by have:=HX.out.2.2.2.2.2.2.2 i;omega);rw[hv2]at hz2;have hzn:=Eh HX.out.2.2.2.2.2.1;have hfn:=Dr (n:=n) HX.out.2.1;have hczl:=EC hzn (show BB n (CO n F)from(HX.out.2.2.2.2.2.1).psc _);have hppz:=Iu hzn hfn;have hppq:=fun i=>Fb hzn hfn HX.out.2.2.2.2.2.2.2 i;have hppl:pl (pp (CO n F))≤1000:=by
      rw[EE hzn hfn,Lt HX.out.2.1,←HX.out.1];exact hn3
     have Hz:=Ad (Ak hz2 (Ak hczl (Ak hppz (Ak hppq hppl))));clear hz2 hczl hown hzn hfn hppz hppq hppl;subst hv2
     go_wp2_with fail
     refine AL (EG _ _ _ Hz.out.1 (by rw[Hz.out.2.1];intro i;have:=HX.out.2.2.2.2.2.2.2 i;omega) (by rw[AY];omega)) ?_;rintro r2 w2 hr2 hx3;rw[Hz.out.2.1]at hr2;replace ea:=ea.ext hx3;have hz4:=hx2.size;replace hx2:=hx2.trans hx3;have Hp:=Ad hr2;obtain⟨A3,c3,rfl,k3,k4⟩:=hr2.shape;clear hr2 hx3 Hb eb
     go_wp2_with fail
     refine AL (Z8 _ lh _ (HH.out.1.ext hx2) (by have:=HH.out.2.1;omega)) ?_;rintro r3 w3 hr3 hx3;rw[HH.out.2.2]at hr3;have hldq:qsz (ld F)≤1000000:=by have:=HX.out.2.2.2.1 (pl F - 1);have:=HX.out.2.2.2.2.1;show qsz (F (pl F - 1))≤_;omega
     have Hr3:=Ad (hr3.has (by omega:qsz (ld F)≤274877906944));clear hr3 hldq;have Hp':=Ad (Hp.out.ext hx3);replace ea:=ea.ext hx3;replace hx2:=hx2.trans hx3;clear hx3 Hp;obtain⟨lp,hp1,hp2,-,hp4⟩:=Hp'.out.hz (fun i=>by have:=Hz.out.2.2.2.1 i;omega);have HP:=Ad (Ak hp1 (Ak hp2 hp4));clear hp1 hp2 hp4
     go_wp2_with fail
     refine AL (KG _ lp _ HP.out.1 (by have:=HP.out.2.1;have:=Hz.out.2.2.2.2;omega)) ?_;rintro r4 w4 hr4 hx4;rw[HP.out.2.2]at hr4;have hlq:sz (ld (pp (CO n F))).num.natAbs≤1099511627776:=by
      have:=Hz.out.2.2.2.1 (pl (pp (CO n F)) - 1);unfold qsz at this;show sz (pp (CO n F) (pl (pp (CO n F)) - 1)).num.natAbs≤_;omega
     have Hr4:=Ad (hr4.has hlq);clear hr4 hlq;have Hp:=Ad (Hp'.out.ext hx4);have Hr3':=Ad (Hr3.out.ext hx4);replace ea:=ea.ext hx4;replace hx2:=hx2.trans hx4;clear hx4 Hp' Hr3 HP
     go_wp2_with fail
     refine AL (IB _ _ _ Hr4.out) ?_;rintro r5 w5 hr5 hx5;rw[show(((ld (pp (CO n F))).num:Int):Rat)=ld (pp (CO n F))from(Hz.out.2.2.1.num _).symm]at hr5;have hlq:qsz (ld (pp (CO n F)))≤274877906944:=by
      have:=Hz.out.2.2.2.1 (pl (pp (CO n F)) - 1);show qsz (pp (CO n F) (pl (pp (CO n F)) - 1))≤_;omega
     have Hr5:=Ad (hr5.has hlq);clear hr5 hlq;have Hp':=Ad (Hp.out.ext hx5);have Hr3:=Ad (Hr3'.out.ext hx5);replace ea:=ea.ext hx5;replace hx2:=hx2.trans hx5;clear hx5 Hp Hr3' Hr4
     go_wp2_with fail
     refine AL (QV _ _ _ _ _ Hr3.out Hr5.out) ?_;rintro r6 w6 hr6 hx6;obtain⟨b8,A8,n8,c8,b9,A9,n9,c9,rfl⟩:=hr6.cells;have hp:=Hp'.out.ext hx6;replace ea:=ea.ext hx6;have hxx:=hx.trans (hx2.trans hx6);clear hx6 Hp' Hr3 Hr5 hx2;obtain⟨cea0,cea1,cea2,cea3⟩:=ea.cells4;have fea:=ea.frozen;go_wp2;obtain⟨W3,eW,ea',U⟩:=ea.put4 (.bool b8) (.slice A8 n8 c8) (.bool b9) (.slice A9 n9 c9) rfl rfl rfl rfl;rw[←eW]
     clear eW ea;replace hr6:=hr6.kd U.kd;replace hp:=hp.upd U Ai;replace hxx:=U.from_ hxx Ai;have ea:=ea';clear U ea';have HP:=Ad (hp.base_le (Nat.zero_le _));clear hp;clear cea0 cea1 cea2 cea3;obtain⟨cea0,cea1,cea2,cea3⟩:=ea.cells4;have fea:=ea.frozen;refine bodyPost_ret (v := .tuple #[_,.agg #[.bool b8,.slice A8 n8 c8,.bool b9,.slice A9 n9 c9]]) (by simp[results,Tryz.results72,go_sem,cea0,cea1,cea2,cea3];rfl) rfl ?_
     exact Ah.mk ⟨_,_,rfl,HP.out,hr6⟩ hxx
theorem iY(v:Value)(l:List Int)(w:World)(hv:Dt 0 w v l)(hn:l.length≤1099511627776):Bh 115 #[v] w (fun r w'=>Da w.heap.size w' r (cz l)):=by
 obtain⟨A,c,rfl,hl,hc,hA⟩:=hv;obtain⟨W0,hmk,ea,hx⟩:=Li l.length (l.length:Int) rfl hn w;have HA:Hid (GI 0 w A l):=Ad hA;clear hA;have hzl:=Ei l;have Hzl:=Ad hzl;clear hzl
 go_enter Tryz.func115,Tryz.ntmps115
 go_wp2
 go_loopw [11] (fun iv wr=>∃ (k:Nat) (la:List (Option Rat)),k≤l.length∧iv = .int .i64 k∧Cx wr w.heap.size 28 la∧la.length=l.length∧la=((zq l).take k).map some ++ List.replicate (l.length - k) none∧Ext w wr) (fun iv _=>l.length - (intOf iv).toNat)
 case atStart=>exact⟨0,_,Nat.zero_le _,rfl,ea,Ac,Ac,hx⟩
 case round =>
  obtain⟨k,la,hk,rfl,ea,hlen,hla,hx⟩:=hrel;have Hla:=Ad hla;clear hla;have Hlen:=Ad hlen;clear hlen;by_cases hkl:k < l.length
  ·obtain⟨g,o,b,A1,n,c1,rfl,_,q0,q1,hq⟩:=HA.out.at_ (j:=k) hkl
   replace q0:=hx.cell q0;replace q1:=hx.cell q1;have Hq:=Ad hq;clear hq
   go_wp2_with fail
   refine AL (Ih _ _ _ (Hq.out.kd (hx.alloc _).kd)) ?_;rintro r w2 hr hx2;replace ea:=ea.ext hx2.a1;replace hx:=hx.trans hx2.a1;clear hx2 q0 q1;obtain⟨b5,A5,n5,c5,b6,A6,n6,c6,rfl⟩:=hr.cells;have hkla:k < la.length:=by have:=Hlen.out;omega
   obtain⟨_,_,_,_,_,_,_,_,ca0,ca1,ca2,ca3,-⟩:=ea.at_ (j:=k) (by first | omega | (simp;omega));have fa0:=ea.frozen (k*4);have fa1:=ea.frozen (k*4+1);have fa2:=ea.frozen (k*4+2);have fa3:=ea.frozen (k*4+3);go_wp2;obtain⟨W3,eW,ea',U⟩:=ea.put (k:=k) (by first | omega | (simp;omega)) hr;rw[←eW];clear eW ea;replace hx:=U.from_ hx Ai;have ea:=ea';clear U ea'
   go_roundw
   case rel=>exact⟨k+1,_,Aa,by go_num,ea,by simpa using Hlen.out,Rv Hla.out hkl Hzl.out (ND hkl),hx⟩
   case measure=>simp[intOf];omega
  ·obtain rfl:k=l.length:=by omega
   replace ea:Cx wr w.heap.size 28 ((zq l).map some):=by
    have:=Hla.out;rw[Nat.sub_self,List.replicate_zero,List.append_nil,List.take_of_length_le (by rw[Hzl.out];exact Nat.le_refl _)]at this;rw[←this];exact ea
   have hrow:=ea.row (m:=zq l) rfl (Nat.le_refl _);have hT:=GY w.heap.size (some ⟨w.heap.size,0,none⟩) l.length (zq l) wr (by rw[Hzl.out];exact Nat.le_refl _) Aa hrow;rw[Hzl.out]at hT;have Hrow:=Ad hrow;clear hrow
   go_wp2_with fail
   refine Calls.mono hT ?_;rintro e w2 ⟨rfl,rfl⟩;go_wp2
   go_ret
   exact Ah.mk (Da.of_trim (Pt.trim Hrow.out (by rw[Hzl.out];exact Nat.le_refl _)) rfl) hx
theorem iQ(v:Value)(l:List Int)(w:World)(hv:Dt 0 w v l)(hs:∀ i,qsz (cz l i)≤274877906944)(hn:l.length≤274877906944):Bh 71 #[v] w (fun r w'=>Da w.heap.size w' r (cz l)):=by
 obtain⟨A,c,rfl,hl,hc,hA⟩:=hv;have HA:Hid (GI 0 w A l):=Ad hA;clear hA;have HS:=Ad hs;clear hs
 go_enter Tryz.func71,Tryz.ntmps71
 go_wp2
 go_loopw [3,4] (fun ov iv wr=>∃ (k:Nat),k≤l.length∧iv = .int .i64 k∧Ej w.heap.size 28 wr ov ((List.range k).map (cz l))∧Ext w wr) (fun _ iv _=>l.length - (intOf iv).toNat)
 case atStart=>exact⟨0,Nat.zero_le _,rfl,BI.nil _ _ _ _ _,Ext.refl _⟩
 case round =>
  obtain⟨k,hk,rfl,hown,hx⟩:=hrel;by_cases hkl:k < l.length
  ·obtain⟨g,o,b,A1,n,c1,rfl,_,q0,q1,hq⟩:=HA.out.at_ (j:=k) hkl
   replace q0:=hx.cell q0;replace q1:=hx.cell q1;have Hq:=Ad hq;clear hq
   go_wp2_with fail
   refine AL (IB _ _ _ (Hq.out.kd hx.kd)) ?_;rintro r w2 hr hx2;rw[←Ch hkl]at hr;obtain⟨b5,A5,n5,c5,b6,A6,n6,c6,rfl⟩:=hr.cells;have Hr:=Ad hr;clear hr;replace hown:=hown.ext hx2;replace hx:=hx.trans hx2;have Hown:=Ad hown;clear hown;have hsz:=hx.size;clear hx2 q0 q1
   go_wp2_with (at_builtin;refine AB rfl _ _ 43 rfl u3 (.slice (some ⟨w2.heap.size,0,none⟩) 1 1) rfl rfl (Ol w2 w.heap.size _ _ _ _ _ Hown.out Hr.out (by first | (rw[List.length_map,List.length_range];omega) | omega) hsz rfl) ?_)
   first | intro v' w5 hown U | rintro v' w5 ⟨hown,U⟩
   replace hx:=(Hown.out.ext ((Ext.refl w2).alloc _)).from_ U (hx.alloc _) (Nat.le_refl _);have Hown':=Ad hown;clear hown U;go_wp2
   go_roundw
   case rel=>exact⟨k+1,Aa,by go_num,by rw[IE];exact Hown'.out,hx⟩
   case measure=>simp[intOf]<;>omega
  ·obtain rfl:k=l.length:=by omega
   have hz:BB l.length (cz l):=(BK l)
   have hco:=Jp hz;have hh:=(Ej.row hown).has (fun q hq=>by obtain⟨i,hi,rfl⟩:=List.mem_map.1 hq;have hi:=List.mem_range.1 hi;exact(HS.out i));have hln:((List.range l.length).map (cz l)).length≤1099511627776:=by rw[List.length_map,List.length_range];omega
   obtain⟨A2,c2,e2⟩:=hh.len;rw[DN]at e2;subst e2;have HH:=Ad (Ak hh hco);clear hh hco hz hown
   go_wp2_with fail
   refine AL (Fy _ _ _ HH.out.1 hln) ?_;rintro r w9 hr hx9;have hsz:=(hx).size;have Hr:=Ad hr;clear hr hln;go_wp2
   go_ret
   exact Ah.mk (by rw[←HH.out.2];exact Hr.out.base_le Aa) ((hx).trans hx9)
end Go.Proofs.YtmhgnigpmompmaaGreat
namespace Go.Hp
theorem AP.cast{b:Nat}{w:World}{v:Value}{F G:Nat→Rat}(h:AP b w v F)(e:F=G):AP b w v G:=e▸h
theorem Da.cast{b:Nat}{w:World}{v:Value}{F G:Nat→Rat}(h:Da b w v F)(e:F=G):Da b w v G:=e▸h
theorem Uv{n:Nat}{F:Nat→Rat}{s:Nat}(hs:BB n F)(hq:∀ i,qsz (F i)≤s):qsz (KL n F)≤s+(1+n*s+1+s):=by
 unfold KL;have h1:=Fu (ld F) (ld (pp (CO n F)));have h2:=hq (pl F - 1);have h3:=Fb (Eh hs) (Dr (n:=n) ⟨n,hs⟩) (fun i=>KP (n:=n) hq i) (pl (pp (CO n F)) - 1);have e1:ld F=F (pl F - 1):=rfl;have e2:ld (pp (CO n F))=pp (CO n F) (pl (pp (CO n F)) - 1):=rfl;rw[e1,e2]at h1;show qsz (F (pl F - 1) / pp (CO n F) (pl (pp (CO n F)) - 1))≤_;omega
end Go.Hp
namespace Go.Proofs.YtmhgnigpmompmaaGreat
open Go.RowKit Go.Hp
theorem UH(v:Value)(l:List Rat)(s:Nat)(w:World)(hv:KU 0 w v l)(hn:l.length≤1000)(hs:∀ i,qsz (co l i)≤s)(hs0:s≤1000000) :
  Bh 116 #[v] w (fun r w'=>LD w.heap.size (pl (co l)) (co l) r w'):=by
 by_cases h0:co l=pz
 ·have:=RS v l w hv Aa h0
  rw[h0,Ca];exact this
 ·exact YJ v l s w hv hn hs hs0 h0
theorem SA(v:Value)(l:List Rat)(s:Nat)(w:World)(hv:KU 0 w v l)(hn:l.length≤1000)(hs:∀ i,qsz (co l i)≤s)(hs0:s≤1000000) :
  Bh 72 #[v] w (fun r w'=>LD 0 (pl (co l)) (co l) r w'):=by
 by_cases h0:co l=pz
 ·have:=R9 v l w hv Aa h0
  rw[h0,Ca];exact this
 ·exact Yh v l s w hv hn hs hs0 h0
end Go.Proofs.YtmhgnigpmompmaaGreat
namespace Go.Hp
theorem aB{F:Nat→Rat}{s:Nat}(z:ZI F)(h:∀ i,qsz (F i)≤s):CD s F:=by
 have h1:=Cg (F 0);have h2:=h 0;refine⟨1,bp s - 1,⟨Aa,fun i=>⟨(F i).num,?_,?_⟩⟩,?_,?_⟩
 ·have e:((1:Nat):Rat)=1:=rfl
  rw[e,←z.num i];grind
 ·have h3:=Nat.le_trans (ER (F i)) (h i)
  have h4:=EU.1 h3;omega
 ·have:sz 1=1:=by decide
  omega
 ·have:0 < bp s:=by have:=EU.1 (show sz 0≤s by have:sz 0=0:=Ab;omega);omega
  exact Cj Aa
open Go.RowKit
theorem Gz.one{base eb:Nat}{t:TypeId}{w:World}{A:Option Addr}{n c:Nat}{F:Nat→Rat}(hu:AP eb w (.slice A n c) F)(hb:base≤w.heap.size) :
  Gz base eb t (w.alloc (.cells #[.slice A n c] t)) (.slice (some ⟨w.heap.size,0,none⟩) 1 1) [.slice A n c] [F]:=by
 have hB:=Bj.new w t #[.slice A n c] (by simp[Ag]);refine⟨⟨[#[.slice A n c]],rfl,Ac,⟨Ac,.inr ⟨_,1,_,rfl,hb,hB,Nat.le_refl _,by simp[maxLen],Ac,Ac⟩⟩,fun j h h'=>?_⟩,rfl,PL hB.1 (by simp[RA]),fun i h h'=>?_⟩
 ·have:j=0:=by simp at h;omega
  subst this;exact⟨rfl,_,_,_,rfl⟩
 ·have:i=0:=by simp at h;omega
  subst this;exact hu.ext ((Ext.refl w).alloc _)
theorem aG{A B:Nat→Rat}(fA:Af A)(fB:Af B)(h0:B≠pz):nx A B=psc (if 0 < KL (pl (pr A B)) (pr A B)then -1 else 1) (pp (CO (pl (pr A B)) (pr A B))):=by
 by_cases h:pr A B=pz
 ·rw[Jb h,h,SB,PV,GH,FU]
 ·rw[TI h]
  have:=(Uq (AU (EQ fA fB)) h).1;by_cases h1:0 < ld (pr A B)
  ·rw[if_pos h1,if_pos (this.2 h1)]
  ·rw[if_neg h1,if_neg (fun q=>h1 (this.1 q))]
theorem Kz{q:Rat}:0 < q.num↔0 < q:=by
 have h1:=Rat.num_nonneg (q:=q);have h2:=Rat.num_eq_zero (q:=q);constructor
 ·intro h
  have:0≤q:=h1.1 Aa;have h3:q≠0:=fun e=>by have:=h2.2 e;omega
  grind
 ·intro h
  have:0≤q.num:=h1.2 Au;have h3:q.num≠0:=fun e=>by have:=h2.1 e;grind
  omega
theorem PW{q:Rat}(h:0 < q):FB q=1:=Int.sign_eq_one_of_pos (Kz.2 h)
theorem Xg{q:Rat}(h:¬ 0 < q):FB q≤0:=by
 unfold FB;have h1:¬ 0 < q.num:=fun k=>h (Kz.1 k);rcases Int.lt_trichotomy q.num 0 with a | a | a
 ·rw[Int.sign_eq_neg_one_of_neg a];omega
 ·rw[a];decide
 ·exact absurd a h1
theorem Fg.clear{F0 G0 A B:Nat→Rat}{D S M:Nat}(h:Fg F0 G0 D S A B)(h0:B≠pz)(hM:(S+1)*2^D≤M):CD M A∧CD M B∧CD (M+(D+1)*(M+1)) (pr A B):=by
 obtain⟨fA,fB,zA,zB,hd,qA,qB⟩:=h.facts;have cA:=aB zA fun i=>Nat.le_trans (qA i) hM;have cB:=aB zB fun i=>Nat.le_trans (qB i) hM;have hp:=Be fB h0;refine⟨cA,cB,(CD.pr (n:=pl A+1 - pl B) ((AU fA).mono Aa) fB h0 cA cB).mono ?_⟩;have:(pl A+1 - pl B)*(M+1)≤(D+1)*(M+1):=Nat.mul_le_mul_right _ Aa;omega
end Go.Hp
namespace Go.Proofs.YtmhgnigpmompmaaGreat
open Go.RowKit Go.Hp
theorem XH(v:Value)(F:Nat→Rat)(w:World)(hv:AP 0 w v F)(hs:∀ i,qsz (F i)≤1099511627776)(hn:pl F≤1099511627776):Bh 115 #[v] w (fun r w'=>Da 0 w' r F):=by
 obtain⟨l,h1,h2,-,rfl⟩:=hv.hz hs;exact Ah.imp (iY v l w h1 Aa) fun _ _ h=>h.base_le (Nat.zero_le _)
theorem Vi(v u:Value)(F G:Nat→Rat)(s:Nat)(w:World)(hv:Da 0 w v F)(hu:Da 0 w u G)(h0:G≠pz)(hF:CD s F)(hG:CD s G)(hs:s≤1000000)(hn:pl F≤1000)(hm:pl G≤1000) :
  Bh 114 #[v,u] w (fun r w'=>∃ a b,r = .tuple #[a,b,.int .i64 0]∧Da 0 w' a (pq F G)∧Da 0 w' b (pr F G)):=by
 obtain⟨l,h1,h2,-,rfl⟩:=hv.hs fun i=>by have:=hF.elem i;omega
 obtain⟨m,k1,k2,-,rfl⟩:=hu.hs fun i=>by have:=hG.elem i;omega
 have:(pl (co l)+2)*(s+1)≤1002*1000001:=Nat.mul_le_mul Aa Aa;exact Ah.imp (Xa v u l m s s w h1 k1 h0 hF hG Aa Aa Aa) fun r w' ⟨a,b,e,h,k⟩=>⟨a,b,e,h.base_le (Nat.zero_le _),k.base_le (Nat.zero_le _)⟩
theorem Xb(v:Value)(F:Nat→Rat)(s:Nat)(w:World)(hv:Da 0 w v F)(hF:CD s F)(hs:s≤1000000)(hn:pl F≤1000) :
  Bh 116 #[v] w (fun r w'=>LD w.heap.size (pl F) F r w'):=by
 obtain⟨l,h1,h2,-,rfl⟩:=hv.hs fun i=>by have:=hF.elem i;omega
 exact UH v l s w h1 Aa hF.elem hs
theorem MH(v u:Value)(F:Nat→Rat)(a:Int)(w:World)(hv:AP 0 w v F)(hs:∀ i,qsz (F i)≤1099511627776)(hu:Bu w u a)(hn:pl F≤1099511627776) :
  Bh 96 #[v,u] w (fun r w'=>AP w.heap.size w' r (psc (a:Rat) F)):=by
 obtain⟨l,h1,h2,-,rfl⟩:=hv.hz hs;exact QA v u l a w h1 hu Aa
theorem Ou(v:Value)(F:Nat→Rat)(w:World)(hv:AP 0 w v F)(hs:∀ i,qsz (F i)≤274877906944)(hn:pl F≤274877906944)(zF:ZI F)(fF:Af F) :
  Bh 113 #[v] w (fun r w'=>AP w.heap.size w' r (rd F)):=by
 have HP:=Ad (IJ v F w hv (fun i=>by have:=hs i;omega) Aa);have HS:=Ad (Ak (fun W u (hu:AP 0 W u (pp F)) z (hz:Bu W z (-1))=>MH u z (pp F) (-1) W hu (fun i=>by have:=Fb zF fF hs i;omega) hz (by rw[EE zF fF];omega)) (Ra F));have HZ:=Ad (show pl F=0→¬ ld F < 0 from fun h=>by rw[(BG fF).1 h];show ¬ (0:Rat) < 0;decide);obtain⟨A,c,l,rfl,k1,k2,hA,k3,k4,k5⟩:=hv.form;have HA:=Ad (Ak hA (Ak k3 k5));clear hv hA k3 k4 k5 hs zF fF
 go_enter Tryz.func113,Tryz.ntmps113
 go_wp2_with fail
 refine AL HP.out ?_;rintro r1 w1 hr1 hx1;obtain⟨A1,c1,rfl,-⟩:=hr1.shape;have hr:=hr1;clear hr1;by_cases hp:0 < pl F
 ·obtain⟨g,o,b,A2,n,c2,rfl,_,q0,q1,hq⟩:=HA.out.1.at_ (j:=pl F - 1) (by have:=HA.out.2.1;omega)
  have hbb:=hq.two.2;have hld:ld F=(l[pl F - 1]'(by have:=HA.out.2.1;omega):Rat):=by rw[←Ch,HA.out.2.2];rfl
  have hrd:rd F=psc (if b=true then -1 else 1) (pp F):=by
   rw[HS.out.2,hld,hbb];by_cases hneg:l[pl F - 1]'(by have:=HA.out.2.1;omega) < 0
   ·rw[if_pos (by exact_mod_cast hneg),if_pos (by simpa using hneg)]
   ·rw[if_neg (fun h=>hneg (by exact_mod_cast h)),if_neg (by simpa using hneg)]
  replace q0:=hx1.cell q0;have Hrd:=Ad hrd;have Hr:=Ad hr;clear hrd hld hbb hq q1 hr;cases b with
  | true =>
   go_wp2_with fail
   refine AL (Jv (-1) _ Aa Aa) ?_;rintro r2 w2 hr2 hx2
   go_wp2_with fail
   refine AL (HS.out.1 _ _ ((Hr.out.ext hx2).base_le (Nat.zero_le _)) _ (hr2.has Ab)) ?_;rintro r3 w3 hr3 hx3;go_wp2
   go_ret
   exact Ah.mk ((hr3.base_le (hx1.trans hx2).size).cast (by rw[Hrd.out];simp)) ((hx1.trans hx2).trans hx3)
  | false =>
   go_wp2
   go_ret
   exact Ah.mk (Hr.out.cast (by rw[Hrd.out];simp[Cn])) hx1
 ·have h0:pl F=0:=by omega
  have e:rd F=pp F:=by
   rw[HS.out.2,if_neg (HZ.out h0),Cn]
  have Hr:=Ad (hr.cast e.symm);clear hr e;rw[h0];clear h0 hp;go_wp2
  go_ret
  exact Ah.mk Hr.out hx1
theorem aZ:(Tryz.prog.info? 23).map (fun i=>(i.zero,i.size,i.bytes))=some (some (.slice none 0 0),1,24):=by kernel_rfl
theorem VV(W:World)(v:Value)(base eb ty n c g:Nat)(A:Option Addr)(us:List Value)(l:List (Nat→Rat))(F:Nat→Rat)(h:Gz base eb 23 W v us l)(hu:AP eb W (.slice A n c) F)(hg:g=W.heap.size)(hn:l.length≤1000000)(hb:base≤W.heap.size) :
  ∃ v' w',(Builtin.append_ #[55,55] ty #[v,.slice (some ⟨g,0,none⟩) 1 1]).run Tryz.prog (W.alloc (.cells #[.slice A n c] 23)) = .ok v' w' ∧
   (Gz base eb 23 w' v' (us ++ [.slice A n c]) (l ++ [F])∧Cs (blk v) (W.alloc (.cells #[.slice A n c] 23)) w'∧NZ (W.alloc (.cells #[.slice A n c] 23)) v):=by
 subst hg;obtain⟨i0,hi,hz0,hz1,hz2⟩:=info_parts aZ;obtain⟨v',w',a,b,U,N⟩:=Gz.append (P:=Tryz.prog) h hu 55 ty i0 _ 24 Tryz.underlying55 hi hz0 hz1 hz2 rfl (by simp[nodig,Ag,Value.cells]) (by simp[RA,Value.cells]) (by simp only[maxLen];omega) Aa hb;exact⟨v',w',a,b,U,N⟩
set_option maxRecDepth 20000 in
theorem YL(v u:Value)(F G:Nat→Rat)(S D M:Nat)(w:World)(hv:AP 0 w v F)(hu:AP 0 w u G)(zF:ZI F)(zG:ZI G)(fF:Af F)(fG:Af G)(hs:∀ i,qsz (F i)≤S)(ht:∀ i,qsz (G i)≤S)
  (hD:pl F+pl G=D) (hM:(S+1)*2^D≤M) (hB:M+(D+1)*(M+1)≤1000000) (hD9:D≤900) :
  Bh 65 #[v,u] w (fun r w'=>∃ us K,NN F G K∧K≤pl G+1∧Gz w.heap.size w.heap.size 23 w' r us (EA F G K)):=by
 have hp2:1≤2^D:=Nat.one_le_two_pow;have hSM:S+1≤M:=Nat.le_trans (by have:=Nat.mul_le_mul_left (S+1) hp2;omega) hM;have hDM:(D+1)*1≤(D+1)*(M+1):=Nat.mul_le_mul_left _ Aa;obtain⟨K0,hK0,hK1⟩:=FN fF fG zF zG hs ht;have hR1:=fun W (x:Ext w W)=>Ou v F W (hv.ext x) (fun i=>by have:=hs i;omega) Aa zF fF;have hR2:=fun W (x:Ext w W)=>Ou u G W (hu.ext x) (fun i=>by have:=ht i;omega) Aa zG fG;have hst:∀ k,(∀ j,1≤j→j≤k→Co F G j≠pz)→Fg F G D S (Co F G k) (Co F G (k+1)):=fun k h=>by rw[←hD];exact JK fF fG zF zG hs ht k h
 have hlow:=fun k h=>M4 fF fG zF zG hs ht k h;obtain⟨A0,c0,rfl,-⟩:=hv.shape;obtain⟨A1,c1,rfl,-⟩:=hu.shape;have HX:=Ad (Ak hst (Ak hlow (Ak hM (Ak hB (Ak hD9 (Ak hD hK1))))));have HR:=Ad (Ak hR1 hR2);clear hv hu zF zG fF fG hs ht hD hM hp2 hSM hDM hR1 hR2 hst hlow hK0 hK1 hB hD9
 go_enter Tryz.func65,Tryz.ntmps65
 go_wp2_with fail
 refine AL (HR.out.1 _ (Ext.refl w)) ?_;rintro r1 w1 hr1 hx1;obtain⟨A2,c2,rfl,-⟩:=hr1.shape;have hP1:=Gz.one (t:=23) (base:=w.heap.size) (hr1.base_le (b:=w.heap.size) (Nat.le_refl _)) hx1.size;have hx:=hx1.alloc (.cells #[.slice A2 (pl (rd F)) c2] 23);have H1:=Ad hP1;clear hP1 hr1 hx1
 go_wp2_with fail
 refine AL (HR.out.2 _ hx) ?_;rintro r2 w2 hr2 hx2;have hP2:=H1.out.ext hx2;replace hr2:=hr2.base_le (b:=w.heap.size) hx.size;replace hx:=hx.trans hx2;clear H1 hx2;go_wp2
 go_loopw [5,6] (fun ov nv wr=>∃ k us,Gz w.heap.size w.heap.size 23 wr ov us (EA F G (k+1))∧AP w.heap.size wr nv (Co F G (k+1))∧(∀ j,1≤j→j≤k→Co F G j≠pz)∧Ext w wr) (fun _ nv _=>NS nv)
 case atStart=>exact⟨0,_,hP2,hr2,fun j a b=>Aa,hx⟩
 case round =>
  clear hP2 hr2 hx;obtain⟨k,us,hP,hn,hk,hx⟩:=hrel;obtain⟨L,d,rfl⟩:=hP.shape;obtain⟨A3,c3,rfl,-⟩:=hn.shape;have HK:=Ad hk;clear hk;have hf:=(HX.out.1 k HK.out).facts;have hkl:=HX.out.2.1 k HK.out;have hkk:k≤900:=by have:=HX.out;omega
  by_cases h0:0 < pl (Co F G (k+1))
  ·have hbn:Co F G (k+1)≠pz:=fun e=>by rw[e,Ca]at h0;omega
   obtain⟨fA,fB,zA,zB,hdd,qA,qB⟩:=hf;have hcl:=(HX.out.1 k HK.out).clear hbn HX.out.2.2.1;have hall:=K3 fA fB hbn;have hcx:=aG fA fB hbn;have hpr:=Ea fA fB hbn;rw[←Ku]at hall hcx;obtain⟨X,hXe⟩:∃ X,X=Co F G k:=⟨_,rfl⟩
   obtain⟨Y,hYe⟩:∃ Y,Y=Co F G (k+1):=⟨_,rfl⟩
   obtain⟨Z,hZe⟩:∃ Z,Z=Co F G (k+2):=⟨_,rfl⟩
   obtain⟨R,hRe⟩:∃ R,R=pr X Y:=⟨_,rfl⟩
   simp only[←hXe,←hYe,←hZe]at hcl hall hcx hpr hkl hbn h0 fB zB qB fA zA qA hdd;simp only[←hRe]at hcl hall hcx hpr;have hM9:M≤1000000:=by have:=HX.out.2.2.2.1;have:0≤(D+1)*(M+1):=Nat.zero_le _;omega
   have hplR:pl R≤1000:=by have:=Bq hpr;have:=HX.out.2.2.2.2.1;omega
   have hplXY:pl X≤1000∧pl Y≤1000:=by have:=HX.out.2.2.2.2.1;omega
   have hcR:KL (pl R) R=KL (pl R) R:=rfl;have hpR:∀ i,qsz (pp (CO (pl R) R) i)≤1099511627776:=fun i=>by
    have fR:Af R:=⟨_,hpr⟩
    have h1:=Fb (Eh (AU fR)) (Dr (n:=pl R) fR) (fun j=>KP (n:=pl R) hcl.2.2.elem j) i;have h2:pl R*(M+(D+1)*(M+1))≤1000*1000000:=Nat.mul_le_mul hplR HX.out.2.2.2.1;have:=HX.out.2.2.2.1;omega
   have hplc:pl (pp (CO (pl R) R))≤1000:=by
    have fR:Af R:=⟨_,hpr⟩
    rw[EE (Eh (AU fR)) (Dr (n:=pl R) fR)];exact Nat.le_trans (Bq (show BB (pl R) (CO (pl R) R)from(AU fR).psc _)) hplR
   have HC:=Ad (Ak hcl (Ak hall (Ak hcx (Ak hM9 (Ak hplR (Ak hplXY (Ak hbn (Ak hpR hplc))))))));have HE:=Ad (Ak hXe (Ak hYe (Ak hZe hRe)));have hlt:(EA F G (k+1)).length=k+1:=CP _ _ _;have HN:=Ad (hYe▸hn);rw[←hYe];rw[hlt]at hP ⊢;have HP:=Ad hP;have hbl:=Ad hP.out.blk_ge;clear hcl hall hcx hM9 hplR hplXY hcR hpR hplc hpr fA fB zA zB hdd qA qB hbn hXe hYe hZe hRe hn hP hlt
   go_wp2_with (at_builtin;refine AB rfl _ _ 55 rfl (.slice L (k+1) d) (.slice (some ⟨wr.heap.size,0,none⟩) 1 1) rfl rfl (VV wr _ w.heap.size w.heap.size _ _ _ _ _ us _ _ HP.out HN.out rfl (by rw[CP];omega) hx.size) ?_)
   intro v' w6 hP6 U hNB;have xa:=(Ext.refl wr).alloc (.cells #[.slice A3 (pl Y) c3] 23);have hP7:=hP6;rw[show EA F G (k+1) ++ [Y]=EA F G (k+1+1)from by rw[HE.out.2.1,←Rx]]at hP7;obtain⟨L2,d2,rfl⟩:=hP7.shape;have hn7:=(HN.out.ext xa).updB U hNB;have hx7:=U.from_ (hx.trans xa) (fun g' hg=>(hbl.out _ hg).1);have hlt:(EA F G (k+1+1)).length=k+2:=CP _ _ _;have hat:=hP7.at_ (i:=k) (by rw[hlt];omega);rw[TK]at hat
   obtain⟨g5,o5,E5,d5,rfl,hc5,h5⟩:=hat;rw[←HE.out.1]at hc5 h5;have H7:=Ad (Ak hP7 (Ak hn7 h5));rw[hlt];clear hP6 hP7 hn7 h5 U hNB xa hx HP HN hbl hlt
   go_wp2_with fail
   refine AL (XH _ _ _ H7.out.2.2 (fun i=>by have:=HC.out.1.1.elem i;have:=HC.out.2.2.2.1;omega) (by have:=HC.out.2.2.2.2.2.1;omega)) ?_;rintro r8 w8 hr8 hx8;have H8:=Ad (Ak (H7.out.1.ext hx8) (Ak (H7.out.2.1.ext hx8) hr8));replace hx7:=hx7.trans hx8;clear hx8 hr8 H7 hc5
   go_wp2_with fail
   refine AL (XH _ _ _ (H8.out.2.1.base_le (Nat.zero_le _)) (fun i=>by have:=HC.out.1.2.1.elem i;have:=HC.out.2.2.2.1;omega) (by have:=HC.out.2.2.2.2.2.1;omega)) ?_;rintro r9 w9 hr9 hx9;have H9:=Ad (Ak (H8.out.1.ext hx9) (Ak (H8.out.2.2.ext hx9) hr9));replace hx7:=hx7.trans hx9;clear hx9 hr9 H8
   go_wp2_with fail
   refine AL (Vi _ _ X Y M _ H9.out.2.1 H9.out.2.2 HC.out.2.2.2.2.2.2.1 HC.out.1.1 HC.out.1.2.1 HC.out.2.2.2.1 HC.out.2.2.2.2.2.1.1 HC.out.2.2.2.2.2.1.2) ?_;rintro r10 w10 ⟨qv,rv,rfl,hq10,hr10⟩ hx10;obtain⟨Aq,cq,_,rfl,-⟩:=hq10.form;obtain⟨Ar,cr,_,rfl,-⟩:=hr10.form;rw[←HE.out.2.2.2]at hr10 ⊢;have H10:=Ad (Ak (H9.out.1.ext hx10) hr10);replace hx7:=hx7.trans hx10;clear hx10 hr10 hq10 H9
   go_wp2_with fail
   refine AL (Xb _ R (M+(D+1)*(M+1)) _ H10.out.2 HC.out.1.2.2 HX.out.2.2.2.1 HC.out.2.2.2.2.1) ?_;rintro r11 w11 ⟨pv,cv,rfl,hp11,hc11⟩ hx11;replace hp11:=hp11.base_le (b:=w.heap.size) hx7.size;obtain⟨Ap,cp,rfl,-⟩:=hp11.shape;obtain⟨b5,B5,n5,e5,b6,B6,n6,e6,rfl⟩:=hc11.cells;obtain⟨W12,eW,ec,x12⟩:=Bj.made w11 28 #[.bool b5,.slice B5 n5 e5,.bool b6,.slice B6 n6 e6] (by simp[Ag]);have H12:=Ad (Ak ((H10.out.1.ext hx11).ext x12) (Ak (hp11.ext x12) (hc11.ext x12)))
   replace hx7:=(hx7.trans hx11).trans x12;clear hx11 hp11 hc11 x12 H10
   go_upto_region 7 with(fail)
   rw[←eW];clear eW;generalize w11.heap.size=gc at *;obtain⟨cec0,cec1,cec2,cec3⟩:=ec.cells4;have fec:=ec.frozen;have hqc:qsz (KL (pl R) R)≤274877906944:=by
    have h1:=Uv (AU ⟨_,(show BB (pl R) R from by
     have:=HC.out.2.1;exact AU (by rw[HE.out.2.2.2];exact EQ (HX.out.1 k HK.out |>.facts |> fun f=>by rw[HE.out.1];exact f.1) (HX.out.1 k HK.out |>.facts |> fun f=>by rw[HE.out.2.1];exact f.2.1)))⟩) HC.out.1.2.2.elem
    have h2:pl R*(M+(D+1)*(M+1))≤1000*1000000:=Nat.mul_le_mul HC.out.2.2.2.2.1 HX.out.2.2.2.1;have:=HX.out.2.2.2.1;omega
   have hcx:=HC.out.2.2.1;have hpx:=HC.out.2.2.2.2.2.2.2
   go_wp2_with fail
   refine AL (MS _ (KL (pl R) R) _ (H12.out.2.2.has hqc)) ?_;rintro r13 w13 rfl hx13;replace hx7:=hx7.trans hx13;have H13a:=Ad (Ak (H12.out.1.ext hx13) (H12.out.2.1.ext hx13));have hZe:Co F G (k+1+1)=Z:=HE.out.2.2.1.symm;clear hx13 H12 cec0 cec1 cec2 cec3 fec ec hqc;by_cases hc:0 < KL (pl R) R
   ·rw[PW hc]
    rw[if_pos hc]at hcx;have HCX:=Ad (Ak hcx (Ak hpx hZe));clear hcx hpx hc hZe
    go_wp2_with fail
    refine AL (Jv (-1) _ Aa Aa) ?_;rintro r14 w14 hr14 hx14;have H14:=Ad (Ak (H13a.out.1.ext hx14) (H13a.out.2.ext hx14));replace hx7:=hx7.trans hx14;clear hx14 H13a
    go_wp2_with fail
    refine AL (MH _ _ _ (-1) _ (H14.out.2.base_le (Nat.zero_le _)) HCX.out.2.1.1 (hr14.has Ab) (by have:=HCX.out.2.1.2;omega)) ?_;rintro r15 w15 hr15 hx15;replace hr15:=(hr15.base_le (b:=w.heap.size) hx7.size).cast (show psc (((-1:Int):Rat)) (pp (CO (pl R) R))=Z from by rw[HCX.out.1];rfl);obtain⟨A15,c15,rfl,-⟩:=hr15.shape;rw[←HCX.out.2.2]at hr15 ⊢;have H13:=Ad (Ak (H14.out.1.ext hx15) hr15);replace hx7:=hx7.trans hx15
    have HCX:=Ad HCX.out.2.2.symm;clear hx15 H14 hr15 hr14;go_wp2
    go_roundw
    case rel=>exact⟨k+1,_,(by have:=H13.out.1;rw[CP]at this;exact this),H13.out.2,fun j a1 a2=>by
     rcases Nat.lt_or_ge j (k+1)with a3 | a3
     ·exact HK.out j a1 Aa
     ·obtain rfl:j=k+1:=by omega
      rw[←HE.out.2.1];exact HC.out.2.2.2.2.2.2.1,hx7⟩
    case measure =>
     have h1:=HC.out.2.1.2.2.2.1;rw[HCX.out]at h1;simp only[NS];omega
   ·have hsg:=Xg hc
    have hdec:decide (0 < FB (KL (pl R) R))=false:=decide_eq_false Aa;rw[if_neg hc,Cn]at hcx;have hr15:=H13a.out.2;rw[←hcx,←hZe]at hr15;rw[←hcx,←hZe];have H13:=Ad (Ak H13a.out.1 hr15);have HCX:=Ad hZe.symm;clear hcx hpx hc hZe H13a hr15;go_wp2
    go_roundw
    case rel=>exact⟨k+1,_,(by have:=H13.out.1;rw[CP]at this;exact this),H13.out.2,fun j a1 a2=>by
     rcases Nat.lt_or_ge j (k+1)with a3 | a3
     ·exact HK.out j a1 Aa
     ·obtain rfl:j=k+1:=by omega
      rw[←HE.out.2.1];exact HC.out.2.2.2.2.2.2.1,hx7⟩
    case measure =>
     have h1:=HC.out.2.1.2.2.2.1;rw[HCX.out]at h1;simp only[NS];omega
  ·have hz:Co F G (k+1)=pz:=(BG hf.2.1).1 Aa
   have hS:NN F G (k+1):=⟨Aa,hz,fun j a b=>HK.out j a Aa⟩
   have HS:=Ad hS;clear hS hz hf;have HP:=Ad hP;clear hP;have hlt:(EA F G (k+1)).length=k+1:=CP _ _ _;go_wp2
   go_ret
   exact Ah.mk ⟨us,k+1,HS.out,Aa,HP.out⟩ hx
end Go.Proofs.YtmhgnigpmompmaaGreat
namespace Go.Hp
open Go.RowKit
theorem ES{q:Rat}{s:Nat}(h:qsz q≤s):sz q.num.natAbs≤s:=by unfold qsz at h;omega
theorem LY{base:Nat}{w:World}{v:Value}{n:Nat}{F:Nat→Rat}{e:TypeId}(h:CE base e w v (Dq n F))(hs:∀ i,i < n→qsz (F i)≤1099511627776):Dt 0 w v (Dq n F):=
 LG.has h.row fun x hx=>by
  obtain⟨i,hi,rfl⟩:=List.getElem_of_mem hx;rw[Cf];have:=hs i (by rw[AY]at hi;exact hi);unfold qsz at this;omega
theorem TM{la:List Int}{F:Nat→Rat}(e:cz la=F){i:Nat}(h:i < la.length):la[i]=(F i).num:=by
 subst e;rw[Ch h];rfl
end Go.Hp
namespace Go.Proofs.YtmhgnigpmompmaaGreat
open Go.RowKit Go.Hp
theorem Uo(v u:Value)(l m:List Int)(s t:Nat)(w:World)(hv:Dt 0 w v l)(hu:Dt 0 w u m)(hs:∀ i,qsz (cz l i)≤s)(ht:∀ i,qsz (cz m i)≤t)(hst:s+t+1≤549755813888)(hn:l.length≤549755813888)(hm:m.length≤549755813888) :
  Bh 152 #[v,u] w (fun r w'=>AP w.heap.size w' r (pad (cz l) (cz m))):=by
 have HV:=Ad hv;have HU:=Ad hu;obtain⟨A,c,rfl⟩:=hv.len;obtain⟨E,d,rfl⟩:=hu.len;clear hv hu;have HS:=Ad (Ak hs ht);clear hs ht;obtain⟨N,hN⟩:∃ N,N=max l.length m.length:=⟨_,rfl⟩
 have h1:l.length≤N:=by omega
 have h2:m.length≤N:=by omega
 have h3:N≤549755813888:=by omega
 have h4:∀ k,k < N→k < l.length∨k < m.length:=fun k hk=>by omega
 have H4:=Ad h4;clear h4 hN
 go_enter Tryz.func152,Tryz.ntmps152
 go_wp2
 go_loopw [5,6] (fun ov iv wr=>∃ (k:Nat),k≤N∧iv = .int .i64 k∧CE w.heap.size 26 wr ov (Dq k (pad (cz l) (cz m)))∧Ext w wr) (fun _ iv _=>N - (intOf iv).toNat)
 case atStart=>exact⟨0,Nat.zero_le _,rfl,BI.nil _ _ _ _ _,Ext.refl _⟩
 case round =>
  obtain⟨k,hk,rfl,hown,hx⟩:=hrel;by_cases hkN:k < N
  ·have Hown0:=Ad hown;clear hown
   by_cases hk1:k < l.length
   ·skip
    go_wp2_with fail
    refine AL (Ro _ l k _ (HV.out.ext hx) Aa) ?_;rintro r2 w2 hr2 hx2;have Hr2:=Ad hr2;clear hr2;replace hx:=hx.trans hx2
    go_wp2_with fail
    refine AL (Ro _ m k _ (HU.out.ext hx) Aa) ?_;rintro r3 w3 hr3 hx3;have Hr3:=Ad hr3;clear hr3;replace hx:=hx.trans hx3
    go_wp2_with fail
    refine AL (O9 _ _ _ _ _ ((Hr2.out.kd hx3.kd).has (by have:=ES (HS.out.1 k);omega)) (Hr3.out.has (by have:=ES (HS.out.2 k);omega)) (by have:=ES (HS.out.1 k);omega) (by have:=ES (HS.out.2 k);omega)) ?_;rintro r4 w4 hr4 hx4;obtain⟨b5,A5,n5,c5,rfl⟩:=hr4.cells;have Hr:=Ad hr4;clear hr4;replace hx:=hx.trans hx4;have hown:=((Hown0.out.ext hx2).ext hx3).ext hx4;have Hown:=Ad hown;clear hown;have hsz:=hx.size
    clear hx2 hx3 hx4
    go_wp2_with (at_builtin;refine AB rfl _ _ 22 rfl u5 (.slice (some ⟨w4.heap.size,0,none⟩) 1 1) rfl rfl (Fz w4 w.heap.size _ _ _ _ _ Hown.out Hr.out (by first | (rw[AY];omega) | omega) hsz rfl) ?_)
    first | intro v' w5 hown U | rintro v' w5 ⟨hown,U⟩
    replace hx:=(Hown.out.ext ((Ext.refl w4).alloc _)).from_ U (hx.alloc _) (Nat.le_refl _);have Hown':=Ad hown;clear hown U;go_wp2
    go_roundw
    case rel=>exact⟨k+1,Aa,by go_num,by rw[Ed,show(pad (cz l) (cz m) k).num=(cz l k).num+(cz m k).num from(ZI.cz l).num_add (ZI.cz m) k k];exact Hown'.out,hx⟩
    case measure=>simp[intOf]<;>omega
   ·have hk2:k < m.length:=by rcases H4.out k hkN with h | h<;>omega
    have hk1':¬ (k:Int) < l.length:=by omega
    go_wp2_with fail
    refine AL (Ro _ l k _ (HV.out.ext hx) Aa) ?_;rintro r2 w2 hr2 hx2;have Hr2:=Ad hr2;clear hr2;replace hx:=hx.trans hx2
    go_wp2_with fail
    refine AL (Ro _ m k _ (HU.out.ext hx) Aa) ?_;rintro r3 w3 hr3 hx3;have Hr3:=Ad hr3;clear hr3;replace hx:=hx.trans hx3
    go_wp2_with fail
    refine AL (O9 _ _ _ _ _ ((Hr2.out.kd hx3.kd).has (by have:=ES (HS.out.1 k);omega)) (Hr3.out.has (by have:=ES (HS.out.2 k);omega)) (by have:=ES (HS.out.1 k);omega) (by have:=ES (HS.out.2 k);omega)) ?_;rintro r4 w4 hr4 hx4;obtain⟨b5,A5,n5,c5,rfl⟩:=hr4.cells;have Hr:=Ad hr4;clear hr4;replace hx:=hx.trans hx4;have hown:=((Hown0.out.ext hx2).ext hx3).ext hx4;have Hown:=Ad hown;clear hown;have hsz:=hx.size
    clear hx2 hx3 hx4
    go_wp2_with (at_builtin;refine AB rfl _ _ 22 rfl u5 (.slice (some ⟨w4.heap.size,0,none⟩) 1 1) rfl rfl (Fz w4 w.heap.size _ _ _ _ _ Hown.out Hr.out (by first | (rw[AY];omega) | omega) hsz rfl) ?_)
    first | intro v' w5 hown U | rintro v' w5 ⟨hown,U⟩
    replace hx:=(Hown.out.ext ((Ext.refl w4).alloc _)).from_ U (hx.alloc _) (Nat.le_refl _);have Hown':=Ad hown;clear hown U;go_wp2
    go_roundw
    case rel=>exact⟨k+1,Aa,by go_num,by rw[Ed,show(pad (cz l) (cz m) k).num=(cz l k).num+(cz m k).num from(ZI.cz l).num_add (ZI.cz m) k k];exact Hown'.out,hx⟩
    case measure=>simp[intOf]<;>omega
  ·obtain rfl:k=N:=by omega
   have hk1':¬ (k:Int) < l.length:=by omega
   have hk2':¬ (k:Int) < m.length:=by omega
   have hh:=LY hown (fun i hi=>(by have h1:=QN (ZI.cz l) (ZI.cz m) i i;have h2:=HS.out.1 i;have h3:=HS.out.2 i;show qsz (cz l i+cz m i)≤_;omega));have hczl:=EC (n:=k) (F:=pad (cz l) (cz m)) ((ZI.cz l).pad (ZI.cz m)) (((BK l).mono Aa).pad ((BK m).mono Aa));obtain⟨A2,c2,e2⟩:=hh.len;rw[AY]at e2;rw[e2]at hh;clear hown;subst e2;have HH:=Ad (Ak hh hczl);clear hh hczl
   go_wp2_with fail
   refine AL (CW _ _ _ HH.out.1 (by rw[AY];omega)) ?_;rintro r w9 hr hx9;rw[HH.out.2]at hr;have hsz:=(hx).size;have Hr:=Ad hr;clear hr;go_wp2
   go_ret
   exact Ah.mk (Hr.out.base_le Aa) ((hx).trans hx9)
set_option maxRecDepth 20000 in
theorem O5(v u:Value)(l:List Int)(ca:Int)(s:Nat)(w:World)(hv:Dt 0 w v l)(hu:Bu w u ca)(hs:∀ i,qsz (cz l i)≤s)(hst:s+qsz (ca:Rat)≤549755813888)(hn:l.length≤549755813888) :
  Bh 73 #[v,u] w (fun r w'=>AP w.heap.size w' r (psc (ca:Rat) (cz l))):=by
 have HU:=Ad hu;obtain⟨b1,A1,n1,c1,rfl⟩:=hu.cells;obtain⟨A,c,rfl,hl,hc,hA⟩:=hv;clear hu;have HA:Hid (GI 0 w A l):=Ad hA;clear hA;have HS:=Ad (Ak hs hst);clear hs hst
 go_enter Tryz.func73,Tryz.ntmps73
 go_wp2
 go_loopw [5,6] (fun ov iv wr=>∃ (k:Nat),k≤l.length∧iv = .int .i64 k∧CE (w.heap.size+1) 26 wr ov (Dq k (psc (ca:Rat) (cz l)))∧Ext (w.alloc (.cells #[.bool b1,.slice A1 n1 c1] 26)) wr) (fun _ iv _=>l.length - (intOf iv).toNat)
 case atStart=>exact⟨0,Nat.zero_le _,rfl,BI.nil _ _ _ _ _,Ext.refl _⟩
 case round =>
  obtain⟨k,hk,rfl,hown,hx⟩:=hrel;by_cases hkl:k < l.length
  ·obtain⟨g,o,b,A2,n,c2,rfl,_,q0,q1,hq⟩:=HA.out.at_ (j:=k) hkl
   replace q0:=hx.a1.cell q0;replace q1:=hx.a1.cell q1;have ca0:=hx.box (g:=w.heap.size) (i:=0) rfl rfl;have ca1:=hx.box (g:=w.heap.size) (i:=1) rfl rfl;have hval:(psc (ca:Rat) (cz l) k).num=l[k]*ca:=by
    show((ca:Rat)*cz l k).num=_;rw[Ch hkl,num_mul,Int.mul_comm]
   have hqk:=HS.out.1 k;rw[Ch hkl,Bi]at hqk;have hqa:=HS.out.2;rw[Bi]at hqa;have Hq:=Ad (Ak hq (Ak hval (Ak hqk hqa)));clear hq hval hqk hqa;have Hown:=Ad hown;clear hown
   go_wp2_with fail
   refine Ae 8 [13,14,15,16,17,18,19,20] [[],[],[],[1,2],[1,2,3],[],[1,2,3,4,5],[1,2,3,4,5,6],[0,1,2,3,4,5,6,7],[0,1,2,3,4,5,6,7,8]] [5,0,6,3] [_,_,_,_] [(kv ?_),(kv ?_),(kv ?_),(kv ?_),(kv ?_),(kv ?_),(fun γ=>γ 6),(fun γ=>γ 7)] (fun γ w'=>[True,True,True,True,True,True,AO w' (γ 6) (psc (ca:Rat) (cz l) k).num,Es w' (γ 7) (wr.heap.size) ((psc (ca:Rat) (cz l) k).num) 26]) Bn Aj Aj Bo Aj Bl Br ?hstep1 ?_
   case hstep1 =>
    iterate 8 refine⟨?_,?_⟩
    trivial
    iterate 6 focus
     intro γ w' he hf;clear hf;refine⟨by trivial,?_⟩;intro R hR;have hc:=he.cells;have cq0:=he.cell q0;have cq1:=he.cell q1;have cq2:=he.cell ca0;have cq3:=he.cell ca1;go_simp;(try go_ints);(try(rw[if_neg Aa]));(try(rw[if_pos Aa]));(try go_simp);(try go_ints)
     refine hR _ _ (Ext.refl _) ?_ trivial;rfl
    ·intro γ w' he hf;clear hf;refine⟨trivial,?_⟩;intro R hR
     go_simp;exact Bd (Hq.out.2.1▸FQ _ _ _ _ w' (Hq.out.1.kd (hx.a1.trans he).kd) (HU.out.kd (hx.a1.trans he).kd) (by have:=Hq.out.2.2;omega) (by have:=Hq.out.2.2;omega)) hR
    ·intro γ w' he hf;have f6:AO w' (γ 6) (psc (ca:Rat) (cz l) k).num:=hf 6 Ab;clear hf;refine⟨trivial,?_⟩;intro R hR
     refine AO.el f6 fun b5 A5 n5 c5 e6 f6'=>?_;clear f6;go_simp;exact hR _ _ ((Ext.refl _).alloc _) rfl (Es.mk f6' (Nat.le_trans Ac he.size) _)
   intro γ w1 hx1 hF;have p6:AO w1 (γ 6) (psc (ca:Rat) (cz l) k).num:=AA.get hF 6 Ab;have p7:Es w1 (γ 7) (wr.heap.size) ((psc (ca:Rat) (cz l) k).num) 26:=AA.get hF 7 Ab;clear hF;simp only[Bf,Nat.reduceAdd];generalize γ 6=g6 at *;generalize γ 7=g7 at *;clear γ;have hs:w.heap.size+1≤wr.heap.size:=by have:=hx.size;simpa using this
   have hs1:=hx1.size;refine AB rfl _ _ 22 rfl u5 g7 rfl rfl (Jk w1 _ _ (w.heap.size+1) _ _ _ _ (Hown.out.ext hx1) p7 (by rw[AY];omega) Aa) ?_;rintro v' w2 ⟨hown,U⟩;replace hx:=(Hown.out.ext hx1).from_ U (hx.trans hx1) Ac;have Hown':=Ad hown;clear hown U p7 p6 q0 q1 ca0 ca1;go_wp2
   go_roundw
   case rel=>exact⟨k+1,Aa,by go_num,by rw[Ed];exact Hown'.out,hx⟩
   case measure=>simp[intOf]<;>omega
  ·obtain rfl:k=l.length:=by omega
   have hh:=LY hown (fun i hi=>(by have h1:=BR (ca:Rat) (cz l i);have h2:=HS.out.1 i;have h3:=HS.out.2;show qsz ((ca:Rat)*cz l i)≤_;omega));have hczl:=EC (n:=l.length) (F:=psc (ca:Rat) (cz l)) ((ZI.cz l).psc ca) ((BK l).psc _);obtain⟨A2,c2,e2⟩:=hh.len;rw[AY]at e2;rw[e2]at hh;clear hown;subst e2;have HH:=Ad (Ak hh hczl);clear hh hczl
   go_wp2_with fail
   refine AL (CW _ _ _ HH.out.1 (by rw[AY];omega)) ?_;rintro r w9 hr hx9;rw[HH.out.2]at hr;have hsz:=(hx.a1).size;have Hr:=Ad hr;clear hr;go_wp2
   go_ret
   exact Ah.mk (Hr.out.base_le Aa) ((hx.a1).trans hx9)
theorem YE(v u:Value)(l m:List Int)(s t:Nat)(w:World)(hv:Dt 0 w v l)(hu:Dt 0 w u m)(hs:∀ i,qsz (cz l i)≤s)(ht:∀ i,qsz (cz m i)≤t)(hst:s+t+2≤549755813888)(hn:l.length≤549755813888)(hm:m.length≤549755813888) :
  Bh 153 #[v,u] w (fun r w'=>AP w.heap.size w' r (psb (cz l) (cz m))):=by
 have HV:=Ad hv;have HU:=Ad hu;obtain⟨A,c,rfl⟩:=hv.len;obtain⟨E,d,rfl⟩:=hu.len;clear hv hu;have HS:=Ad (Ak hs ht);clear hs ht;have e1:qsz ((-1:Int):Rat)=1:=by decide
 have E1:=Ad e1;clear e1
 go_enter Tryz.func153,Tryz.ntmps153
 go_wp2_with fail
 refine AL (Jy (-1) _ Aa Aa) ?_;rintro r1 w1 hr1 hx1;have Hr1:=Ad hr1;clear hr1
 go_wp2_with fail
 refine AL (O5 _ _ m (-1) t _ (HU.out.ext hx1) (Hr1.out.has Ab) HS.out.2 (by rw[E1.out];omega) hm) ?_;rintro r2 w2 hr2 hx2;obtain⟨l2,h2,h3,h4,h5⟩:=hr2.hz (fun i=>by have h1:=BR ((-1:Int):Rat) (cz m i);rw[E1.out]at h1;have h2:=HS.out.2 i;show qsz (_*_)≤_;omega);replace hx1:=hx1.trans hx2;have H2:=Ad (Ak h2 (Ak h3 h5));clear h2 h3 h4 h5 hr2 hx2;have hl2:l2.length≤549755813888:=by rw[H2.out.2.1];exact Nat.le_trans (Bq ((BK m).psc _)) hm
 go_wp2_with fail
 refine AL (Uo _ _ l l2 s (t+1) _ (HV.out.ext hx1) H2.out.1 HS.out.1 (fun i=>by rw[H2.out.2.2];have h1:=BR ((-1:Int):Rat) (cz m i);rw[E1.out]at h1;have h2:=HS.out.2 i;show qsz (_*_)≤_;omega) Aa hn hl2) ?_;rintro r3 w3 hr3 hx3;have hsz:=hx1.size;have Hr3:=Ad hr3;clear hr3;go_wp2
 go_ret
 refine Ah.mk ?_ (hx1.trans hx3);have:=Hr3.out.base_le (b:=w.heap.size) Aa;rw[H2.out.2.2]at this;rw[Me];exact this
end Go.Proofs.YtmhgnigpmompmaaGreat
namespace Go.Hp
open Go.RowKit
theorem aH{F:Nat→Rat}(h:ZI F):ZI (pd F):=fun i=>by
 obtain⟨n,e⟩:=h (i+1);exact⟨((i+1:Nat):Int)*n,by unfold pd;rw[e,Rat.intCast_mul];rfl⟩
theorem CE.off{base:Nat}{e:TypeId}{w w':World}{v:Value}{l:List Int}{g:Nat}(h:CE base e w v l)(U:Cs [g] w w')(hg:∀ k∈blk v,k < g):CE base e w' v l:=
 BI.upd h U (fun k hk hG=>by have:=hg k hk;simp at hG;omega) fun _ _ q=>q.kd U.kd
theorem gN{F G:Nat→Rat}(hF:ZI F)(hG:ZI G)(n:Nat):∀ i,∃ z:Int,sm i (fun j=>F j*G (n - j))=(z:Rat):=fun i =>
 Xk fun j _=>by rw[hF.num j,hG.num (n - j),←Rat.intCast_mul];exact⟨_,rfl⟩
theorem XJ{F G:Nat→Rat}(hF:ZI F)(hG:ZI G)(n i:Nat):(sm (i+1) (fun j=>F j*G (n - j))).num=(sm i (fun j=>F j*G (n - j))).num+(F i).num*(G (n - i)).num:=by
 rw[BF];obtain⟨z,e⟩:=gN hF hG n i;rw[e,hF.num i,hG.num (n - i),←Rat.intCast_mul,num_add];rfl
end Go.Hp
namespace Go.Proofs.YtmhgnigpmompmaaGreat
open Go.RowKit Go.Hp
set_option maxRecDepth 20000 in
theorem JA(v:Value)(l:List Int)(s:Nat)(w:World)(hv:Dt 0 w v l)(hs:∀ i,qsz (cz l i)≤s)(hst:s+2≤549755813888)(hn:l.length≤549755813888) :
  Bh 69 #[v] w (fun r w'=>AP w.heap.size w' r (pd (cz l))):=by
 obtain⟨A,c,rfl,hl,hc,hA⟩:=hv;have HA:Hid (GI 0 w A l):=Ad hA;clear hA;have HS:=Ad hs;clear hs
 go_enter Tryz.func69,Tryz.ntmps69
 go_wp2
 go_loopw [3,4] (fun ov iv wr=>∃ (k:Nat),1≤k∧k≤max l.length 1∧iv = .int .i64 k∧CE w.heap.size 26 wr ov (Dq (k - 1) (pd (cz l)))∧Ext w wr) (fun _ iv _=>l.length - (intOf iv).toNat)
 case atStart=>exact⟨1,Aa,Aa,Ac,BI.nil _ _ _ _ _,Ext.refl _⟩
 case round =>
  obtain⟨k,hk1,hk,rfl,hown,hx⟩:=hrel;by_cases hkl:k < l.length
  ·obtain⟨g,o,b,A1,n,c1,rfl,_,q0,q1,hq⟩:=HA.out.at_ (j:=k) hkl
   replace q0:=hx.cell q0;replace q1:=hx.cell q1;have hval:(pd (cz l) (k - 1)).num=l[k]*(k:Int):=by
    unfold pd;rw[show k - 1+1=k from Aa,Ch hkl];show(((k:Nat):Int)*((l[k]:Int):Rat):Rat).num=_;rw[num_mul,Int.mul_comm]
   have hqk:=HS.out k;rw[Ch hkl,Bi]at hqk;have Hq:=Ad (Ak hq (Ak hval hqk));clear hq hval hqk;have Hown:=Ad hown;clear hown;have HK:=Ad (show sz ((k:Nat):Int).natAbs≤2 from by
    have:=UB (x:=(k:Int)) Aa Aa;rw[Bi]at this;omega)
   go_wp2_with fail
   refine Ae 9 [11,12,13,14,15,16,17,18,19] [[],[],[],[1,2],[1,2,3],[],[5],[1,2,3,4,5,6],[1,2,3,4,5,6,7],[0,1,2,3,4,5,6,7,8],[0,1,2,3,4,5,6,7,8,9]] [3,0,4] [_,_,_] [(kv ?_),(kv ?_),(kv ?_),(kv ?_),(kv ?_),(kv ?_),(fun γ=>γ 6),(fun γ=>γ 7),(fun γ=>γ 8)] (fun γ w'=>[True,True,True,True,True,True,AO w' (γ 6) (k:Int),AO w' (γ 7) (pd (cz l) (k - 1)).num,Es w' (γ 8) (wr.heap.size) ((pd (cz l) (k - 1)).num) 26]) Bn Aj Aj Bo Aj Bl Br ?hstep1 ?_
   case hstep1 =>
    iterate 9 refine⟨?_,?_⟩
    trivial
    iterate 6 focus
     intro γ w' he hf;clear hf;refine⟨by trivial,?_⟩;intro R hR;have hc:=he.cells;have cq0:=he.cell q0;have cq1:=he.cell q1;go_simp;(try go_ints);(try(rw[if_neg Aa]));(try(rw[if_pos Aa]));(try go_simp);(try go_ints)
     refine hR _ _ (Ext.refl _) ?_ trivial;rfl
    ·intro γ w' he hf;clear hf;refine⟨trivial,?_⟩;intro R hR
     go_simp;exact Bd (Jy (k:Int) w' Aa Aa) hR
    ·intro γ w' he hf;have f6:AO w' (γ 6) (k:Int):=hf 6 Ab;clear hf;refine⟨trivial,?_⟩;intro R hR
     go_simp;exact Bd (Hq.out.2.1▸FQ _ _ _ _ w' (Hq.out.1.kd (hx.trans he).kd) (f6.has (by have:=HK.out;omega)) (by have:=Hq.out.2.2;omega) (by have:=HK.out;omega)) hR
    ·intro γ w' he hf;have f7:AO w' (γ 7) (pd (cz l) (k - 1)).num:=hf 7 Ab;clear hf;refine⟨trivial,?_⟩;intro R hR
     refine AO.el f7 fun b5 A5 n5 c5 e7 f7'=>?_;clear f7;go_simp;exact hR _ _ ((Ext.refl _).alloc _) rfl (Es.mk f7' (Nat.le_trans Ac he.size) _)
   intro γ w1 hx1 hF;have p6:AO w1 (γ 6) (k:Int):=AA.get hF 6 Ab;have p7:AO w1 (γ 7) (pd (cz l) (k - 1)).num:=AA.get hF 7 Ab;have p8:Es w1 (γ 8) (wr.heap.size) ((pd (cz l) (k - 1)).num) 26:=AA.get hF 8 Ab;clear hF;simp only[Bf,Nat.reduceAdd];generalize γ 6=g6 at *;generalize γ 7=g7 at *;generalize γ 8=g8 at *;clear γ;have hs:=hx.size;have hs1:=hx1.size;refine AB rfl _ _ 22 rfl u3 g8 rfl rfl (Jk w1 _ _ w.heap.size _ _ _ _ (Hown.out.ext hx1) p8 (by rw[AY];omega) Aa) ?_
   rintro v' w2 ⟨hown,U⟩;replace hx:=(Hown.out.ext hx1).from_ U (hx.trans hx1) (Nat.le_refl _);have Hown':=Ad hown;clear hown U p8 p7 p6;go_wp2
   go_roundw
   case rel=>exact⟨k+1,Aa,Aa,by go_num,by
    have:=Hown'.out;rw[←Ed,show k - 1+1=k+1 - 1 from by omega]at this;exact this,hx⟩
   case measure=>simp[intOf]<;>omega
  ·skip
   have hh:=LY hown (fun i hi=>(by have h1:=BR ((i+1:Nat):Rat) (cz l (i+1));have h2:=HS.out (i+1);have h3:=Uz (n:=i+1) Aa;show qsz (((i+1:Nat):Rat)*cz l (i+1))≤_;omega));have hczl:=EC (n:=(k - 1)) (F:=pd (cz l)) (aH (ZI.cz l)) (fun i hi=>by unfold pd;rw[Iw Aa];exact Rat.mul_zero _);obtain⟨A2,c2,e2⟩:=hh.len;rw[AY]at e2;rw[e2]at hh;clear hown;subst e2;have HH:=Ad (Ak hh hczl);clear hh hczl
   go_wp2_with fail
   refine AL (CW _ _ _ HH.out.1 (by rw[AY];omega)) ?_;rintro r w9 hr hx9;rw[HH.out.2]at hr;have hsz:=(hx).size;have Hr:=Ad hr;clear hr;go_wp2
   go_ret
   exact Ah.mk (Hr.out.base_le Aa) ((hx).trans hx9)
set_option maxRecDepth 20000 in
theorem TP(v u:Value)(l m:List Int)(s t:Nat)(w:World)(hv:Dt 0 w v l)(hu:Dt 0 w u m)(hs:∀ i,qsz (cz l i)≤s)(ht:∀ i,qsz (cz m i)≤t)(hst:1+(l.length+m.length)*(s+t+1)≤274877906944)(hn:l.length≤274877906944)(hm:m.length≤274877906944) :
  Bh 23 #[v,u] w (fun r w'=>AP w.heap.size w' r (cv (cz l) (cz m))):=by
 have HV:=Ad hv;have HU:=Ad hu;obtain⟨A,c,rfl⟩:=hv.len;obtain⟨E,d,rfl⟩:=hu.len;clear hv hu;have hp0:=Bq (BK l);have hq0:=Bq (BK m);have HF:=Ad (Ak (Af.cz l) (Af.cz m));have HI:=Ad (Ak (ZI.cz l) (ZI.cz m));obtain⟨F,hF⟩:∃ F,F=cz l:=⟨_,rfl⟩
 obtain⟨G,hG⟩:∃ G,G=cz m:=⟨_,rfl⟩
 rw[←hF,←hG]at HF HI;rw[←hF]at hs hp0;rw[←hG]at ht hq0;rw[←hF,←hG];have HN:=Ad (Ak (CW _ l w HV.out Aa) (fun w' (e:Ext w w')=>CW _ m w' (HU.out.ext e) Aa));rw[←hF,←hG]at HN;clear hF hG HV HU;have HS:=Ad (Ak hs (Ak ht hst));clear hs ht hst
 go_enter Tryz.func23,Tryz.ntmps23
 go_wp2_with fail
 refine AL HN.out.1 ?_;rintro r1 w1 hr1 hx1;have Hr1:=Ad hr1;clear hr1
 go_wp2_with fail
 refine AL (HN.out.2 w1 hx1) ?_;rintro r2 w2 hr2 hx2;obtain⟨A1,c1,la,rfl,k1,k2,hA,k3,k4,k5⟩:=(Hr1.out.ext hx2).form;obtain⟨A2,c2,lb,rfl,k6,k7,hB,k8,k9,k10⟩:=hr2.form;replace hx1:=hx1.trans hx2;have HA:=Ad (Ak hA (Ak k3 k5));have HB:=Ad (Ak hB (Ak k8 k10));clear hx2 Hr1 hr2 hA hB k3 k4 k5 k8 k9 k10 HN;obtain⟨p,hp⟩:∃ p,p=pl F:=⟨_,rfl⟩
 obtain⟨q,hq⟩:∃ q,q=pl G:=⟨_,rfl⟩
 rw[←hp]at HA hp0 ⊢;rw[←hp]at k1;rw[←hq]at HB hq0 k6 ⊢;have HP:=Ad (Ak hp hq);clear hp hq;by_cases h0:p=0
 ·have b0:((p:Int)==0)=true:=by rw[h0];rfl
  have H0:=Ad h0;clear h0;go_wp2
  go_ret
  have:F=pz:=(BG HF.out.1).1 (by rw[←HP.out.1];exact H0.out);rw[this,CG];exact Ah.mk (AP.nil _ _) hx1
 have b0:((p:Int)==0)=false:=by simpa using h0
 by_cases h1:q=0
 ·have b1:((q:Int)==0)=true:=by rw[h1];rfl
  have H1:=Ad h1;clear h0 h1;go_wp2
  go_ret
  have:G=pz:=(BG HF.out.2).1 (by rw[←HP.out.2];exact H1.out);rw[this,Kk];exact Ah.mk (AP.nil _ _) hx1
 have b1:((q:Int)==0)=false:=by simpa using h1
 have sF:BB p F:=by rw[HP.out.1];exact AU HF.out.1
 have sG:BB q G:=by rw[HP.out.2];exact AU HF.out.2
 have HZ:=Ad (Ak sF sG);clear sF sG;obtain⟨N,hN⟩:∃ N,p+q=N+1:=⟨p+q - 1,Aa⟩
 have hN1:N≤549755813888:=by omega
 have HL:=Ad (show N+1≤l.length+m.length by omega);have hpb:p≤549755813888:=by omega
 have hqb:q≤549755813888:=by omega
 clear h0 h1 hp0 hq0;have HW:=Ad hx1;clear hx1;obtain⟨wb,hwb⟩:∃ wb:World,wb=w2:=⟨_,rfl⟩
 subst hwb;go_wp2
 go_loopw [7,8] (fun ov iv wr=>∃ (n:Nat),n≤N∧iv = .int .i64 n∧CE wb.heap.size 26 wr ov (Dq n (cv F G))∧Ext wb wr) (fun _ iv _=>N - (intOf iv).toNat)
 case atStart=>exact⟨0,Nat.zero_le _,rfl,BI.nil _ _ _ _ _,Ext.refl _⟩
 case round =>
  obtain⟨n,hn,rfl,hown,hx⟩:=hrel;by_cases hnN:n < N
  ·have Hown0:=Ad hown;clear hown
   go_wp2_with fail
   refine AL (Jy 0 _ Aa Aa) ?_;rintro r3 w3 hr3 hx3;obtain⟨b5,A5,n5,c5,rfl⟩:=hr3.cells;have hown:=Hown0.out.ext hx3;have Hbk:=Ad (fun g hg=>(BI.blk_ge hown g hg).2);replace hx:=hx.trans hx3;clear hx3 Hown0
   go_upto_region 9 with(fail)
   obtain⟨W9,eW9,e9,x9⟩:=Bj.made w3 26 #[.bool b5,.slice A5 n5 c5] (by simp[Ag]);rw[←eW9];clear eW9;have eb:=Bg.mk e9 (hr3.kd x9.kd);replace hown:=CE.ext hown x9;have Hsz9:=Ad hx.size;replace hx:=hx.trans x9;have Hown:=Ad hown;clear x9 hr3 e9 hown;generalize w3.heap.size=gb at *;go_wp2
   go_loopw [10] (fun iv wx=>∃ (i:Nat),i≤n+1∧iv = .int .i64 i∧Bg wx gb 26 (sm i (fun j=>F j*G (n - j))).num∧CE wb.heap.size 26 wx u7 (Dq n (cv F G))∧Ext wb wx) (fun iv _=>n+1 - (intOf iv).toNat)
   case atStart=>exact⟨0,Nat.zero_le _,rfl,eb,Hown.out,hx⟩
   case round =>
    clear eb hx Hown;obtain⟨i,hi,rfl,⟨z1,Z1,zn,zc,ez,hz⟩,hown,hx⟩:=hrel;have Hz:=Ad hz;clear hz;have Hown:=Ad hown;clear hown;by_cases hin:i < n+1
    ·by_cases hip:i < p
     ·by_cases hiq:n - i < q
      ·have hiq':(n:Int) - i < q:=by omega
       obtain⟨g,o,b,B1,n1,d1,rfl,_,q0,q1,hqa⟩:=HA.out.1.at_ (j:=i) (by rw[HA.out.2.1];exact hip);obtain⟨g',o',bb,B2,n2,d2,rfl,_,r0,r1,hqb'⟩:=HB.out.1.at_ (j:=n - i) (by rw[HB.out.2.1];exact hiq);have ea:=TM HA.out.2.2 (i:=i) (by rw[HA.out.2.1];exact hip);have eb':=TM HB.out.2.2 (i:=n - i) (by rw[HB.out.2.1];exact hiq);rw[ea]at hqa;rw[eb']at hqb';replace q0:=hx.cell q0;replace q1:=hx.cell q1;replace r0:=hx.cell r0
       replace r1:=hx.cell r1;have Hqa:=Ad (hqa.kd hx.kd);have Hqb:=Ad (hqb'.kd hx.kd);clear hqa hqb' ea eb';have HQ:=Ad (show sz (F i).num.natAbs≤274877906944∧sz (G (n - i)).num.natAbs≤274877906944∧sz ((F i).num*(G (n - i)).num).natAbs≤274877906944∧sz (sm i (fun j=>F j*G (n - j))).num.natAbs≤274877906944 by
        have h1:=HS.out.1 i;have h2:=HS.out.2.1 (n - i);have h3:=BR (F i) (G (n - i));have h4:=Ue HS.out.1 HS.out.2.1 n i;have h5:=L9 (i:=i) (by have:=HL.out;omega) HS.out.2.2;have h6:=L9 (i:=1) (by have:=HL.out;omega) HS.out.2.2;have h7:=ES h1;have h8:=ES h2;have h9:=ES h4;have h10:=ES h3;rw[HI.out.1.num_mul HI.out.2]at h10;omega)
       obtain⟨cez0,cez1⟩:=ez.cells2;have fez:=ez.frozen
       go_wp2_with fail
       refine Ae 13 [51,52,53,54,55,56,57,58,59,60,61,62,63] [[],[],[],[1,2],[1,2,3],[],[],[],[6,7],[5,6,7,8],[5,6,7,8,9],[1,2,3,4,5,6,7,8,9,10],[0,1,2,3,4,5,6,7,8,9,10,11],[0,1,2,3,4,5,6,7,8,9,10,11,12]] [9,5,10,6,8] [_,_,_,_,_] [(kv ?_),(kv ?_),(kv ?_),(kv ?_),(kv ?_),(kv ?_),(kv ?_),(kv ?_),(kv ?_),(kv ?_),(kv ?_),(fun γ=>γ 11),(fun γ=>γ 12)] (fun γ w'=>[True,True,True,True,True,True,True,True,True,True,True,AO w' (γ 11) ((F i).num*(G (n - i)).num),AO w' (γ 12) ((sm i (fun j=>F j*G (n - j))).num+(F i).num*(G (n - i)).num)]) Bn Aj Aj Bo Aj Bl Br ?hstep2 ?_
       case hstep2 =>
        iterate 13 refine⟨?_,?_⟩
        trivial
        iterate 11 focus
         intro γ w' he hf;clear hf;refine⟨by trivial,?_⟩;intro R hR;have hc:=he.cells;have cq0:=he.cell cez0;have cq1:=he.cell cez1;have cq2:=he.cell q0;have cq3:=he.cell q1;have cq4:=he.cell r0;have cq5:=he.cell r1;go_simp;(try go_ints);(try(rw[if_neg Aa]));(try(rw[if_pos Aa]));(try go_simp);(try go_ints)
         refine hR _ _ (Ext.refl _) ?_ trivial;rfl
        ·intro γ w' he hf;clear hf;refine⟨trivial,?_⟩;intro R hR
         go_simp;exact Bd (FQ _ _ _ _ w' ((Hqa.out.kd he.kd).has (by have:=HQ.out.1;omega)) ((Hqb.out.kd he.kd).has (by have:=HQ.out.2.1;omega)) (by have:=HQ.out.1;omega) (by have:=HQ.out.2.1;omega)) hR
        ·intro γ w' he hf;have f11:AO w' (γ 11) ((F i).num*(G (n - i)).num):=hf 11 Ab;clear hf;refine⟨trivial,?_⟩;intro R hR
         go_simp;exact Bd (O9 _ _ _ _ w' ((Hz.out.kd he.kd).has (by have:=HQ.out.2.2.2;omega)) (f11.has (by have:=HQ.out.2.2.1;omega)) (by have:=HQ.out;omega) (by have:=HQ.out;omega)) hR
       intro γ w6 hx6 hF;have p11:AO w6 (γ 11) ((F i).num*(G (n - i)).num):=AA.get hF 11 Ab;have p12:AO w6 (γ 12) ((sm i (fun j=>F j*G (n - j))).num+(F i).num*(G (n - i)).num):=AA.get hF 12 Ab;clear hF;simp only[Bf,Nat.reduceAdd];generalize γ 11=g11 at *;generalize γ 12=g12 at *;clear γ;clear cez0 cez1 fez q0 q1 r0 r1 p11 Hz Hqa Hqb HQ;replace ez:=ez.ext hx6;replace hx:=hx.trans hx6;have hown:=Hown.out.ext hx6
       clear hx6 Hown;obtain⟨b5,A5,n5,c5,rfl⟩:=p12.cells;obtain⟨cez0,cez1⟩:=ez.cells2;have fez:=ez.frozen;go_wp2;obtain⟨W7,eW,ez',U⟩:=ez.put2 (.bool b5) (.slice A5 n5 c5) rfl rfl;rw[←eW];clear eW ez cez0 cez1 fez;replace hown:=hown.off U Hbk.out;replace hx:=U.from_ hx (by have:=Hsz9.out;simp;omega);have eq:=Bg.mk ez' (p12.kd U.kd);clear U ez' p12;have Hown:=Ad hown;clear hown
       go_roundw
       case rel=>exact⟨i+1,Aa,by go_num,by rw[XJ HI.out.1 HI.out.2];exact eq,Hown.out,hx⟩
       case measure=>simp[intOf]<;>omega
      ·have hiq':¬ (n:Int) - i < q:=by omega
       have hz0:F i*G (n - i)=0:=by rw[HZ.out.2 (n - i) Aa];exact Rat.mul_zero _
       have Hz0:=Ad hz0;clear hz0;go_wp2
       go_roundw
       case rel=>exact⟨i+1,Aa,by go_num,by rw[BF,Hz0.out,Rat.add_zero];exact Bg.mk ez Hz.out,Hown.out,hx⟩
       case measure=>simp[intOf]<;>omega
     ·have hip':¬ (i:Int) < p:=by omega
      have hz0:F i*G (n - i)=0:=by rw[HZ.out.1 i Aa];exact Rat.zero_mul _
      have Hz0:=Ad hz0;clear hz0;go_wp2
      go_roundw
      case rel=>exact⟨i+1,Aa,by go_num,by rw[BF,Hz0.out,Rat.add_zero];exact Bg.mk ez Hz.out,Hown.out,hx⟩
      case measure=>simp[intOf]<;>omega
    ·obtain rfl:i=n+1:=by omega
     rw[←R7]at Hz;have Hr:=Ad Hz.out;clear Hz;obtain⟨cez0,cez1⟩:=ez.cells2;have fez:=ez.frozen;have hsz:=hx.size
     go_wp2_with (at_builtin;refine AB rfl _ _ 22 rfl u7 (.slice (some ⟨wr.heap.size,0,none⟩) 1 1) rfl rfl (Fz wr wb.heap.size _ _ _ _ _ Hown.out Hr.out (by first | (rw[AY];omega) | omega) hsz rfl) ?_)
     first | intro v' w5 hown U | rintro v' w5 ⟨hown,U⟩
     replace hx:=(Hown.out.ext ((Ext.refl wr).alloc _)).from_ U (hx.alloc _) (Nat.le_refl _);have Hown':=Ad hown;clear hown U;go_wp2
     go_roundw
     case rel=>exact⟨n+1,Aa,by go_num,by rw[Ed];exact Hown'.out,hx⟩
     case measure=>simp[intOf]<;>omega
  ·obtain rfl:n=N:=by omega
   have hh:=LY hown (fun i hi=>(by rw[R7];exact Nat.le_trans (Nat.le_trans (Ue HS.out.1 HS.out.2.1 i (i+1)) (L9 (by have:=HL.out;omega) HS.out.2.2)) Aa));have hczl:=EC (n:=n) (F:=cv F G) (HI.out.1.cv HI.out.2) ((HZ.out.1.cv HZ.out.2).mono Aa);obtain⟨A2,c2,e2⟩:=hh.len;rw[AY]at e2;rw[e2]at hh;clear hown;subst e2;have HH:=Ad (Ak hh hczl);clear hh hczl
   go_wp2_with fail
   refine AL (CW _ _ _ HH.out.1 (by rw[AY];omega)) ?_;rintro r w9 hr hx9;rw[HH.out.2]at hr;have hsz:=(HW.out.trans hx).size;have Hr:=Ad hr;clear hr;go_wp2
   go_ret
   exact Ah.mk (Hr.out.base_le Aa) ((HW.out.trans hx).trans hx9)
theorem UU(W:World)(v x:Value)(base b ty:Nat)(l:List Int)(q:Int)(h:CE base 26 W v l)(hx:Es W x b q 26)(hn:l.length≤1099511627776)(hb:base≤W.heap.size) :
  ∃ v' w',(Builtin.append_ #[23,23] ty #[v,x]).run Tryz.prog W = .ok v' w'∧(CE base 26 w' v' (l ++ [q])∧Cs (blk v) W w'):=by
 obtain⟨g,cs,rfl,h1,h2,h3,h4⟩:=hx;obtain⟨i0,hi,hz0,hz1,hz2⟩:=info_parts GA;have ho:=AO.one h4;obtain⟨v',w',a,b,c⟩:=BI.append (P:=Tryz.prog) h 23 ty i0 _ 32 Tryz.underlying23 hi hz0 hz1 hz2 rfl (by simp[nodig,Ag,Value.cells]) Ab ⟨g,0,none⟩ 1 cs h3 h4 h2.news ho.1 ho.2.1 (FP hn) Aa hb (fun _ _ _ k hq=>AO.kd hq k);exact⟨v',w',a,b,c⟩
set_option maxRecDepth 20000 in
theorem JE(v:Value)(l:List Int)(w:World)(hv:Dt 0 w v l)(hn:l.length≤1099511627776) :
  Bh 66 #[v] w (fun r w'=>AP w.heap.size w' r (pd (cz l))):=by
 obtain⟨A,c,rfl,hl,hc,hA⟩:=hv;have HA:Hid (GI 0 w A l):=Ad hA;clear hA
 go_enter Tryz.func66,Tryz.ntmps66
 go_wp2
 go_loopw [3,4] (fun ov iv wr=>∃ (k:Nat),1≤k∧k≤max l.length 1∧iv = .int .i64 k∧CE w.heap.size 26 wr ov (Dq (k - 1) (pd (cz l)))∧Ext w wr) (fun _ iv _=>l.length - (intOf iv).toNat)
 case atStart=>exact⟨1,Aa,Aa,Ac,BI.nil _ _ _ _ _,Ext.refl _⟩
 case round =>
  obtain⟨k,hk1,hk,rfl,hown,hx⟩:=hrel;by_cases hkl:k < l.length
  ·obtain⟨g,o,b,A1,n,c1,rfl,_,q0,q1,hq⟩:=HA.out.at_ (j:=k) hkl
   replace q0:=hx.cell q0;replace q1:=hx.cell q1;have hval:(pd (cz l) (k - 1)).num=(k:Int)*l[k]:=by
    unfold pd;rw[show k - 1+1=k from Aa,Ch hkl];show(((k:Nat):Int)*((l[k]:Int):Rat):Rat).num=_;rw[num_mul]
   have Hq:=Ad (Ak hq hval);clear hq hval;have Hown:=Ad hown;clear hown;have HK:=Ad (show sz ((k:Nat):Int).natAbs≤2 from by
    have:=UB (x:=(k:Int)) Aa Aa;rw[Bi]at this;omega)
   go_wp2_with fail
   refine Ae 9 [11,12,13,14,15,16,17,18,19] [[],[],[1],[],[],[3,4],[3,4,5],[1,2,3,4,5,6],[1,2,3,4,5,6,7],[0,1,2,3,4,5,6,7,8],[0,1,2,3,4,5,6,7,8,9]] [3,4,0] [_,_,_] [(kv ?_),(kv ?_),(fun γ=>γ 2),(kv ?_),(kv ?_),(kv ?_),(kv ?_),(fun γ=>γ 7),(fun γ=>γ 8)] (fun γ w'=>[True,True,AO w' (γ 2) (k:Int),True,True,True,True,AO w' (γ 7) (pd (cz l) (k - 1)).num,Es w' (γ 8) (wr.heap.size) ((pd (cz l) (k - 1)).num) 26]) Bn Aj Aj Bo Aj Bl Br ?hstep3 ?_
   case hstep3 =>
    iterate 9 refine⟨?_,?_⟩
    trivial
    iterate 2 focus
     intro γ w' he hf;clear hf;refine⟨by trivial,?_⟩;intro R hR;have hc:=he.cells;go_simp;refine hR _ _ (Ext.refl _) ?_ trivial;rfl
    ·intro γ w' he hf;clear hf;refine⟨trivial,?_⟩;intro R hR
     go_simp;exact Bd (Jv (k:Int) w' Aa Aa) hR
    iterate 4 focus
     intro γ w' he hf;clear hf;refine⟨by trivial,?_⟩;intro R hR;have hc:=he.cells;have cq0:=he.cell q0;have cq1:=he.cell q1;go_simp;(try go_ints);(try(rw[if_neg Aa]));(try(rw[if_pos Aa]));(try go_simp);(try go_ints)
     refine hR _ _ (Ext.refl _) ?_ trivial;rfl
    ·intro γ w' he hf;have f2:AO w' (γ 2) (k:Int):=hf 2 Ab;clear hf;refine⟨trivial,?_⟩;intro R hR
     go_simp;exact Bd (Hq.out.2▸DF _ _ _ _ w' (f2.has (by have:=HK.out;omega)) (Hq.out.1.kd (hx.trans he).kd)) hR
    ·intro γ w' he hf;have f7:AO w' (γ 7) (pd (cz l) (k - 1)).num:=hf 7 Ab;clear hf;refine⟨trivial,?_⟩;intro R hR
     refine AO.el f7 fun b5 A5 n5 c5 e7 f7'=>?_;clear f7;go_simp;exact hR _ _ ((Ext.refl _).alloc _) rfl (Es.mk f7' (Nat.le_trans Ac he.size) _)
   intro γ w1 hx1 hF;have p2:AO w1 (γ 2) (k:Int):=AA.get hF 2 Ab;have p7:AO w1 (γ 7) (pd (cz l) (k - 1)).num:=AA.get hF 7 Ab;have p8:Es w1 (γ 8) (wr.heap.size) ((pd (cz l) (k - 1)).num) 26:=AA.get hF 8 Ab;clear hF;simp only[Bf,Nat.reduceAdd];generalize γ 2=g2 at *;generalize γ 7=g7 at *;generalize γ 8=g8 at *;clear γ;have hs:=hx.size;have hs1:=hx1.size;refine AB rfl _ _ 23 rfl u3 g8 rfl rfl (UU w1 _ _ w.heap.size _ _ _ _ (Hown.out.ext hx1) p8 (by rw[AY];omega) Aa) ?_
   rintro v' w2 ⟨hown,U⟩;replace hx:=(Hown.out.ext hx1).from_ U (hx.trans hx1) (Nat.le_refl _);have Hown':=Ad hown;clear hown U p8 p7 p2;go_wp2
   go_roundw
   case rel=>exact⟨k+1,Aa,Aa,by go_num,by
    have:=Hown'.out;rw[←Ed,show k - 1+1=k+1 - 1 from by omega]at this;exact this,hx⟩
   case measure=>simp[intOf];omega
  ·have hz:BB (k - 1) (pd (cz l)):=fun i hi=>by unfold pd;rw[Iw Aa];exact Rat.mul_zero _
   have hco:=EC (aH (ZI.cz l)) hz;obtain⟨A2,c2,h1,h2,h3,h4⟩:=hown.row;rw[AY]at h1 h2;have hT:=El w.heap.size A2 c2 _ wr (by rw[AY];exact h2) h3 h4;rw[AY,←h1]at hT;have Hrow:=Ad (Ak h4 (Ak hco (Ak h2 h3)));clear h1 h2 h3 h4 hco hz hown
   go_wp2_with fail
   refine Calls.mono hT ?_;rintro e w2 ⟨rfl,rfl⟩;go_wp2
   go_ret
   exact Ah.mk (AP.of_trim (LG.trim Hrow.out.1 (by rw[AY];exact Hrow.out.2.2.1) Hrow.out.2.2.2) Hrow.out.2.1) hx
end Go.Proofs.YtmhgnigpmompmaaGreat
namespace Go.Hp
open Go.RowKit
theorem Yk(n:Nat)(c:Int):cz (List.replicate n 0 ++ [c])=mono n (c:Rat):=by
 funext i
 unfold mono;by_cases h:i < n
 ·rw[Ch D7,if_neg Aa];simp[List.getElem_append_left,h]
 ·by_cases e:i=n
  ·subst e;rw[Ch Ac,if_pos rfl];simp
  ·rw[Iw D7,if_neg e]
theorem Zm(n:Nat){c:Int}(h0:c≠0):Il (zq (List.replicate n 0 ++ [c])):=fun h=>by
 have hl:(zq (List.replicate n 0 ++ [c])).length - 1=n:=by rw[Ei];simp
 have e:(zq (List.replicate n 0 ++ [c]))[(zq (List.replicate n 0 ++ [c])).length - 1]'(Aa)=cz (List.replicate n 0 ++ [c]) ((zq (List.replicate n 0 ++ [c])).length - 1):=(DW _).symm;rw[e,hl,Yk,Ja];exact_mod_cast h0
end Go.Hp
namespace Go.Proofs.YtmhgnigpmompmaaGreat
open Go.RowKit Go.Hp
theorem VS(W:World)(base ty g o c:Nat)(v:Value)(l:List Int)(q:Int){b:Bool}{A:Option Addr}{n cc:Nat}(h:CE base 26 W v l)(k0:W.cell? ⟨g,o,none⟩=some (.bool b))(k1:W.cell? ⟨g,o+1,none⟩=some (.slice A n cc))(hq:AO W (.agg #[.bool b,.slice A n cc]) q)(hn:l.length≤1099511627776)(hb:base≤W.heap.size) :
  ∃ v' w',(Builtin.append_ #[22,22] ty #[v,.slice (some ⟨g,o,none⟩) 1 c]).run Tryz.prog W = .ok v' w'∧(CE base 26 w' v' (l ++ [q])∧Cs (blk v) W w'):=by
 obtain⟨i0,hi,hz0,hz1,hz2⟩:=info_parts GA;have ho:=AO.one hq;obtain⟨v',w',a,b,c⟩:=BI.append (P:=Tryz.prog) h 22 ty i0 _ 32 Tryz.underlying22 hi hz0 hz1 hz2 rfl (by simp[nodig,Ag,Value.cells]) Ab ⟨g,o,none⟩ c #[.bool b,.slice A n cc] rfl hq (fun j u hj=>by
  match j,hj with
  | 0,hj=>simp at hj;subst hj;simpa[Addr.add] using k0
  | 1,hj=>simp at hj;subst hj;simpa[Addr.add] using k1) ho.1 ho.2.1 (FP hn) Aa hb (fun _ _ _ k hq=>AO.kd hq k)
 exact⟨v',w',a,b,c⟩
set_option maxRecDepth 20000 in
theorem Oj(v:Value)(c:Int)(n:Nat)(w:World)(hv:Dt 0 w v [c])(h0:c≠0)(hn:n≤549755813888):Bh 151 #[v,.int .i64 (n:Nat)] w (fun r w'=>AP 0 w' r (mono n (c:Rat))):=by
 have HN:=Ad (CW v [c] w hv Ac);obtain⟨A0,c0,rfl⟩:=hv.len;have hp1:pl (cz [c])=1:=KE (BK [c]) (fun _=>by show cz [c] 0≠0;rw[Ch Ac];exact_mod_cast h0);have H0:=Ad (Ak h0 hp1);clear hv h0 hp1
 go_enter Tryz.func151,Tryz.ntmps151
 go_wp2_with fail
 refine AL HN.out ?_;rintro r1 w1 hr1 hx;obtain⟨A1,c1,l1,rfl,k1,k2,hA,k3,k4,k5⟩:=hr1.form;rw[H0.out.2]at k1 k3 ⊢;obtain⟨g,o,b,A2,n2,c2,rfl,-,q0,q1,hq⟩:=hA.at_ (j:=0) Aa;have hval:l1[0]'(by omega)=c:=by
  have h1:=congrFun k5 0;rw[Ch Aa,Ch Ac]at h1;exact Ia h1
 rw[hval]at hq;rw[Nat.zero_mul,Nat.add_zero]at q0 q1;have Hq:=Ad hq;have HW:=Ad hx;clear hA k3 k4 k5 hr1 hval hq HN;go_wp2
 go_loopw [6,7] (fun ov iv wr=>∃ k:Nat,k≤n∧iv = .int .i64 k∧CE w1.heap.size 26 wr ov (List.replicate k 0)∧Ext w1 wr) (fun _ iv _=>n - (intOf iv).toNat)
 case atStart=>exact⟨0,Nat.zero_le _,rfl,BI.nil _ _ _ _ _,Ext.refl _⟩
 case round =>
  clear hx;obtain⟨k,hk,rfl,hown,hx⟩:=hrel;have Hown0:=Ad hown;clear hown;by_cases hkn:k < n
  ·go_wp2_with fail
   refine AL (Jy 0 _ Aa Aa) ?_;rintro r2 w2 hr2 hx2;obtain⟨b5,A5,n5,c5,rfl⟩:=hr2.cells;have Hr:=Ad hr2;clear hr2;have hown:=Hown0.out.ext hx2;have Hown:=Ad hown;clear hown;replace hx:=hx.trans hx2;have hsz:=hx.size;have hlr:(List.replicate k (0:Int)).length≤1099511627776:=by rw[List.length_replicate];omega
   clear hx2 Hown0
   go_wp2_with (at_builtin;refine AB rfl _ _ 22 rfl u6 (.slice (some ⟨w2.heap.size,0,none⟩) 1 1) rfl rfl (Fz w2 w1.heap.size _ _ _ _ _ Hown.out Hr.out hlr hsz rfl) ?_)
   first | intro v' w5 hown U | rintro v' w5 ⟨hown,U⟩
   replace hx:=(Hown.out.ext ((Ext.refl w2).alloc _)).from_ U (hx.alloc _) (Nat.le_refl _);have Hown':=Ad hown;clear hown U hlr;go_wp2
   go_roundw
   case rel=>exact⟨k+1,Aa,by go_num,by rw[List.replicate_succ'];exact Hown'.out,hx⟩
   case measure=>simp[intOf]<;>omega
  ·obtain rfl:k=n:=by omega
   replace q0:=hx.cell q0;replace q1:=hx.cell q1;have hsz:=hx.size;have hlr:(List.replicate k (0:Int)).length≤1099511627776:=by rw[List.length_replicate];omega
   go_wp2_with (at_builtin;refine AB rfl _ _ 22 rfl u6 (.slice (some ⟨g,o,none⟩) 1 c1) rfl rfl (VS wr w1.heap.size _ g o c1 _ _ _ Hown0.out q0 q1 (Hq.out.kd hx.kd) hlr hsz) ?_)
   first | intro v' w5 hown U | rintro v' w5 ⟨hown,U⟩
   replace hx:=Hown0.out.from_ U hx (Nat.le_refl _);have Hown':=Ad hown;clear hown U hlr;go_wp2
   go_ret
   exact Ah.mk ⟨_,CZ.base_le (CE.row Hown'.out) (Nat.zero_le _),Zm k H0.out.1,Yk k c⟩ (HW.out.trans hx)
set_option maxRecDepth 20000 in
theorem WB(v:Value)(a:Int)(n0 s:Nat)(w:World)(hv:Bu w v a)(hs:sz a.natAbs≤s)(hst:2+(n0+1)*s≤549755813888)(hn:n0≤1099511627776) :
  Bh 172 #[v,.int .i64 (n0:Nat)] w (fun r w'=>AO w' r (a^n0)):=by
 obtain⟨b1,A1,n1,c1,rfl⟩:=hv.cells;have hsz:∀ p,p≤n0+1→sz (a^p).natAbs≤549755813888:=fun p hp=>by
  have h1:=Gf a s hs p;have h2:p*s≤(n0+1)*s:=Nat.mul_le_mul_right _ hp;omega
 have HV:=Ad hv;have HS:=Ad hsz;clear hv hs hst hsz
 go_enter Tryz.func172,Tryz.ntmps172
 go_wp2_with fail
 refine AL (Jy 1 _ Aa Aa) ?_;rintro r1 w1 hr1 hx1;obtain⟨b5,A5,n5,c5,rfl⟩:=hr1.cells;have ea:=((Bj.new w 26 #[.bool b1,.slice A1 n1 c1] (by simp[Ag])).alloc (.cells #[.bool false,.slice none 0 0] 26)).ext hx1;have ez:=(Bj.new (w.alloc (.cells #[.bool b1,.slice A1 n1 c1] 26)) 26 #[.bool false,.slice none 0 0] (by simp[Ag])).ext hx1;rw[World.size_alloc]at ez;obtain⟨W0,eW,eb,x0⟩:=Bj.made w1 26 #[.bool b5,.slice A5 n5 c5] (by simp[Ag])
 have hb:=hr1.kd x0.kd;replace ea:=ea.ext x0;replace ez:=ez.ext x0;have hgb:w.heap.size+1 < w1.heap.size:=by have:=hx1.size;simp at this;omega
 have hx:=hx1.a2.trans x0;have Hb:=Ad hb;have Ha:=Ad (HV.out.ext hx);clear hr1 hb hx1;go_wp2;rw[←eW];clear eW x0;generalize w1.heap.size=gb at *
 go_loopw [1] (fun nv wr=>∃ (n p k:Nat) (b:Bool) (A:Option Addr) (m c:Nat),nv = .int .i64 n∧k+p*n=n0∧n≤n0∧p≤n0+1∧Bj wr w.heap.size 26 #[.bool b,.slice A m c]∧Bu wr (.agg #[.bool b,.slice A m c]) (a^p)∧Bj wr (w.heap.size+1) 26 #[.bool false,.slice none 0 0]∧Bg wr gb 26 (a^k)∧Ext w wr) (fun nv _=>(intOf nv).toNat)
 case atStart=>exact⟨n0,1,0,_,_,_,_,rfl,Aa,Aa,Aa,ea,by rw[Int.pow_one];exact Ha.out,ez,by rw[Int.pow_zero];exact Bg.mk eb Hb.out,hx⟩
 case round =>
  clear ea ez eb hx Ha Hb;obtain⟨n,p,k,b,A,m,c,rfl,hkn,hnn,hp,ea,ha,ez,⟨b6,A6,n6,c6,eb,hb⟩,hx⟩:=hrel;have Ha:=Ad ha;have Hb:=Ad hb;clear ha hb;by_cases hn0:0 < n
  ·have hq:wrap64 ((n:Int) / 2)=((n / 2:Nat):Int):=by rw[show((n:Int) / 2)=((n / 2:Nat):Int) by omega];exact IntWalk.wrap64_in _ ⟨Aa,Aa⟩
   have hkp:k≤n0+1:=by omega
   by_cases hodd:n % 2=1
   ·have hb1:(((n:Nat):Int).tmod 2==1)=true:=by rw[Rj];simpa using hodd
    have hk2:k+p≤n0+1:=by
     have h3:p*1≤p*n:=Nat.mul_le_mul_left _ Aa;omega
    obtain⟨cea0,cea1⟩:=ea.cells2;have fea:=ea.frozen;obtain⟨ceb0,ceb1⟩:=eb.cells2;have feb:=eb.frozen
    go_wp2_with fail
    refine AL (FQ _ _ (a^k) (a^p) _ (Hb.out.has (by have:=HS.out k hkp;omega)) Ha.out (by have:=HS.out k hkp;omega) (by have:=HS.out p hp;omega)) ?_;rintro r2 w2 hr2 hx2;obtain⟨b7,A7,n7,c7,rfl⟩:=hr2.cells;have ha:=Ha.out.ext hx2;clear Ha Hb cea0 cea1 fea ceb0 ceb1 feb;replace ea:=ea.ext hx2;replace ez:=ez.ext hx2;replace eb:=eb.ext hx2;replace hx:=hx.trans hx2;clear hx2;obtain⟨ceb0,ceb1⟩:=eb.cells2
    have feb:=eb.frozen;have Ha2:=Ad ha;clear ha
    go_upto_region 5 with(fail)
    have ha:=Ha2.out;obtain⟨W3,eW,eb',U⟩:=eb.put2 (.bool b7) (.slice A7 n7 c7) rfl rfl;rw[←eW];clear eW eb;replace hr2:=hr2.kd U.kd;replace ha:=ha.kd U.kd;replace ea:=ea.upd U Ai;replace ez:=ez.upd U Ai;replace hx:=U.from_ hx Ai;have eb:=eb';clear U eb';rw[←Int.pow_add]at hr2;have Ha:=Ad ha;have Hb:=Ad hr2;clear ha hr2 Ha2;by_cases h2:0 < n / 2
    ·skip
     have hb2:decide ((0:Int) < ((n / 2:Nat):Int))=true:=decide_eq_true Aa;obtain⟨cea0,cea1⟩:=ea.cells2;have fea:=ea.frozen
     go_wp2_with fail
     refine AL (FQ _ _ (a^p) (a^p) _ Ha.out Ha.out (by have:=HS.out p hp;omega) (by have:=HS.out p hp;omega)) ?_;rintro r9 w9 hr9 hx9;obtain⟨b9,A9,n9,c9,rfl⟩:=hr9.cells;have hb9:=Hb.out.kd hx9.kd;clear cea0 cea1 fea;replace ea:=ea.ext hx9;replace ez:=ez.ext hx9;replace eb:=eb.ext hx9;replace hx:=hx.trans hx9;clear hx9;obtain⟨cea0,cea1⟩:=ea.cells2;have fea:=ea.frozen;have Hb9:=Ad hb9;clear hb9;go_wp2
     have hb9:=Hb9.out;obtain⟨W9,eW,ea',U⟩:=ea.put2 (.bool b9) (.slice A9 n9 c9) rfl rfl;rw[←eW];clear eW ea;replace hr9:=hr9.kd U.kd;replace hb9:=hb9.kd U.kd;replace ez:=ez.upd U Ai;replace eb:=eb.upd U Ai;replace hx:=U.from_ hx Ai;have ea:=ea';clear U ea';have hpp:p+p≤n0+1:=by
      have h3:p*2≤p*n:=Nat.mul_le_mul_left _ Aa;omega
     have hkk:(k+p)+(p+p)*(n / 2)=n0:=by
      have e:n=2*(n / 2)+n % 2:=by omega
      rw[hodd]at e;generalize n / 2=h at *;subst e;grind
     go_roundw
     case rel=>exact⟨n / 2,p+p,(k+p),_,_,_,_,by congr 1<;>omega,hkk,Aa,hpp,ea,by rw[Int.pow_add];exact hr9.has (by rw[←Int.pow_add];have:=HS.out (p+p) hpp;omega),ez,Bg.mk eb hb9,hx⟩
     case measure=>simp[intOf];omega
    ·skip
     have hb2:decide ((0:Int) < ((n / 2:Nat):Int))=false:=decide_eq_false Aa;have h20:n / 2=0:=by omega
     have hkk:(k+p)+p*0=n0:=by
      have e:n=2*(n / 2)+n % 2:=by omega
      rw[hodd,h20]at e;subst e;grind
     go_wp2
     go_roundw
     case rel=>exact⟨0,p,(k+p),_,_,_,_,by rw[show((n:Int) / 2)=((0:Nat):Int) by omega],hkk,Aa,hp,ea,Ha.out,ez,Bg.mk eb Hb.out,hx⟩
     case measure=>simp[intOf];omega
   ·have hb1:(((n:Nat):Int).tmod 2==1)=false:=by rw[Rj];simpa using hodd
    have hev:n % 2=0:=by omega
    have h2:0 < n / 2:=by omega
    have hb2:decide ((0:Int) < ((n / 2:Nat):Int))=true:=decide_eq_true Aa;obtain⟨cea0,cea1⟩:=ea.cells2;have fea:=ea.frozen
    go_wp2_with fail
    refine AL (FQ _ _ (a^p) (a^p) _ Ha.out Ha.out (by have:=HS.out p hp;omega) (by have:=HS.out p hp;omega)) ?_;rintro r9 w9 hr9 hx9;obtain⟨b9,A9,n9,c9,rfl⟩:=hr9.cells;have hb9:=Hb.out.kd hx9.kd;clear cea0 cea1 fea;replace ea:=ea.ext hx9;replace ez:=ez.ext hx9;replace eb:=eb.ext hx9;replace hx:=hx.trans hx9;clear hx9;obtain⟨cea0,cea1⟩:=ea.cells2;have fea:=ea.frozen;have Hb9:=Ad hb9;clear hb9;go_wp2
    have hb9:=Hb9.out;obtain⟨W9,eW,ea',U⟩:=ea.put2 (.bool b9) (.slice A9 n9 c9) rfl rfl;rw[←eW];clear eW ea;replace hr9:=hr9.kd U.kd;replace hb9:=hb9.kd U.kd;replace ez:=ez.upd U Ai;replace eb:=eb.upd U Ai;replace hx:=U.from_ hx Ai;have ea:=ea';clear U ea';have hpp:p+p≤n0+1:=by
     have h3:p*2≤p*n:=Nat.mul_le_mul_left _ Aa;omega
    have hkk:k+(p+p)*(n / 2)=n0:=by
     have e:n=2*(n / 2)+n % 2:=by omega
     rw[hev]at e;generalize n / 2=h at *;subst e;grind
    go_roundw
    case rel=>exact⟨n / 2,p+p,k,_,_,_,_,by congr 1<;>omega,hkk,Aa,hpp,ea,by rw[Int.pow_add];exact hr9.has (by rw[←Int.pow_add];have:=HS.out (p+p) hpp;omega),ez,Bg.mk eb hb9,hx⟩
    case measure=>simp[intOf];omega
  ·obtain rfl:n=0:=by omega
   have hk0:k=n0:=by omega
   subst hk0;obtain⟨cez0,cez1⟩:=ez.cells2;have fez:=ez.frozen;obtain⟨ceb0,ceb1⟩:=eb.cells2;have feb:=eb.frozen;have hr:=Hb.out;go_wp2;obtain⟨W3,eW,ez',U⟩:=ez.put2 (.bool b6) (.slice A6 n6 c6) rfl rfl;rw[←eW];clear eW ez;replace hr:=hr.kd U.kd;replace hx:=U.from_ hx Ai;have ez:=ez';clear U ez';clear cez0 cez1 fez;obtain⟨cez0,cez1⟩:=ez.cells2;have fez:=ez.frozen;refine bodyPost_ret (v := .agg #[.bool b6,.slice A6 n6 c6]) (by simp[results,Tryz.results172,go_sem,cez0,cez1]) rfl ?_
   exact Ah.mk hr hx
theorem gI(v u:Value)(F G:Nat→Rat)(s t:Nat)(w:World)(hv:AP 0 w v F)(hu:AP 0 w u G)(hs:∀ i,qsz (F i)≤s)(ht:∀ i,qsz (G i)≤t)(hst:s+t+1≤549755813888)(hn:pl F≤549755813888)(hm:pl G≤549755813888) :
  Bh 152 #[v,u] w (fun r w'=>AP 0 w' r (pad F G)):=by
 obtain⟨l,h1,h2,-,rfl⟩:=hv.hz (fun i=>by have:=hs i;omega);obtain⟨m,k1,k2,-,rfl⟩:=hu.hz (fun i=>by have:=ht i;omega);exact Ah.imp (Uo v u l m s t w h1 k1 hs ht hst Aa Aa) fun _ _ h=>h.base_le (Nat.zero_le _)
theorem iW(v u:Value)(F G:Nat→Rat)(s t:Nat)(w:World)(hv:AP 0 w v F)(hu:AP 0 w u G)(hs:∀ i,qsz (F i)≤s)(ht:∀ i,qsz (G i)≤t)(hst:s+t+2≤549755813888)(hn:pl F≤549755813888)(hm:pl G≤549755813888) :
  Bh 153 #[v,u] w (fun r w'=>AP 0 w' r (psb F G)):=by
 obtain⟨l,h1,h2,-,rfl⟩:=hv.hz (fun i=>by have:=hs i;omega);obtain⟨m,k1,k2,-,rfl⟩:=hu.hz (fun i=>by have:=ht i;omega);exact Ah.imp (YE v u l m s t w h1 k1 hs ht hst Aa Aa) fun _ _ h=>h.base_le (Nat.zero_le _)
theorem Ll(v u:Value)(F:Nat→Rat)(ca:Int)(s:Nat)(w:World)(hv:AP 0 w v F)(hu:Bu w u ca)(hs:∀ i,qsz (F i)≤s)(hst:s+qsz (ca:Rat)≤549755813888)(hn:pl F≤549755813888) :
  Bh 73 #[v,u] w (fun r w'=>AP 0 w' r (psc (ca:Rat) F)):=by
 obtain⟨l,h1,h2,-,rfl⟩:=hv.hz (fun i=>by have:=hs i;omega);exact Ah.imp (O5 v u l ca s w h1 hu hs hst Aa) fun _ _ h=>h.base_le (Nat.zero_le _)
end Go.Proofs.YtmhgnigpmompmaaGreat
namespace Go.Hp
open Go.RowKit
theorem gK{P:Nat→Rat}(h:BP P){e:Rat}(he:e=1∨e = -1):rd (psc e P)=psc e P:=by
 have hc:cn (psc e P)=1:=by
  rcases he with rfl | rfl
  ·rw[Cn];exact h.c
  ·have:=Ii (a:=-1) Ab h.z h.f
   rw[h.c]at this;exact this
 unfold rd;rw[hc,show(1:Rat) / ((1:Nat):Rat)=1 from by decide +kernel,Cn]
theorem iR{A B:Nat→Rat}(fA:Af A)(fB:Af B)(hn:nx A B≠pz):rd (nx A B)=nx A B:=by
 have hR:pr A B≠pz:=fun e=>hn (Jb e);have fR:=EQ fA fB;rw[TI hR];exact gK (BP.pp (Eh (AU fR)) (Dr (n:=pl (pr A B)) fR) (Nf (n:=pl (pr A B)) fR hR)) (JJ _)
theorem iV{F:Nat→Rat}(z:ZI F)(f:Af F):pl (rd F)=pl F:=by
 rw[Ra,DX (JH (JJ _)) (DI f),EE z f]
end Go.Hp
namespace Go.Proofs.YtmhgnigpmompmaaGreat
open Go.RowKit Go.Hp
theorem Yd(v:Value)(F:Nat→Rat)(w:World)(hv:AP 0 w v F)(hs:∀ i,qsz (F i)≤274877906944)(hn:pl F≤274877906944):Bh 71 #[v] w (fun r w'=>Da 0 w' r F):=by
 obtain⟨l,h1,h2,-,rfl⟩:=hv.hz fun i=>by have:=hs i;omega
 exact Ah.imp (iQ v l w h1 hs Aa) fun _ _ h=>h.base_le (Nat.zero_le _)
theorem RN(v u:Value)(F G:Nat→Rat)(s:Nat)(w:World)(hv:Da 0 w v F)(hu:Da 0 w u G)(h0:G≠pz)(hF:CD s F)(hG:CD s G)(hs:s≤1000000)(hn:pl F≤1000)(hm:pl G≤1000) :
  Bh 70 #[v,u] w (fun r w'=>∃ a b,r = .tuple #[a,b]∧Da 0 w' a (pq F G)∧Da 0 w' b (pr F G)):=by
 have:(pl F+2)*(s+1)≤1002*1000001:=Nat.mul_le_mul Aa Aa;exact Ah.imp (VJ v u F G s s w hv hu h0 hF hG Aa Aa Aa) fun r w' ⟨a,b,e,h,k⟩=>⟨a,b,e,h.base_le (Nat.zero_le _),k.base_le (Nat.zero_le _)⟩
theorem Vw(v:Value)(F:Nat→Rat)(s:Nat)(w:World)(hv:Da 0 w v F)(hF:CD s F)(hs:s≤1000000)(hn:pl F≤1000) :
  Bh 72 #[v] w (fun r w'=>LD 0 (pl F) F r w'):=by
 obtain⟨l,h1,h2,-,rfl⟩:=hv.hs fun i=>by have:=hF.elem i;omega
 exact SA v l s w h1 Aa hF.elem hs
theorem Qo(v:Value)(F:Nat→Rat)(w:World)(hv:AP 0 w v F)(hs:∀ i,qsz (F i)≤274877906944)(hn:pl F≤274877906944)(zF:ZI F)(fF:Af F)(h0:F≠pz) :
  Bh 68 #[v] w (fun r w'=>AP 0 w' r (rd F)):=by
 obtain⟨l,h1,h2,-,rfl⟩:=hv.hz fun i=>by have:=hs i;omega
 obtain⟨A,c,rfl⟩:=h1.len;have hc:=GX _ l w h1 (fun i=>by have:=hs i;omega) Aa;have hcz:sz ((cn (cz l):Nat):Int).natAbs≤274877906944:=by have:=FV hs (pl (cz l));simpa[cn] using this
 have hc0:((cn (cz l):Nat):Int)≠0:=by have:=IW zF fF h0;omega
 have hov:=fun W (x:Ext w W) u (hu:Bu W u (cn (cz l):Nat))=>OO _ u l (cn (cz l):Nat) W (h1.ext x) hu (fun i=>by have:=hs i;omega) Aa hc0 (fun i=>J2 fF i) Aa;have HC:=Ad (Ak hc (Ak hcz hov));clear hc hcz hc0 hov h1 hv hs zF fF h0 hn h2
 go_enter Tryz.func68,Tryz.ntmps68
 go_wp2_with fail
 refine AL HC.out.1 ?_;rintro r1 w1 hr1 hx1
 go_wp2_with fail
 refine AL (HC.out.2.2 _ hx1 _ (hr1.has (by have:=HC.out.2.1;omega))) ?_;rintro r2 w2 hr2 hx2;go_wp2
 go_ret
 exact Ah.mk (hr2.base_le (Nat.zero_le _)) (hx1.trans hx2)
end Go.Proofs.YtmhgnigpmompmaaGreat
namespace Go.Hp
open Go.RowKit
def jB(F G:Nat→Rat)(S:Nat)(k:Nat)(N:Nat→Rat):Prop:=ZI N∧Af N∧(∀ i,qsz (N i)≤S)∧rd N=Co F G (k+1)
def Ky(w:World)(v:Value)(X Y:Nat→Rat):Prop:=∃ q r,v = .tuple #[q,r]∧Da 0 w q X∧Da 0 w r Y
theorem Ky.ext{w w':World}{v:Value}{X Y:Nat→Rat}(h:Ky w v X Y)(e:Ext w w'):Ky w' v X Y:=by
 obtain⟨q,r,h1,h2,h3⟩:=h;exact⟨q,r,h1,Da.ext h2 e,Da.ext h3 e⟩
end Go.Hp
namespace Go.Proofs.YtmhgnigpmompmaaGreat
open Go.RowKit Go.Hp
theorem dJ:(Tryz.prog.info? 22).map (fun i=>(i.zero,i.size,i.bytes))=some (some (.slice none 0 0),1,24):=by kernel_rfl
theorem Vv(W:World)(v:Value)(base eb ty n c g:Nat)(A:Option Addr)(us:List Value)(l:List (Nat→Rat))(F:Nat→Rat)(h:Gz base eb 22 W v us l)(hu:AP eb W (.slice A n c) F)(hg:g=W.heap.size)(hn:l.length≤1000000)(hb:base≤W.heap.size) :
  ∃ v' w',(Builtin.append_ #[60,60] ty #[v,.slice (some ⟨g,0,none⟩) 1 1]).run Tryz.prog (W.alloc (.cells #[.slice A n c] 22)) = .ok v' w' ∧
   (Gz base eb 22 w' v' (us ++ [.slice A n c]) (l ++ [F])∧Cs (blk v) (W.alloc (.cells #[.slice A n c] 22)) w'∧NZ (W.alloc (.cells #[.slice A n c] 22)) v):=by
 subst hg;obtain⟨i0,hi,hz0,hz1,hz2⟩:=info_parts dJ;obtain⟨v',w',a,b,U,N⟩:=Gz.append (P:=Tryz.prog) h hu 60 ty i0 _ 24 Tryz.underlying60 hi hz0 hz1 hz2 rfl (by simp[nodig,Ag,Value.cells]) (by simp[RA,Value.cells]) (by simp only[maxLen];omega) Aa hb;exact⟨v',w',a,b,U,N⟩
set_option maxRecDepth 20000 in
theorem X4(v:Value)(l:List Int)(S D M:Nat)(w:World)(hv:Dt 0 w v l)(h0:cz l≠pz)(hl:l.length≤1000)(hs:∀ i,qsz (cz l i)≤S)(ht:∀ i,qsz (pd (cz l) i)≤S)
  (hD:pl (cz l)+pl (pd (cz l))=D) (hM:(S+1)*2^D≤M) (hB:M+(D+1)*(M+1)≤1000000) (hD9:D≤900) :
  Bh 28 #[v] w (fun r w'=>∃ us K,NN (cz l) (pd (cz l)) K∧K≤pl (pd (cz l))+1∧Gz w.heap.size 0 22 w' r us (EA (cz l) (pd (cz l)) K)):=by
 have hp2:1≤2^D:=Nat.one_le_two_pow;have hSM:S+1≤M:=Nat.le_trans (by have:=Nat.mul_le_mul_left (S+1) hp2;omega) hM;have hDM:(D+1)*1≤(D+1)*(M+1):=Nat.mul_le_mul_left _ Aa;have zF:=ZI.cz l;have fF:=Af.cz l;have zG:ZI (pd (cz l)):=EL zF;have fG:Af (pd (cz l)):=Cb fF;have hnm:=CW v l w hv Aa;have hsg:=fun W u (hu:AP 0 W u (cz l))=>Qo u (cz l) W hu (fun i=>by have:=hs i;omega) Aa zF fF h0;have hder:=fun W (x:Ext w W)=>JA v l S W (hv.ext x) hs Aa Aa
 have hsn:∀ k N W u,jB (cz l) (pd (cz l)) M k N→pl N≤1000→N≠pz→AP 0 W u N→Bh 68 #[u] W (fun r w'=>AP 0 w' r (Co (cz l) (pd (cz l)) (k+1))):=fun k N W u hN hn h1 hu=>by
  rw[←hN.2.2.2];exact Qo u N W hu (fun i=>by have:=hN.2.2.1 i;omega) Aa hN.1 hN.2.1 h1
 obtain⟨F,hFe⟩:∃ F,F=cz l:=⟨_,rfl⟩
 obtain⟨G,hGe⟩:∃ G,G=pd F:=⟨_,rfl⟩
 simp only[←hFe]at hs ht hD zF fF zG fG hnm hsg hder hsn h0 ⊢;simp only[←hGe]at ht hD zG fG hder hsn ⊢;obtain⟨A0,c0,rfl⟩:=hv.len;have hst:∀ k,(∀ j,1≤j→j≤k→Co F G j≠pz)→Fg F G D S (Co F G k) (Co F G (k+1)):=fun k h=>by rw[←hD];exact JK fF fG zF zG hs ht k h
 have hlow:=fun k h=>M4 fF fG zF zG hs ht k h;have hR0:jB F G M 0 G:=⟨zG,fG,fun i=>by have:=ht i;omega,rfl⟩
 have HX:=Ad (Ak hst (Ak hlow (Ak hM (Ak hB (Ak hD9 (Ak hD hR0))))));have HR:=Ad (Ak hnm (Ak hsg (Ak hder hsn)));clear hv zF zG fF fG hs ht hD hM hp2 hSM hDM hnm hsg hder hsn hst hlow hB hD9 hR0 h0 hFe hGe
 go_enter Tryz.func28,Tryz.ntmps28
 go_wp2_with fail
 refine AL HR.out.1 ?_;rintro r0 w0 hr0 hx0
 go_wp2_with fail
 refine AL (HR.out.2.1 _ _ (hr0.base_le (Nat.zero_le _))) ?_;rintro r1 w1 hr1 hx1;replace hx1:=hx0.trans hx1;obtain⟨A2,c2,rfl,-⟩:=hr1.shape;have hP1:=Gz.one (t:=22) (base:=w.heap.size) hr1 hx1.size;have hx:=hx1.alloc (.cells #[.slice A2 (pl (rd F)) c2] 22);have H1:=Ad hP1;clear hP1 hr1 hx1 hr0 hx0
 go_wp2_with fail
 refine AL (HR.out.2.2.1 _ hx) ?_;rintro r2 w2 hr2 hx2;have hP2:=H1.out.ext hx2;replace hx:=hx.trans hx2;replace hr2:=hr2.base_le (b:=0) (Nat.zero_le _);clear H1 hx2;go_wp2
 go_loopw [3,4] (fun ov nv wr=>∃ k us N,Gz w.heap.size 0 22 wr ov us (EA F G (k+1))∧AP 0 wr nv N∧jB F G M k N∧(∀ j,1≤j→j≤k→Co F G j≠pz)∧Ext w wr) (fun _ nv _=>NS nv)
 case atStart=>exact⟨0,_,_,hP2,hr2,HX.out.2.2.2.2.2.2,fun j a b=>Aa,hx⟩
 case round =>
  clear hP2 hr2 hx;obtain⟨k,us,N,hP,hn,hN,hk,hx⟩:=hrel;obtain⟨L,d,rfl⟩:=hP.shape;obtain⟨A3,c3,rfl,-⟩:=hn.shape;have HK:=Ad hk;clear hk;have hf:=(HX.out.1 k HK.out).facts;have hkl:=HX.out.2.1 k HK.out;have hkk:k≤900:=by have:=HX.out;omega
  have hNl:pl N=pl (Co F G (k+1)):=by rw[←hN.2.2.2,iV hN.1 hN.2.1]
  by_cases h0:0 < pl N
  ·have hN0:N≠pz:=fun e=>by rw[e,Ca]at h0;omega
   have hbn:Co F G (k+1)≠pz:=fun e=>by rw[hNl,e,Ca]at h0;omega
   obtain⟨fA,fB,zA,zB,hdd,qA,qB⟩:=hf;have hcl:=(HX.out.1 k HK.out).clear hbn HX.out.2.2.1;have hall:=K3 fA fB hbn;have hcx:=aG fA fB hbn;have hpr:=Ea fA fB hbn;have hnext:jB F G M (k+1) (nx (Co F G k) (Co F G (k+1))):=by
    refine⟨hall.1,hall.2.1,?_,?_⟩
    ·intro i
     by_cases hz:Co F G (k+2)=pz
     ·have:nx (Co F G k) (Co F G (k+1))=pz:=hz
      rw[this];show qsz 0≤_;rw[GJ];have:=HX.out.2.2.1;have:=Nat.mul_le_mul_left (S+1) (Nat.one_le_two_pow (n:=D));omega
     ·have h1:=(HX.out.1 k HK.out).step hbn
      exact Nat.le_trans (h1.facts.2.2.2.2.2.2 i) HX.out.2.2.1
    ·by_cases hz:nx (Co F G k) (Co F G (k+1))=pz
     ·rw[hz,XW];exact hz.symm
     ·exact iR fA fB hz
   have hNs:=HR.out.2.2.2 k N;have hpN:pl N≤1000:=by have:=HX.out.2.2.2.2.1;omega
   rw[←Ku]at hall hcx hnext;obtain⟨X,hXe⟩:∃ X,X=Co F G k:=⟨_,rfl⟩
   obtain⟨Y,hYe⟩:∃ Y,Y=Co F G (k+1):=⟨_,rfl⟩
   obtain⟨Z,hZe⟩:∃ Z,Z=Co F G (k+2):=⟨_,rfl⟩
   obtain⟨R,hRe⟩:∃ R,R=pr X Y:=⟨_,rfl⟩
   simp only[←hXe,←hYe,←hZe]at hcl hall hcx hpr hkl hbn fB zB qB fA zA qA hdd hNs hNl hnext;simp only[←hRe]at hcl hall hcx hpr;have hM9:M≤1000000:=by have:=HX.out.2.2.2.1;have:0≤(D+1)*(M+1):=Nat.zero_le _;omega
   have hplR:pl R≤1000:=by have:=Bq hpr;have:=HX.out.2.2.2.2.1;omega
   have hplXY:pl X≤1000∧pl Y≤1000:=by have:=HX.out.2.2.2.2.1;omega
   have fR:Af R:=⟨_,hpr⟩
   have hpR:∀ i,qsz (pp (CO (pl R) R) i)≤274877906944:=fun i=>by
    have h1:=Fb (Eh (AU fR)) (Dr (n:=pl R) fR) (fun j=>KP (n:=pl R) hcl.2.2.elem j) i;have h2:pl R*(M+(D+1)*(M+1))≤1000*1000000:=Nat.mul_le_mul hplR HX.out.2.2.2.1;have:=HX.out.2.2.2.1;omega
   have hplc:pl (pp (CO (pl R) R))≤1000:=by
    rw[EE (Eh (AU fR)) (Dr (n:=pl R) fR)];exact Nat.le_trans (Bq (show BB (pl R) (CO (pl R) R)from(AU fR).psc _)) hplR
   have hqc:qsz (KL (pl R) R)≤274877906944:=by
    have h1:=Uv (AU fR) hcl.2.2.elem;have h2:pl R*(M+(D+1)*(M+1))≤1000*1000000:=Nat.mul_le_mul hplR HX.out.2.2.2.1;have:=HX.out.2.2.2.1;omega
   have HS:=Ad (Ak (fun W u h=>hNs W u hN hpN hN0 h) (Ak hpR (Ak hplc hqc)));have HC:=Ad (Ak hcl (Ak hall (Ak hcx (Ak hM9 (Ak hplR (Ak hplXY (Ak hbn (Ak hplR (Ak hplR hnext)))))))));have HE:=Ad (Ak hXe (Ak hYe (Ak hZe (Ak hRe hNl))));have hlt:(EA F G (k+1)).length=k+1:=CP _ _ _;have HN:=Ad hn;rw[hlt]at hP ⊢;have HP:=Ad hP;clear hcl hall hcx hM9 hplR hplXY hpR hplc hpr fA fB zA zB hdd qA qB hbn hXe hYe hZe hRe hn hP hlt hNs hN hN0 hNl hnext hqc fR
   go_wp2_with fail
   refine AL (HS.out.1 _ _ HN.out) ?_;rintro r5 w5 hr5 hx5;obtain⟨A5,c5,rfl,-⟩:=hr5.shape;have HP5:=Ad (Ak (HP.out.ext hx5) hr5);have hbl:=Ad (HP.out.ext hx5).out.blk_ge;replace hx:=hx.trans hx5;clear hx5 hr5 HP HN
   go_wp2_with (at_builtin;refine AB rfl _ _ 60 rfl (.slice L (k+1) d) (.slice (some ⟨w5.heap.size,0,none⟩) 1 1) rfl rfl (Vv w5 _ w.heap.size 0 _ _ _ _ _ us _ _ HP5.out.1 HP5.out.2 rfl (by rw[CP];omega) hx.size) ?_)
   intro v' w6 hP6 U hNB;have xa:=(Ext.refl w5).alloc (.cells #[.slice A5 (pl Y) c5] 22);have hP7:=hP6;rw[show EA F G (k+1) ++ [Y]=EA F G (k+1+1)from by rw[HE.out.2.1,←Rx]]at hP7;obtain⟨L2,d2,rfl⟩:=hP7.shape;have hx7:=U.from_ (hx.trans xa) (fun g' hg=>(hbl.out _ hg).1);have hlt:(EA F G (k+1+1)).length=k+2:=CP _ _ _;have hat:=hP7.at_ (i:=k) (by rw[hlt];omega);have hbt:=hP7.at_ (i:=k+1) (by rw[hlt];omega)
   rw[TK]at hat hbt;obtain⟨g5,o5,E5,d5,rfl,hc5,h5⟩:=hat;obtain⟨g6,o6,E6,d6,e6,hc6,h6⟩:=hbt;cases e6;rw[←HE.out.1]at hc5 h5;rw[←HE.out.2.1]at hc6 h6;have H7:=Ad (Ak hP7 (Ak h5 h6));rw[hlt];clear hP6 hP7 h5 h6 U hNB xa hx HP5 hbl hlt
   go_upto_region 6 with(fail)
   go_cut [6,7] (fun qv rv wx=>Da 0 wx qv (pq X Y)∧Da 0 wx rv (pr X Y)∧Ext w6 wx)
   case first =>
    refine Bz 16 [15] (fun x=>17) [27,28,29,30,31,32,33,34,35,36,37,38,39,26,40,41] [[],[],[1],[0,1,2],[0,1,2,3],[0,1,2,3,4],[],[],[7],[6,7,8],[6,7,8,9],[0,1,2,3,4,5,6,7,8,9,10],[0,1,2,3,4,5,6,7,8,9,10,11],[0,1,2,3,4,5,6,7,8,9,10,11,12],[0,1,2,3,4,5,6,7,8,9,10,11,12,13],[0,1,2,3,4,5,6,7,8,9,10,11,12,13],[0,1,2,3,4,5,6,7,8,9,10,11,12,13,14],[0,1,2,3,4,5,6,7,8,9,10,11,12,13,14,15,16]] [3,5] [_,_] [(kv ?_),(kv ?_),(kv ?_),(kv ?_),(kv ?_),(fun γ=>γ 5),(kv ?_),(kv ?_),(kv ?_),(kv ?_),(kv ?_),(fun γ=>γ 11),(fun γ=>γ 12),(fun γ=>γ 12),(fun γ=>γ 14),(fun γ=>γ 15)] (fun γ w'=>[True,True,True,True,True,Da 0 w' (γ 5) X,True,True,True,True,True,Da 0 w' (γ 11) Y,Ky w' (γ 12) (pq X Y) (pr X Y),True,Da 0 w' (γ 14) (pq X Y),Da 0 w' (γ 15) (pr X Y)]) Bn Aj Aj Aj Aj Aj Bo Aj Bl ?hmono1 ?hstep1 ?_ ?hlate1
    case hstep1 =>
     iterate 16 refine⟨?_,?_⟩
     trivial
     iterate 5 focus
      intro γ w' he hf;clear hf;refine⟨by trivial,?_⟩;intro R hR;have hc:=he.cells;have cq0:=he.cell hc5;have cq1:=he.cell hc6;go_simp;(try go_ints);(try(rw[if_neg Aa]));(try(rw[if_pos Aa]));(try go_simp);(try go_ints)
      refine hR _ _ (Ext.refl _) ?_ trivial;rfl
     ·intro γ w' he hf;clear hf;refine⟨trivial,?_⟩;intro R hR
      go_simp;exact Bd (F:=fun r w''=>Da 0 w'' (r) X) (Yd _ X w' (H7.out.2.1.ext he) (fun i=>by have:=HC.out.1.1.elem i;have:=HC.out.2.2.2.1;omega) (by have:=HC.out.2.2.2.2.2.1;omega)) hR
     iterate 5 focus
      intro γ w' he hf;clear hf;refine⟨by trivial,?_⟩;intro R hR;have hc:=he.cells;have cq0:=he.cell hc5;have cq1:=he.cell hc6;go_simp;(try go_ints);(try(rw[if_neg Aa]));(try(rw[if_pos Aa]));(try go_simp);(try go_ints)
      refine hR _ _ (Ext.refl _) ?_ trivial;rfl
     ·intro γ w' he hf;clear hf;refine⟨trivial,?_⟩;intro R hR
      go_simp;exact Bd (F:=fun r w''=>Da 0 w'' (r) Y) (Yd _ Y w' (H7.out.2.2.ext he) (fun i=>by have:=HC.out.1.2.1.elem i;have:=HC.out.2.2.2.1;omega) (by have:=HC.out.2.2.2.2.2.1;omega)) hR
     ·intro γ w' he hf;have f5:Da 0 w' (γ 5) X:=hf 5 Ab;have f11:Da 0 w' (γ 11) Y:=hf 11 Ab;clear hf;refine⟨trivial,?_⟩;intro R hR
      go_simp;exact Bd (RN _ _ X Y M w' f5 f11 HC.out.2.2.2.2.2.2.1 HC.out.1.1 HC.out.1.2.1 HC.out.2.2.2.1 HC.out.2.2.2.2.2.1.1 HC.out.2.2.2.2.2.1.2) hR
     ·intro γ w' he hf;clear hf;refine⟨trivial,?_⟩;intro R hR
      have hc:=he.cells;go_simp
      (try go_ints);(try(rw[if_neg Aa]));(try(rw[if_pos Aa]));(try go_simp);(try go_ints)
      refine hR _ _ (Ext.refl _) ?_ trivial;rfl
     ·intro γ w' he hf;have f12:Ky w' (γ 12) (pq X Y) (pr X Y):=hf 12 Ab;clear hf;refine⟨trivial,?_⟩;intro R hR
      obtain⟨q',r',e,ha,hb⟩:=f12;go_simp;exact hR _ _ (Ext.refl _) rfl ha
     ·intro γ w' he hf;have f12:Ky w' (γ 12) (pq X Y) (pr X Y):=hf 12 Ab;clear hf;refine⟨trivial,?_⟩;intro R hR
      obtain⟨q',r',e,ha,hb⟩:=f12;go_simp;exact hR _ _ (Ext.refl _) rfl hb
    case hmono1 =>
     exact⟨⟨⟨⟨⟨⟨⟨⟨⟨⟨⟨⟨⟨⟨⟨⟨trivial,(fun γ wA w' e h=>h)⟩,(fun γ wA w' e h=>h)⟩,(fun γ wA w' e h=>h)⟩,(fun γ wA w' e h=>h)⟩,(fun γ wA w' e h=>h)⟩,(fun γ wA w' e h=>(show Da 0 wA (γ 5) X from h).ext e)⟩,(fun γ wA w' e h=>h)⟩,(fun γ wA w' e h=>h)⟩,(fun γ wA w' e h=>h)⟩,(fun γ wA w' e h=>h)⟩,(fun γ wA w' e h=>h)⟩,(fun γ wA w' e h=>(show Da 0 wA (γ 11) Y from h).ext e)⟩,(fun γ wA w' e h=>(show Ky wA (γ 12) (pq X Y) (pr X Y)from h).ext e)⟩,(fun γ wA w' e h=>h)⟩,(fun γ w w' e h=>Da.ext h e)⟩,(fun γ w w' e h=>Da.ext h e)⟩
    case hlate1 =>
     intro Pn hPs hPn;obtain rfl:=Gn hPs hPn;clear hPs hPn
     ·intro γ w8 hx8 hF hA
      clear hA;have p5:Da 0 w8 (γ 5) X:=(AA.get hF 5 Ab).resolve_left Ab;have p11:Da 0 w8 (γ 11) Y:=(AA.get hF 11 Ab).resolve_left Ab;have p12:Ky w8 (γ 12) (pq X Y) (pr X Y):=(AA.get hF 12 Ab).resolve_left Ab;have p14:Da 0 w8 (γ 14) (pq X Y):=(AA.get hF 14 Ab).resolve_left Ab;clear hF;show AC _ _ _ _ 3 [15] 16 _ _;simp only[Bf,Nat.reduceAdd,Ck,Array.getD_eq_getD_getElem?,List.getElem?_toArray,List.getElem?_cons_succ,List.getElem?_cons_zero,Option.getD_some]
      generalize γ 5=g5 at *;generalize γ 11=g11 at *;generalize γ 12=g12 at *;generalize γ 14=g14 at *;clear γ;obtain⟨q12,r12,rfl,hq12,hr12⟩:=p12;clear hc5 hc6 p5 p11;refine AC.mk 2 ⟨?_,trivial⟩ (fun _=>?_)
      ·simp only[Bb,List.toList_toArray,List.drop_succ_cons,List.drop_zero,List.take_succ_cons,List.take_zero]
       go_wp2;show AC _ _ _ _ _ [] _ _ _;refine AC.nil ?_;simp only[List.toList_toArray,List.drop_succ_cons,List.drop_zero];go_wp2
       first | (go_meet;case rel=>exact⟨p14,p15,hx8⟩) | (go_meet;case rel=>exact⟨p14,hr12,hx8⟩)
      ·simp only[Bb,List.toList_toArray,List.drop_succ_cons,List.drop_zero,List.take_succ_cons,List.take_zero]
       go_wp2;refine AC.mk 1 ⟨?_,trivial⟩ (fun h=>by cases(show false=true from h))
       ·simp only[Bb,List.toList_toArray,List.drop_succ_cons,List.drop_zero,List.take_succ_cons,List.take_zero]
        go_wp2;show AC _ _ _ _ _ [] _ _ _;refine AC.nil ?_;simp only[List.toList_toArray,List.drop_succ_cons,List.drop_zero];go_wp2
        first | (go_meet;case rel=>exact⟨p14,p15,hx8⟩) | (go_meet;case rel=>exact⟨p14,hr12,hx8⟩)
    intro γ w8 hx8 hF hA;clear hA;have p5:Da 0 w8 (γ 5) X:=AA.get hF 5 Ab;have p11:Da 0 w8 (γ 11) Y:=AA.get hF 11 Ab;have p12:Ky w8 (γ 12) (pq X Y) (pr X Y):=AA.get hF 12 Ab;have p14:Da 0 w8 (γ 14) (pq X Y):=AA.get hF 14 Ab;have p15:Da 0 w8 (γ 15) (pr X Y):=AA.get hF 15 Ab;clear hF;simp only[Bf,Nat.reduceAdd];generalize γ 5=g5 at *;generalize γ 11=g11 at *;generalize γ 12=g12 at *;generalize γ 14=g14 at *
    generalize γ 15=g15 at *;clear γ;obtain⟨q12,r12,rfl,hq12,hr12⟩:=p12;clear hc5 hc6 p5 p11;go_wp2
    first | (go_meet;case rel=>exact⟨p14,p15,hx8⟩) | (go_meet;case rel=>exact⟨p14,hr12,hx8⟩)
   case rest =>
   clear hc5 hc6;obtain⟨hq10,hr10,hx8⟩:=hcut;obtain⟨Aq,cq,_,rfl,-⟩:=hq10.form;obtain⟨Ar,cr,_,rfl,-⟩:=hr10.form;have H9:=Ad (H7.out.1.ext hx8);replace hx7:=hx7.trans hx8;have hx10:=Ext.refl wc;have H9:=Ad (Ak H9.out True.intro);clear hx8 H7;rw[←HE.out.2.2.2.1]at hr10 ⊢;have H10:=Ad (Ak (H9.out.1.ext hx10) hr10);replace hx7:=hx7.trans hx10;clear hx10 hr10 hq10 H9
   go_wp2_with fail
   refine AL (Vw _ R (M+(D+1)*(M+1)) _ H10.out.2 HC.out.1.2.2 HX.out.2.2.2.1 HC.out.2.2.2.2.1) ?_;rintro r11 w11 ⟨pv,cv,rfl,hp11,hc11⟩ hx11;obtain⟨Ap,cp,rfl,-⟩:=hp11.shape;obtain⟨b5,B5,n5,e5,b6,B6,n6,e6,rfl⟩:=hc11.cells;obtain⟨W12,eW,ec,x12⟩:=Bj.made w11 28 #[.bool b5,.slice B5 n5 e5,.bool b6,.slice B6 n6 e6] (by simp[Ag]);have H12:=Ad (Ak ((H10.out.1.ext hx11).ext x12) (Ak (hp11.ext x12) (hc11.ext x12)))
   replace hx7:=(hx7.trans hx11).trans x12;clear hx11 hp11 hc11 x12 H10
   go_upto_region 8 with(fail)
   rw[←eW];clear eW;generalize w11.heap.size=gc at *;obtain⟨cec0,cec1,cec2,cec3⟩:=ec.cells4;have fec:=ec.frozen;have hcx:=HC.out.2.2.1
   go_wp2_with fail
   refine AL (M8 _ (KL (pl R) R) _ (H12.out.2.2.has HS.out.2.2.2)) ?_;rintro r13 w13 rfl hx13;replace hx7:=hx7.trans hx13;have H13a:=Ad (Ak (H12.out.1.ext hx13) (H12.out.2.1.ext hx13));clear hx13 H12 cec0 cec1 cec2 cec3 fec ec;by_cases hc:0 < KL (pl R) R
   ·rw[PW hc]
    rw[if_pos hc]at hcx;have HCX:=Ad hcx;clear hcx hc
    go_wp2_with fail
    refine AL (Jy (-1) _ Aa Aa) ?_;rintro r14 w14 hr14 hx14;have H14:=Ad (Ak (H13a.out.1.ext hx14) (H13a.out.2.ext hx14));replace hx7:=hx7.trans hx14;clear hx14 H13a
    go_wp2_with fail
    refine AL (Ll _ _ _ (-1) 274877906944 _ H14.out.2 (hr14.has Ab) HS.out.2.1 (by decide +kernel) (by have:=HS.out.2.2.1;omega)) ?_;rintro r15 w15 hr15 hx15;replace hr15:=hr15.cast (show psc (((-1:Int):Rat)) (pp (CO (pl R) R))=Z from by rw[HCX.out];rfl);obtain⟨A15,c15,rfl,-⟩:=hr15.shape;have H13:=Ad (Ak (H14.out.1.ext hx15) hr15);replace hx7:=hx7.trans hx15;clear hx15 H14 hr15 hr14 HCX;go_wp2
    go_roundw
    case rel=>exact⟨k+1,_,Z,(by have:=H13.out.1;rw[CP]at this;exact this),H13.out.2,HC.out.2.2.2.2.2.2.2.2.2,fun j a1 a2=>by
     rcases Nat.lt_or_ge j (k+1)with a3 | a3
     ·exact HK.out j a1 Aa
     ·obtain rfl:j=k+1:=by omega
      rw[←HE.out.2.1];exact HC.out.2.2.2.2.2.2.1,hx7⟩
    case measure =>
     have h1:=HC.out.2.1.2.2.2.1;have h2:=HE.out.2.2.2.2;simp only[NS];omega
   ·have hsg:=Xg hc
    have hdec:decide (0 < FB (KL (pl R) R))=false:=decide_eq_false Aa;rw[if_neg hc,Cn]at hcx;have hr15:=H13a.out.2;rw[←hcx]at hr15 ⊢;have H13:=Ad (Ak H13a.out.1 hr15);clear hcx hc H13a hr15;go_wp2
    go_roundw
    case rel=>exact⟨k+1,_,Z,(by have:=H13.out.1;rw[CP]at this;exact this),H13.out.2,HC.out.2.2.2.2.2.2.2.2.2,fun j a1 a2=>by
     rcases Nat.lt_or_ge j (k+1)with a3 | a3
     ·exact HK.out j a1 Aa
     ·obtain rfl:j=k+1:=by omega
      rw[←HE.out.2.1];exact HC.out.2.2.2.2.2.2.1,hx7⟩
    case measure =>
     have h1:=HC.out.2.1.2.2.2.1;have h2:=HE.out.2.2.2.2;simp only[NS];omega
  ·have hz:Co F G (k+1)=pz:=(BG hf.2.1).1 Aa
   have hS:NN F G (k+1):=⟨Aa,hz,fun j a b=>HK.out j a Aa⟩
   have HS:=Ad hS;clear hS hz hf;have HP:=Ad hP;clear hP hN hn;have hlt:(EA F G (k+1)).length=k+1:=CP _ _ _;go_wp2
   go_ret
   exact Ah.mk ⟨us,k+1,HS.out,Aa,HP.out⟩ hx
end Go.Proofs.YtmhgnigpmompmaaGreat
namespace Go.Hp
open Go.RowKit
def Pz(e:TypeId)(base:Nat)(w:World)(v:Value)(l:List Nat):Prop:=w.ownsRow base e 1 v l.length (l.map fun d=>Value.int .u8 (d:Nat))
theorem Pz.alloc{e:TypeId}{base:Nat}{w:World}{v:Value}{l:List Nat}(h:Pz e base w v l)(o:Obj):Pz e base (w.alloc o) v l:=World.ownsRow.alloc h o
theorem Pz.from_{e:TypeId}{base:Nat}{a w w':World}{v:Value}{l:List Nat}(h:Pz e base w v l)(hg:w.grownBy w' v.ownBlock)(x:Ext a w)(hb:a.heap.size≤base):Ext a w':=
 x.grown hg fun k hk=>Nat.le_trans hb (World.ownsRow.lt h k hk).1
theorem Pz.row{e:TypeId}{base:Nat}{w:World}{v:Value}{l:List Nat}(h:Pz e base w v l)(h0:l≠[]):∃ g cap,v = .slice (some ⟨g,0,none⟩) l.length cap∧base≤g∧l.length≤cap∧cap≤maxLen∧∀ j (hj:j < l.length),w.cell? ⟨g,j,none⟩=some (.int .u8 (l[j]:Nat)):=by
 rcases h.2 with⟨-,h1⟩ | ⟨g,cap,cur,hv,r⟩
 ·exact absurd (List.eq_nil_of_length_eq_zero h1) h0
 ·refine⟨g,cap,hv,r.1,r.2.2.1,r.2.2.2.1,fun j hj=>?_⟩
  have:=World.ownsRow.cells h (g:=g) (by rw[hv];rfl) j (.int .u8 (l[j]:Nat)) (by simp[hj]);have e:(⟨g,0,none⟩:Addr).add j=⟨g,j,none⟩:=by simp only[Addr.add];split<;>simp_all
  rw[e]at this;exact this
theorem Bj.grown{A B:World}{row:Option Nat}{g:Nat}{t:TypeId}{cs:Array Value}(h:Bj A g t cs)(hg:A.grownBy B row)(hne:row≠some g):Bj B g t cs:=
 ⟨(hg.block g h.lt (fun e=>hne e.symm)).trans h.1,h.2⟩
theorem Pz.ne{e:TypeId}{base g:Nat}{w:World}{v:Value}{l:List Nat}(h:Pz e base w v l)(hg:g < base):v.ownBlock≠some g:=fun e=>by
 have:=(World.ownsRow.lt h g e).1;omega
end Go.Hp
namespace Go.Proofs.YtmhgnigpmompmaaGreat
open Go.RowKit Go.Hp
theorem gQ(v:Value)(x:Int)(w:World)(hv:Bu w v x):Bh 162 #[v] w (fun r w'=>AO w' r (x.natAbs:Nat)):=by
 obtain⟨neg,A,n,c,N,rfl,h1,h2,h3,hN,hx⟩:=hv.form;have HN:=Ad hN;clear hN hv;have Hx:=Ad (show((x.natAbs:Nat):Int)=if false=true then -(N:Int)else N by rw[hx];cases neg<;>simp);clear hx;have hs:sz N≤n:=HN.out.sz
 go_enter Tryz.func162,Tryz.ntmps162
 go_wp2_with fail
 refine AL (BN _ N n _ (HN.out.ext (((Ext.refl w).alloc _).alloc _))) ?_;rintro r1 w1 p5 hx1
 go_wp2_with fail
 refine AL (Jf _ N _ p5 Aa) ?_;rintro r2 w2 p6 hx2;replace hx1:=hx1.trans hx2
 go_wp2_with fail
 refine AL (Cz (x.natAbs:Nat) false _ N _ w2 Hx.out (p6.num (Nat.le_refl _))) ?_;rintro r3 w3 hr hx3;replace hx1:=hx1.trans hx3;obtain⟨b5,A5,n5,c5,rfl⟩:=hr.cells;have hc1:=hx1.cells;have hf1:=hx1.frozens;have Hfin:=Ad (Ci hr hx1.a2 (AX.at_ hx1 (g:=w.heap.size+1) Ac (by simp[Ag])) Aa);clear hr;go_wp2;refine bodyPost_ret (v := .agg #[.bool b5,.slice A5 n5 c5]) (by simp[results,Tryz.results162,go_sem,hc1]) rfl ?_
 exact Hfin.out
end Go.Proofs.YtmhgnigpmompmaaGreat
namespace Go.Hp
open Go.RowKit
def dz(n k:Nat)(h:k≤n):List (Fin n):=(List.range k).pmap (fun j (hj:j < n)=>(⟨n - 1 - j,Aa⟩:Fin n)) (fun j hj=>by have:=List.mem_range.1 hj;omega)
theorem OI{n k:Nat}(h:k+1≤n):dz n (k+1) h=dz n k (by omega) ++ [⟨n - 1 - k,by omega⟩]:=by
 unfold dz;simp[List.range_succ,List.pmap_append]
theorem Vn{n k:Nat}(h:k≤n):(dz n k h).length=k:=by simp[dz]
def FZ(W:World)(b o:Nat)(v:Value):Prop:=
 ∃ b1 A1 n1 c1,v = .agg #[.bool b1,.slice A1 n1 c1]∧W.cell? ⟨b,o,none⟩=some (.bool b1)∧W.cell? ⟨b,o+1,none⟩=some (.slice A1 n1 c1)
theorem FZ.below{n₀ b o:Nat}{A B:World}{v:Value}(h:Below n₀ A B)(hb:b < n₀)(c:FZ A b o v):FZ B b o v:=by
 obtain⟨b1,A1,n1,c1,e,q0,q1⟩:=c;exact⟨b1,A1,n1,c1,e,(h.cell (p:=⟨b,o,none⟩) hb).trans q0,(h.cell (p:=⟨b,o+1,none⟩) hb).trans q1⟩
def Wd(n₀ Bs:Nat)(W W':World):Prop:=Below n₀ W W'∧∀ v,W.cell? ⟨Bs,0,none⟩=some v→W'.cell? ⟨Bs,0,none⟩=some v
theorem Wd.refl(n₀ Bs:Nat)(W:World):Wd n₀ Bs W W:=⟨Below.refl _ _,fun _ h=>h⟩
theorem Wd.trans{n₀ Bs:Nat}{A B C:World}(h:Wd n₀ Bs A B)(k:Wd n₀ Bs B C):Wd n₀ Bs A C:=⟨h.1.trans k.1,fun v e=>k.2 v (h.2 v e)⟩
theorem iF{n₀ Bs:Nat}{w:World}(hn:n₀≤w.heap.size)(W:World)(l:Nat)(o o':Obj)(hl:w.heap.size≤l)(h:W.heap[l]? = some o)(h1:o.isCells=false)(h2:o.isWalk=false):Wd n₀ Bs W (W.putObj l o'):=
 ⟨belowK_b hn W l o o' hl h h1 h2,fun v e=>cell_kept e (grownBy_putObj' W l o') (fun r er=>by cases er;exact⟨o,h,h1⟩)⟩
end Go.Hp
namespace Go.Proofs.YtmhgnigpmompmaaGreat
open Go.RowKit Go.Hp Go.Shelf
attribute [local go_sem] Oper.semAt_some
set_option maxRecDepth 100000 in
theorem Vs(F:Fence)(n:Nat)(h7:F.fn 171)(hro:F.round=none)(hn:1≤n)(l Bs n₀ b off len cap:Nat)(enc:Fin len→Value)(hreach:len*4≤1099511627776)(hb:b < n₀)(J Jx:List (Fin len)→World→Prop)
  (hY:∀ pre x W,J pre W→pre.length < len→YieldAt F (n - 1) Tryz.prog l #[.int .i64 (x.1:Nat),enc x] W fun e W' =>
   (e = .returned (.bool true)∧J (pre ++ [x]) W'∧Wd n₀ Bs W W')∨(e = .returned (.bool false)∧Jx (pre ++ [x]) W'))
  (W:World) (hBs:W.cell? ⟨Bs,0,none⟩=some (.slice (some ⟨b,off,none⟩) len cap)) (hc:∀ j (hj:j < len),FZ W b (off+j*2) (enc ⟨j,hj⟩)) (h0:J [] W) :
  CallsIn F n Tryz.prog 171 #[.func (.yield l) #[] #[],.pointer (some ⟨Bs,0,none⟩)] W fun e W'=>(∃ v,e = .returned v) ∧
   ((∃ ys,ys=dz len len (Nat.le_refl _)∧J ys W')∨(∃ pre,(∃ k,∃ h:k≤len,pre=dz len k h)∧Jx pre W')):=by
 refine callsIn_of_wp Tryz.func171 rfl h7 ?_ hro;simp only[Tryz.ntmps171,List.size_toArray,List.length_cons,List.length_nil,Nat.reduceAdd,Nat.reduceSub,Array.replicate_succ,Array.replicate_zero,List.push_toArray,List.append_toArray,List.nil_append,List.cons_append]
 gi_wp2
 gi_loopw [3] (fun i wr=>∃ (k:Nat) (hk:k≤len),i = .int .i64 ((len:Int) - 1 - k)∧J (dz len k hk) wr∧Wd n₀ Bs W wr)
  (fun i _=>(intOf i+1).toNat)
 case atStart=>exact⟨0,Nat.zero_le _,by go_num,h0,Wd.refl _ _ _⟩
 case round =>
  obtain⟨k,hk,rfl,hJs,hnx⟩:=hrel;by_cases hlt:k < len
  ·obtain⟨b1,A1,n1,c1,hv,q0,q1⟩:=(hc (len - 1 - k) Aa).below hnx.1 hb
   have hbx:=hnx.2 _ hBs;obtain⟨fn,tmps,assign,body,hy,hR⟩:=hY _ ⟨len - 1 - k,Aa⟩ wr hJs (by rw[Vn];exact hlt)
   dsimp only at hy
   rw[hv]at hy;obtain⟨m,hm⟩:∃ m,m=len - 1 - k:=⟨_,rfl⟩
   have hmi:(len:Int) - 1 - k=(m:Int):=by omega
   have hml:m < len:=by omega
   simp only[←hm]at hy q0 q1;rw[hmi];clear hJs hY h0 hc;have Hm:=Ad (Ak hm hmi);clear hm hmi
   gi_wp2
   refine hR.mono ?_;rintro e W3 (⟨rfl,hJ3,hk3⟩ | ⟨rfl,hJx3⟩)
   ·gi_wp2
    go_roundw
    case rel=>exact⟨k+1,Aa,by have:=Hm.out.2;congr 1;omega,by rw[OI];exact hJ3,hnx.trans hk3⟩
    case measure=>simp[intOf]
   ·gi_wp2
    refine bodyPost_ret (results_none rfl _ _ _) rfl ?_;exact⟨⟨_,rfl⟩,.inr ⟨_,⟨k+1,Aa,(OI Aa).symm⟩,hJx3⟩⟩
  ·obtain rfl:k=len:=by omega
   gi_wp2
   go_end0
   exact⟨⟨_,rfl⟩,.inl ⟨_,rfl,hJs⟩⟩
set_option maxRecDepth 100000 in
theorem NH(F:Fence)(n:Nat)(h7:F.fn 171)(hro:F.round=none)(l Bs cap:Nat)(A:Option Addr)(J:List (Fin 0)→World→Prop)(W:World)(hBs:W.cell? ⟨Bs,0,none⟩=some (.slice A 0 cap))(h0:J [] W) :
  CallsIn F n Tryz.prog 171 #[.func (.yield l) #[] #[],.pointer (some ⟨Bs,0,none⟩)] W fun e W'=>(∃ v,e = .returned v)∧J [] W':=by
 refine callsIn_of_wp Tryz.func171 rfl h7 ?_ hro;simp only[Tryz.ntmps171,List.size_toArray,List.length_cons,List.length_nil,Nat.reduceAdd,Nat.reduceSub,Array.replicate_succ,Array.replicate_zero,List.push_toArray,List.append_toArray,List.nil_append,List.cons_append]
 gi_wp2
 gi_loopw [3] (fun i wr=>i = .int .i64 (-1)∧J [] wr) (fun _ _=>0)
 case atStart=>exact⟨rfl,h0⟩
 case round =>
  obtain⟨rfl,hJs⟩:=hrel
  gi_wp2
  go_end0
  exact⟨⟨_,rfl⟩,hJs⟩
/-- slices.Backward(s): the slice is boxed;the function captures the box. -/
theorem Xv(F:Fence)(n:Nat)(h5:F.fn 139)(hro:F.round=none)(a:Option Addr)(len cap:Nat)(w:World) :
  CallsIn F n Tryz.prog 139 #[.slice a len cap] w fun e w'=>e = .returned (.func (.func 171) #[] #[.pointer (some ⟨w.heap.size,0,none⟩)])∧w'=w.alloc (.cells #[.slice a len cap] 23):=by
 refine callsIn_of_wp Tryz.func139 rfl h5 ?_ hro;simp only[Tryz.ntmps139,List.size_toArray,List.length_cons,List.length_nil,Nat.reduceAdd,Nat.reduceSub,Array.replicate_succ,Array.replicate_zero,List.push_toArray,List.append_toArray,List.nil_append,List.cons_append]
 gi_wp2
 go_ret
 exact⟨rfl,rfl⟩
theorem Qm(F:Fence)(n:Nat)(h7:F.fn 171)(hro:F.round=none)(hn:1≤n)(Bs n₀ len cap:Nat)(A:Option Addr)(enc:Fin len→Value)(hreach:len*4≤1099511627776)(w:World)(hBs:Bs < w.heap.size)(hn₀:n₀≤w.heap.size)
  (hc:w.cell? ⟨Bs,0,none⟩=some (.slice A len cap)) (hI:0 < len→∃ b off,A=some ⟨b,off,none⟩∧b < n₀∧∀ j (hj:j < len),FZ w b (off+j*2) (enc ⟨j,hj⟩)) :
  SeqStopsK F n Tryz.prog 171 #[.pointer (some ⟨Bs,0,none⟩)] (fun x:Fin len=>#[Value.int .i64 (x.1:Nat),enc x]) (Wd n₀ Bs) (fun ys=>ys=dz len len (Nat.le_refl _)) (fun pre=>∃ k,∃ h:k≤len,pre=dz len k h) len w:=fun l J Jx W hW _ _ hY h0=>by
 have hc':=(hW.cell (p:=⟨Bs,0,none⟩) hBs).trans hc;by_cases hl:0 < len
 ·obtain⟨b,off,rfl,hb,hcs⟩:=hI hl
  exact Vs F n h7 hro hn l Bs n₀ b off len cap enc hreach hb J Jx hY W hc' (fun j hj=>(hcs j hj).below (hW.mono hn₀) hb) h0
 ·obtain rfl:len=0:=by omega
  exact(NH F n h7 hro l Bs cap A J W hc' h0).mono fun e W' ⟨he,hj⟩=>⟨he,.inl ⟨_,rfl,hj⟩⟩
end Go.Proofs.YtmhgnigpmompmaaGreat
namespace Go.Hp
open Go.RowKit
def hac{n:Nat}(F:Nat→Rat)(x:Rat)(pre:List (Fin n)):Rat:=pre.foldl (fun a p=>a*x+F p.1) 0
theorem Qt{n:Nat}(F:Nat→Rat)(x:Rat)(pre:List (Fin n))(p:Fin n):hac F x (pre ++ [p])=hac F x pre*x+F p.1:=by simp[hac]
theorem Wz{n:Nat}(F:Nat→Rat)(x:Rat):∀ k (h:k≤n),hac F x (dz n k h)=hor F x n (n - k)
 | 0,h=>by rw[Nat.sub_zero,Pi];rfl
 | k+1,h=>by
  rw[OI h,Qt,Wz F x k Aa,KJ F x (show n - (k+1) < n by omega),show n - (k+1)+1=n - k from by omega];show hor F x n (n - k)*x+F (n - 1 - k)=_;rw[show n - 1 - k=n - (k+1)from by omega]
theorem Zn{n s t:Nat}{F:Nat→Rat}{x:Rat}(hF:∀ i,qsz (F i)≤s)(hx:qsz x≤t)(pre:List (Fin n)):qsz (hac F x pre)≤1+pre.length*(s+t+1):=by
 have key:∀(pre:List (Fin n)) (a:Rat),qsz (pre.foldl (fun a p=>a*x+F p.1) a)≤qsz a+pre.length*(s+t+1):=by
  intro pre;induction pre with
  | nil=>intro a;simp
  | cons p pre ih =>
   intro a;have h1:=ih (a*x+F p.1);have h2:=EB (a*x) (F p.1);have h3:=BR a x;have h4:=hF p.1;rw[List.foldl_cons,List.length_cons,Nat.succ_mul];omega
 have:=key pre 0;have h0:qsz (0:Rat)=1:=by decide
 unfold hac;omega
end Go.Hp
namespace Go.Proofs.YtmhgnigpmompmaaGreat
open Go.RowKit Go.Hp Go.Shelf
attribute [local go_sem] Oper.semAt_some
set_option maxRecDepth 100000 in
theorem YS(v u:Value)(l:List Int)(x:Rat)(s t:Nat)(w:World)(hv:Dt 0 w v l)(hu:BQ w u x)(hs:∀ i,qsz (cz l i)≤s)(ht:qsz x≤t)(hK:1+l.length*(s+t+1)+s+t+1≤274877906944)(hn:l.length≤2748779069) :
  Bh 90 #[v,u] w (fun r w'=>BD w' r (CV l.length (cz l) x)):=by
 have HU:=Ad hu;obtain⟨b1,A1,n1,c1,b1',A1',n1',c1',x0,y0,rfl,-⟩:=hu.form;obtain⟨A,c,rfl,hl,hc,hA⟩:=hv;clear hu;have HA:Hid (GI 0 w A l):=Ad hA;clear hA;have HS:=Ad (Ak hs ht);clear hs ht;refine(callsIn_wide (n:=5)).1 ?_;refine callsIn_of_wp_marks Tryz.func90 rfl trivial ?_ rfl;simp only[Tryz.ntmps90,List.size_toArray,List.length_cons,List.length_nil,Nat.reduceAdd,Nat.reduceSub,Array.replicate_succ,Array.replicate_zero,List.push_toArray,List.append_toArray,List.nil_append,List.cons_append]
 gi_wp2_with (refine⟨trivial,?_⟩;gi_at_call 120;refine(callsIn_wide.2 (Ye 0 _ Aa Aa)).mono ?_;rintro e w1 ⟨r1,rfl,hr1,hx1⟩;obtain⟨b5,A5,n5,c5,b6,A6,n6,c6,rfl⟩:=hr1.cells)
 obtain⟨W9,eW9,e9,x9⟩:=Bj.made w1 28 #[.bool b5,.slice A5 n5 c5,.bool b6,.slice A6 n6 c6] (by simp[Ag]);rw[←eW9];clear eW9;have hgb:w.heap.size+1+1≤w1.heap.size:=by have:=hx1.size;simpa using this
 have eb:=CK.mk e9 (hr1.ext x9);replace hx1:=hx1.trans x9;clear x9 hr1 e9;generalize w1.heap.size=gb at *;refine⟨trivial,?_⟩
 gi_at_call 139
 refine(Xv _ _ trivial rfl _ _ _ _).mono ?_;rintro e w2 ⟨rfl,rfl⟩
 gi_wp2
 obtain⟨WA,hWA⟩:∃ WA,(w.alloc (.cells #[.bool b1,.slice A1 n1 c1,.bool b1',.slice A1' n1' c1'] 28)).alloc (.cells #[.bool false,.slice none 0 0,.bool false,.slice none 0 0] 28)=WA:=⟨_,rfl⟩
 have hAsz:WA.heap.size=w.heap.size+2:=by rw[←hWA];simp
 have eu:Bj WA w.heap.size 28 #[.bool b1,.slice A1 n1 c1,.bool b1',.slice A1' n1' c1']:=by rw[←hWA];exact(Bj.new w _ _ (by simp[Ag])).alloc _
 have ez:Bj WA (w.heap.size+1) 28 #[.bool false,.slice none 0 0,.bool false,.slice none 0 0]:=by
  have:=Bj.new (w.alloc (.cells #[.bool b1,.slice A1 n1 c1,.bool b1',.slice A1' n1' c1'] 28)) 28 #[.bool false,.slice none 0 0,.bool false,.slice none 0 0] (by simp[Ag]);rw[World.size_alloc]at this;rw[←hWA];exact this
 rw[hWA]at hx1;have hwA:Ext w WA:=by rw[←hWA];exact((Below.refl w.heap.size w).alloc (Nat.le_refl _) _).alloc Ac _
 clear hWA;have hgW:gb < W9.heap.size:=eb.lt;obtain⟨enc,hE,hcs⟩:∃ enc:Fin l.length→Value,(∀ j,Bu w (enc j) l[j.1])∧(0 < l.length→∃ b off,A=some ⟨b,off,none⟩∧b < WA.heap.size∧∀ j (hj:j < l.length),FZ (W9.alloc (.cells #[.slice A l.length c] 23)) b (off+j*2) (enc ⟨j,hj⟩)):=by
  have key:∀ j:Fin l.length,∃ e:Value,Bu w e l[j.1]∧∃ b off,A=some ⟨b,off,none⟩∧b < w.heap.size∧FZ (W9.alloc (.cells #[.slice A l.length c] 23)) b (off+j.1*2) e:=by
   rintro⟨j,hj⟩;obtain⟨g,o,b,A2,n,c2,rfl,_,q0,q1,hq⟩:=HA.out.at_ (j:=j) hj;have X:=hwA.trans (hx1.alloc (.cells #[.slice (some ⟨g,o,none⟩) l.length c] 23));exact⟨_,hq,g,o,rfl,World.block_lt_of_cell? w _ q0,_,_,_,_,rfl,X.cell q0,X.cell q1⟩
  refine⟨fun j=>Classical.choose (key j),fun j=>(Classical.choose_spec (key j)).1,fun h0=>?_⟩;obtain⟨-,b,off,e1,e2,-⟩:=Classical.choose_spec (key ⟨0,h0⟩);refine⟨b,off,e1,Aa,fun j hj=>?_⟩;obtain⟨-,b',off',e1',-,e3⟩:=Classical.choose_spec (key ⟨j,hj⟩);rw[e1]at e1';cases e1';exact e3
 have HE:=Ad hE;clear hE;obtain⟨W2,hW2⟩:∃ W2,W9.alloc (.cells #[.slice A l.length c] 23)=W2:=⟨_,rfl⟩
 have h2sz:W2.heap.size=W9.heap.size+1:=by rw[←hW2];simp
 have hb2:W2.cell? ⟨W9.heap.size,0,none⟩=some (.slice A l.length c):=by rw[←hW2];exact(Boxed.new W9 _ _).cell
 have eb2:CK W2 gb 28 ((0:Int):Rat):=by
  rw[←hW2];obtain⟨b,A1,n,c,b',A1',n',c',h1,h2⟩:=eb;exact CK.mk (h1.alloc _) (h2.ext ((Below.refl _ W9).alloc (Nat.le_refl _) _))
 have hx2:Ext WA W2:=by rw[←hW2];exact hx1.alloc _
 rw[hW2]at hcs ⊢;clear hW2 eb hx1;refine wpIn_rangeFunc_ownH rfl Aa (gf:=171) (lb:=#[.pointer (some ⟨W9.heap.size,0,none⟩)]) rfl trivial (enters_of Tryz.func171 EH rfl)
  (Qm _ _ trivial rfl Aa W9.heap.size WA.heap.size l.length c A enc Aa W2 Aa hx2.size hb2 hcs) Wd.trans (iF hx2.size) (Below.refl _ _) (fun _=>rfl)
  (fun pre W=>CK W gb 28 (hac (cz l) x pre)∧Below WA.heap.size WA W)
  (fun _ _ _=>False)
  (fun pre A B row hs hg hr=>⟨hs.1.own hg (fun r e=>(hr r e).2),ownFrom_below (β:=Unit) (Nat.le_refl _) hx2.size () A B row hs.2 hg hr⟩)
  (fun _ _ _ _ _ hs _ _=>hs)
  ⟨eb2,hx2⟩
  (fun p a' W=>∃ Bx b A2 n2 c2,enc p = .agg #[.bool b,.slice A2 n2 c2]∧Bj W Bx 26 #[.bool b,.slice A2 n2 c2]∧a'={ tmps:=#[.slice A l.length c,.agg #[.bool b1,.slice A1 n1 c1,.bool b1',.slice A1' n1' c1'],undef,.pointer (some ⟨w.heap.size,0,none⟩),.pointer (some ⟨w.heap.size+1,0,none⟩),.pointer (some ⟨gb,0,none⟩),undef,.pointer (some ⟨Bx,0,none⟩),.agg #[.bool b5,.slice A5 n5 c5,.bool b6,.slice A6 n6 c6],.slice A l.length c,.func (.func 171) #[] #[.pointer (some ⟨W9.heap.size,0,none⟩)],.int .i64 (p.1:Nat),.agg #[.bool b,.slice A2 n2 c2],undef,undef,undef,undef,undef,undef,undef],defers:=[] })
  (fun p a' _ X Y row hs hg hr=>by obtain⟨Bx,b,A2,n2,c2,k2,k3,k4⟩:=hs;exact⟨Bx,b,A2,n2,c2,k2,k3.own hg (fun r e=>(hr r e).2),k4⟩)
  ?assign ?body ?done ?stop
 case assign =>
  rintro lp pre p W K ⟨hi,hB⟩ hK;obtain⟨b,A2,n2,c2,hpv⟩:=(HE.out p).cells;have HK:=Ad hK;clear hK;have HI:=Ad (Ak hi hB);clear hi
  gi_wp2
  obtain⟨W9,eW9,e9,x9⟩:=Bj.made W 26 #[.bool b,.slice A2 n2 c2] (by simp[Ag]);rw[←eW9];refine HK.out _ _ ⟨x9.size,fun k o _ h0 _=>x9.blk h0⟩ ⟨x9.mono hB.size,fun v h=>x9.cell h⟩ ⟨HI.out.1.ext x9,hB.trans (x9.mono hB.size)⟩ ⟨W.heap.size,b,A2,n2,c2,hpv,e9,rfl⟩
 case body =>
  rintro lp pre p a' W hl0 ⟨r,hr⟩ ⟨hi,hB⟩ ⟨Bx,b,A2,n2,c2,k2,k3,rfl⟩ hlt;have HQ:=Ad (show Bu w (.agg #[.bool b,.slice A2 n2 c2]) l[p.1]from k2▸HE.out p);have HPl:=Ad (show((l[p.1]:Int):Rat)=cz l p.1 from by rw[Ch p.2]);have HR:=Ad (show qsz (hac (cz l) x pre)≤274877906944∧qsz (hac (cz l) x pre*x)≤274877906944∧qsz (cz l p.1) < 274877906944 by
   have h1:=Zn HS.out.1 HS.out.2 pre;have h2:=BR (hac (cz l) x pre) x;have h3:=HS.out.2;have h4:=HS.out.1 p.1;have h5:pre.length*(s+t+1)≤l.length*(s+t+1):=Nat.mul_le_mul_right _ Aa;omega)
  obtain⟨z1,Z1,zn,zc,z2,Z2,zn',zc',eg,hz⟩:=hi;have Hz:=Ad hz;clear hz;have hB':Ext WA W:=hB;have euW:=eu.ext hB';obtain⟨g0,g1,g2,g3⟩:=eg.cells4;obtain⟨u0,u1,u2,u3⟩:=euW.cells4;obtain⟨e0,e1⟩:=k3.cells2;have fg:=eg.frozen
  gi_wp2
  have hmx:Tryz.prog.follows .mixedOrders=true:=by kernel_rfl
  have xd:Ext W W.drew:=Below.drew (Below.refl _ W);have xA:=(hwA.trans hB').trans xd;have hm1:=(Hz.out.ext xd).has HR.out.1;have hm2:=HU.out.ext xA;have hm3:=HQ.out.ext xA;have Hm:=Ad (Ak hm1 (Ak hm2 hm3));clear hm1 hm2 hm3
  gi_region_with_o (first | (refine⟨trivial,?_⟩;gi_at_call 140;refine(CallsIn.inRound lp (callsIn_wide.2 (Yx _ _ (hac (cz l) x pre) x _ Hm.out.1 Hm.out.2.1))).mono ?_;rintro e w5 ⟨r5,rfl,hr5,hx5⟩;obtain⟨b7,A7,n7,c7,b8,A8,n8,c8,rfl⟩:=hr5.cells;have v0:=(xd.trans hx5).cell e0;have v1:=(xd.trans hx5).cell e1;have HmA:=Ad (Hm.out.2.2.ext hx5);have Hr5:=Ad hr5;clear hr5) | (refine⟨trivial,?_⟩;gi_at_call 102;refine(CallsIn.inRound lp (callsIn_wide.2 (Ih _ _ _ HmA.out))).mono ?_;rintro e w4 ⟨r4,rfl,hr4,hx4⟩;obtain⟨b9,A9,n9,c9,b10,A10,n10,c10,rfl⟩:=hr4.cells;have HF:=Ad (Ak (Hr5.out.ext hx4) (Ak (HPl.out▸hr4) ((xd.trans hx5).trans hx4)));clear hr4) | (refine⟨trivial,?_⟩;gi_at_call 102;refine(CallsIn.inRound lp (callsIn_wide.2 (Ih _ _ _ Hm.out.2.2))).mono ?_;rintro e w4 ⟨r4,rfl,hr4,hx4⟩;obtain⟨b9,A9,n9,c9,b10,A10,n10,c10,rfl⟩:=hr4.cells;have y0:=(xd.trans hx4).cell g0;have y1:=(xd.trans hx4).cell g1;have y2:=(xd.trans hx4).cell g2;have y3:=(xd.trans hx4).cell g3;have t0:=(xd.trans hx4).cell u0;have t1:=(xd.trans hx4).cell u1;have t2:=(xd.trans hx4).cell u2;have t3:=(xd.trans hx4).cell u3;have HmB:=Ad (Ak (Hm.out.1.ext hx4) (Hm.out.2.1.ext hx4));have Hr4:=Ad hr4;clear hr4) | (refine⟨trivial,?_⟩;gi_at_call 140;refine(CallsIn.inRound lp (callsIn_wide.2 (Yx _ _ (hac (cz l) x pre) x _ HmB.out.1 HmB.out.2))).mono ?_;rintro e w5 ⟨r5,rfl,hr5,hx5⟩;obtain⟨b7,A7,n7,c7,b8,A8,n8,c8,rfl⟩:=hr5.cells;have HF:=Ad (Ak hr5 (Ak (HPl.out▸Hr4.out.ext hx5) ((xd.trans hx4).trans hx5)));clear hr5) | (refine⟨trivial,?_⟩;gi_at_call 123;refine(CallsIn.inRound lp (callsIn_wide.2 (U5 _ _ (hac (cz l) x pre*x) (cz l p.1) _ (HF.out.1.has HR.out.2.1) (HF.out.2.1.has (Nat.le_of_lt HR.out.2.2))))).mono ?_;rintro e w6 ⟨r6,rfl,hr6,hx6⟩;obtain⟨b11,A11,n11,c11,b12,A12,n12,c12,rfl⟩:=hr6.cells;have x6:=HF.out.2.2.trans hx6;have eg6:=eg.ext x6;have f6:=eg6.frozen;obtain⟨s0,s1,s2,s3⟩:=eg6.cells4;have Hr6:=Ad hr6;clear hr6))
  all_goals gi_wp2
  all_goals
   obtain⟨W7,eW7,e7,U7⟩:=eg6.put4 (.bool b11) (.slice A11 n11 c11) (.bool b12) (.slice A12 n12 c12) rfl rfl rfl rfl;have kf:=gW W2.heap.size x6 eW7;have kb:=bQ (n₀:=WA.heap.size) (x6.mono hB'.size) eW7 Aa;have kq:=CK.mk e7 (Hr6.out.kd U7.kd);rw[←Qt (cz l) x pre p]at kq;rw[←eW7];exact⟨kf,⟨kb,fun v h=>QC U7 D7 (x6.cell h)⟩,kq,Below.trans hB kb⟩
 case done =>
  rintro D ys W hD rfl ⟨hi,hB⟩ hK;rw[Wz (cz l) x l.length (Nat.le_refl _),Nat.sub_self,N9]at hi;obtain⟨z1,Z1,zn,zc,z2,Z2,zn',zc',eg,hz⟩:=hi;obtain⟨g0,g1,g2,g3⟩:=eg.cells4;have hB':Ext WA W:=hB;have ezW:=ez.ext hB';obtain⟨z0',z1',z2',z3'⟩:=ezW.cells4;have fz:=ezW.frozen;have eW3:=ezW.put4 (.bool z1) (.slice Z1 zn zc) (.bool z2) (.slice Z2 zn' zc') rfl rfl rfl rfl;have hne:D≠w.heap.size+1:=by have:=hx2.size;omega
  have Hz:=Ad hz;clear hz
  gi_wp2
  obtain⟨W3,eW3,e3,U3⟩:=eW3;rw[←eW3];clear eW3;have hK3:W3.heap[D]? = some (.deferred (some [])):=U3.1 D _ (by simpa using hne) hK;have e4:=e3.own (grownBy_putObj' W3 D (.deferred none)) (fun r e=>by cases e;exact⟨_,hK3,rfl⟩);have hx3:Ext w W3:=U3.2.2 w (hwA.trans hB') Ac;have hx4:Ext w (W3.putObj D (.deferred none)):=Below.trans hx3 (belowK_b (w:=w) (Nat.le_refl _) W3 D _ _ (by have:=hx2.size;omega) hK3 rfl rfl)
  have hz4:=(Hz.out.kd U3.kd).kd (KD.own (grownBy_putObj' W3 D (.deferred none)) (fun r e=>by cases e;exact⟨_,hK3,rfl⟩));refine⟨Ac,.inl ⟨_,_,rfl,run_takeDeferred hK3,?_⟩⟩;obtain⟨y0,y1,y2,y3⟩:=e4.cells4;exact⟨_,by simp[results,Tryz.f90,go_sem,y0,y1,y2,y3],Ah.mk hz4 hx4⟩
 case stop =>
  rintro D c pre W _ _ h _;exact h.elim
end Go.Proofs.YtmhgnigpmompmaaGreat
namespace Go.Proofs.YtmhgnigpmompmaaGreat
open Go.RowKit Go.Hp
set_option maxRecDepth 20000 in
theorem Zg(v u:Value)(l:List Int)(x:Rat)(s t:Nat)(w:World)(hv:Dt 0 w v l)(hu:BQ w u x)(hs:∀ i,qsz (cz l i)≤s)(ht:qsz x≤t)(hK:1+l.length*(s+t+1)+s+t+1≤274877906944)(hn:l.length≤549755813888) :
  Bh 92 #[v,u] w (fun r w'=>BD w' r (CV l.length (cz l) x)):=by
 have HU:=Ad hu;obtain⟨b1,A1,n1,c1,b1',A1',n1',c1',x0,y0,rfl,-⟩:=hu.form;obtain⟨A,c,rfl,hl,hc,hA⟩:=hv;clear hu;have HA:Hid (GI 0 w A l):=Ad hA;clear hA;have HS:=Ad (Ak hs ht);have HH:=Ad (fun i=>Zk (x:=x) hs ht l.length i);clear hs ht
 go_enter Tryz.func92,Tryz.ntmps92
 go_wp2_with fail
 refine AL (MI 0 _ Aa Aa) ?_;rintro r1 w1 hr1 hx1;obtain⟨b5,A5,n5,c5,b6,A6,n6,c6,rfl⟩:=hr1.cells
 go_upto_region 2 with(fail)
 obtain⟨W9,eW9,e9,x9⟩:=Bj.made w1 28 #[.bool b5,.slice A5 n5 c5,.bool b6,.slice A6 n6 c6] (by simp[Ag]);rw[←eW9];clear eW9;have hgb:w.heap.size+1+1≤w1.heap.size:=by have:=hx1.size;simpa using this
 have eb:=CK.mk e9 (hr1.ext x9);replace hx1:=hx1.trans x9;clear x9 hr1 e9;generalize w1.heap.size=gb at *;go_wp2
 go_loopw [6] (fun iv wx=>∃ (i:Nat),i≤l.length∧(∃ z:Int,z+1=i∧iv = .int .i64 z)∧CK wx gb 28 (hor (cz l) x l.length i)∧Ext ((w.alloc (.cells #[.bool b1,.slice A1 n1 c1,.bool b1',.slice A1' n1' c1'] 28)).alloc (.cells #[.bool false,.slice none 0 0,.bool false,.slice none 0 0] 28)) wx) (fun iv _=>(intOf iv+1).toNat)
 case atStart=>exact⟨l.length,Nat.le_refl _,⟨_,Aa,rfl⟩,by rw[Pi];exact eb,hx1⟩
 case round =>
  clear eb hx1;obtain⟨i,hi,⟨z,hz,rfl⟩,eb,hx⟩:=hrel;obtain⟨z1,Z1,zn,zc,z2,Z2,zn',zc',ez,hzz⟩:=eb;have Hz:=Ad hzz;clear hzz;by_cases hi0:0 < i
  ·obtain⟨k,rfl⟩:∃ k,i=k+1:=⟨i - 1,Aa⟩
   obtain rfl:z=(k:Int):=by omega
   clear hz hi0;have hkl:k < l.length:=by omega
   obtain⟨g,o,b,A2,n,c2,rfl,_,q0,q1,hq⟩:=HA.out.at_ (j:=k) hkl;replace q0:=hx.a2.cell q0;replace q1:=hx.a2.cell q1;have ca0:=hx.a1.box (g:=w.heap.size) (i:=0) rfl rfl;have ca1:=hx.a1.box (g:=w.heap.size) (i:=1) rfl rfl;have ca2:=hx.a1.box (g:=w.heap.size) (i:=2) rfl rfl;have ca3:=hx.a1.box (g:=w.heap.size) (i:=3) rfl rfl;have Hq:=Ad hq;clear hq;have Hzk:=Ad (show((l[k]:Int):Rat)=cz l k from by rw[Ch hkl])
   have HR:=Ad (show qsz (hor (cz l) x l.length (k+1))≤274877906944∧qsz (hor (cz l) x l.length (k+1)*x)≤274877906944∧qsz (cz l k) < 274877906944 by
    have h1:=HH.out (k+1);have h2:=BR (hor (cz l) x l.length (k+1)) x;have h3:=HS.out.2;have h4:=HS.out.1 k;omega)
   obtain⟨cez0,cez1,cez2,cez3⟩:=ez.cells4;have fez:=ez.frozen
   go_wp2_with fail
   refine Ae 9 [15,16,17,18,19,20,21,22,23] [[],[],[0,1],[],[],[3,4],[3,4,5],[0,1,2,3,4,5,6],[0,1,2,3,4,5,6,7],[0,1,2,3,4,5,6,7,8]] [5,3,0,6] [_,_,_,_] [(kv ?_),(kv ?_),(fun γ=>γ 2),(kv ?_),(kv ?_),(kv ?_),(kv ?_),(fun γ=>γ 7),(fun γ=>γ 8)] (fun γ w'=>[True,True,BD w' (γ 2) (hor (cz l) x l.length (k+1)*x),True,True,True,True,BD w' (γ 7) (cz l k),BD w' (γ 8) (hor (cz l) x l.length (k+1)*x+cz l k)]) Bn Aj Aj Bo Aj Bl Br ?hstep1 ?_
   case hstep1 =>
    iterate 9 refine⟨?_,?_⟩
    trivial
    iterate 2 focus
     intro γ w' he hf;clear hf;refine⟨by trivial,?_⟩;intro R hR;have hc:=he.cells;have cq0:=he.cell q0;have cq1:=he.cell q1;have cq2:=he.cell ca0;have cq3:=he.cell ca1;have cq4:=he.cell ca2;have cq5:=he.cell ca3;have cq6:=he.cell cez0;have cq7:=he.cell cez1;have cq8:=he.cell cez2;have cq9:=he.cell cez3;go_simp;refine hR _ _ (Ext.refl _) ?_ trivial;rfl
    ·intro γ w' he hf;clear hf;refine⟨trivial,?_⟩;intro R hR
     go_simp;exact Bd (WG _ _ _ _ w' ((Hz.out.ext he).has HR.out.1) (HU.out.ext (hx.a2.trans he))) hR
    iterate 4 focus
     intro γ w' he hf;clear hf;refine⟨by trivial,?_⟩;intro R hR;have hc:=he.cells;have cq0:=he.cell q0;have cq1:=he.cell q1;have cq2:=he.cell ca0;have cq3:=he.cell ca1;have cq4:=he.cell ca2;have cq5:=he.cell ca3;have cq6:=he.cell cez0;have cq7:=he.cell cez1;have cq8:=he.cell cez2;have cq9:=he.cell cez3;go_simp;(try go_ints);(try(rw[if_neg Aa]));(try(rw[if_pos Aa]));(try go_simp);(try go_ints)
     refine hR _ _ (Ext.refl _) ?_ trivial;rfl
    ·intro γ w' he hf;clear hf;refine⟨trivial,?_⟩;intro R hR
     go_simp;exact Bd (Hzk.out▸IB _ _ w' (Hq.out.ext (hx.a2.trans he))) hR
    ·intro γ w' he hf;have f2:BD w' (γ 2) (hor (cz l) x l.length (k+1)*x):=hf 2 Ab;have f7:BD w' (γ 7) (cz l k):=hf 7 Ab;clear hf;refine⟨trivial,?_⟩;intro R hR
     go_simp;exact Bd (Tv _ _ _ _ w' (f2.has HR.out.2.1) (f7.has (by have:=HR.out.2.2;omega)) (by have:=HR.out;omega)) hR
   intro γ w6 hx6 hF;have p2:BD w6 (γ 2) (hor (cz l) x l.length (k+1)*x):=AA.get hF 2 Ab;have p7:BD w6 (γ 7) (cz l k):=AA.get hF 7 Ab;have p8:BD w6 (γ 8) (hor (cz l) x l.length (k+1)*x+cz l k):=AA.get hF 8 Ab;clear hF;simp only[Bf,Nat.reduceAdd];generalize γ 2=g2 at *;generalize γ 7=g7 at *;generalize γ 8=g8 at *;clear γ;clear cez0 cez1 cez2 cez3 fez ca0 ca1 ca2 ca3 q0 q1 p2 p7 Hz Hq HR;replace ez:=ez.ext hx6
   replace hx:=hx.trans hx6;obtain⟨b5,A5,n5,c5,b6,A6,n6,c6,rfl⟩:=p8.cells;obtain⟨cez0,cez1,cez2,cez3⟩:=ez.cells4;have fez:=ez.frozen;go_wp2;obtain⟨W7,eW,ez',U⟩:=ez.put4 (.bool b5) (.slice A5 n5 c5) (.bool b6) (.slice A6 n6 c6) rfl rfl rfl rfl;rw[←eW];clear eW ez;replace p8:=p8.kd U.kd;replace hx:=U.from_ hx Ai;have ez:=ez';clear U ez';clear cez0 cez1 cez2 cez3 fez hx6;have eq:=CK.mk ez p8;clear ez p8
   go_roundw
   case rel=>exact⟨k,Aa,⟨(k:Int) - 1,Aa,by go_num⟩,by rw[KJ _ _ hkl];exact eq,hx⟩
   case measure=>simp[intOf]<;>omega
  ·obtain rfl:i=0:=by omega
   have hz1:z < 0:=by omega
   rw[N9]at Hz;have Hz2:=Ad hz;clear hz;obtain⟨cez0,cez1,cez2,cez3⟩:=ez.cells4;have fez:=ez.frozen;have hr:=Hz.out;have hx1:=hx;clear hx;have hc1:=hx1.cells;have hf1:=hx1.frozens;have Hfin:=Ad (Cy hr hx1.a2 (AX.at_ hx1 (g:=w.heap.size+1) Ac (by simp[Ag])) Aa);clear hr;go_wp2;refine bodyPost_ret (v := .agg #[.bool z1,.slice Z1 zn zc,.bool z2,.slice Z2 zn' zc']) (by simp[results,Tryz.results92,go_sem,hc1]) rfl ?_
   exact Hfin.out
/-! ### over polynomials -/
end Go.Proofs.YtmhgnigpmompmaaGreat
namespace Go.Hp
/-! ### absolute values -/
def ab(q:Rat):Rat:=if q < 0 then -q else q
theorem Av(q:Rat):0≤ab q:=by unfold ab;split<;>grind
theorem Ic(q:Rat):ab (-q)=ab q:=by unfold ab;split<;>split<;>grind
theorem IV{q t:Rat}:ab q≤t ↔ -t≤q∧q≤t:=by unfold ab;split<;>grind
theorem TY(q:Rat):q≤ab q:=by unfold ab;split<;>grind
theorem U4{q:Rat}:ab q=0↔q=0:=by unfold ab;split<;>grind
theorem FO(p q:Rat):ab (p+q)≤ab p+ab q:=by unfold ab;split<;>split<;>split<;>grind
theorem Xz(p q:Rat):ab (p - q)≤ab p+ab q:=by unfold ab;split<;>split<;>split<;>grind
theorem Ti{q:Rat}:0 < ab q↔q≠0:=by unfold ab;split<;>grind
theorem DV{q:Rat}(h:0≤q):ab q=q:=by unfold ab;split<;>grind
theorem Ry{p q:Rat}(hp:p < 0)(hq:q < 0):0 < p*q:=by
 have:=Rat.mul_pos (a:=-p) (b:=-q) Au Au;grind
theorem JL{p q:Rat}(hp:0 < p)(hq:q < 0):p*q < 0:=by
 have:=Rat.mul_pos (a:=p) (b:=-q) hp Au;grind
theorem Cm(p q:Rat):ab (p*q)=ab p*ab q:=by
 have z0:ab 0=0:=rfl;by_cases p0:p=0
 ·rw[p0,Rat.zero_mul,z0,Rat.zero_mul]
 by_cases q0:q=0
 ·rw[q0,Rat.mul_zero,z0,Rat.mul_zero]
 by_cases a:p < 0<;>by_cases b:q < 0
 ·have:=Ry a b;unfold ab;rw[if_neg (show ¬ p*q < 0 by grind),if_pos a,if_pos b];grind
 ·have:=JL (show 0 < q by grind) a;unfold ab;rw[if_pos (show p*q < 0 by grind),if_pos a,if_neg b];grind
 ·have:=JL (show 0 < p by grind) b;unfold ab;rw[if_pos (show p*q < 0 by grind),if_neg a,if_pos b];grind
 ·have:=Rat.mul_pos (show 0 < p by grind) (show 0 < q by grind);unfold ab;rw[if_neg (show ¬ p*q < 0 by grind),if_neg a,if_neg b]
theorem EZ{a b c d:Rat}(h1:a≤b)(h2:c≤d)(hc:0≤c)(hb:0≤b):a*c≤b*d:=by
 have e1:a*c≤b*c:=Rat.mul_le_mul_of_nonneg_right h1 hc;have e2:b*c≤b*d:=Rat.mul_le_mul_of_nonneg_left h2 hb;grind
/-! ### signs -/
def BM(q:Rat):Int:=if 0 < q then 1 else if q < 0 then -1 else 0
theorem Dw{q:Rat}:BM q=0↔q=0:=by unfold BM;split<;>(try split)<;>grind
theorem DR(q:Rat):BM q=0∨BM q=1∨BM q = -1:=by unfold BM;split<;>(try split)<;>simp
def Jt:Int→List Int→Nat
 | _,[]=>0
 | last,s::l=>if s=0 then Jt last l else(if last = -s then 1 else 0)+Jt s l
inductive JD:Int→List (Int×Int)→Prop
 | nil (σ:Int):JD σ []
 | tight (σ p:Int) (l:List (Int×Int)) (hp:p≠0) (h:JD p l):JD σ ((p,p)::l)
 | loose (σ p q:Int) (l:List (Int×Int)) (h:JD (-σ) l):JD σ ((p,q)::(-σ,-σ)::l)
theorem Q6{σ p:Int}(hσ:σ=1∨σ = -1)(hp:p=0∨p=1∨p = -1)(l:List Int):Jt σ (p :: -σ::l)=1+Jt (-σ) l:=by
 rcases hσ with rfl | rfl<;>rcases hp with rfl | rfl | rfl<;>simp[Jt]
theorem QT{σ:Int}{l:List (Int×Int)}(h:JD σ l):(σ=1∨σ = -1)→(∀ x∈l,(x.1=0∨x.1=1∨x.1 = -1)∧(x.2=0∨x.2=1∨x.2 = -1))→Jt σ (l.map (·.1))=Jt σ (l.map (·.2)):=by
 induction h with
 | nil σ=>intro _ _;rfl
 | tight σ p l hp h ih =>
  intro hσ hx;have hpq:=(hx (p,p) Ac).1;have hp1:p=1∨p = -1:=by rcases hpq with a | a | a;exact absurd a hp;exact .inl a;exact .inr a
  have:=ih hp1 (fun x hm=>hx x (by simp[hm]));simp only[List.map_cons,Jt,if_neg hp,this]
 | loose σ p q l h ih =>
  intro hσ hx;have hpq:=hx (p,q) Ac;have hσ' : -σ=1 ∨ -σ = -1:=by rcases hσ with rfl | rfl;exact .inr rfl;exact .inl rfl
  have:=ih hσ' (fun x hm=>hx x (by simp[hm]));simp only[List.map_cons];rw[Q6 hσ hpq.1,Q6 hσ hpq.2,this]
structure K9(m:Nat)(a b:Nat→Rat)(T d:Rat):Prop where
 t1:1≤T
 d0:0 < d
 sm:4*(T*(T*(T*(T*d)))) < 1
 lip:∀ i,i≤m→ab (a i - b i)≤T*d
 beza:∀ i,i < m→∃ U W,U*a i+W*a (i+1)=1∧ab U≤T∧ab W≤T
 bezb:∀ i,i < m→∃ U W,U*b i+W*b (i+1)=1∧ab U≤T∧ab W≤T
 reca:∀ i,i+2≤m→∃ q c,a i=q*a (i+1) - c*a (i+2)∧ab q≤T∧0 < c∧1≤T*c
 recb:∀ i,i+2≤m→∃ q c,b i=q*b (i+1) - c*b (i+2)∧ab q≤T∧0 < c∧1≤T*c
 lst:a m=b m∧a m≠0
 top:1≤m→∃ k r,b 0 - a 0=d*(k*a 1+d*r)∧0 < k∧1≤T*k∧ab r≤T
section
variable{m:Nat}{a b:Nat→Rat}{T d:Rat}
theorem K9.small(h:K9 m a b T d):0 < T∧2*(T*d) < 1∧2*(T*(T*d)) < 1∧2*(T*(T*(T*d))) < 1∧0 < T*d∧0 < T*(T*d)∧T*d≤T*(T*d):=by
 have hT:0 < T:=by have:=h.t1;grind
 have hd:=h.d0;have e1:0 < T*d:=Rat.mul_pos hT hd;have e2:0 < T*(T*d):=Rat.mul_pos hT e1;have e3:0 < T*(T*(T*d)):=Rat.mul_pos hT e2;have f1:1*(T*(T*(T*d)))≤T*(T*(T*(T*d))):=Rat.mul_le_mul_of_nonneg_right h.t1 Au;have f2:1*(T*(T*d))≤T*(T*(T*d)):=Rat.mul_le_mul_of_nonneg_right h.t1 Au;have f3:1*(T*d)≤T*(T*d):=Rat.mul_le_mul_of_nonneg_right h.t1 Au;have:=h.sm;refine⟨hT,?_,?_,?_,e1,e2,?_⟩<;>grind
theorem Gl{p q t:Rat}(h:ab (p - q)≤t)(hn:¬ (BM p=BM q∧BM p≠0)):ab p≤t∧ab q≤t:=by
 rw[IV]at h;rw[IV,IV];unfold BM at hn;by_cases a1:0 < p<;>by_cases a2:p < 0<;>by_cases b1:0 < q<;>by_cases b2:q < 0<;>simp_all<;>grind
theorem Uy{x y U W T d:Rat}(hT:0 < T)(h2:2*(T*(T*d)) < 1)(e:U*x+W*y=1)(hU:ab U≤T)(hW:ab W≤T)(hx:ab x≤T*d):1 < 2*(T*ab y):=by
 have h1:ab (U*x)≤T*(T*d):=by rw[Cm];exact EZ hU hx (Av _) Au
 have h3:ab (W*y)≤T*ab y:=by rw[Cm];exact EZ hW Au (Av _) Au
 have h4:=TY (U*x);have h5:=TY (W*y);grind
theorem OW{p q:Rat}(h:ab (p - q) < ab p):BM p=BM q∧BM p≠0:=by
 unfold ab at h;unfold BM
 split at h<;>split at h<;>(split<;>(try split)<;>(try split)<;>(try split))<;>grind
theorem K9.next_tight(h:K9 m a b T d){i:Nat}(hi:i < m)(hn:¬ (BM (a i)=BM (b i)∧BM (a i)≠0)) :
  (BM (a (i+1))=BM (b (i+1))∧BM (a (i+1))≠0)∧1 < 2*(T*ab (a (i+1)))∧1 < 2*(T*ab (b (i+1)))∧ab (a i)≤T*d∧ab (b i)≤T*d:=by
 obtain⟨hT,s1,s2,s3,p1,p2,p3⟩:=h.small;obtain⟨l1,l2⟩:=Gl (h.lip i Aa) hn;obtain⟨U,W,e,hU,hW⟩:=h.beza i hi;obtain⟨U',W',e',hU',hW'⟩:=h.bezb i hi;have b1:=Uy hT s2 e hU hW l1;have b2:=Uy hT s2 e' hU' hW' l2;have hl:=h.lip (i+1) Aa;refine⟨OW ?_,b1,b2,l1,l2⟩;refine Std.lt_of_le_of_lt hl ?_;rcases Std.lt_trichotomy (T*d) (ab (a (i+1)))with c | c | c
 ·exact c
 ·exfalso;rw[←c]at b1;grind
 ·exfalso
  have:=Rat.mul_lt_mul_of_pos_left c hT;grind
theorem TW{x y z q c T d:Rat}(hT:0 < T)(hc:0 < c)(hTc:1≤T*c)(hq:ab q≤T)(hy:ab y≤T*d)(hz:1 < 2*(T*ab z))(hs:4*(T*(T*(T*(T*d)))) < 1)(e:x=q*y - c*z)(hd:0 < T*d):BM z = - BM x∧BM x≠0:=by
 have h1:ab (q*y)≤T*(T*d):=by rw[Cm];exact EZ hq hy (Av _) Au
 have h2:T*(T*d) < c*ab z:=by
  -- 1 < 2 T |z| and 1≤T c
  have hz0:0≤ab z:=Av z;have k1:1*(T*ab z)≤(T*c)*(T*ab z):=Rat.mul_le_mul_of_nonneg_right hTc (by have:=Rat.mul_nonneg (show 0≤T by grind) hz0;grind);have k2:2*(T*(T*(c*ab z))) > 1:=by grind
  have k3:T*(T*(T*(T*d))) < T*(T*(c*ab z)):=by grind
  rcases Std.lt_trichotomy (T*(T*d)) (c*ab z)with a | a | a
  ·exact a
  ·exfalso;rw[a]at k3;grind
  ·exfalso
   have m1:=Rat.mul_lt_mul_of_pos_left a hT;have m2:=Rat.mul_lt_mul_of_pos_left m1 hT;grind
 have h3:=IV.1 h1;have hzne:z≠0:=fun e0=>by rw[e0]at hz;have:ab 0=0:=rfl;rw[this]at hz;grind
 rcases Std.lt_trichotomy z 0 with a | a | a
 ·have e1:ab z = -z:=by unfold ab;rw[if_pos a]
  rw[e1]at h2;have hx:0 < x:=by grind
  unfold BM;rw[if_neg (show ¬ 0 < z by grind),if_pos a,if_pos hx];exact⟨rfl,Ab⟩
 ·exact absurd a hzne
 ·have e1:ab z=z:=by unfold ab;rw[if_neg Au]
  rw[e1]at h2;have hx:x < 0:=by grind
  unfold BM;rw[if_pos a,if_neg (show ¬ 0 < x by grind),if_pos hx];exact⟨rfl,Ab⟩
def RH(a b:Nat→Rat)(i n:Nat):List (Int×Int):=(List.range n).map fun j=>(BM (a (i+j)),BM (b (i+j)))
theorem KS(a b:Nat→Rat)(i n:Nat):RH a b i (n+1)=(BM (a i),BM (b i))::RH a b (i+1) n:=by
 unfold RH;rw[List.range_succ_eq_map,List.map_cons,List.map_map,Nat.add_zero];congr 1;refine List.map_congr_left fun j _=>?_;show(BM (a (i+(j+1))),BM (b (i+(j+1))))=(BM (a (i+1+j)),BM (b (i+1+j)));rw[show i+(j+1)=i+1+j by omega]
theorem K9.good(h:K9 m a b T d):∀(n i:Nat),i+n=m→(BM (a i)=BM (b i)∧BM (a i)≠0)→JD (BM (a i)) (RH a b (i+1) n):=by
 intro n;induction n using Nat.strongRecOn with
 | ind n ih =>
  intro i hi ht
  match n,ih,hi with
  | 0,_,_=>exact JD.nil _
  | n+1,ih,hi =>
   rw[KS];by_cases hn:BM (a (i+1))=BM (b (i+1))∧BM (a (i+1))≠0
   ·rw[←hn.1]
    exact JD.tight _ _ _ hn.2 (ih n Aa (i+1) Aa hn)
   ·have hlt:i+1 < m:=by
     rcases Nat.lt_or_ge (i+1) m with c | c
     ·exact c
     ·exfalso
      have e:i+1=m:=by omega
      rw[e]at hn;exact hn ⟨by rw[h.lst.1],fun z=>h.lst.2 (Dw.1 z)⟩
    obtain⟨hT,s1,s2,s3,p1,p2,p3⟩:=h.small;obtain⟨t1,t2,t3,t4,t5⟩:=h.next_tight hlt hn;obtain⟨q,c,e,hq,hc,hTc⟩:=h.reca i Aa;obtain⟨q',c',e',hq',hc',hTc'⟩:=h.recb i Aa;have o1:=(TW hT hc hTc hq t4 t2 h.sm e p1).1;have o2:=(TW hT hc' hTc' hq' t5 t3 h.sm e' p1).1
    match n,ih,hi with
    | 0,_,hi=>omega
    | n+1,ih,hi =>
     rw[KS];have ob:BM (b (i+1+1)) = - BM (a i):=by rw[ht.1];exact o2
     have oa:BM (a (i+1+1)) = - BM (a i):=o1;rw[ob,oa];refine JD.loose _ _ _ _ ?_;rw[←oa];exact ih n Aa (i+1+1) Aa t1
theorem Ot(a b:Nat→Rat)(i n:Nat):∀ x∈RH a b i n,(x.1=0∨x.1=1∨x.1 = -1)∧(x.2=0∨x.2=1∨x.2 = -1):=fun x hx=>by
 obtain⟨j,-,rfl⟩:=List.mem_map.1 hx;exact⟨DR _,DR _⟩
def VO(a:Nat→Rat)(n:Nat):Nat:=Jt 0 ((List.range n).map fun j=>BM (a j))
theorem YG(a b:Nat→Rat)(n:Nat):(RH a b 0 n).map (·.1)=(List.range n).map fun j=>BM (a j):=by
 unfold RH;rw[List.map_map];refine List.map_congr_left fun j _=>?_;simp
theorem YT(a b:Nat→Rat)(n:Nat):(RH a b 0 n).map (·.2)=(List.range n).map fun j=>BM (b j):=by
 unfold RH;rw[List.map_map];refine List.map_congr_left fun j _=>?_;simp
theorem K9.sturm(h:K9 m a b T d):VO a (m+1)=VO b (m+1)+(if BM (a 0)≠0∧BM (b 0)≠BM (a 0)then 1 else 0):=by
 have k1:VO a (m+1)=Jt 0 ((RH a b 0 (m+1)).map (·.1)):=by rw[YG];rfl
 have k2:VO b (m+1)=Jt 0 ((RH a b 0 (m+1)).map (·.2)):=by rw[YT];rfl
 rw[k1,k2,KS];simp only[List.map_cons];by_cases ht:BM (a 0)=BM (b 0)∧BM (a 0)≠0
 ·have hg:=h.good m 0 Aa ht
  have hσ:BM (a 0)=1∨BM (a 0) = -1:=by rcases DR (a 0)with c | c | c;exact absurd c ht.2;exact .inl c;exact .inr c
  have:=QT hg hσ (Ot _ _ _ _);rw[if_neg (fun q=>q.2 ht.1.symm)];simp only[Jt,←ht.1,if_neg ht.2,this];rfl
 ·have hm:0 < m:=by
   rcases Nat.eq_zero_or_pos m with c | c
   ·subst c;exact absurd ⟨by rw[h.lst.1],fun z=>h.lst.2 (Dw.1 z)⟩ ht
   ·exact c
  obtain⟨n,rfl⟩:∃ n,m=n+1:=⟨m - 1,Aa⟩
  obtain⟨hT,s1,s2,s3,p1,p2,p3⟩:=h.small;obtain⟨t1,t2,t3,t4,t5⟩:=h.next_tight hm ht;have hg:=h.good n 1 Aa t1;have hσ:BM (a 1)=1∨BM (a 1) = -1:=by rcases DR (a 1)with c | c | c;exact absurd c t1.2;exact .inl c;exact .inr c
  have hv:=QT hg hσ (Ot _ _ _ _);rw[KS];simp only[List.map_cons]
  -- the direction
  obtain⟨k,r,e,hk,hTk,hr⟩:=h.top Aa;have hd:=h.d0;have hdir:0 < ab (a 1)∧d*ab r < k*ab (a 1):=by
   have ha:0 < ab (a 1):=Ti.2 fun z=>t1.2 (Dw.2 z);refine⟨ha,?_⟩;have g1:d*ab r≤d*T:=Rat.mul_le_mul_of_nonneg_left hr Au;have k1:1*(T*ab (a 1))≤(T*k)*(T*ab (a 1)):=Rat.mul_le_mul_of_nonneg_right hTk (by have:=Rat.mul_pos hT ha;grind);have k2:2*(T*(T*(k*ab (a 1)))) > 1:=by have:=t2;grind
   have k3:T*(T*(T*d)) < T*(T*(k*ab (a 1))):=by grind
   rcases Std.lt_trichotomy (T*d) (k*ab (a 1))with c | c | c
   ·grind
   ·exfalso;rw[c]at k3;grind
   ·exfalso
    have m1:=Rat.mul_lt_mul_of_pos_left c hT;have m2:=Rat.mul_lt_mul_of_pos_left m1 hT;grind
  have hup:(0 < a 1→a 0 < b 0)∧(a 1 < 0→b 0 < a 0):=by
   have hr2:=IV.1 (Std.le_refl (ab r));have hdr:d*r≤d*ab r∧d*(-r)≤d*ab r:=⟨Rat.mul_le_mul_of_nonneg_left hr2.2 Au,Rat.mul_le_mul_of_nonneg_left Au Au⟩
   refine⟨fun hp=>?_,fun hp=>?_⟩
   ·have e1:ab (a 1)=a 1:=by unfold ab;rw[if_neg Au]
    rw[e1]at hdir;have:=Rat.mul_pos hd (show 0 < k*a 1+d*r by grind);grind
   ·have e1:ab (a 1) = - a 1:=by unfold ab;rw[if_pos hp]
    rw[e1]at hdir;have:=JL hd (show k*a 1+d*r < 0 by grind);grind
  have hcase:(BM (a 0) = - BM (a 1)∧BM (b 0) ≠ - BM (a 1))∨(BM (a 0)=0∧BM (b 0)=BM (a 1)):=by
   rcases hσ with c | c
   ·have hp:0 < a 1:=by unfold BM at c;split at c;assumption;split at c<;>simp at c
    have h1:=hup.1 hp;rw[c];unfold BM at ht ⊢;by_cases a1:0 < a 0<;>by_cases a2:a 0 < 0<;>by_cases b1:0 < b 0<;>by_cases b2:b 0 < 0<;>simp_all<;>grind
   ·have hp:a 1 < 0:=by unfold BM at c;split at c;simp at c;split at c;assumption;simp at c
    have h1:=hup.2 hp;rw[c];unfold BM at ht ⊢;by_cases a1:0 < a 0<;>by_cases a2:a 0 < 0<;>by_cases b1:0 < b 0<;>by_cases b2:b 0 < 0<;>simp_all<;>grind
  have key:∀ p,(p=0∨p=1∨p = -1)→Jt 0 (p::BM (a 1)::(RH a b (0+1+1) n).map (·.2))=(if p = - BM (a 1)then 1 else 0)+Jt (BM (a 1)) ((RH a b (0+1+1) n).map (·.2)):=by
   intro p hp;rcases hσ with c | c<;>rw[c]<;>rcases hp with rfl | rfl | rfl<;>simp[Jt]
  have e1:(0+1+1)=1+1:=rfl;have ez:BM (b (0+1))=BM (a 1):=t1.1.symm;rw[ez];have kb:=key (BM (b 0)) (DR _);have ka:=key (BM (a 0)) (DR _);have hx:Jt 0 (BM (a 0)::BM (a (0+1))::(RH a b (0+1+1) n).map (·.1))=Jt 0 (BM (a 0)::BM (a 1)::(RH a b (0+1+1) n).map (·.2)):=by
   have:BM (a (0+1))=BM (a 1):=rfl;rw[this];rcases hσ with c | c<;>rw[c]at hv ⊢ <;> rcases DR (a 0)with q | q | q<;>rw[q]<;>simp only[Jt]<;>simp[e1,hv]
  rw[hx,ka,kb];rcases hcase with⟨c1,c2⟩ | ⟨c1,c2⟩
  ·have n1:BM (a 0)≠0:=by rw[c1];rcases hσ with q | q<;>rw[q]<;>decide
   rw[if_pos c1,if_neg c2,if_pos ⟨n1,fun q=>c2 (q.trans c1)⟩];omega
  ·have n1:¬ (BM (a 0) = - BM (a 1)):=by rw[c1];rcases hσ with q | q<;>rw[q]<;>decide
   have n2:¬ (BM (b 0) = - BM (a 1)):=by rw[c2];rcases hσ with q | q<;>rw[q]<;>decide
   rw[if_neg n1,if_neg n2,if_neg (fun q=>q.1 c1)];omega
end
open Go.RowKit
theorem Jd(q:Rat):FB q=BM q:=by
 unfold BM
 split
 ·rename_i h;exact PW h
 ·split
  ·rename_i h1 h
   have h2:=Kz (q:=-q);have h3:(-q).num = -q.num:=rfl;have h4:0 < -q:=by grind
   have:=h2.2 h4;exact Int.sign_eq_neg_one_of_neg Aa
  ·rename_i h1 h2
   have:q=0:=by grind
   rw[this];rfl
noncomputable def V(l:List (Nat→Rat))(x:Rat):Nat:=Jt 0 (l.map fun F=>BM (ev F x))
theorem Xj(l:List Int):∀ σ,Jt σ l≤l.length:=by
 induction l with
 | nil=>intro σ;exact Nat.le_refl _
 | cons s l ih =>
  intro σ;rw[Jt]
  split
  ·have:=ih σ;simp;omega
  ·have:=ih s
   split<;>simp<;>omega
end Go.Hp
namespace Go.Proofs.YtmhgnigpmompmaaGreat
open Go.RowKit Go.Hp
theorem Y7(v u:Value)(F:Nat→Rat)(x:Rat)(s t n:Nat)(w:World)(hv:AP 0 w v F)(hu:BQ w u x)(hs:∀ i,qsz (F i)≤s)(ht:qsz x≤t)(hn:pl F≤n)(hK:1+n*(s+t+1)+s+t+1≤274877906944)(hn9:n≤1000) :
  Bh 90 #[v,u] w (fun r w'=>BD w' r (ev F x)):=by
 obtain⟨l,a1,a2,-,a4⟩:=hv.hz (fun i=>by have:=hs i;omega);have hK2:l.length*(s+t+1)≤n*(s+t+1):=Nat.mul_le_mul_right _ Aa;have:=YS v u l x s t w a1 hu (by rw[a4];exact hs) ht Aa Aa;rw[←F6 (BK l),a4]at this;exact this
set_option maxRecDepth 20000 in
theorem UF(v u:Value)(us:List Value)(l:List (Nat→Rat))(x:Rat){eb:Nat}(base s t n:Nat)(w:World)(hv:Gz base eb 23 w v us l)(hu:BQ w u x)(hs:∀ F∈l,(∀ i,qsz (F i)≤s)∧pl F≤n∧Af F)(ht:qsz x≤t)
  (hK:1+n*(s+t+1)+s+t+1≤274877906944) (hn9:n≤1000) (hl:l.length≤1000) :
  Bh 101 #[v,u] w (fun r _=>r = .int .i64 (V l x:Nat)):=by
 have HV:=Ad hv;have HU:=Ad hu;obtain⟨A0,c0,rfl⟩:=hv.shape;obtain⟨b,B,n1,c1,b',B',n1',c1',x0,y0,rfl,-⟩:=hu.form;clear hv hu;have hev:∀ W (x1:Ext w W) i (h:i < l.length) u,AP 0 W u l[i]→Bh 90 #[u,.agg #[.bool b,.slice B n1 c1,.bool b',.slice B' n1' c1']] W (fun r w'=>BD w' r (ev l[i] x)):=fun W x1 i h u hu =>
  Y7 u _ l[i] x s t n W hu (HU.out.ext x1) (hs _ (List.getElem_mem h)).1 ht (hs _ (List.getElem_mem h)).2.1 hK hn9
 have hqz:∀ i (h:i < l.length),qsz (ev l[i] x)≤274877906944:=fun i h=>by
  obtain⟨h1,h2,h3⟩:=hs _ (List.getElem_mem h);have h4:=PG ((AU h3).mono h2) h1 ht;omega
 obtain⟨sg,hsg⟩:∃ sg,sg=l.map fun F=>BM (ev F x):=⟨_,rfl⟩
 have hsl:sg.length=l.length:=by rw[hsg,List.length_map]
 have hsi:∀ i (h:i < l.length) (h':i < sg.length),FB (ev l[i] x)=sg[i]:=fun i h h'=>by
  rw[Jd];simp[hsg]
 have hsc:∀ i (h':i < sg.length),sg[i]=0∨sg[i]=1∨sg[i] = -1:=fun i h'=>by
  simp only[hsg,List.getElem_map];exact DR _
 have hV:V l x=Jt 0 sg:=by unfold V;rw[hsg]
 rw[hV];have HC:=Ad (Ak hev (Ak hqz (Ak hsi hsc)));clear hev hqz hsi hsc hs ht hK hsg hV
 go_enter Tryz.func101,Tryz.ntmps101
 have ea:=Bj.new w 28 #[.bool b,.slice B n1 c1,.bool b',.slice B' n1' c1'] (by simp[Ag]);have hx:=(Ext.refl w).alloc (.cells #[.bool b,.slice B n1 c1,.bool b',.slice B' n1' c1'] 28)
 go_upto_region 1 with(fail)
 generalize w.alloc (.cells #[.bool b,.slice B n1 c1,.bool b',.slice B' n1' c1'] 28)=W0 at *;go_wp2
 go_loopw [5,6,12] (fun cv lv iv wr=>∃ (i cc:Nat) (la:Int),i≤l.length∧iv = .int .i64 (i:Nat)∧cv = .int .i64 (cc:Nat)∧cc≤i∧lv = .int .i64 la∧(la=0∨la=1∨la = -1)∧cc+Jt la (sg.drop i)=Jt 0 sg∧Bj wr w.heap.size 28 #[.bool b,.slice B n1 c1,.bool b',.slice B' n1' c1']∧Ext w wr) (fun _ _ iv _=>l.length - (intOf iv).toNat)
 case atStart=>exact⟨0,0,0,Nat.zero_le _,rfl,rfl,Nat.le_refl _,rfl,.inl rfl,Ac,ea,hx⟩
 case round =>
  clear ea hx;obtain⟨i,cc,la,hi,rfl,rfl,hcc,rfl,hla,hval,ea,hx⟩:=hrel;have Hval:=Ad hval;clear hval;by_cases hil:i < l.length
  ·obtain⟨g,o,E,d,rfl,hc,h5⟩:=(HV.out.ext hx).at_ hil
   have H5:=Ad h5;clear h5;obtain⟨cea0,cea1,cea2,cea3⟩:=ea.cells4;have fea:=ea.frozen
   go_wp2_with fail
   refine AL (HC.out.1 _ hx i hil _ H5.out) ?_;rintro r2 w2 hr2 hx2
   go_wp2_with fail
   refine AL (MS _ _ _ (hr2.has (HC.out.2.1 i hil))) ?_;rintro r3 w3 rfl hx3;rw[HC.out.2.2.1 i hil Aa];have hdrop:sg.drop i=sg[i]'(Aa)::sg.drop (i+1):=List.drop_eq_getElem_cons Aa;have hsc:=HC.out.2.2.2 i Aa;have hval:=Hval.out;rw[hdrop,Jt]at hval;obtain⟨sv,hsv⟩:∃ sv,sv=sg[i]'(Aa):=⟨_,rfl⟩
   simp only[←hsv]at hval hsc ⊢;clear hsv hdrop Hval hc H5 hr2 cea0 cea1 cea2 cea3 fea;have x23:=hx2.trans hx3;replace ea:=ea.ext x23;replace hx:=hx.trans x23;clear x23;clear hx2 hx3;rcases hsc with rfl | hs1
   ·rw[if_pos rfl]at hval
    have Hval:=Ad hval;clear hval;go_wp2
    go_roundw
    case rel=>exact⟨i+1,cc,la,Aa,by go_num,rfl,Aa,rfl,hla,Hval.out,ea,hx⟩
    case measure=>simp[intOf]<;>omega
   ·have hs0:sv≠0:=by rcases hs1 with h | h<;>rw[h]<;>decide
    rw[if_neg hs0]at hval;have hsb:(sv==0)=false:=by simpa using hs0
    by_cases hch:la = -sv
    ·rw[if_pos hch]at hval
     have Hval:=Ad hval;clear hval;have hneg:la*sv = -1:=by rw[hch];rcases hs1 with h | h<;>rw[h]<;>decide
     have HS:=Ad hs1;clear hs0 hch hs1;go_wp2
     go_roundw
     case rel=>exact⟨i+1,cc+1,sv,Aa,by go_num,by go_num,Aa,rfl,.inr HS.out,by have:=Hval.out;omega,ea,hx⟩
     case measure=>simp[intOf]<;>omega
    ·rw[if_neg hch]at hval
     have Hval:=Ad hval;clear hval;have hneg:decide (la*sv < 0)=false:=by
      rcases hla with rfl | rfl | rfl<;>rcases hs1 with rfl | rfl<;>first | rfl | (exact absurd rfl hch)
     have HS:=Ad hs1;have hw:wrap64 (la*sv)=la*sv:=by
      rcases hla with rfl | rfl | rfl<;>rcases hs1 with rfl | rfl<;>exact IntWalk.wrap64_in _ ⟨Aa,Aa⟩
     clear hs0 hch hs1;go_wp2
     go_roundw
     case rel=>exact⟨i+1,cc,sv,Aa,by go_num,rfl,Aa,rfl,.inr HS.out,by have:=Hval.out;omega,ea,hx⟩
     case measure=>simp[intOf]<;>omega
  ·obtain rfl:i=l.length:=by omega
   have hval:=Hval.out;rw[List.drop_eq_nil_of_le Aa]at hval;have hv2:cc=Jt 0 sg:=hval;have Hv2:=Ad hv2;clear hv2 hval Hval;go_wp2
   go_ret
   exact Ah.mk (by rw[←Hv2.out];rfl) hx
theorem Y8(v u:Value)(F:Nat→Rat)(x:Rat)(s t n:Nat)(w:World)(hv:AP 0 w v F)(hu:BQ w u x)(hs:∀ i,qsz (F i)≤s)(ht:qsz x≤t)(hn:pl F≤n)(hK:1+n*(s+t+1)+s+t+1≤274877906944)(hn9:n≤1000) :
  Bh 92 #[v,u] w (fun r w'=>BD w' r (ev F x)):=by
 obtain⟨l,a1,a2,-,a4⟩:=hv.hz (fun i=>by have:=hs i;omega);have hK2:l.length*(s+t+1)≤n*(s+t+1):=Nat.mul_le_mul_right _ Aa;have:=Zg v u l x s t w a1 hu (by rw[a4];exact hs) ht Aa Aa;rw[←F6 (BK l),a4]at this;exact this
set_option maxRecDepth 20000 in
theorem SC(v u:Value)(us:List Value)(l:List (Nat→Rat))(x:Rat){eb:Nat}(base s t n:Nat)(w:World)(hv:Gz base eb 22 w v us l)(hu:BQ w u x)(hs:∀ F∈l,(∀ i,qsz (F i)≤s)∧pl F≤n∧Af F)(ht:qsz x≤t)
  (hK:1+n*(s+t+1)+s+t+1≤274877906944) (hn9:n≤1000) (hl:l.length≤1000) :
  Bh 54 #[v,u] w (fun r _=>r = .int .i64 (V l x:Nat)):=by
 have HV:=Ad hv;have HU:=Ad hu;obtain⟨A0,c0,rfl⟩:=hv.shape;obtain⟨b,B,n1,c1,b',B',n1',c1',x0,y0,rfl,-⟩:=hu.form;clear hv hu;have hev:∀ W (x1:Ext w W) i (h:i < l.length) u,AP 0 W u l[i]→Bh 92 #[u,.agg #[.bool b,.slice B n1 c1,.bool b',.slice B' n1' c1']] W (fun r w'=>BD w' r (ev l[i] x)):=fun W x1 i h u hu =>
  Y8 u _ l[i] x s t n W hu (HU.out.ext x1) (hs _ (List.getElem_mem h)).1 ht (hs _ (List.getElem_mem h)).2.1 hK hn9
 have hqz:∀ i (h:i < l.length),qsz (ev l[i] x)≤274877906944:=fun i h=>by
  obtain⟨h1,h2,h3⟩:=hs _ (List.getElem_mem h);have h4:=PG ((AU h3).mono h2) h1 ht;omega
 obtain⟨sg,hsg⟩:∃ sg,sg=l.map fun F=>BM (ev F x):=⟨_,rfl⟩
 have hsl:sg.length=l.length:=by rw[hsg,List.length_map]
 have hsi:∀ i (h:i < l.length) (h':i < sg.length),FB (ev l[i] x)=sg[i]:=fun i h h'=>by
  rw[Jd];simp[hsg]
 have hsc:∀ i (h':i < sg.length),sg[i]=0∨sg[i]=1∨sg[i] = -1:=fun i h'=>by
  simp only[hsg,List.getElem_map];exact DR _
 have hV:V l x=Jt 0 sg:=by unfold V;rw[hsg]
 rw[hV];have HC:=Ad (Ak hev (Ak hqz (Ak hsi hsc)));clear hev hqz hsi hsc hs ht hK hsg hV
 go_enter Tryz.func54,Tryz.ntmps54
 have ea:=Bj.new w 28 #[.bool b,.slice B n1 c1,.bool b',.slice B' n1' c1'] (by simp[Ag]);have hx:=(Ext.refl w).alloc (.cells #[.bool b,.slice B n1 c1,.bool b',.slice B' n1' c1'] 28)
 go_upto_region 1 with(fail)
 generalize w.alloc (.cells #[.bool b,.slice B n1 c1,.bool b',.slice B' n1' c1'] 28)=W0 at *;go_wp2
 go_loopw [5,6,7] (fun cv lv iv wr=>∃ (i cc:Nat) (la:Int),i≤l.length∧iv = .int .i64 (i:Nat)∧cv = .int .i64 (cc:Nat)∧cc≤i∧lv = .int .i64 la∧(la=0∨la=1∨la = -1)∧cc+Jt la (sg.drop i)=Jt 0 sg∧Bj wr w.heap.size 28 #[.bool b,.slice B n1 c1,.bool b',.slice B' n1' c1']∧Ext w wr) (fun _ _ iv _=>l.length - (intOf iv).toNat)
 case atStart=>exact⟨0,0,0,Nat.zero_le _,rfl,rfl,Nat.le_refl _,rfl,.inl rfl,Ac,ea,hx⟩
 case round =>
  clear ea hx;obtain⟨i,cc,la,hi,rfl,rfl,hcc,rfl,hla,hval,ea,hx⟩:=hrel;have Hval:=Ad hval;clear hval;by_cases hil:i < l.length
  ·obtain⟨g,o,E,d,rfl,hcE,h5⟩:=(HV.out.ext hx).at_ hil
   have H5:=Ad h5;clear h5;have hli:i < sg.length:=by omega
   have hss:FB (ev l[i] x)=sg[i]:=HC.out.2.2.1 i hil hli;obtain⟨sv,hsv⟩:∃ sv,sv=sg[i]:=⟨_,rfl⟩
   have hdrop:sg.drop i=sg[i]::sg.drop (i+1):=List.drop_eq_getElem_cons hli;have hsc:=HC.out.2.2.2 i hli;have hval:=Hval.out;rw[hdrop,Jt]at hval;simp only[←hsv]at hval hsc hss;have HS1:=Ad (Ak hss hval);clear hsv hdrop Hval hval hss hli;obtain⟨cea0,cea1,cea2,cea3⟩:=ea.cells4;have fea:=ea.frozen
   go_wp2_with fail
   refine Ae 7 [15,16,17,18,19,20,21] [[],[],[0,1],[0,1,2],[],[0,1,2,3,4],[0,1,2,3,4,5],[0,1,2,3,4,5,6]] [0,7,3] [_,_,_] [(kv ?_),(kv ?_),(kv ?_),(kv ?_),(kv ?_),(fun γ=>γ 5),(kv (.int .i64 sv))] (fun γ w'=>[True,True,True,True,True,BD w' (γ 5) (ev l[i] x),True]) Bn Aj Aj Bo Aj Bl Br ?hstep1 ?_
   case hstep1 =>
    iterate 7 refine⟨?_,?_⟩
    trivial
    iterate 5 focus
     intro γ w' he hf;clear hf;refine⟨by trivial,?_⟩;intro R hR;have hc:=he.cells;have cq0:=he.cell cea0;have cq1:=he.cell cea1;have cq2:=he.cell cea2;have cq3:=he.cell cea3;have cq4:=he.cell hcE;go_simp;(try go_ints);(try(rw[if_neg Aa]));(try(rw[if_pos Aa]));(try go_simp);(try go_ints)
     refine hR _ _ (Ext.refl _) ?_ trivial;rfl
    ·intro γ w' he hf;clear hf;refine⟨trivial,?_⟩;intro R hR
     go_simp;exact Bd (HC.out.1 w' (hx.trans he) i hil _ (H5.out.ext he)) hR
    ·intro γ w' he hf;have f5:BD w' (γ 5) (ev l[i] x):=hf 5 Ab;clear hf;refine⟨trivial,?_⟩;intro R hR
     go_simp;exact NJ (Ah.imp (M8 _ (ev l[i] x) w' (f5.has (HC.out.2.1 i hil))) fun _ _ h=>by rw[h,HS1.out.1]) hR
   intro γ w3 x23 hF;have p5:BD w3 (γ 5) (ev l[i] x):=AA.get hF 5 Ab;clear hF;simp only[Bf,Nat.reduceAdd];generalize γ 5=g5 at *;clear γ;have hval:=HS1.out.2;clear hcE H5 p5 cea0 cea1 cea2 cea3 fea HS1;replace ea:=ea.ext x23;replace hx:=hx.trans x23;clear x23;rcases hsc with rfl | hs1
   ·rw[if_pos rfl]at hval
    have Hval:=Ad hval;clear hval;go_wp2
    go_roundw
    case rel=>exact⟨i+1,cc,la,Aa,by go_num,rfl,Aa,rfl,hla,Hval.out,ea,hx⟩
    case measure=>simp[intOf]<;>omega
   ·have hs0:sv≠0:=by rcases hs1 with h | h<;>rw[h]<;>decide
    rw[if_neg hs0]at hval;have hsb:(sv != 0)=true:=by simpa using hs0
    by_cases hch:la = -sv
    ·rw[if_pos hch]at hval
     have Hval:=Ad hval;clear hval;have hneg:(la == -sv)=true:=by simpa using hch
     have hr9 : -1≤sv∧sv≤1:=by rcases hs1 with h | h<;>rw[h]<;>decide
     have HS:=Ad hs1;clear hs0 hch hs1;go_wp2
     go_roundw
     case rel=>exact⟨i+1,cc+1,sv,Aa,by go_num,by go_num,Aa,rfl,.inr HS.out,by have:=Hval.out;omega,ea,hx⟩
     case measure=>simp[intOf]<;>omega
    ·rw[if_neg hch]at hval
     have Hval:=Ad hval;clear hval;have hneg:(la == -sv)=false:=by simpa using hch
     have hr9 : -1≤sv∧sv≤1:=by rcases hs1 with h | h<;>rw[h]<;>decide
     have HS:=Ad hs1;clear hs0 hch hs1;go_wp2
     go_roundw
     case rel=>exact⟨i+1,cc,sv,Aa,by go_num,rfl,Aa,rfl,.inr HS.out,by have:=Hval.out;omega,ea,hx⟩
     case measure=>simp[intOf]<;>omega
  ·obtain rfl:i=l.length:=by omega
   have hval:=Hval.out;rw[List.drop_eq_nil_of_le Aa]at hval;have hv2:cc=Jt 0 sg:=hval;have Hv2:=Ad hv2;clear hv2 hval Hval;go_wp2
   go_ret
   exact Ah.mk (by rw[←Hv2.out];rfl) hx
end Go.Proofs.YtmhgnigpmompmaaGreat
