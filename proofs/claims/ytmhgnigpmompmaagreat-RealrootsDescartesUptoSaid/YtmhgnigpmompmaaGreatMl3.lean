/- Lemmas. -/
import Derived.Test.YtmhgnigpmompmaaGreatMl1
import Derived.Test.YtmhgnigpmompmaaGreatMl2
import Derived.RangeFuncNested
import Derived.RangeFuncBound
import Derived.RangeFuncCalls
import Derived.RangeFuncLeaves
import Derived.Shelf.Abstract
import Derived.Shelf.RegionOpen
import Derived.WalkKit
import Derived.OwnWalkIn
import Derived.TacticsInMore
import Derived.LoopNIn
import Derived.LoopIn
import Derived.ProofKit
import Derived.ChangeSlices
import Derived.Deep.Slices
import Derived.Deep.Cut
import Derived.Deep.DeepCutAuto
import Derived.Shelf.Strings.BuilderK
import Derived.Shelf.Strconv.Itoa3
import Derived.Test.YtmhgnigpmompmaaGreatChecked
import Derived.Laws.IdiomStrings
set_option linter.unusedVariables false
set_option linter.unusedSimpArgs false
set_option maxHeartbeats 16000000
namespace Go.Hp
def Iw(F G:Nat->Rat):Prop:=∃ Q,ZI Q/\Ae Q/\F=cv Q G
theorem YU{R G:Nat->Rat}{k:Nat}(hR:Ae R)(hG:Ae G)(h0:G≠pz)(hs:Be (k+pl G) R)(h:Iw R G):∃ z:Int,R (k+pl G - 1)=(z:Rat)*ld G:=by
 obtain⟨Q,hz,hf,e⟩:=h;have hp:=AL hG h0;by_cases hQ:Q=pz
 ·refine⟨0,?_⟩
  rw[e,hQ,Cn];show(0:Rat)=((0:Int):Rat)*_;simp
 ·have h1:=Du hf hG hQ h0
  rw[<-e]at h1;have h2:=BD hs;have h3:=AL hf hQ;have h4:Be (k+1) Q:=(AA hf).mono Aa;have h5:Be (pl G - 1+1) G:=(AA hG).mono Aa;have h6:=Si h4 h5;rw[<-e,show k+(pl G - 1)=k+pl G - 1 from by omega]at h6;rw[h6,hz.num k];exact⟨_,rfl⟩
theorem XW{F G Q R:Nat->Rat}(hz:ZI Q)(hf:Ae Q)(e:F=pad (cv Q G) R):Iw F G↔Iw R G:=by
 constructor
 ·rintro⟨P,h1,h2,h3⟩
  refine⟨psb P Q,h1.psb hz,h2.psb hf,?_⟩;rw[Fu,<-h3,e]
  funext n;simp only[psb,pad];grind
 ·rintro⟨P,h1,h2,h3⟩
  refine⟨pad Q P,hz.pad h1,hf.pad h2,?_⟩;rw[CG,<-h3,e]
theorem dM(G:Nat->Rat):Iw pz G:=⟨pz,ZI.pz,Ae.pz,(Cn G).symm⟩
theorem Z4{R G:Nat->Rat}(hR:Ae R)(hG:Ae G)(hs:pl R < pl G):Iw R G↔R=pz:=by
 constructor
 ·rintro⟨Q,h1,h2,h3⟩
  have h0:G≠pz:=fun e=>by rw[e,BR]at hs;omega
  refine Classical.byContradiction fun hn=>?_;have hQ:Q≠pz:=fun e=>hn (by rw[h3,e,Cn]);have:=Du h2 hG hQ h0;rw[<-h3]at this;have:=AL h2 hQ;omega
 ·rintro rfl;exact dM G
def F9(F G:Nat->Rat)(n s t i:Nat)(Q R:Nat->Rat):Prop:=
 (∀ j,j < i->Q j=0)/\Be n Q/\Be (i+pl G - 1) R/\F=pad (cv Q G) R/\ZI Q/\ZI R/\∀ m,qsz (R m)<=s+(n - i)*(t+1)
theorem F9.start{F G:Nat->Rat}{n s t:Nat}(hF:Be (n+pl G - 1) F)(hz:ZI F)(hs:∀ m,qsz (F m)<=s):F9 F G n s t n pz F:=
 ⟨fun _ _=>rfl,Be.pz _,hF,by rw[Cn];funext m;simp only[pad,pz];grind,ZI.pz,hz,fun m=>by have:=hs m;omega⟩
theorem Qr{z:Int}{a b:Rat}(hb:b≠0)(hbz:∃ y:Int,b=(y:Rat))(e:a=(z:Rat)*b):qsz (z:Rat)<=qsz a:=by
 obtain⟨y,rfl⟩:=hbz;rw[e,<-Rat.intCast_mul,Bn,Bn];have hy:y≠0:=fun h=>hb (by rw[h];rfl);have:sz z.natAbs<=sz (z*y).natAbs:=by
  refine Bq ?_;rw[Int.natAbs_mul];exact Nat.le_mul_of_pos_right _ Aa
 omega
theorem F9.step{F G:Nat->Rat}{n s t k:Nat}{Q R:Nat->Rat}(hG:Ae G)(h0:G≠pz)(zG:ZI G)(hcG:∀ m,qsz (G m)<=t)(h:F9 F G n s t (k+1) Q R)(hk:k < n){z:Int}(hc:R (k+pl G - 1)=(z:Rat)*ld G) :
  F9 F G n s t k (pad Q (mono k (z:Rat))) (psb R (cv (mono k (z:Rat)) G)):=by
 obtain⟨h3,h4,h5,h6,h7,h8,h9⟩:=h;have hp:=AL hG h0;have hl:=CV hG h0;have hz:(z:Rat)=R (k+pl G - 1) / ld G:=by rw[hc];grind
 refine⟨fun j hj=>?_,h4.pad ((ES k _).mono Aa),?_,?_,h7.pad (ZI.mono k z),h8.psb ((ZI.mono k z).cv zG),fun m=>?_⟩
 ·show Q j+mono k (z:Rat) j=0
  rw[h3 j Aa,EP Aa];grind
 ·rw[hz];exact EJ hG h0 (h5.mono Aa)
 ·rw[CG]
  funext m
  have:=congrFun h6 m;simp only[pad,psb]at this ⊢;grind
 ·have q1:qsz (z:Rat)<=qsz (R (k+pl G - 1)):=Qr hl (zG _) hc
  have q2:=h9 (k+pl G - 1);have e:n - k=(n - (k+1))+1:=by omega
  have q3:(n - k)*(t+1)=(n - (k+1))*(t+1)+(t+1):=by rw[e,Nat.succ_mul]
  have q4:qsz (cv (mono k (z:Rat)) G m)<=qsz (z:Rat)+t:=by
   rw[FY];show qsz ((z:Rat)*sh k G m)<=_;have a1:=CW (z:Rat) (sh k G m);have a2:qsz (sh k G m)<=max t 1:=by
    unfold sh
    split
    ·have:qsz (0:Rat)=1:=by decide
     omega
    ·have:=hcG (m - k);omega
   have a3:1<=t:=by have:=hcG 0;have:1<=qsz (G 0):=by { unfold qsz;have:=Es (n:=(G 0).den) (by have:=(G 0).den_pos;omega);omega };omega
   omega
  have q5:=Mv h8 ((ZI.mono k z).cv zG) m m;have q6:=h9 m;show qsz (R m - cv (mono k (z:Rat)) G m)<=_;omega
theorem F9.end_{F G:Nat->Rat}{n s t:Nat}{Q R:Nat->Rat}(hF:Ae F)(hG:Ae G)(h0:G≠pz)(h:F9 F G n s t 0 Q R):Q=pq F G/\R=pr F G/\Be n Q/\ZI Q:=by
 obtain⟨h3,h4,h5,h6,h7,h8,h9⟩:=h;have:=Ir hF hG h0 ⟨n,h4⟩ h6 (by rwa[Nat.zero_add]at h5);exact⟨this.1,this.2,h4,h7⟩
theorem F9.zdv{F G:Nat->Rat}{n s t i:Nat}{Q R:Nat->Rat}(h:F9 F G n s t i Q R):Iw F G↔Iw R G:=
 XW h.2.2.2.2.1 ⟨n,h.2.1⟩ h.2.2.2.1
theorem F9.fin{F G:Nat->Rat}{n s t i:Nat}{Q R:Nat->Rat}(h:F9 F G n s t i Q R):Ae R:=⟨_,h.2.2.1⟩
theorem F9.no{F G:Nat->Rat}{n s t k:Nat}{Q R:Nat->Rat}(hG:Ae G)(h0:G≠pz)(zG:ZI G)(h:F9 F G n s t (k+1) Q R)(hd:¬ (ld G).num∣(R (k+pl G - 1)).num):¬ Iw F G:=by
 intro hz;have hp:=AL hG h0;obtain⟨z,e⟩:=YU (k:=k) h.fin hG h0 (h.2.2.1.mono Aa) (h.zdv.1 hz)
 apply hd
 rw[e,show ld G=((ld G).num:Rat)from zG.num _,num_mul];exact⟨z,by rw[Int.mul_comm];rfl⟩
theorem F9.yes{F G:Nat->Rat}{n s t i m:Nat}{Q R:Nat->Rat}(zG:ZI G)(h:F9 F G n s t i Q R)(hd:(ld G).num∣(R m).num):R m=(((R m).num / (ld G).num:Int):Rat)*ld G:=by
 have e1:ld G=((ld G).num:Rat):=zG.num _;have e2:=h.2.2.2.2.2.1.num m;have e3:=Int.ediv_mul_cancel hd;have e4:(((R m).num / (ld G).num:Int):Rat)*(((ld G).num:Int):Rat)=(((R m).num:Int):Rat):=by rw[<-Rat.intCast_mul,e3]
 rw[e2,e1];exact e4.symm
theorem F9.out{F G:Nat->Rat}{n s t:Nat}{Q R:Nat->Rat}(hF:Ae F)(hG:Ae G)(h0:G≠pz)(h:F9 F G n s t 0 Q R):Iw F G↔R=pz:=by
 rw[h.zdv,Z4 h.fin hG];have hp:=AL hG h0;have:=BD h.2.2.1;omega
theorem TF(k j:Nat)(c:Rat)(R G:Nat->Rat):F3 k j c R G (k+j)=R (k+j):=by
 unfold F3;rw[if_neg Aa];grind
theorem VO{k j:Nat}{z:Int}{R G:Nat->Rat}(hR:ZI R)(hG:ZI G)(n:Nat):(F3 k (j+1) (z:Rat) R G n).num=if n=k+j then(R (k+j)).num - z*(G j).num else(F3 k j (z:Rat) R G n).num:=by
 rw[O3]
 split
 ·rename_i h;subst h
  rw[TF,hR.num,hG.num j,<-Rat.intCast_mul,num_sub];rfl
 ·rfl
theorem Yz{Q:Nat->Rat}{k:Nat}{z:Int}(hQ:ZI Q)(h:Q k=0)(n:Nat):(pad Q (mono k (z:Rat)) n).num=if n=k then z else(Q n).num:=by
 show(Q n+mono k (z:Rat) n).num=_;by_cases e:n=k
 ·subst e;rw[if_pos rfl,h,Kl,Rat.zero_add];rfl
 ·rw[if_neg e,EP e,Rat.add_zero]
open Go.RowKit
def EL(w:World)(v:Value)(x:Int)(e:Int):Prop:=∃ a,v = .tuple #[a,.int .i64 e]/\AO w a x
theorem EL.ext{w w':World}{v:Value}{x e:Int}(h:EL w v x e)(k:Ext w w'):EL w' v x e:=by
 obtain⟨a,h1,h2⟩:=h;exact⟨a,h1,h2.kd k.kd⟩
def aZ(base:Nat)(F G:Nat->Rat)(r:Value)(w:World):Prop:=(Iw F G->∃ q,r = .tuple #[q,.int .i64 0]/\AB base w q (pq F G))/\(¬ Iw F G->r = .tuple #[.slice none 0 0,.int .i64 6])
theorem AO.inj{w:World}{v:Value}{x y:Int}(h:AO w v x)(k:AO w v y):x=y:=by
 obtain⟨n,ds,⟨s,rfl,hd⟩,rfl,-⟩:=h;obtain⟨m,es,⟨t,e,he⟩,rfl,-⟩:=k;cases e;rw[hd.uniq he]
theorem Bp.inj{w:World}{g:Nat}{t:TypeId}{x y:Int}(h:Bp w g t x)(k:Bp w g t y):x=y:=by
 obtain⟨b,A,n,c,h1,h2⟩:=h;obtain⟨b',A',n',c',k1,k2⟩:=k;have e:=h1.1.symm.trans k1.1;cases e;exact h2.inj k2
noncomputable def jU(w:World)(g:Nat)(t:TypeId):Nat:=open Classical in if h:∃ x,Bp w g t x then(Classical.choose h).natAbs else 0
theorem OG{w:World}{g:Nat}{t:TypeId}{x:Int}(h:Bp w g t x):jU w g t=x.natAbs:=by
 have hx:∃ x,Bp w g t x:=⟨x,h⟩
 unfold jU;rw[dif_pos hx,(Classical.choose_spec hx).inj h]
theorem GM(n:Nat):sz ((2:Int)^n).natAbs<=1+n:=by
 have:=IE 2 1 Ab n;omega
theorem QT(i:Nat)(hi:i < 9223372036854775808):bits BinOp.and IntKind.i64 (i:Int) 1=((i % 2:Nat):Int):=Go.Proofs.and_one i hi
theorem PH{x y z:Int}(h:x*y=z)(hy:y≠0:=by decide):sz x.natAbs<=sz z.natAbs:=by
 refine Bq ?_;rw[<-h,Int.natAbs_mul];exact Nat.le_mul_of_pos_right _ Aa
theorem Vn(n j:Nat):(2:Int)^(n / 2^(j+1))*2^(n / 2^(j+1))*(if n / 2^j % 2=1 then 2 else 1)=2^(n / 2^j):=by
 have e:n / 2^(j+1)=n / 2^j / 2:=by rw[Nat.pow_succ,Nat.div_div_eq_div_mul]
 rw[e];generalize n / 2^j=m
 split
 ·rename_i h
  rw[<-Int.pow_add,<-Int.pow_succ];congr 1;omega
 ·rename_i h
  rw[<-Int.pow_add,Int.mul_one];congr 1;omega
theorem BL.ex(n:Nat):∃ b,BL n b:=by
 induction n using Nat.strongRecOn with
 | _ n ih =>
  rcases Nat.eq_zero_or_pos n with h | h
  ·subst h;exact⟨0,BL.zero⟩
  ·obtain⟨b,h1,h2⟩:=ih (n / 2) Aa
   refine⟨b+1,by rw[Nat.pow_succ];omega,fun _=>?_⟩;rw[Nat.add_sub_cancel];rcases b with _ | b
   ·simp;omega
   ·have:=h2 Aa
    rw[Nat.add_sub_cancel]at this;rw[Nat.pow_succ];omega
def jY(w:World)(r:Value):Prop:=∃ (r0:Value) (x:Int) (b:Bool),r = .tuple #[r0,.bool b,.int .i64 0]/\AO w r0 x/\0 < x/\sz x.natAbs<=20000
def bW(t v:Value):Prop:=∃ a e,t = .tuple #[a,v,e]
theorem Sg{a x:Int}(ha:0 < a)(hx:0 < x):0 < (x+a / x) / 2:=by
 have h1:0<=a / x:=Int.ediv_nonneg Aa Aa;rcases Int.lt_or_le 1 x with h | h
 ·omega
 ·have:x=1:=by omega
  subst this;rw[Int.ediv_one];omega
def GU(F G D:Nat->Rat):Prop:=Ae D/\ZI D/\(D≠pz->0 < ld D)/\cn D=Nat.gcd (cn F) (cn G)/\KQ F G (mn D)
structure I1(F0 G0:Nat->Rat)(D S:Nat)(A B:Nat->Rat):Prop where
 fA:Ae A
 fB:Ae B
 zA:ZI A
 zB:ZI B
 pA:pp A=A
 pB:pp B=B
 dv:∀ E,Ae E->(Dv E A/\Dv E B↔Dv E F0/\Dv E G0)
 deg:pl A+pl B<=D
 qA:∀ i,qsz (A i)+1<=(S+1)*2^(D - (pl A+pl B))
 qB:∀ i,qsz (B i)+1<=(S+1)*2^(D - (pl A+pl B))
theorem Fz{a:Rat}(ha:a≠0){E F:Nat->Rat}:Dv E (psc a F)↔Dv E F:=
 ⟨fun h=>by have:=h.psc (1 / a);rwa[ZN ha]at this,fun h=>h.psc a⟩
theorem Db{E F:Nat->Rat}(z:ZI F)(f:Ae F):Dv E (pp F)↔Dv E F:=by
 by_cases h0:F=pz
 ·rw[h0,Iu]
 ·have hn:(1:Rat) / (pcn F:Rat)≠0:=Jn (by have:=Dl z f h0;exact_mod_cast this)
  exact Fz hn
theorem I1.start{F G:Nat->Rat}{S:Nat}(fF:Ae F)(fG:Ae G)(zF:ZI F)(zG:ZI G)(qF:∀ i,qsz (F i)<=S)(qG:∀ i,qsz (G i)<=S):I1 F G (pl F+pl G) S (pp F) (pp G) where
 fA:=Dx fF
 fB:=Dx fG
 zA:=Ha zF fF
 zB:=Ha zG fG
 pA:=WQ zF fF
 pB:=WQ zG fG
 dv:=fun E _=>by rw[Db zF fF,Db zG fG]
 deg:=by rw[DI zF fF,DI zG fG];exact Nat.le_refl _
 qA:=fun i=>by have:=Ga zF fF qF i;have h:0 < 2^(pl F+pl G - (pl (pp F)+pl (pp G))):=Nat.pow_pos Ab;have:=Nat.le_mul_of_pos_right (S+1) h;omega
 qB:=fun i=>by have:=Ga zG fG qG i;have h:0 < 2^(pl F+pl G - (pl (pp F)+pl (pp G))):=Nat.pow_pos Ab;have:=Nat.le_mul_of_pos_right (S+1) h;omega
theorem I1.room{F0 G0 A B:Nat->Rat}{D S:Nat}(h:I1 F0 G0 D S A B){R:Nat->Rat}(hR:R=D7 A B (pl A+1 - pl B)) :
  (∀ i,qsz (A i)<=(S+1)*2^D)/\(∀ i,qsz (B i)<=(S+1)*2^D)/\(∀ i,qsz (R i)+1<=(S+1)*2^(D - (pl A+pl B)+(pl A+1 - pl B))):=by
 have up:∀ a:Nat,a<=D->(S+1)*2^a<=(S+1)*2^D:=fun a ha=>Nat.mul_le_mul_left _ (Nat.pow_le_pow_right Ab ha);have h1:=up (D - (pl A+pl B)) Aa;refine⟨fun i=>by have:=h.qA i;omega,fun i=>by have:=h.qB i;omega,fun i=>?_⟩;obtain⟨M,hM⟩:∃ M,M=(S+1)*2^(D - (pl A+pl B)):=⟨_,rfl⟩
 have hp:0 < M:=by rw[hM];exact Nat.mul_pos Aa (Nat.pow_pos Ab)
 have h2:=GR (s:=M - 1) (t:=M - 1) h.zA h.zB (fun i=>by have:=h.qA i;omega) (fun i=>by have:=h.qB i;omega) (pl A+1 - pl B) i;rw[<-hR]at h2;rw[Nat.pow_add,<-Nat.mul_assoc,<-hM];have h3:=Me (pl A+1 - pl B);have h4:M*(pl A+1 - pl B+1)<=M*2^(pl A+1 - pl B):=Nat.mul_le_mul_left _ h3;rw[Nat.mul_succ,Nat.mul_comm M]at h4;rw[show M - 1+1=M from by omega]at h2;omega
theorem Uu{F G:Nat->Rat}(hF:Ae F)(hG:Ae G)(h0:G≠pz):Ae (D7 F G (pl F+1 - pl G)):=by
 rw[(Kj hF hG h0).2];exact(EX hF hG).psc _
theorem Ul{F G:Nat->Rat}(hF:Ae F)(hG:Ae G)(h0:G≠pz):pl (D7 F G (pl F+1 - pl G)) < pl G:=by
 have hp:=AL hG h0;have:=BD (((Et hF hG h0).psc (ld G^(pl F+1 - pl G))));rw[<-(Kj hF hG h0).2]at this;omega
theorem I1.step{F0 G0 A B:Nat->Rat}{D S:Nat}(h:I1 F0 G0 D S A B)(h0:B≠pz){R:Nat->Rat}(hR:R=D7 A B (pl A+1 - pl B)) :
  I1 F0 G0 D S B (pp R)/\pl (pp R) < pl B:=by
 have hfR:Ae R:=by rw[hR];exact Uu h.fA h.fB h0
 have hzR:ZI R:=by rw[hR];exact F4 h.zA h.zB _
 have htop:pl R < pl B:=by rw[hR];exact Ul h.fA h.fB h0
 have hplR:=DI hzR hfR;have hq:∀ i,qsz (R i)+1<=(S+1)*2^(D - (pl B+pl (pp R)))/\pl B+pl (pp R)<=D:=fun i=>by
  rw[hplR];have hd:=h.deg;rcases Nat.lt_or_ge (pl A) (pl B)with a | a
  ·have e:R=A:=by rw[hR,show pl A+1 - pl B=0 from by omega];rfl
   rw[e];have:=h.qA i;rw[Nat.add_comm (pl B)];exact⟨this,hd⟩
  ·have h2:=(h.room hR).2.2 i
   exact⟨Nat.le_trans h2 (Nat.mul_le_mul_left _ (Nat.pow_le_pow_right Ab Aa)),Aa⟩
 refine⟨⟨h.fB,Dx hfR,h.zB,Ha hzR hfR,h.pB,WQ hzR hfR,fun E hE=>?_,(hq 0).2,fun i=>?_,fun i=>?_⟩,Aa⟩
 ·rw[Db hzR hfR,<-h.dv E hE]
  have hl:=Tk (CV h.fB h0) (pl A+1 - pl B);rw[hR,(Kj h.fA h.fB h0).2,Fz hl,LD]
 ·have h1:=h.qB i
  have:=h.deg;have h2:=(hq 0).2;refine Nat.le_trans h1 (Nat.mul_le_mul_left _ (Nat.pow_le_pow_right Ab ?_));rcases Nat.lt_or_ge (pl A) (pl B)with a | a
  ·have e:R=A:=by rw[hR,show pl A+1 - pl B=0 from by omega];rfl
   rw[hplR,e];omega
  ·omega
 ·have h1:=Ga hzR hfR (s:=(S+1)*2^(D - (pl B+pl (pp R))) - 1) (fun i=>by have:=(hq i).1;omega) i
  have:=(hq i).1;omega
theorem RJ{a:Rat}(ha:a≠0){F:Nat->Rat}(h:Ae F):mn (psc a F)=mn F:=by
 by_cases h0:F=pz
 ·rw[h0,FM]
 ·have hl:=CV h h0
  unfold mn;rw[JE ha h,Cb];congr 1;grind
theorem QW(F:Nat->Rat):psc 0 F=pz:=by funext n;simp only[psc,pz];grind
theorem Qk{F:Nat->Rat}(h:Ae F)(e:mn F=pz):F=pz:=(BI h).1 (by rw[<-R4 h,e,BR])
theorem I1.end_{F0 G0 A B:Nat->Rat}{D S:Nat}(h:I1 F0 G0 D S A B)(fF:Ae F0)(fG:Ae G0)(zF:ZI F0)(zG:ZI G0)(h0:B=pz) :
  GU F0 G0 (psc ((Nat.gcd (cn F0) (cn G0):Nat):Rat) A):=by
 have hg:KQ F0 G0 (mn A):=by
  subst h0;exact(KQ.zero h.fA).of h.dv
 obtain⟨c,hc⟩:∃ c,c=Nat.gcd (cn F0) (cn G0):=⟨_,rfl⟩
 rw[<-hc];by_cases hc0:c=0
 ·have e1:cn F0=0:=Nat.eq_zero_of_gcd_eq_zero_left (hc.symm.trans hc0)
  have e2:cn G0=0:=Nat.eq_zero_of_gcd_eq_zero_right (hc.symm.trans hc0);have z1:F0=pz:=Classical.byContradiction fun hn=>Im zF fF hn e1;have z2:G0=pz:=Classical.byContradiction fun hn=>Im zG fG hn e2;rw[hc0];show GU F0 G0 (psc ((0:Nat):Rat) A);rw[show((0:Nat):Rat)=0 from rfl,QW,z1,z2];refine⟨Ae.pz,ZI.pz,fun hn=>absurd rfl hn,by rw[NA];rfl,?_⟩;exact KQ.zero Ae.pz
 ·have hcr:((c:Nat):Rat)≠0:=by exact_mod_cast hc0
  have hA:A≠pz:=fun e=>by
   rw[e,KU]at hg;have z1:=La hg.2.2.1;have z2:=La hg.2.2.2.1;rw[z1,z2,NA]at hc;exact hc0 hc
  have e1:cn A=1:=by rw[<-h.pA];exact QK h.zA h.fA hA
  have e2:0 < ld A:=by rw[<-h.pA];exact Lj h.zA h.fA hA
  have ci:((c:Nat):Rat)=(((c:Nat):Int):Rat):=rfl;refine⟨h.fA.psc _,by rw[ci];exact h.zA.psc _,fun _=>?_,?_,by rw[RJ hcr h.fA];exact hg⟩
  ·rw[JE hcr h.fA]
   refine Rat.mul_pos ?_ e2;exact_mod_cast Nat.pos_of_ne_zero hc0
  ·rw[ci,I8 (by exact_mod_cast hc0) h.zA h.fA,e1,<-hc];simp
theorem GU.uniq{F G D E:Nat->Rat}(h:GU F G D)(k:GU F G E):D=E:=by
 obtain⟨f1,z1,l1,c1,g1⟩:=h;obtain⟨f2,z2,l2,c2,g2⟩:=k;have e:=g1.uniq g2;by_cases hD:D=pz
 ·have:E=pz:=Qk f2 (by rw[<-e,hD,KU])
  rw[hD,this]
 have hE:E≠pz:=fun hE=>hD (Qk f1 (by rw[e,hE,KU]));have hcD:=Im z1 f1 hD
 -- E=a D with a positive;the contents agree
 have lD:=l1 hD;have lE:=l2 hE;have hDl:=CV f1 hD;have hEl:=CV f2 hE;have e1:psc (ld E) D=psc (ld D) E:=by
  funext n
  have:=congrFun e n;show ld E*D n=ld D*E n;simp only[mn,psc]at this;have h1:ld D*ld E*(1 / ld D*D n)=ld D*ld E*(1 / ld E*E n):=by rw[this]
  grind
 obtain⟨x,hx⟩:∃ x:Int,ld D=(x:Rat):=z1 _;obtain⟨y,hy⟩:∃ y:Int,ld E=(y:Rat):=z2 _;have hx0:0 < x:=by rw[hx]at lD;exact_mod_cast lD
 have hy0:0 < y:=by rw[hy]at lE;exact_mod_cast lE
 have e2:cn (psc (ld E) D)=cn (psc (ld D) E):=by rw[e1]
 rw[hx,hy,I8 Aa z1 f1,I8 Aa z2 f2,c1,c2,<-c1]at e2;have e3:y.natAbs=x.natAbs:=Nat.eq_of_mul_eq_mul_right (Nat.pos_of_ne_zero hcD) e2;have e4:x=y:=by omega
 have:ld D=ld E:=by rw[hx,hy,e4]
 rw[this]at e1
 funext n
 have:=congrFun e1 n;simp only[psc]at this;grind
theorem TR{F Q D:Nat->Rat}(zF:ZI F)(fF:Ae F)(zD:ZI D)(fD:Ae D)(hD:D≠pz)(fQ:Ae Q)(e:F=cv Q D)(hc:cn D∣cn F):ZI Q:=by
 obtain⟨n,hs⟩:=fQ;have fQ:Ae Q:=⟨n,hs⟩
 have zC:=FI hs;have fC:=EF (n:=n) fQ;have e1:psc (((dl n Q:Nat):Int):Rat) F=cv (DD n Q) D:=by
  rw[e];unfold DD;rw[Cv];rfl
 have hdl:=MK Q n;have e2:cn (psc (((dl n Q:Nat):Int):Rat) F)=cn (cv (DD n Q) D):=by rw[e1]
 rw[I8 Aa zF fF,NW zC zD fC fD,Int.natAbs_natCast]at e2;obtain⟨m,hm⟩:=hc;have hcD:=Nat.pos_of_ne_zero (Im zD fD hD);have e3:dl n Q*m=cn (DD n Q):=by
  refine Nat.eq_of_mul_eq_mul_right hcD ?_;rw[<-e2,hm,Nat.mul_assoc,Nat.mul_comm m]
 intro i;have h1:=FH fC i;have h2:((dl n Q:Nat):Int)∣(DD n Q i).num:=Int.dvd_trans ⟨(m:Int),by rw[<-e3];simp⟩ h1;obtain⟨k,hk⟩:=h2;refine⟨k,?_⟩;have h3:=zC.num i;rw[hk,Rat.intCast_mul]at h3;have h4:DD n Q i=((dl n Q:Nat):Rat)*Q i:=rfl;rw[h4]at h3;have h5:=Ug n Q;have h6:(((dl n Q:Nat):Int):Rat)=((dl n Q:Nat):Rat):=rfl;rw[h6]at h3;grind
theorem GU.zdv{F G D:Nat->Rat}(h:GU F G D)(zF:ZI F)(fF:Ae F)(hD:D≠pz):Iw F D:=by
 obtain⟨f1,z1,l1,c1,g1⟩:=h;obtain⟨Q,fQ,e⟩:=g1.2.2.1;have e1:F=cv (psc (1 / ld D) Q) D:=by rw[e];unfold mn;rw[MS,Cv]
 exact⟨_,TR zF fF z1 f1 hD (fQ.psc _) e1 (by rw[c1];exact Nat.gcd_dvd_left _ _),fQ.psc _,e1⟩
theorem KQ.symm_{F G D:Nat->Rat}(h:KQ F G D):KQ G F D:=⟨h.1,h.2.1,h.2.2.2.1,h.2.2.1,fun E hE a b=>h.2.2.2.2 E hE b a⟩
theorem GU.symm_{F G D:Nat->Rat}(h:GU F G D):GU G F D:=⟨h.1,h.2.1,h.2.2.1,by rw[Nat.gcd_comm];exact h.2.2.2.1,h.2.2.2.2.symm_⟩
theorem VQ:∀(n:Nat) {F G:Nat->Rat},Ae F->Ae G->pl G<=n->∃ U V D,Ae U/\Ae V/\KQ F G D/\pad (cv U F) (cv V G)=D:=by
 intro n;induction n with
 | zero =>
  intro F G fF fG hn;have:G=pz:=(BI fG).1 Aa;subst this;refine⟨psc (1 / ld F) pone,pz,mn F,Ae.psc _ ⟨1,(Be.pz 0).cs 1⟩,Ae.pz,KQ.zero fF,?_⟩;rw[Cv,Br,Cn]
  funext m;simp only[pad,pz,mn];grind
 | succ n ih =>
  intro F G fF fG hn;by_cases h0:G=pz
  ·exact ih fF fG (by rw[h0,BR];omega)
  ·have hp:=AL fG h0
   have hr:=BD (Et fF fG h0);obtain⟨U,V,D,fU,fV,hg,e⟩:=ih fG (EX fF fG) Aa;refine⟨V,psb U (cv V (pq F G)),D,fV,fU.psb (fV.cv (Dm F G)),hg.of fun E hE=>LD,?_⟩;rw[<-e];have e1:cv V F=pad (cv V (cv (pq F G) G)) (cv V (pr F G)):=by
    have h2:cv V F=cv V (pad (cv (pq F G) G) (pr F G)):=by rw[<-JX F G]
    rw[h2,Ez]
   rw[e1,Fu,Ag]
   funext m;simp only[pad,psb];grind
theorem KQ.bez{F G D:Nat->Rat}(fF:Ae F)(fG:Ae G)(h:KQ F G D):∃ U V,Ae U/\Ae V/\pad (cv U F) (cv V G)=D:=by
 obtain⟨U,V,D',fU,fV,hg,e⟩:=VQ (pl G) fF fG (Nat.le_refl _);exact⟨U,V,fU,fV,by rw[h.uniq hg];exact e⟩
theorem Dv.cvr{D F:Nat->Rat}(h:Dv D F)(H:Nat->Rat):Dv (Hp.cv D H) (Hp.cv F H):=by
 obtain⟨Q,fQ,e⟩:=h;exact⟨Q,fQ,by rw[e,Ag]⟩
theorem SL{F G D H P:Nat->Rat}(fF:Ae F)(fG:Ae G)(fH:Ae H)(h:KQ F G (mn D))(fD:Ae D){a:Rat}(ha:a≠0)(hP:P=psc a (cv D H)):KQ (cv F H) (cv G H) (mn P):=by
 have fP:Ae P:=by rw[hP];exact(fD.cv fH).psc a
 refine⟨KH fP,fun hn=>TN fP (fun e=>hn (by rw[e,KU])),?_,?_,fun E hE k1 k2=>?_⟩
 ·have h1:Dv (cv D H) (cv F H):=((FQ D).trans h.2.2.1).cvr H
  have h2:Dv (mn P) (cv D H):=by
   rw[hP,RJ ha (fD.cv fH)];exact FV (fD.cv fH)
  exact h2.trans h1
 ·have h1:Dv (cv D H) (cv G H):=((FQ D).trans h.2.2.2.1).cvr H
  have h2:Dv (mn P) (cv D H):=by
   rw[hP,RJ ha (fD.cv fH)];exact FV (fD.cv fH)
  exact h2.trans h1
 ·obtain⟨U,V,fU,fV,e⟩:=h.bez fF fG
  have h1:Dv E (cv (mn D) H):=by
   rw[<-e,CG,Ag,Ag];exact(k1.mul fU).pad (k2.mul fV)
  have h2:Dv E (cv D H):=by
   obtain⟨Q,fQ,e2⟩:=FV fD;rw[e2,Ag];exact h1.mul fQ
  rw[NT fP,hP,Fz ha];exact h2
theorem GU.common{F G D H E:Nat->Rat}(fF:Ae F)(fG:Ae G)(zF:ZI F)(zG:ZI G)(fH:Ae H)(zH:ZI H)(h:GU F G D)(k:GU (cv F H) (cv G H) E):E=cv D H\/E=psc ((-1:Int):Rat) (cv D H):=by
 obtain⟨f1,z1,l1,c1,g1⟩:=h;have hcn:∀ a:Int,a.natAbs=1->cn (psc (a:Rat) (cv D H))=Nat.gcd (cn (cv F H)) (cn (cv G H)):=fun a ha=>by
  rw[I8 Aa (z1.cv zH) (f1.cv fH),ha,Nat.one_mul,NW z1 zH f1 fH,NW zF zH fF fH,NW zG zH fG fH,c1,Nat.gcd_mul_right]
 have key:∀ a:Int,a.natAbs=1->(cv D H≠pz->0 < (a:Rat)*ld (cv D H))->E=psc (a:Rat) (cv D H):=fun a ha hl=>by
  have ha0:(a:Rat)≠0:=by
   have:a≠0:=by omega
   exact_mod_cast this
  refine k.uniq ⟨(f1.cv fH).psc _,(z1.cv zH).psc a,fun hn=>?_,hcn a ha,SL fF fG fH g1 f1 ha0 rfl⟩;rw[JE ha0 (f1.cv fH)];exact hl fun e=>hn (by rw[e,FM])
 by_cases hp:0 < ld (cv D H)
 ·refine .inl ?_
  have:=key 1 rfl (fun _=>by simpa using hp);rwa[show(((1:Int)):Rat)=1 from rfl,Ct]at this
 ·refine .inr (key (-1) rfl (fun hn=>?_))
  have:=CV (f1.cv fH) hn;have e:(((-1:Int)):Rat) = -1:=rfl;rw[e];have h2:ld (cv D H) < 0:=Rat.lt_of_le_of_ne (Rat.not_lt.1 hp) this;grind
theorem I1.run{F0 G0:Nat->Rat}{D S:Nat}:∀(n:Nat) {A B:Nat->Rat},I1 F0 G0 D S A B->pl B<=n->∃ A',I1 F0 G0 D S A' pz:=by
 intro n;induction n with
 | zero =>
  intro A B h hn;have:B=pz:=(BI h.fB).1 Aa;subst this;exact⟨A,h⟩
 | succ n ih =>
  intro A B h hn;by_cases h0:B=pz
  ·subst h0;exact⟨A,h⟩
  ·obtain⟨h1,h2⟩:=h.step h0 rfl
   exact ih h1 Aa
open Classical in
/-- The greatest common divisor over the integers. -/
noncomputable def BC(F G:Nat->Rat):Nat->Rat:=if h:∃ D,GU F G D then h.choose else pz
theorem Ym{F G D:Nat->Rat}(h:GU F G D):BC F G=D:=by
 have hx:∃ D,GU F G D:=⟨D,h⟩
 unfold BC;rw[dif_pos hx];exact hx.choose_spec.uniq h
theorem Dw(q:Rat):1<=qsz q:=by
 unfold qsz;have:=Es (n:=q.den) (by have:=q.den_pos;omega);omega
theorem YZ{F G:Nat->Rat}{S:Nat}(fF:Ae F)(fG:Ae G)(zF:ZI F)(zG:ZI G)(qF:∀ i,qsz (F i)<=S)(qG:∀ i,qsz (G i)<=S):GU F G (BC F G)/\∀ i,qsz (BC F G i)<=S+(S+1)*2^(pl F+pl G):=by
 obtain⟨A,h⟩:=(I1.start fF fG zF zG qF qG).run (pl (pp G)) (Nat.le_refl _);have h1:=h.end_ fF fG zF zG rfl;have h2:=Ym h1;rw[h2];refine⟨h1,fun i=>?_⟩;have h3:=CW (((Nat.gcd (cn F) (cn G):Nat)):Rat) (A i);have h4:=(h.room rfl).1 i;have h5:qsz (((Nat.gcd (cn F) (cn G):Nat)):Rat)<=S:=by
  show qsz ((((Nat.gcd (cn F) (cn G):Nat):Int)):Rat)<=S;rw[Bn];have a1:=Dw (F 0);have a2:=qF 0;have b1:=Jg qF (pl F);have b2:sz (Nat.gcd (cn F) (cn G))<=S:=by
   by_cases e:cn F=0
   ·have b3:=Jg qG (pl G)
    rw[e,Nat.gcd_zero_left];exact b3
   ·exact Nat.le_trans (Bq (Nat.gcd_le_left _ (Nat.pos_of_ne_zero e))) b1
  simp only[Int.natAbs_natCast];omega
 show qsz ((((Nat.gcd (cn F) (cn G):Nat)):Rat)*A i)<=_;omega
structure Lg(n:Nat)(E:(Nat->Nat->Rat)->Rat):Prop where
 lin:∀(A:Nat->Nat->Rat) (i:Nat),i < n->∀(a b:Rat) (u v:Nat->Rat),E (Ev A i fun c=>a*u c+b*v c)=a*E (Ev A i u)+b*E (Ev A i v)
 alt:∀(A:Nat->Nat->Rat) (i j:Nat),i < n->j < n->i≠j->A i=A j->E A=0
 cong:∀(A B:Nat->Nat->Rat),(∀ i j,i < n->j < n->A i j=B i j)->E A=E B
 one:E (fun i j=>if i=j then 1 else 0)=0
theorem kM:∀(n:Nat) (s:Nat->Nat),(∀ i,i < n+1->s i < n)->∃ i j,i < j/\j < n+1/\s i=s j
 | 0,s,h=>absurd (h 0 Aa) Aa
 | n+1,s,h=>by
  by_cases e:∃ i,i < n+1/\s i=s (n+1)
  ·obtain⟨i,hi,e⟩:=e
   exact⟨i,n+1,hi,Aa,e⟩
  ·have e':∀ i,i < n+1->s i≠s (n+1):=fun i hi q=>e ⟨i,hi,q⟩
   obtain⟨i,j,hij,hj,q⟩:=kM n (fun i=>if s i < s (n+1)then s i else s i - 1) (fun i hi=>by
    have h1:=h i Aa;have h2:=h (n+1) Aa;have h3:=e' i hi;show(if s i < s (n+1)then s i else s i - 1) < n
    split<;>omega)
   refine⟨i,j,hij,Aa,?_⟩;have h1:=e' i Aa;have h2:=e' j hj;have q':(if s i < s (n+1)then s i else s i - 1)=(if s j < s (n+1)then s j else s j - 1):=q
   split at q'<;>split at q'<;>omega
theorem Lg.swap{n:Nat}{E:(Nat->Nat->Rat)->Rat}(h:Lg n E)(A:Nat->Nat->Rat){i j:Nat}(hi:i < n)(hj:j < n)(hne:i≠j):E (Ev (Ev A i (A j)) j (A i)) = - E A:=by
 obtain⟨u,hu⟩:∃ u,u=A i:=⟨_,rfl⟩
 obtain⟨v,hv⟩:∃ v,v=A j:=⟨_,rfl⟩
 have comm:∀ x y:Nat->Rat,Ev (Ev A i x) j y=Ev (Ev A j y) i x:=fun x y=>by
  funext r c;unfold Ev
  by_cases a:r=j
  ·subst a;rw[if_pos rfl,if_neg (Ne.symm hne),if_pos rfl]
  ·rw[if_neg a]
   by_cases b:r=i
   ·rw[if_pos b,if_pos b]
   ·rw[if_neg b,if_neg b,if_neg a]
 have z:∀ x:Nat->Rat,E (Ev (Ev A i x) j x)=0:=fun x=>h.alt _ i j hi hj hne (by
  funext c
  show(if i=j then x c else if i=i then x c else A i c)=(if j=j then x c else _);rw[if_neg hne,if_pos rfl,if_pos rfl])
 have l2:∀ x a b (y1 y2:Nat->Rat),E (Ev (Ev A i x) j fun c=>a*y1 c+b*y2 c)=a*E (Ev (Ev A i x) j y1)+b*E (Ev (Ev A i x) j y2):=fun x a b y1 y2=>h.lin _ j hj a b y1 y2;have l1:∀ y a b (x1 x2:Nat->Rat),E (Ev (Ev A i fun c=>a*x1 c+b*x2 c) j y)=a*E (Ev (Ev A i x1) j y)+b*E (Ev (Ev A i x2) j y):=fun y a b x1 x2=>by
  rw[comm,comm,comm];exact h.lin _ i hi a b x1 x2
 have key:=z (fun c=>1*u c+1*v c);rw[l1,l2,l2,z u,z v]at key;have hA:Ev (Ev A i u) j v=A:=by rw[hu,Km,hv,Km]
 rw[hA]at key;rw[<-hu,<-hv];grind
theorem Lg.sum{n:Nat}{E:(Nat->Nat->Rat)->Rat}(h:Lg n E)(A:Nat->Nat->Rat){i:Nat}(hi:i < n)(t:Nat->Rat)(f:Nat->Nat->Rat):∀ N,E (Ev A i fun c=>sm N fun k=>t k*f k c)=sm N fun k=>t k*E (Ev A i (f k))
 | 0=>by
  have:=h.lin A i hi 0 0 (fun _=>0) (fun _=>0);have e:(fun c=>sm 0 fun k=>t k*f k c)=fun c:Nat=>(0:Rat)*(0:Rat)+0*0:=by funext c;rw[Fa];grind
  rw[e,this,Fa];grind
 | N+1=>by
  have e:(fun c=>sm (N+1) fun k=>t k*f k c)=fun c=>1*(sm N fun k=>t k*f k c)+t N*f N c:=by funext c;rw[Bz];grind
  rw[e,h.lin A i hi,Lg.sum h A hi t f N,Bz];grind
def er(c:Nat):Nat->Rat:=fun k=>if k=c then 1 else 0
theorem Lg.perm{n:Nat}{E:(Nat->Nat->Rat)->Rat}(h:Lg n E):∀(d:Nat) (A:Nat->Nat->Rat) (s:Nat->Nat) (m:Nat),n=m+d->(∀ i,i < n->s i < n/\A i=er (s i))->(∀ i,i < m->s i=i)->E A=0
 | 0,A,s,m,hd,hA,hs=>by
  rw[<-h.one];refine h.cong _ _ fun i j hi hj=>?_;rw[(hA i hi).2,hs i Aa];show(if j=i then(1:Rat)else 0)=if i=j then 1 else 0;by_cases e:i=j
  ·rw[if_pos e,if_pos e.symm]
  ·rw[if_neg e,if_neg (Ne.symm e)]
 | d+1,A,s,m,hd,hA,hs=>by
  by_cases hinj:∃ i j,i < n/\j < n/\i≠j/\s i=s j
  ·obtain⟨i,j,hi,hj,hne,e⟩:=hinj
   exact h.alt A i j hi hj hne (by rw[(hA i hi).2,(hA j hj).2,e])
  ·have hinj':∀ i j,i < n->j < n->s i=s j->i=j:=fun i j hi hj e=>Classical.byContradiction fun hne=>hinj ⟨i,j,hi,hj,hne,e⟩
   have hex:∃ j,j < n/\s j=m:=by
    refine Classical.byContradiction fun hno=>?_;have hno':∀ j,j < n->s j≠m:=fun j hj e=>hno ⟨j,hj,e⟩;obtain⟨n',rfl⟩:∃ n',n=n'+1:=⟨n - 1,Aa⟩
    obtain⟨i,j,hij,hj,q⟩:=kM n' (fun i=>if s i < m then s i else s i - 1) (fun i hi=>by
     have h1:=(hA i hi).1;have h2:=hno' i hi;show(if s i < m then s i else s i - 1) < n'
     split<;>omega)
    have h1:=hno' i Aa;have h2:=hno' j hj;have:s i=s j:=by
     have q':(if s i < m then s i else s i - 1)=(if s j < m then s j else s j - 1):=q
     split at q'<;>split at q'<;>omega
    have:=hinj' i j Aa hj this;omega
   obtain⟨j,hj,e⟩:=hex;have hjm:m<=j:=by
    rcases Nat.lt_or_ge j m with a | a
    ·have:=hs j a;omega
    ·exact a
   by_cases hjm':j=m
   ·subst hjm'
    refine Lg.perm h d A s (j+1) Aa hA fun i hi=>?_;rcases Nat.lt_or_ge i j with a | a
    ·exact hs i a
    ·obtain rfl:i=j:=by omega
     exact e
   ·have h2:=Lg.perm h d (Ev (Ev A m (A j)) j (A m)) (fun i=>if i=m then s j else if i=j then s m else s i) (m+1) Aa (fun i hi=>by
     by_cases a:i=m
     ·subst a
      simp only[if_pos];refine⟨by rw[e];exact hi,?_⟩
      funext c
      show(if i=j then A i c else if i=i then A j c else A i c)=_;rw[if_neg (Ne.symm hjm'),if_pos rfl,(hA j hj).2]
     ·by_cases b:i=j
      ·subst b
       rw[if_neg a,if_pos rfl];refine⟨(hA m Aa).1,?_⟩
       funext c
       show(if i=i then A m c else _)=_;rw[if_pos rfl,(hA m Aa).2]
      ·rw[if_neg a,if_neg b]
       refine⟨(hA i hi).1,?_⟩
       funext c
       show(if i=j then A m c else if i=m then A j c else A i c)=_;rw[if_neg b,if_neg a,(hA i hi).2]) (fun i hi=>by
     by_cases a:i=m
     ·simp only[if_pos a];rw[e,a]
     ·simp only[if_neg a]
      rw[if_neg Aa];exact hs i Aa)
    have h3:=h.swap A (i:=m) (j:=j) Aa hj (Ne.symm hjm');rw[h2]at h3;grind
theorem cK(v:Nat->Rat)(n c:Nat)(h:c < n):v c=sm n fun k=>v k*er k c:=by
 rw[X7 (f:=fun k=>v k*er k c) h (fun i _ hne=>by show v i*(if c=i then 1 else 0)=0;rw[if_neg (Ne.symm hne)];grind)];show v c=v c*(if c=c then 1 else 0);rw[if_pos rfl];grind
theorem Lg.all{n:Nat}{E:(Nat->Nat->Rat)->Rat}(h:Lg n E):∀(m:Nat),m<=n->∀(A:Nat->Nat->Rat),(∀ i,m<=i->i < n->∃ c,c < n/\A i=er c)->E A=0
 | 0,_,A,hA=>by
  have hA':∀ i,∃ c,i < n->c < n/\A i=er c:=fun i=>by
   by_cases hi:i < n
   ·obtain⟨c,hc⟩:=hA i (Nat.zero_le _) hi;exact⟨c,fun _=>hc⟩
   ·exact⟨0,fun h=>absurd h hi⟩
  exact h.perm n A (fun i=>Classical.choose (hA' i)) 0 Aa (fun i hi=>Classical.choose_spec (hA' i) hi) (fun i hi=>Aa)
 | m+1,hm,A,hA=>by
  have e:E A=E (Ev A m fun c=>sm n fun k=>A m k*er k c):=by
   refine h.cong _ _ fun i j hi hj=>?_;unfold Ev
   split
   ·rename_i e;rw[e];exact cK _ _ _ hj
   ·rfl
  rw[e,h.sum A Aa];rw[show sm n (fun k=>A m k*E (Ev A m (er k)))=sm n fun _=>0 from Cz fun k hk=>by
   rw[Lg.all h m Aa (Ev A m (er k)) fun i hi hin=>?_]
   ·grind
   ·by_cases a:i=m
    ·exact⟨k,hk,by subst a;funext c;show(if i=i then er k c else _)=_;rw[if_pos rfl]⟩
    ·obtain⟨c,hc1,hc2⟩:=hA i Aa hin
     exact⟨c,hc1,by rw[<-hc2];funext x;show(if i=m then er k x else A i x)=_;rw[if_neg a]⟩]
  exact MP n
theorem XG(f:Nat->Rat):∀ n,sm (n+1) f=sm (n+1) fun i=>f (n - i)
 | 0=>by rw[Bz,Bz,Fa,Fa]
 | n+1=>by
  rw[Bz,XG f n,QM (n+1)];rw[show sm (n+1) (fun i=>f (n+1 - (i+1)))=sm (n+1) (fun i=>f (n - i))from Cz fun i _=>by congr 1;omega];rw[Nat.sub_zero];grind
theorem conv{N p q j:Nat}{X Y:Nat->Rat}(hp:p < N)(hX:Be (p+1) X) :
  sm N (fun c=>(if c<=p then X (p - c)else 0)*(if j<=q+c then Y (q+c - j)else 0))=if j<=p+q then cv X Y (p+q - j)else 0:=by
 have h1:sm N (fun c=>(if c<=p then X (p - c)else 0)*(if j<=q+c then Y (q+c - j)else 0))=sm (p+1) (fun c=>(if c<=p then X (p - c)else 0)*(if j<=q+c then Y (q+c - j)else 0)):=
  Pt (fun i hi=>by rw[if_neg Aa];grind) Aa
 rw[h1,XG];by_cases hj:j<=p+q
 ·rw[if_pos hj,Wd hX]
  refine Cz fun i hi=>?_;rw[if_pos Aa,show p - (p - i)=i from by omega];by_cases a:i<=p+q - j
  ·rw[if_pos Aa,if_pos a];congr 2;omega
  ·rw[if_neg Aa,if_neg a]
 ·rw[if_neg hj]
  rw[show sm (p+1) (fun i=>(if p - i<=p then X (p - (p - i))else 0)*(if j<=q+(p - i)then Y (q+(p - i) - j)else 0))=sm (p+1) fun _=>0 from Cz fun i hi=>by
   rw[if_neg (show ¬ j<=q+(p - i) by omega)];grind]
  exact MP _
def gx(n k m:Nat)(G:Nat->Rat):Nat->Nat->Rat:=fun i c =>
 if i < k then(if c < n+k then(if c<=n+i then G (n+i - c)else 0)else 0)
 else if i < k+m then(if c=n+i then 1 else 0)else(if c+m=i then 1 else 0)
theorem IR:pone≠pz:=fun e=>by have:=congrFun e 0;exact absurd this Ab
def VK(s:Nat)(q:Rat):Prop:=∃ z:Int,q=(z:Rat)/\z.natAbs < bp s
theorem VK.mul{s t:Nat}{p q:Rat}(h:VK s p)(k:VK t q):VK (s+t) (p*q):=by
 obtain⟨x,rfl,hx⟩:=h;obtain⟨y,rfl,hy⟩:=k;refine⟨x*y,(Rat.intCast_mul x y).symm,?_⟩;rw[Int.natAbs_mul,MQ];exact Nat.mul_lt_mul'' hx hy
theorem VK.sg{s:Nat}{q:Rat}(h:VK s q)(i:Nat):VK s (Hp.sg i*q):=by
 obtain⟨x,rfl,hx⟩:=h;unfold Hp.sg
 split
 ·exact⟨x,Ad,hx⟩
 ·exact⟨-x,by rw[Rat.intCast_neg];grind,by rw[Int.natAbs_neg];exact hx⟩
theorem VK.up{s t:Nat}{q:Rat}(h:VK s q)(k:s<=t):VK t q:=by
 obtain⟨x,rfl,hx⟩:=h;exact⟨x,rfl,Nat.lt_of_lt_of_le hx (Jf k)⟩
theorem VK.zero(s:Nat):VK s 0:=⟨0,rfl,Ia s⟩
/-! ### the resultant with the derivative -/
theorem Dt{F:Nat->Rat}(h:ZI F):ZI (pd F):=fun i=>by
 obtain⟨n,e⟩:=h (i+1);exact⟨((i+1:Nat):Int)*n,by unfold pd;rw[e,Rat.intCast_mul];rfl⟩
theorem Oo{F:Nat->Rat}{n:Nat}(h:Be (n+1) F):Be n (pd F):=fun i hi=>by unfold pd;rw[h (i+1) Aa];exact Rat.mul_zero _
theorem Ht{F:Nat->Rat}(fF:Ae F):pl (pd F)=pl F - 1:=by
 by_cases h:pl F=0
 ·rw[(BI fF).1 h]
  have:pd pz=pz:=by funext i;exact Rat.mul_zero _
  rw[this,BR]
 ·obtain⟨m,hm⟩:∃ m,pl F=m+1:=⟨pl F - 1,Aa⟩
  have hs:Be (m+1) F:=hm▸AA fF;have ht:=EA fF Aa;rw[hm]at ht ⊢;refine Iq (Oo hs) fun h0=>?_;obtain⟨k,rfl⟩:∃ k,m=k+1:=⟨m - 1,Aa⟩
  show((k+1:Nat):Rat)*F (k+1)≠0;intro e;rcases Rat.mul_eq_zero.1 e with e | e
  ·have:((k+1:Nat):Rat)=((0:Nat):Rat):=e
   have:=Rat.natCast_inj.1 this;omega
  ·exact ht e
structure AU(F:Nat->Rat):Prop where
 z:ZI F
 f:Ae F
 n:F≠pz
 l:0 < ld F
 c:cn F=1
theorem AU.pp{F:Nat->Rat}(hz:ZI F)(h:Ae F)(h0:F≠pz):AU (Hp.pp F):=⟨Ha hz h,Dx h,TV hz h h0,Lj hz h h0,QK hz h h0⟩
theorem AU.pcn{F:Nat->Rat}(h:AU F):Hp.pcn F=1:=by
 have:=h.l;unfold Hp.pcn;rw[if_neg Ad,h.c];rfl
theorem AU.self{F:Nat->Rat}(h:AU F):Hp.pp F=F:=by
 have e:=MR h.z h.f h.n;rw[h.pcn]at e;rw[show(((1:Int)):Rat)=1 from rfl,Ct]at e;exact e.symm
theorem AU.pos{F:Nat->Rat}(h:AU F):0 < pl F:=AL h.f h.n
theorem Dc{F:Nat->Rat}(h:Ae F):∃ S,∀ i,qsz (F i)<=S:=by
 obtain⟨n,h⟩:=h;induction n generalizing F with
 | zero=>exact⟨1,fun i=>by rw[h i (Nat.zero_le _)];decide⟩
 | succ n ih =>
  obtain⟨S,hS⟩:=ih h.tl;refine⟨max S (qsz (F 0)),fun i=>?_⟩
  match i with
  | 0=>exact Nat.le_max_right _ _
  | i+1=>exact Nat.le_trans (hS i) (Nat.le_max_left _ _)
theorem Dn{F G:Nat->Rat}(fF:Ae F)(fG:Ae G)(zF:ZI F)(zG:ZI G):GU F G (BC F G):=by
 obtain⟨S,hS⟩:=Dc fF;obtain⟨T,hT⟩:=Dc fG;exact(YZ fF fG zF zG (S:=max S T) (fun i=>Nat.le_trans (hS i) (Nat.le_max_left _ _)) (fun i=>Nat.le_trans (hT i) (Nat.le_max_right _ _))).1
theorem aB{F G:Nat->Rat}(h:Ae F)(k:Ae G)(hF:F≠pz)(hG:G≠pz):ld (cv F G)=ld F*ld G:=by
 have h1:=Du h k hF hG;have h2:=AL h hF;have h3:=AL k hG;unfold ld;rw[h1];have:=Si (n:=pl F - 1) (m:=pl G - 1) (by rw[show pl F - 1+1=pl F by omega];exact AA h) (by rw[show pl G - 1+1=pl G by omega];exact AA k);rw[show pl F+pl G - 1 - 1=pl F - 1+(pl G - 1) by omega];exact this
theorem AU.mul{F G:Nat->Rat}(h:AU F)(k:AU G):AU (cv F G):=
 ⟨h.z.cv k.z,h.f.cv k.f,fun e=>by rcases H6 h.f k.f e with e | e;exact h.n e;exact k.n e,by rw[aB h.f k.f h.n k.n];exact Rat.mul_pos h.l k.l,by rw[NW h.z k.z h.f k.f,h.c,k.c]⟩
theorem EN:AU pone:=by
 have e:pl pone=1:=Iq CP fun _=>by show(1:Rat)≠0;decide
 refine⟨fun i=>?_,CE,IR,?_,?_⟩
 ·match i with
  | 0=>exact⟨1,rfl⟩
  | i+1=>exact⟨0,rfl⟩
 ·unfold ld;rw[e];show(0:Rat) < 1;decide
 ·unfold cn;rw[e];rfl
theorem AU.one{F:Nat->Rat}(h:AU F)(h1:pl F<=1):F=pone:=by
 have hp:=h.pos;have e1:pl F=1:=by omega
 have hc:=h.c;have hl:=h.l;unfold ld at hl;unfold cn at hc;rw[e1]at hl hc;have hc':Int.gcd ((0:Nat):Int) (F 0).num=1:=hc;obtain⟨z,hz⟩:=h.z 0;rw[hz]at hc' hl;have hn:((z:Int):Rat).num=z:=rfl;rw[hn]at hc';have hz0:0 < z:=by exact_mod_cast hl
 have h2:z.natAbs=1:=by simpa[Int.gcd] using hc'
 have h3:z=1:=by omega
 funext i
 match i with
 | 0=>rw[hz,h3];rfl
 | i+1=>exact(AA h.f) (i+1) Aa
theorem AU.gcd{F G:Nat->Rat}(h:AU F)(zG:ZI G)(fG:Ae G):AU (BC F G)/\Iw F (BC F G)/\Iw G (BC F G)/\Dv (BC F G) F/\Dv (BC F G) G/\∃ U V,Ae U/\Ae V/\pad (cv U F) (cv V G)=BC F G:=by
 have k:=Dn h.f fG h.z zG;obtain⟨D,hD⟩:∃ D,D=BC F G:=⟨_,rfl⟩
 rw[<-hD]at k ⊢;obtain⟨f1,z1,l1,c1,g1⟩:=k;have k':GU F G D:=⟨f1,z1,l1,c1,g1⟩
 have hn:D≠pz:=fun e=>by
  have:=g1.2.2.1;rw[e,KU]at this;exact h.n (La this)
 refine⟨⟨z1,f1,hn,l1 hn,by rw[c1,h.c,Nat.gcd_one_left]⟩,k'.zdv h.z h.f hn,k'.symm_.zdv zG fG hn,(FQ D).trans g1.2.2.1,(FQ D).trans g1.2.2.2.1,?_⟩;obtain⟨U,V,fU,fV,e⟩:=g1.bez h.f fG;refine⟨psc (ld D) U,psc (ld D) V,fU.psc _,fV.psc _,?_⟩;have e2:psc (ld D) (pad (cv U F) (cv V G))=psc (ld D) (mn D):=by rw[e]
 have e3:psc (ld D) (mn D)=D:=by
  unfold mn;rw[Cb];have:=CV f1 hn;rw[show ld D*(1 / ld D)=1 by grind,Ct]
 rw[e3]at e2;rw[Cv,Cv,<-e2]
 funext n;simp only[pad,psc];grind
theorem Nf{F D:Nat->Rat}(fD:Ae D)(nD:D≠pz)(h:Iw F D):ZI (pq F D)/\Ae (pq F D)/\F=cv (pq F D) D:=by
 obtain⟨Q,zQ,fQ,e⟩:=h;have:=(JG fQ fD nD).1;rw[<-e]at this;rw[this];exact⟨zQ,fQ,e⟩
theorem AU.quot{F D:Nat->Rat}(h:AU F)(k:AU D)(hd:Iw F D):AU (pq F D)/\F=cv (pq F D) D:=by
 obtain⟨zQ,fQ,e⟩:=Nf k.f k.n hd;have nQ:pq F D≠pz:=fun e2=>h.n (by rw[e,e2,Cn]);have h1:ld F=ld (pq F D)*ld D:=by rw[<-aB fQ k.f nQ k.n,<-e]
 have h2:cn F=cn (pq F D)*cn D:=by rw[<-NW zQ k.z fQ k.f,<-e]
 refine⟨⟨zQ,fQ,nQ,?_,?_⟩,e⟩
 ·have a:=h.l;have b:=k.l
  rw[h1]at a;rcases Std.lt_trichotomy 0 (ld (pq F D))with c | c | c
  ·exact c
  ·rw[<-c]at a;rw[Rat.zero_mul]at a;exact absurd a Ab
  ·exfalso
   have:=Rat.mul_neg_iff_of_pos_right b |>.2 c
   grind
 ·rw[h.c,k.c]at h2;omega
def Cr(F G:Nat->Rat):Prop:=∃ U V,Ae U/\Ae V/\pad (cv U F) (cv V G)=pone
theorem Cr.symm{F G:Nat->Rat}(h:Cr F G):Cr G F:=by
 obtain⟨U,V,a,b,e⟩:=h;exact⟨V,U,b,a,by rw[<-e];funext n;simp only[pad];grind⟩
theorem Cr.dv{F G D:Nat->Rat}(h:Cr F G)(k:Dv D F):Cr D G:=by
 obtain⟨U,V,a,b,e⟩:=h;obtain⟨Q,fQ,rfl⟩:=k;exact⟨cv U Q,V,a.cv fQ,b,by rw[Ag];exact e⟩
theorem Cr.euclid{F G H:Nat->Rat}(h:Cr F G)(fH:Ae H)(k:Dv F (cv G H)):Dv F H:=by
 obtain⟨U,V,a,b,e⟩:=h;have h1:Dv F (cv (pad (cv U F) (cv V G)) H):=by
  rw[CG];refine Dv.pad ?_ ?_
  ·rw[Ag,Av F H,<-Ag]
   exact(Dv.refl F).mul (a.cv fH)
  ·rw[Ag];exact k.mul b
 rw[e,Br]at h1;exact h1
theorem Cr.self{F:Nat->Rat}(fF:Ae F)(h:Cr F F):pl F=1:=by
 obtain⟨U,V,a,b,e⟩:=h;have h1:Dv F pone:=by rw[<-e];exact((Dv.refl F).mul a).pad ((Dv.refl F).mul b)
 have hn:F≠pz:=fun e2=>IR (La (by rw[e2]at h1;exact h1));have h2:=Dv.le fF CE IR h1;have h3:pl pone<=1:=BD CP;have:=AL fF hn;omega
theorem Cr.of_gcd{F G:Nat->Rat}(h:AU F)(zG:ZI G)(fG:Ae G)(h1:pl (BC F G)<=1):Cr F G:=by
 obtain⟨k,-,-,-,-,U,V,a,b,e⟩:=h.gcd zG fG;rw[k.one h1]at e;exact⟨U,V,a,b,e⟩
theorem Cr.gcd{F G:Nat->Rat}(c:Cr F G)(h:AU F)(zG:ZI G)(fG:Ae G):BC F G=pone:=by
 obtain⟨k,-,-,d1,d2,-⟩:=h.gcd zG fG;have h1:=Cr.self k.f ((c.dv d1).symm.dv d2);exact k.one Aa
theorem Bd{F:Nat->Rat}(h:Ae F):Ae (pd F):=by
 obtain⟨n,h⟩:=h;exact⟨n,Oo (h.mono (Nat.le_succ n))⟩
theorem jK{F:Nat->Rat}(fF:Ae F)(hn:F≠pz)(h:Dv F (pd F)):pl F=1:=by
 have h1:=Ht fF;have h2:=AL fF hn;rcases Nat.lt_or_ge 1 (pl F)with h3 | h3
 ·have h4:pd F≠pz:=fun e=>by rw[e,BR]at h1;omega
  have:=Dv.le fF (Bd fF) h4 h;omega
 ·omega
def pw(F:Nat->Rat):Nat->Nat->Rat
 | 0=>pone
 | n+1=>cv (pw F n) F
theorem GN{F:Nat->Rat}(h:Ae F):∀ n,Ae (pw F n)
 | 0=>CE
 | n+1=>(GN h n).cv h
theorem JL(n:Nat):pw pone n=pone:=by
 induction n with
 | zero=>rfl
 | succ n ih=>show cv (pw pone n) pone=pone;rw[ih,Ew]
theorem Sj(F G:Nat->Rat):∀ n,pw (cv F G) n=cv (pw F n) (pw G n)
 | 0=>(Br pone).symm
 | n+1=>by
  show cv (pw (cv F G) n) (cv F G)=cv (cv (pw F n) F) (cv (pw G n) G);rw[Sj F G n,Ag,Ag,<-Ag (pw G n) F G,Av (pw G n) F,Ag]
theorem Pb{F:Nat->Rat}(h:AU F):∀ n,AU (pw F n)
 | 0=>EN
 | n+1=>(Pb h n).mul h
theorem XI{F:Nat->Rat}(h:AU F):∀ n,pl (pw F n)=n*(pl F - 1)+1
 | 0=>by show pl pone=_;rw[show pl pone=1 from Iq CP fun _=>by show(1:Rat)≠0;decide];omega
 | n+1=>by
  have h1:=Du (Pb h n).f h.f (Pb h n).n h.n;have h2:=h.pos;show pl (cv (pw F n) F)=_;rw[h1,XI h n,Nat.succ_mul];omega
theorem SI{U W V C D:Nat->Rat}(fU:Ae U)(fW:Ae W)(fV:Ae V)(fC:Ae C)(h:Dv D C):∀ N,Dv D (pw W N)->Dv D (pw (pad (cv U W) (cv V C)) N):=by
 intro N hN;have key:∀ n,∃ X,Ae X/\pw (pad (cv U W) (cv V C)) n=pad (cv (pw U n) (pw W n)) (cv X C):=by
  intro n;induction n with
  | zero=>exact⟨pz,Ae.pz,by show pone=pad (cv pone pone) (cv pz C);rw[Cn,Br];funext i;simp only[pad,pz];grind⟩
  | succ n ih =>
   obtain⟨X,fX,e⟩:=ih;refine⟨pad (cv (cv (pw U n) (pw W n)) V) (cv X (pad (cv U W) (cv V C))),?_,?_⟩
   ·exact(((GN fU n).cv (GN fW n)).cv fV).pad (fX.cv ((fU.cv fW).pad (fV.cv fC)))
   ·show cv (pw (pad (cv U W) (cv V C)) n) (pad (cv U W) (cv V C))=pad (cv (cv (pw U n) U) (cv (pw W n) W)) _
    rw[e,CG,Ez (cv (pw U n) (pw W n)),CG (cv (cv (pw U n) (pw W n)) V)];have e1:cv (cv (pw U n) (pw W n)) (cv U W)=cv (cv (pw U n) U) (cv (pw W n) W):=by
     rw[Ag,Ag,<-Ag (pw W n) U W,Av (pw W n) U,Ag]
    have e2:cv (cv X C) (pad (cv U W) (cv V C))=cv (cv X (pad (cv U W) (cv V C))) C:=by
     rw[Ag,Av C,<-Ag]
    rw[e1,e2,Ag (cv (pw U n) (pw W n)) V C]
    funext i;simp only[pad];grind
 obtain⟨X,fX,e⟩:=key N;rw[e];exact(hN.mul (GN fU N)).pad (h.mul fX)
/-! ### the rounds -/
noncomputable def yw(W C:Nat->Rat):Nat->(Nat->Rat)×(Nat->Rat)
 | 0=>(W,C)
 | k+1=>(BC (yw W C k).1 (yw W C k).2,pq (yw W C k).2 (BC (yw W C k).1 (yw W C k).2))
noncomputable def ya(W C:Nat->Rat)(k:Nat):Nat->Rat:=pq (yw W C k).1 (yw W C (k+1)).1
noncomputable def yl(W C:Nat->Rat):Nat->List ((Nat->Rat)×Nat)
 | 0=>[]
 | k+1=>yl W C k ++ (if 1 < pl (ya W C k)then [(ya W C k,k+1)] else [])
section
variable{W C:Nat->Rat}
theorem EU(hW:AU W)(hC:AU C):∀ k,AU (yw W C k).1/\AU (yw W C k).2
 | 0=>⟨hW,hC⟩
 | k+1=>by
  obtain⟨h1,h2⟩:=EU hW hC k;obtain⟨k1,k2,k3,-⟩:=h1.gcd h2.z h2.f;exact⟨k1,(h2.quot k1 k3).1⟩
theorem Ki(hW:AU W)(hC:AU C)(k:Nat):AU (ya W C k)/\(yw W C k).1=cv (ya W C k) (yw W C (k+1)).1/\(yw W C k).2=cv (yw W C (k+1)).2 (yw W C (k+1)).1/\Iw (yw W C k).1 (yw W C (k+1)).1/\Iw (yw W C k).2 (yw W C (k+1)).1:=by
 obtain⟨h1,h2⟩:=EU hW hC k;obtain⟨k1,k2,k3,-⟩:=h1.gcd h2.z h2.f;have q1:=h1.quot k1 k2;have q2:=h2.quot k1 k3;exact⟨q1.1,q1.2,q2.2,k2,k3⟩
theorem IY{A B D:Nat->Rat}(h:Iw A B)(k:Iw B D):Iw A D:=by
 obtain⟨Q,a,b,rfl⟩:=h;obtain⟨R,c,d,rfl⟩:=k;exact⟨cv Q R,a.cv c,b.cv d,(Ag _ _ _).symm⟩
theorem KA{A B:Nat->Rat}(h:Iw A B):Dv B A:=by
 obtain⟨Q,a,b,rfl⟩:=h;exact⟨Q,b,rfl⟩
theorem Tg(hW:AU W)(hC:AU C):∀ k,Iw W (yw W C k).1/\Iw C (yw W C k).2
 | 0=>⟨⟨pone,EN.z,CE,(Br _).symm⟩,⟨pone,EN.z,CE,(Br _).symm⟩⟩
 | k+1=>by
  obtain⟨h1,h2⟩:=Tg hW hC k;obtain⟨p,e1,e2,d1,d2⟩:=Ki hW hC k;have q:=(EU hW hC (k+1)).1;exact⟨IY h1 d1,IY h2 ⟨(yw W C (k+1)).1,q.z,q.f,by rw[Av];exact e2⟩⟩
theorem XP(hW:AU W)(hC:AU C):∀ k,(∀ j,j<=k->1 < pl (yw W C j).1)->pl (yw W C k).2+k<=pl C
 | 0,_=>by show pl C+0<=_;omega
 | k+1,h=>by
  have h1:=XP hW hC k fun j hj=>h j Aa;have h2:=h (k+1) (Nat.le_refl _);obtain⟨p,e1,e2,-⟩:=Ki hW hC k;obtain⟨q1,q2⟩:=EU hW hC (k+1);have h3:=Du q2.f q1.f q2.n q1.n;rw[<-e2]at h3;omega
end
noncomputable def rd(F:Nat->Rat):Nat->Rat:=psc (1 / ((cn F:Nat):Rat)) F
theorem aK:rd pz=pz:=FM _
theorem U5(F:Nat->Rat):rd F=psc (if ld F < 0 then -1 else 1) (pp F):=by
 unfold rd pp pcn
 split
 ·rw[Cb]
  congr 1;have:(((-(cn F:Int):Int)):Rat) = -((cn F:Nat):Rat):=by simp;rfl
  rw[this];grind
 ·rw[Ct];rfl
theorem Nb(p:Prop)[Decidable p]:(if p then(-1:Rat)else 1)=1\/(if p then(-1:Rat)else 1) = -1:=by split;exact .inr rfl;exact .inl rfl
theorem K3{e:Rat}(h:e=1\/e = -1):e≠0:=by rcases h with rfl | rfl<;>decide
theorem Wj{e:Rat}{F:Nat->Rat}(h:e=1\/e = -1)(z:ZI F):ZI (psc e F):=by
 rcases h with rfl | rfl
 ·rw[Ct];exact z
 ·exact z.psc (-1)
theorem Wo{e:Rat}{F:Nat->Rat}(h:e=1\/e = -1)(i:Nat):qsz (psc e F i)=qsz (F i):=by
 rcases h with rfl | rfl
 ·rw[Ct]
 ·have:psc (-1) F i = - F i:=by show -1*F i=_;grind
  rw[this,IU]
noncomputable def nx(A B:Nat->Rat):Nat->Rat:=
 open Classical in if pr A B=pz then pz else psc (if 0 < ld (pr A B)then -1 else 1) (pp (DD (pl (pr A B)) (pr A B)))
theorem JS{A B:Nat->Rat}(h:pr A B=pz):nx A B=pz:=by unfold nx;rw[if_pos h]
theorem Yd{A B:Nat->Rat}(h:pr A B≠pz):nx A B=psc (if 0 < ld (pr A B)then -1 else 1) (pp (DD (pl (pr A B)) (pr A B))):=by unfold nx;rw[if_neg h]
section
variable{A B:Nat->Rat}
theorem Ue{R:Nat->Rat}{n:Nat}(hs:Be n R)(h0:R≠pz):(0 < Lh n R↔0 < ld R)/\Lh n R≠0:=by
 have fR:Ae R:=⟨n,hs⟩
 obtain⟨-,e⟩:=Rx hs h0;have hp:=Lj (FI hs) (EF (n:=n) fR) (Px (n:=n) fR h0);have hc:Lh n R≠0:=fun e0=>h0 (by rw[<-e,e0,QW]);have hl:ld R=Lh n R*ld (pp (DD n R)):=by
  conv=>lhs;rw[<-e]
  exact JE hc (Dx (EF (n:=n) fR))
 refine⟨?_,hc⟩;rw[hl];constructor
 ·intro h;exact Rat.mul_pos h hp
 ·intro h
  rcases Std.lt_trichotomy 0 (Lh n R)with a | a | a
  ·exact a
  ·exact absurd a.symm hc
  ·exfalso
   have:=(Rat.mul_neg_iff_of_pos_right hp).2 a;grind
theorem Kz(fA:Ae A)(fB:Ae B)(h0:B≠pz):ZI (nx A B)/\Ae (nx A B)/\pl (nx A B)=pl (pr A B)/\pl (nx A B) < pl B/\(pr A B≠pz->∃ c:Rat,0 < c/\pr A B=psc (-c) (nx A B)):=by
 have hp:=AL fB h0;have hs:=Et fA fB h0;have fR:=EX fA fB;have hlt:=BD hs;by_cases hR:pr A B=pz
 ·rw[JS hR,hR]
  exact⟨ZI.pz,Ae.pz,rfl,by rw[BR];omega,fun h=>absurd rfl h⟩
 ·obtain⟨R,hRe⟩:∃ R,R=pr A B:=⟨_,rfl⟩
  rw[Yd hR];rw[<-hRe]at hR fR hlt ⊢;have hsR:=AA fR;have zc:=FI hsR;have fc:=EF (n:=pl R) fR;have nc:=Px (n:=pl R) fR hR;have hpm:=Nb (0 < ld R);have hpl:pl (psc (if 0 < ld R then(-1:Rat)else 1) (pp (DD (pl R) R)))=pl R:=by
   rw[Ec (K3 hpm) (Dx fc),DI zc fc,M5 fR]
  refine⟨Wj hpm (Ha zc fc),(Dx fc).psc _,hpl,by rw[hpl];omega,fun _=>?_⟩;obtain⟨-,e⟩:=Rx hsR hR;obtain⟨k1,k2⟩:=Ue hsR hR;by_cases hl:0 < ld R
  ·refine⟨Lh (pl R) R,k1.2 hl,?_⟩
   rw[if_pos hl,Cb]
   conv=>lhs;rw[<-e]
   congr 1;grind
  ·refine⟨-Lh (pl R) R,?_,?_⟩
   ·have:¬ 0 < Lh (pl R) R:=fun q=>hl (k1.1 q)
    grind
   ·rw[if_neg hl,Cb]
    conv=>lhs;rw[<-e]
    congr 1;grind
end
theorem O7{P Q:Nat->Rat}{q:Rat}(zP:ZI P)(zQ:ZI Q)(fQ:Ae Q)(nQ:Q≠pz)(hq:q≠0)(e:P=psc q Q):pp P=pp Q:=by
 have fP:Ae P:=by rw[e];exact fQ.psc q
 have nP:P≠pz:=fun h=>nQ ((BI fQ).1 (by rw[<-Ec hq fQ,<-e,h,BR]));have h1:=AU.pp zP fP nP;have h2:=AU.pp zQ fQ nQ;have hcP:(pcn P:Rat)≠0:=fun h=>Dl zP fP nP (by exact_mod_cast h);have hcQ:(pcn Q:Rat)≠0:=fun h=>Dl zQ fQ nQ (by exact_mod_cast h);obtain⟨r,hr⟩:∃ r:Rat,r=1 / (pcn P:Rat)*q*(pcn Q:Rat):=⟨_,rfl⟩
 have hr0:r≠0:=by rw[hr];grind
 have e2:pp P=psc r (pp Q):=by
  have e3:=MR zQ fQ nQ
  conv=>lhs;unfold pp;rw[e,e3]
  rw[Cb,Cb,hr];congr 1;rw[<-e3,<-e]
 have hrp:0 < r:=by
  have a:=h1.l;rw[e2,JE hr0 h2.f]at a;have b:=h2.l;rcases Std.lt_trichotomy 0 r with c | c | c
  ·exact c
  ·exact absurd c.symm hr0
  ·exfalso
   have:=(Rat.mul_neg_iff_of_pos_right b).2 c;grind
 have e4:psc ((r.den:Int):Rat) (pp P)=psc ((r.num:Int):Rat) (pp Q):=by
  rw[e2,Cb];congr 1;have:=Iy r;have hd:((r.den:Nat):Rat)≠0:=Jd r.den_pos;have h5:(((r.den:Int)):Rat)=((r.den:Nat):Rat):=rfl;rw[h5]
  conv=>lhs;rw[this]
  grind
 have hn:r.num≠0:=fun h=>hr0 (Rat.num_eq_zero.1 h);have hdn:(r.den:Int)≠0:=by have:=r.den_pos;omega
 have c1:=I8 hdn h1.z h1.f;have c2:=I8 hn h2.z h2.f;rw[e4,c2,h1.c,h2.c]at c1;have hnp:0<=r.num:=Rat.num_nonneg.2 Ad;have hr1:r=1:=by
  have h3:r.num=(r.den:Int):=by omega
  rw[Iy r,h3];have hd:((r.den:Nat):Rat)≠0:=Jd r.den_pos;show((r.den:Nat):Rat) / ((r.den:Nat):Rat)=1;grind
 rw[e2,hr1,Ct]
theorem eT{A B:Nat->Rat}(fA:Ae A)(fB:Ae B)(h0:B≠pz)(e:Rat){d:Rat}(hd:d≠0):pr (psc e A) (psc d B)=psc e (pr A B):=by
 have h1:psc d B≠pz:=fun h=>h0 ((BI fB).1 (by rw[<-Ec hd fB,h,BR]));have h2:=(Ir (fA.psc e) (fB.psc d) h1 (Q:=psc (e / d) (pq A B)) (R:=psc e (pr A B)) ((Dm A B).psc _) (by
  rw[Cv,MS,Cb,show e / d*d=e by grind]
  funext i
  have:=congrFun (JX A B) i;simp only[psc,pad]at this ⊢;rw[this];grind) (by rw[Ec hd fB];exact(Et fA fB h0).psc e)).2
 exact h2.symm
def FD(F0 G0:Nat->Rat)(D S:Nat)(A B:Nat->Rat):Prop:=∃ A' B' e d,I1 F0 G0 D S A' B'/\A=psc e A'/\B=psc d B'/\(e=1\/e = -1)/\(d=1\/d = -1)
section
variable{F0 G0 A B:Nat->Rat}{D S:Nat}
theorem FD.start(fF:Ae F0)(fG:Ae G0)(zF:ZI F0)(zG:ZI G0)(qF:∀ i,qsz (F0 i)<=S)(qG:∀ i,qsz (G0 i)<=S):FD F0 G0 (pl F0+pl G0) S (rd F0) (rd G0):=
 ⟨_,_,_,_,I1.start fF fG zF zG qF qG,U5 F0,U5 G0,Nb _,Nb _⟩
theorem FD.facts(h:FD F0 G0 D S A B):Ae A/\Ae B/\ZI A/\ZI B/\pl A+pl B<=D/\(∀ i,qsz (A i)<=(S+1)*2^D)/\(∀ i,qsz (B i)<=(S+1)*2^D):=by
 obtain⟨A',B',e,d,h,rfl,rfl,he,hd⟩:=h;have hr:=h.room rfl;refine⟨h.fA.psc _,h.fB.psc _,Wj he h.zA,Wj hd h.zB,?_,fun i=>by rw[Wo he];exact hr.1 i,fun i=>by rw[Wo hd];exact hr.2.1 i⟩;rw[Ec (K3 he) h.fA,Ec (K3 hd) h.fB];exact h.deg
theorem FD.step(h:FD F0 G0 D S A B)(h0:B≠pz):FD F0 G0 D S B (nx A B):=by
 obtain⟨A',B',e,d,h,rfl,rfl,he,hd⟩:=h;have hB':B'≠pz:=fun q=>h0 (by rw[q,FM]);have hst:=(h.step hB' (R:=D7 A' B' (pl A'+1 - pl B')) rfl).1;have hend:=(Kj h.fA h.fB hB').2;have hl:=Tk (CV h.fB hB') (pl A'+1 - pl B');have hpr:=eT h.fA h.fB hB' e (K3 hd);by_cases hR:pr A' B'=pz
 ·have e1:nx (psc e A') (psc d B')=pz:=JS (by rw[hpr,hR,FM])
  rw[hend,hR,FM,Iu]at hst;exact⟨B',pz,d,1,hst,rfl,by rw[e1,FM],hd,.inl rfl⟩
 ·have fR:=EX h.fA h.fB
  have hR2:pr (psc e A') (psc d B')≠pz:=fun q=>hR (by
   rw[hpr]at q;exact(BI fR).1 (by rw[<-Ec (K3 he) fR,q,BR]))
  refine⟨B',_,d,_,hst,rfl,?_,hd,Nb (0 < ld (pr (psc e A') (psc d B')))⟩;rw[Yd hR2];congr 1;have fR2:Ae (pr (psc e A') (psc d B')):=by rw[hpr];exact fR.psc e
  refine O7 (q:=((dl (pl (pr (psc e A') (psc d B'))) (pr (psc e A') (psc d B')):Nat):Rat)*e*(1 / ld B'^(pl A'+1 - pl B'))) (FI (AA fR2)) (F4 h.zA h.zB _) (Uu h.fA h.fB hB') (fun q=>hR ?_) ?_ ?_
  ·rw[q]at hend
   exact(BI fR).1 (by rw[<-Ec hl fR,<-hend,BR])
  ·have h1:=Ug (pl (pr (psc e A') (psc d B'))) (pr (psc e A') (psc d B'))
   have h2:=K3 he;grind
  ·rw[hend,Cb]
   unfold DD
   conv=>lhs;arg 2;rw[hpr]
   rw[Cb];congr 1;grind
end
noncomputable def jV(F G:Nat->Rat):Nat->(Nat->Rat)×(Nat->Rat)
 | 0=>(rd F,rd G)
 | k+1=>((jV F G k).2,nx (jV F G k).1 (jV F G k).2)
noncomputable def Cf(F G:Nat->Rat)(k:Nat):Nat->Rat:=(jV F G k).1
theorem MN(F G:Nat->Rat)(k:Nat):Cf F G (k+2)=nx (Cf F G k) (Cf F G (k+1)):=rfl
noncomputable def Gp(F G:Nat->Rat)(K:Nat):List (Nat->Rat):=(List.range K).map (Cf F G)
theorem Er(F G:Nat->Rat)(K:Nat):(Gp F G K).length=K:=by simp[Gp]
theorem Yy(F G:Nat->Rat)(K:Nat):Gp F G (K+1)=Gp F G K ++ [Cf F G K]:=by simp[Gp,List.range_succ]
theorem YD{F G:Nat->Rat}{K i:Nat}(h:i < (Gp F G K).length):(Gp F G K)[i]=Cf F G i:=by simp[Gp]
def Ow(F G:Nat->Rat)(K:Nat):Prop:=1<=K/\Cf F G K=pz/\∀ j,1<=j->j < K->Cf F G j≠pz
theorem Ow.uniq{F G:Nat->Rat}{K L:Nat}(h:Ow F G K)(k:Ow F G L):K=L:=by
 rcases Nat.lt_trichotomy K L with a | a | a
 ·exact absurd h.2.1 (k.2.2 K h.1 a)
 ·exact a
 ·exact absurd k.2.1 (h.2.2 L k.1 a)
theorem Jw{F G:Nat->Rat}{S:Nat}(fF:Ae F)(fG:Ae G)(zF:ZI F)(zG:ZI G)(qF:∀ i,qsz (F i)<=S)(qG:∀ i,qsz (G i)<=S):∀ k,(∀ j,1<=j->j<=k->Cf F G j≠pz)->FD F G (pl F+pl G) S (Cf F G k) (Cf F G (k+1))
 | 0,_=>FD.start fF fG zF zG qF qG
 | k+1,h=>(Jw fF fG zF zG qF qG k fun j a b=>h j a Aa).step (h (k+1) Aa Aa)
theorem O8{F G:Nat->Rat}{S:Nat}(fF:Ae F)(fG:Ae G)(zF:ZI F)(zG:ZI G)(qF:∀ i,qsz (F i)<=S)(qG:∀ i,qsz (G i)<=S)(k:Nat)(h:∀ j,1<=j->j<=k->Cf F G j≠pz):pl (Cf F G (k+1))+k<=pl G:=by
 induction k with
 | zero =>
  show pl (rd G)+0<=_;by_cases h0:G=pz
  ·rw[h0,aK,BR];omega
  ·rw[U5,Ec (K3 (Nb _)) (Dx fG),DI zG fG];omega
 | succ k ih =>
  have h1:=ih fun j a b=>h j a Aa;obtain⟨f1,f2,-⟩:=(Jw fF fG zF zG qF qG k fun j a b=>h j a Aa).facts;have h2:=(Kz f1 f2 (h (k+1) Aa Aa)).2.2.2.1;rw[MN];omega
theorem Gl{F G:Nat->Rat}{S:Nat}(fF:Ae F)(fG:Ae G)(zF:ZI F)(zG:ZI G)(qF:∀ i,qsz (F i)<=S)(qG:∀ i,qsz (G i)<=S):∃ K,Ow F G K/\K<=pl G+1:=by
 have hx:∃ k,Cf F G (k+1)=pz:=Classical.byContradiction fun hn=>by
  have h1:=O8 fF fG zF zG qF qG (pl G) fun j a b=>fun e=>hn ⟨j - 1,by rw[show j - 1+1=j by omega];exact e⟩;exact hn ⟨pl G,by
   obtain⟨f1,f2,-⟩:=(Jw fF fG zF zG qF qG (pl G) fun j a b=>fun e=>hn ⟨j - 1,by rw[show j - 1+1=j by omega];exact e⟩).facts;exact(BI f2).1 Aa⟩
 obtain⟨k,h1,h2⟩:=NJ hx;have hne:∀ j,1<=j->j < k+1->Cf F G j≠pz:=fun j a b e=>h2 (j - 1) Aa (by rw[show j - 1+1=j by omega];exact e);refine⟨k+1,⟨Aa,h1,hne⟩,?_⟩;have:=O8 fF fG zF zG qF qG k fun j a b=>hne j a Aa;omega
def Ro:Value->Bool
 | .bool _=>true
 | _=>false
def Nk(w:World)(v:Value):Prop:=∀ g∈blk v,∀ i c,w.cell? ⟨g,i,none⟩≠some (.bool c)
theorem Oj{w:World}{g:Nat}{t:TypeId}{cur:Array Value}{n c:Nat}(hb:w.heap[g]? = some (.cells cur t (0,0)))(h:∀ u∈cur.toList,Ro u=false):Nk w (.slice (some ⟨g,0,none⟩) n c):=by
 intro g' hg i b e;have:g'=g:=by simpa[blk,Value.ownBlock] using hg
 subst this;rw[cell_of_row w g' i cur t (0,0) hb]at e;have:=h (.bool b) (by
  have:=Array.mem_of_getElem? e;simpa using this)
 cases this
theorem YC{w:World}{g:Nat}{t:TypeId}{cur:Array Value}{n c:Nat}(hb:w.heap[g]? = some (.cells cur t (0,0)))(h:Nk w (.slice (some ⟨g,0,none⟩) n c)):∀ u∈cur.toList,Ro u=false:=by
 intro u hu;obtain⟨i,hi,rfl⟩:=List.getElem_of_mem hu;have h1:=h g (by simp[blk,Value.ownBlock]) i;rw[cell_of_row w g i cur t (0,0) hb]at h1;have hi':i < cur.size:=by simpa using hi
 rw[Array.getElem?_eq_getElem hi']at h1;rw[Array.getElem_toList];cases hc:cur[i]with
 | bool b=>exact absurd (by rw[hc]) (h1 b)
 | _=>rfl
section
variable{P:Program}
theorem N7(w:World)(k base:Nat)(t ty e:TypeId)(i:TypeInfo)(z:Value)(bytes:Nat)(ht:P.underlying t=some (.slice e))(hi:P.info? e=some i)(hz:i.zero=some z)
  (hsize:i.size=k) (hby:i.bytes=bytes) (hzs:z.cells.size=k) (hzd:nodig z.cells=true) (hsz:0 < k)
  (v:Value) (n:Nat) (xs:List Value) (hown:Ld k base e w v n xs)
  (a:Addr) (c:Nat) (news:List Value) (hl:news.length=k) (hnews:∀ j u,news[j]? = some u->w.cell? (a.add j)=some u) (h1:∀ u∈news,u.oneCell'=true) (hnd:∀ u∈news,Ah u=false)
  (h63:n+1<=maxLen) (hbytes:(n+1)*bytes<=140737488355328) (hbase:base<=w.heap.size) (hvb:Nk w v) (hnb:∀ u∈news,Ro u=false) (hzB:∀ u∈z.cells.toList,Ro u=false) :
  ∃ v' w',(Builtin.append_ #[t,t] ty #[v,.slice (some a) 1 c]).run P w = .ok v' w'/\Ld k base e w' v' (n+1) (xs ++ news)/\Cc (blk v) w w'/\Nk w' v':=by
 subst hsize;subst hby;have hl':news.length=1*i.size:=by rw[Nat.one_mul];exact hl
 have hlen:(xs ++ news).length=(n+1)*i.size:=by rw[List.length_append,hown.1,hl,Nat.succ_mul]
 have hsmall:n+1<=9223372036854775807:=by simp only[maxLen]at h63;omega
 have hzl:=BQ.1 hzd;have hzc:∀ m,∀ u∈(Builtin.zeroCells z.cells m).toList,Ah u=false:=by
  intro m u hu;simp only[Builtin.zeroCells,Array.toList_map,Array.toList_range,List.mem_map,List.mem_range]at hu;obtain⟨j,hj,rfl⟩:=hu;have:j % z.cells.size < z.cells.size:=Nat.mod_lt _ Aa;rw[getElem!_pos z.cells _ this];exact hzl _ Ac
 have hzb:∀ m,∀ u∈(Builtin.zeroCells z.cells m).toList,Ro u=false:=by
  intro m u hu;simp only[Builtin.zeroCells,Array.toList_map,Array.toList_range,List.mem_map,List.mem_range]at hu;obtain⟨j,hj,rfl⟩:=hu;have:j % z.cells.size < z.cells.size:=Nat.mod_lt _ Aa;rw[getElem!_pos z.cells _ this];exact hzB _ Ac
 have hxb:∀ u∈xs,Ro u=false:=by
  rcases hown.2 with⟨_,h0⟩ | ⟨g,cap,cur,ev,_,hb,_,_,_,htake⟩
  ·intro u hu
   have:xs=[]:=List.eq_nil_of_length_eq_zero (by rw[hown.1,h0,Nat.zero_mul]);rw[this]at hu;cases hu
  ·intro u hu
   rw[<-htake]at hu;exact YC hb.1 (by rw[ev]at hvb;exact hvb) _ (List.mem_of_mem_take hu)
 have hxd:∀ u∈xs,Ah u=false:=by
  rcases hown.2 with⟨_,h0⟩ | ⟨g,cap,cur,_,_,hb,_,_,_,htake⟩
  ·intro u hu
   have:xs=[]:=List.eq_nil_of_length_eq_zero (by rw[hown.1,h0,Nat.zero_mul]);rw[this]at hu;cases hu
  ·intro u hu
   rw[<-htake]at hu;exact BQ.1 hb.2 _ (List.mem_of_mem_take hu)
 have grown:∀(old:Nat),old < n+1 ->
   Ld i.size base e (w.drew.alloc (.cells (xs.toArray ++ news.toArray ++ Builtin.zeroCells z.cells (grownCap w (n+1) old e - (n+1))) e)) (.slice (some ⟨w.heap.size,0,none⟩) (n+1) (grownCap w (n+1) old e)) (n+1) (xs ++ news) /\
   (∀ G,Cc G w (w.drew.alloc (.cells (xs.toArray ++ news.toArray ++ Builtin.zeroCells z.cells (grownCap w (n+1) old e - (n+1))) e))) /\
   Nk (w.drew.alloc (.cells (xs.toArray ++ news.toArray ++ Builtin.zeroCells z.cells (grownCap w (n+1) old e - (n+1))) e)) (.slice (some ⟨w.heap.size,0,none⟩) (n+1) (grownCap w (n+1) old e)):=by
  intro old ho;have hge:=grownCap_ge w (n+1) old e;have hcm:grownCap w (n+1) old e<=maxLen:=grownCap_le_maxLen w (n+1) old e h63;refine⟨⟨hlen,.inr ⟨w.heap.size,_,_,rfl,hbase,⟨heap_alloc_new w.drew _,?_⟩,hge,hcm,?_,?_⟩⟩,fun G=>Cc.of_ext ((Ext.refl w).drew.alloc _),Oj (heap_alloc_new w.drew _) ?_⟩
  ·rw[BQ]
   intro u hu;simp only[Array.toList_append,List.mem_append]at hu;rcases hu with(hu | hu) | hu
   ·exact hxd u (by simpa using hu)
   ·exact hnd u (by simpa using hu)
   ·exact hzc _ u hu
  ·simp only[Array.size_append,List.size_toArray,size_zeroCells,hzs,hown.1,hl]
   rw[<-Nat.succ_mul,<-Nat.add_mul];congr 1;omega
  ·simp only[Array.toList_append,List.append_assoc]
   rw[<-List.append_assoc,<-hlen];exact List.take_left
  ·intro u hu
   simp only[Array.toList_append,List.mem_append]at hu;rcases hu with(hu | hu) | hu
   ·exact hxb u (by simpa using hu)
   ·exact hnb u (by simpa using hu)
   ·exact hzb _ u hu
 rcases hown.2 with⟨rfl,rfl⟩ | ⟨g,cap,cur,rfl,hbg,hb,hnc,hcm,hcs,htake⟩
 ·have hx:xs=[]:=List.eq_nil_of_length_eq_zero (by simpa using hown.1)
  subst hx;have hr:=run_append_nil (P:=P) w t ty e i z ht hi hz a 1 c news hl' hnews Aa Aa (by have hb:=hbytes;simp only[Nat.zero_add]at hb;omega);have hgr:=grown 0 Aa;simp only[Nat.zero_add,List.nil_append,Array.empty_append]at hgr ⊢;exact⟨_,_,hr,hgr.1,hgr.2.1 _,hgr.2.2⟩
 ·have hg:=hb.1
  by_cases hroom:n+1<=cap
  ·have hfit:n*i.size+news.length<=cur.size:=by rw[hl,hcs,<-Nat.succ_mul];exact Nat.mul_le_mul_right _ hroom
   have hr:=run_append_room (P:=P) w t ty e i ht hi g n cap cur hg a 1 c news hl' hnews h1 hroom hfit;have hnew:∀ u∈cur.toList.take (n*i.size) ++ news ++ cur.toList.drop (n*i.size+news.length),Ah u=false:=by
    intro u hu;simp only[List.mem_append]at hu;rcases hu with(hu | hu) | hu
    ·exact BQ.1 hb.2 _ (List.mem_of_mem_take hu)
    ·exact hnd u hu
    ·exact BQ.1 hb.2 _ (List.mem_of_mem_drop hu)
   have hbx:Ba (w.setRow g (cur.toList.take (n*i.size) ++ news ++ cur.toList.drop (n*i.size+news.length)).toArray) g e _:=⟨setRow_heap w g cur _ e _ hg,BQ.2 (by simpa using hnew)⟩
   refine⟨_,_,hr,⟨hlen,.inr ⟨g,cap,_,rfl,hbg,hbx,hroom,hcm,?_,?_⟩⟩,⟨fun g' o hg' ho=>?_,Ms hb fun h hne _=>setRow_other w g h _ hne,fun a' ha hG=>?_⟩,Oj hbx.1 ?_⟩
   ·simp only[List.size_toArray,List.length_append,List.length_take,List.length_drop,Array.length_toList]
    omega
   ·rw[htake,<-hlen]
    exact List.take_left
   ·rw[setRow_other w g g' _ (fun e=>hg' (by simp[blk,Value.ownBlock,e]))];exact ho
   ·have hga:a'.heap.size<=g:=hG g (by simp[blk,Value.ownBlock])
    exact ha.grown (row:=some g) ⟨rfl,rfl,rfl,by simp[World.setRow],fun k _ hk=>setRow_other w g k _ (fun e=>hk (by rw[e]))⟩ (fun k hk=>by cases hk;exact hga)
   ·intro u hu
    have hcb:=YC hb.1 hvb;have hu':u∈cur.toList.take (n*i.size) ++ news ++ cur.toList.drop (n*i.size+news.length):=by simpa using hu
    simp only[List.mem_append]at hu';rcases hu' with(hu | hu) | hu
    ·exact hcb _ (List.mem_of_mem_take hu)
    ·exact hnb u hu
    ·exact hcb _ (List.mem_of_mem_drop hu)
  ·have holds:∀ j u,xs[j]? = some u->w.cell? ((⟨g,0,none⟩:Addr).add j)=some u:=hown.owns.cells (g:=g) rfl
   have hr:=run_append_grow (P:=P) w t ty e i z ht hi hz ⟨g,0,none⟩ n cap xs hown.1 holds a 1 c news hl' hnews Aa Aa (growslice_fits Aa hbytes);have hgr:=grown cap Aa;exact⟨_,_,hr,hgr.1,hgr.2.1 _,hgr.2.2⟩
end
section
variable{α:Type}{k:Nat}{rd:World->Value->α->Prop}{base:Nat}{e:TypeId}{w w':World}{v:Value}{l:List α}
theorem BB.append_blk{P:Program}(h:BB k rd base e w v l)(t ty:TypeId)(i:TypeInfo)(z:Value)(bytes:Nat)(ht:P.underlying t=some (.slice e))(hi:P.info? e=some i)(hz:i.zero=some z)
  (hsize:i.size=k) (hby:i.bytes=bytes) (hzs:z.cells.size=k) (hzd:nodig z.cells=true) (hsz:0 < k) {x:α}
  (a:Addr) (c:Nat) (news:Array Value) (hl:news.size=k) (hx:rd w (.agg news) x) (hnews:∀ j u,news.toList[j]? = some u->w.cell? (a.add j)=some u) (h1:∀ u∈news.toList,u.oneCell'=true) (hnd:nodig news=true)
  (h63:l.length+1<=maxLen) (hbytes:(l.length+1)*bytes<=140737488355328) (hbase:base<=w.heap.size) (hr:∀ w' u y,KD w w'->rd w u y->rd w' u y) (hvb:Nk w v) (hnb:∀ u∈news.toList,Ro u=false) (hzB:∀ u∈z.cells.toList,Ro u=false) :
  ∃ v' w',(Builtin.append_ #[t,t] ty #[v,.slice (some a) 1 c]).run P w = .ok v' w'/\BB k rd base e w' v' (l ++ [x])/\Cc (blk v) w w'/\Nk w' v':=by
 obtain⟨ess,g1,g2,g3,g5⟩:=h;obtain⟨v',w',hrun,hown,hupd,hblk⟩:=N7 (P:=P) w k base t ty e i z bytes ht hi hz hsize hby hzs hzd hsz v l.length _ g3 a c news.toList (by simpa using hl) hnews h1 (BQ.1 hnd) h63 hbytes hbase hvb hnb hzB;refine⟨v',w',hrun,⟨ess ++ [news],by simp[g1],?_,?_,?_⟩,hupd,hblk⟩
 ·intro d hd
  rcases List.mem_append.1 hd with hd | hd
  ·exact g2 d hd
  ·simp at hd;subst hd;exact hl
 ·have e1:(ess ++ [news]).flatMap Array.toList=ess.flatMap Array.toList ++ news.toList:=by simp
  rw[e1,List.length_append];exact hown
 ·intro j hj hj'
  rcases Nat.lt_or_ge j l.length with hlt | hge
  ·rw[List.getElem_append_left hlt,List.getElem_append_left Aa]
   exact hr _ _ _ hupd.kd (g5 j hlt Aa)
  ·have:j=l.length:=by simp at hj;omega
   subst this;rw[List.getElem_append_right Aa,List.getElem_append_right Aa];simpa using hr _ _ _ hupd.kd hx
end
theorem KD.own{A B:World}{row:Option Nat}(hg:A.grownBy B row)(hr:∀ r,row=some r->∃ o:Obj,A.heap[r]? = some o/\o.isCells=false):KD A B:=fun _ _ e=>cell_kept e hg hr
theorem Ba.own{A B:World}{row:Option Nat}{g:Nat}{t:TypeId}{cs:Array Value}(h:Ba A g t cs)(hg:A.grownBy B row)(hr:∀ r,row=some r->∃ o:Obj,A.heap[r]? = some o/\o.isCells=false):Ba B g t cs:=
 ⟨(hg.block g h.lt (fun e=>by obtain⟨o,h1,h2⟩:=hr g e.symm;rw[h.1]at h1;cases h1;cases h2)).trans h.1,h.2⟩
theorem iZ{A B C:World}{g:Nat}{u v x y:Value}(B0:Nat)(e:Ext A B)(h:C=(((B.setCell ⟨g,0,none⟩ u).setCell ⟨g,1,none⟩ v).setCell ⟨g,2,none⟩ x).setCell ⟨g,3,none⟩ y):KeepsFrom B0 A C:=by
 subst h;have k1:KeepsFrom B0 A B:=⟨e.size,fun k o _ h0 _=>e.blk h0⟩
 exact k1.trans (((((KeepsOthers.setCell _ _ _).trans (KeepsOthers.setCell _ _ _)).trans (KeepsOthers.setCell _ _ _)).trans (KeepsOthers.setCell _ _ _)).from _)
theorem fJ{A B C:World}{g n₀:Nat}{u v x y:Value}(e:Below n₀ A B)(h:C=(((B.setCell ⟨g,0,none⟩ u).setCell ⟨g,1,none⟩ v).setCell ⟨g,2,none⟩ x).setCell ⟨g,3,none⟩ y)(hg:n₀<=g):Below n₀ A C:=by
 subst h;exact(((e.setCell (p:=⟨g,0,none⟩) hg _).setCell (p:=⟨g,1,none⟩) hg _).setCell (p:=⟨g,2,none⟩) hg _).setCell (p:=⟨g,3,none⟩) hg _
theorem JQ{A B:World}{G:List Nat}{g i:Nat}{v:Value}(U:Cc G A B)(hg:g∉G)(h:A.cell? ⟨g,i,none⟩=some v):B.cell? ⟨g,i,none⟩=some v:=by
 obtain⟨o,ho,hc⟩:=cells_of_cell h;exact(World.cell?_of_block ((U.1 g o hg ho).trans ho.symm)).trans h
theorem Eb.own{A B:World}{row:Option Nat}{g:Nat}{t:TypeId}{q:Rat}(h:Eb A g t q)(hg:A.grownBy B row)(hr:∀ r,row=some r->∃ o:Obj,A.heap[r]? = some o/\o.isCells=false):Eb B g t q:=by
 obtain⟨b,A1,n,c,b',A1',n',c',h1,h2⟩:=h;exact Eb.mk (h1.own hg hr) (h2.kd (KD.own hg hr))
theorem fK{F:Nat->Rat}(z:ZI F)(x:Int):∀ n,∃ y:Int,CL n F (x:Rat)=(y:Rat):=by
 intro n;induction n generalizing F with
 | zero=>exact⟨0,rfl⟩
 | succ n ih =>
  obtain⟨y,hy⟩:=ih (F:=tl F) fun i=>z (i+1);obtain⟨a,ha⟩:=z 0;exact⟨a+x*y,by rw[DJ,hy,ha];simp⟩
theorem LU{F:Nat->Rat}(z:ZI F)(x:Int):∃ y:Int,ev F (x:Rat)=(y:Rat):=fK z x _
theorem NB{F:Nat->Rat}{n:Nat}(fF:Ae F)(h0:F≠pz)(hn:pl F<=n):∃ X:Nat->Rat,KX X n/\∀ k,k < n->ev F (X k)≠0/\∃ m:Nat,m < 2*n/\X k=((m:Int):Rat):=by
 classical
 obtain⟨l,hl⟩:∃ l,l=(List.range (2*n)).map (fun k:Nat=>(((k:Nat):Int):Rat)):=⟨_,rfl⟩
 have hnd:l.Nodup:=by
  rw[hl,List.nodup_iff_pairwise_ne,List.pairwise_map];refine List.Pairwise.imp (R:=fun a b=>a < b) ?_ List.pairwise_lt_range;intro a b hab e;have:((a:Nat):Int)=((b:Nat):Int):=by exact_mod_cast e
  omega
 obtain⟨R,hR⟩:∃ R,R=l.filter fun x=>decide (ev F x=0):=⟨_,rfl⟩
 obtain⟨N,hN⟩:∃ N,N=l.filter fun x=>!decide (ev F x=0):=⟨_,rfl⟩
 have hlen:R.length+N.length=2*n:=by
  have h1:R.length+N.length=l.length:=by
   rw[hR,hN];clear hR hN hl hnd;induction l with
   | nil=>rfl
   | cons a l ih =>
    simp only[List.filter_cons];by_cases e:ev F a=0
    ·simp[e];omega
    ·simp[e];omega
  rw[h1,hl];simp
 have hRl:R.length < pl F:=by
  rcases Nat.lt_or_ge R.length (pl F)with a | a
  ·exact a
  ·exact absurd (GA ((AA fF).mono a) (by rw[hR];exact hnd.sublist (List.filter_sublist)) (fun x hx=>by rw[hR,List.mem_filter]at hx;simpa using hx.2)) h0
 have hNn:N.Nodup:=by rw[hN];exact hnd.sublist (List.filter_sublist)
 have hNg:∀ k (h:k < n),∃ h':k < N.length,N.getD k 0=N[k]:=fun k h=>⟨Aa,by rw[List.getD_eq_getElem?_getD,List.getElem?_eq_getElem Aa];rfl⟩
 refine⟨fun k=>N.getD k 0,fun i k hi hk=>?_,fun k hk=>?_⟩
 ·obtain⟨a1,a2⟩:=hNg i hi
  obtain⟨b1,b2⟩:=hNg k Aa;show N.getD i 0≠N.getD k 0;rw[a2,b2];intro e;rw[List.nodup_iff_pairwise_ne,List.pairwise_iff_getElem]at hNn;exact hNn k i b1 a1 hk e.symm
 ·obtain⟨a1,a2⟩:=hNg k hk
  show ev F (N.getD k 0)≠0/\∃ m:Nat,m < 2*n/\N.getD k 0=_;rw[a2];obtain⟨y,hy⟩:∃ y,y=N[k]:=⟨_,rfl⟩
  have hm:y∈N:=by rw[hy];exact List.getElem_mem a1
  rw[<-hy];clear hy a2;rw[hN,List.mem_filter,hl]at hm;obtain⟨b1,b2⟩:=hm;obtain⟨m,c1,c2⟩:=List.mem_map.1 b1;refine⟨by simpa using b2,m,List.mem_range.1 c1,c2.symm⟩
theorem UB{F D:Nat->Rat}{n s:Nat}(zF:ZI F)(fF:Ae F)(h0:F≠pz)(zD:ZI D)(fD:Ae D)(hd:Iw F D)(hn:pl F<=n)(hn9:n<=16)(hs:∀ i,qsz (F i)<=s)(hs9:s<=5)(i:Nat):qsz (D i)<=36000:=by
 obtain⟨X,hA,hX⟩:=NB fF h0 hn;have hX1:∀ k,k < n->qsz (X k)<=1:=fun k hk=>by
  obtain⟨-,m,h1,h2⟩:=hX k hk;have h3:bp 1=4294967296:=rfl;have h4:sz ((m:Nat):Int).natAbs<=1:=Cj (by rw[h3];omega);rw[h2,Bn];omega
 have hX2:∀ k,k < n->qsz (X k)<=2:=fun k hk=>Nat.le_trans (hX1 k hk) Aa;obtain⟨Q,zQ,fQ,e⟩:=hd;have hY:∀ k,k < n->qsz (ev D (X k))<=113:=fun k hk=>by
  have h1:=SA ((AA fF).mono hn) hs (hX1 k hk);have h2:n*(s+1+1)<=16*7:=Nat.mul_le_mul hn9 Aa;obtain⟨h3,m,-,h4⟩:=hX k hk;have h5:ev F (X k)=ev Q (X k)*ev D (X k):=by rw[e,Cy fQ fD]
  rw[h4]at h1 h3 h5 ⊢;obtain⟨a,ha⟩:=LU zF (m:Int);obtain⟨b,hb⟩:=LU zQ (m:Int);obtain⟨c,hc⟩:=LU zD (m:Int);rw[ha]at h1 h3;rw[ha,hb,hc]at h5;rw[hc];have h6:a=b*c:=by exact_mod_cast h5
  have h7:a≠0:=fun e=>h3 (by rw[e];rfl);rw[Bn]at h1 ⊢;have h8:c.natAbs<=a.natAbs:=Nat.le_of_dvd Aa (Int.natAbs_dvd_natAbs.2 ⟨b,by rw[h6,Int.mul_comm]⟩);have:=Bq h8;omega
 have hDn:D≠pz:=fun e2=>h0 (by rw[e,e2,JY]);have hDl:pl D<=pl F:=Dv.le fD fF h0 ⟨Q,fQ,e⟩;obtain⟨Y,hYe⟩:∃ Y,Y=fun k=>ev D (X k):=⟨_,rfl⟩
 have hD:D=ZJ X Y n n:=K6 hA ((AA fD).mono Aa) (P7 X Y n n (Nat.le_refl _)) fun k hk=>by
  rw[Wt hA hk n (Nat.le_refl _),if_pos hk,hYe]
 have hc:∀ j,j < n->CD 2235 (dP X Y n j):=fun j hj=>by
  have h1:=bL j n hX2 Aa;have h2:=SA (Ps X j n).1 (fun j=>h1.elem j) (hX1 j hj);have h3:(n+1)*(3+7*n+1+1)<=17*117:=Nat.mul_le_mul Aa Aa;have h4:=J5 (Y j) (ev (lgp X j n) (X j));have h5:=hY j hj;have h6:qsz (Y j)<=113:=by rw[hYe];exact h5
  exact(h1.psc _).mono Aa
 have hl:∀ m,m<=n->CD (1+m*2236) (ZJ X Y n m):=by
  intro m;induction m with
  | zero=>intro _;exact CD.pz
  | succ m ih=>intro h;exact((ih Aa).pad (hc m h)).mono Aa
 rw[hD];have h9:n*2236<=16*2236:=Nat.mul_le_mul_right _ hn9;exact Nat.le_trans ((hl n (Nat.le_refl _)).elem i) Aa
theorem Cr.mul{F G H:Nat->Rat}(fF:Ae F)(fG:Ae G)(fH:Ae H)(h:Cr F G)(k:Cr F H):Cr F (cv G H):=by
 obtain⟨U,V,a,b,e⟩:=h;obtain⟨X,Y,c,d,e'⟩:=k;refine⟨pad (cv (pad (cv U F) (cv V G)) X) (cv U (cv Y H)),cv V Y,(((a.cv fF).pad (b.cv fG)).cv c).pad (a.cv (d.cv fH)),b.cv d,?_⟩;have h1:cv (pad (cv U F) (cv V G)) (pad (cv X F) (cv Y H))=pone:=by rw[e,e',Br]
 rw[<-h1,Ez,CG (cv U F) (cv V G) (cv Y H),CG _ _ F];have e1:cv (cv (pad (cv U F) (cv V G)) X) F=cv (pad (cv U F) (cv V G)) (cv X F):=Ag _ _ _;have e2:cv (cv U (cv Y H)) F=cv (cv U F) (cv Y H):=by rw[Ag,Av (cv Y H) F,<-Ag]
 have e3:cv (cv V Y) (cv G H)=cv (cv V G) (cv Y H):=by rw[Ag,Ag,<-Ag Y G H,Av Y G,Ag]
 rw[e1,e2,e3]
 funext n;simp only[pad];grind
theorem Cr.one(F:Nat->Rat):Cr F pone:=⟨pz,pone,Ae.pz,CE,by rw[Cn,Br];funext n;simp only[pad,pz];grind⟩
theorem Cr.pw{F G:Nat->Rat}(fF:Ae F)(fG:Ae G)(h:Cr F G):∀ n,Cr F (pw G n)
 | 0=>Cr.one F
 | n+1=>Cr.mul fF (GN fG n) fG (Cr.pw fF fG h n) h
theorem Vf{W:Nat->Rat}(hW:AU W):∀(n:Nat) {C:Nat->Rat},AU C->pl C<=n->∃ P R N,AU P/\AU R/\C=cv P R/\Cr P W/\Dv R (pw W N):=by
 intro n;induction n with
 | zero=>intro C hC hn;have:=hC.pos;omega
 | succ n ih =>
  intro C hC hn;obtain⟨k,z1,-,-,d2,-⟩:=hC.gcd hW.z hW.f;by_cases h1:pl (BC C W)<=1
  ·exact⟨C,pone,0,hC,EN,(Ew C).symm,Cr.of_gcd hC hW.z hW.f h1,Dv.refl _⟩
  ·obtain⟨q1,q2⟩:=hC.quot k z1
   have h2:=Du q1.f k.f q1.n k.n;rw[<-q2]at h2;obtain⟨P,R,N,a,b,c,d,e⟩:=ih q1 Aa;refine⟨P,cv R (BC C W),N+1,a,b.mul k,by rw[<-Ag,<-c];exact q2,d,?_⟩;obtain⟨X,fX,eX⟩:=e;obtain⟨Y,fY,eY⟩:=d2;refine⟨cv X Y,fX.cv fY,?_⟩;show cv (pw W N) W=_;rw[eX]
   conv=>lhs;rw[eY]
   rw[Ag,Ag X Y,<-Ag R Y,Av R Y,Ag Y R]
theorem NE{D A B:Nat->Rat}(fD:Ae D)(nD:D≠pz)(fA:Ae A)(fB:Ae B)(h:cv D A=cv D B):A=B:=by
 have h1:=(JG fA fD nD).1;have h2:=(JG fB fD nD).1;rw[Av]at h1 h2;rw[h]at h1;exact h1.symm.trans h2
noncomputable def yc(g:Nat->Rat):Nat->Rat:=BC g (pd g)
noncomputable def y0(g:Nat->Rat):Nat->Rat:=pq g (yc g)
section
variable{g:Nat->Rat}
theorem Ch(h:AU g):AU (yc g)/\AU (y0 g)/\g=cv (y0 g) (yc g)/\Iw g (yc g)/\Iw (pd g) (yc g):=by
 obtain⟨k,z1,z2,-⟩:=h.gcd (Dt h.z) (Bd h.f);obtain⟨q1,q2⟩:=h.quot k z1;exact⟨k,q1,q2,z1,z2⟩
theorem XQ(h:AU g):∃ V,Ae V/\pd g=cv V (yc g)/\Cr (y0 g) V:=by
 obtain⟨k,z1,z2,d1,d2,U,V,a,b,e⟩:=h.gcd (Dt h.z) (Bd h.f);obtain⟨q1,q2⟩:=h.quot k z1;obtain⟨zQ,fQ,eQ⟩:=Nf k.f k.n z2;refine⟨pq (pd g) (yc g),fQ,eQ,U,V,a,b,?_⟩;refine NE k.f k.n ((a.cv q1.f).pad (b.cv fQ)) CE ?_;rw[Ew];show cv (yc g) (pad (cv U (y0 g)) (cv V (pq (pd g) (yc g))))=yc g
 conv=>rhs;unfold yc;rw[<-e]
 rw[Ez];congr 1
 ·rw[Av,Ag];congr 1;exact q2.symm
 ·rw[Av,Ag];congr 1;exact eQ.symm
theorem iA(h:AU g):Dv (yc g) (cv (y0 g) (pd (yc g))):=by
 obtain⟨k,q1,q2,z1,z2⟩:=Ch h;have h1:=KA z2;rw[q2,Ji,<-q2]at h1;have h2:Dv (yc g) (psb (pad (cv (pd (y0 g)) (yc g)) (cv (y0 g) (pd (yc g)))) (cv (pd (y0 g)) (yc g))):=h1.psb ((Dv.refl _).mul (Bd q1.f));have e:psb (pad (cv (pd (y0 g)) (yc g)) (cv (y0 g) (pd (yc g)))) (cv (pd (y0 g)) (yc g))=cv (y0 g) (pd (yc g)):=by
  funext n;simp only[psb,pad];grind
 rw[e]at h2;exact h2
theorem MW(h:AU g):∃ N,Dv (yc g) (pw (y0 g) N):=by
 obtain⟨k,q1,q2,z1,z2⟩:=Ch h;obtain⟨P,R,N,a,b,c,d,e⟩:=Vf q1 _ k (Nat.le_refl _);have h1:=iA h;have hP:Dv P (cv (y0 g) (cv (pd P) R)):=by
  have h2:Dv P (cv (y0 g) (pd (yc g))):=Dv.trans ⟨R,b.f,by rw[Av];exact c⟩ h1;rw[c,Ji,Ez]at h2;have h3:Dv P (cv (y0 g) (cv P (pd R))):=by
   rw[Av P,<-Ag];exact(Dv.refl P).mul (q1.f.cv (Bd b.f))
  have h4:=h2.psb h3;have e4:psb (pad (cv (y0 g) (cv (pd P) R)) (cv (y0 g) (cv P (pd R)))) (cv (y0 g) (cv P (pd R)))=cv (y0 g) (cv (pd P) R):=by
   funext n;simp only[psb,pad];grind
  rw[e4]at h4;exact h4
 have h5:=d.euclid ((Bd a.f).cv b.f) hP;have h6:Cr P R:=((Cr.pw a.f q1.f d N).symm.dv e).symm;rw[Av]at h5;have h7:=h6.euclid (Bd a.f) h5;have h8:=a.one (by have:=jK a.f a.n h7;omega);refine⟨N,?_⟩;rw[c,h8,Br];exact e
theorem aN(E:Nat->Rat)(fE:Ae E):∀ k:Nat,cv E (pd (pw E k))=psc ((k:Nat):Rat) (cv (pw E k) (pd E))
 | 0=>by
  have e:pd (pw E 0)=pz:=by
   funext i;show((i+1:Nat):Rat)*pone (i+1)=0
   show((i+1:Nat):Rat)*0=0;exact Rat.mul_zero _
  rw[e,JY]
  funext i;simp only[psc,pz];grind
 | k+1=>by
  show cv E (pd (cv (pw E k) E))=psc _ (cv (cv (pw E k) E) (pd E));rw[Ji,Ez];have e1:cv E (cv (pd (pw E k)) E)=psc ((k:Nat):Rat) (cv (cv (pw E k) E) (pd E)):=by
   rw[<-Ag,aN E fE k,Cv,Ag,Ag,Av (pd E) E]
  have e2:cv E (cv (pw E k) (pd E))=cv (cv (pw E k) E) (pd E):=by rw[<-Ag,Av E]
  rw[e1,e2]
  funext i;simp only[pad,psc]
  have:(((k+1:Nat)):Rat)=(k:Rat)+1:=by push_cast;rfl
  rw[this];grind
theorem XM{E C:Nat->Rat}(fE:Ae E){k:Nat}(h:Dv (pw E k) C):Dv (pw E k) (cv E (pd C)):=by
 obtain⟨H,fH,rfl⟩:=h;rw[Ji,Ez];refine Dv.pad ?_ ?_
 ·rw[<-Ag]
  exact(Dv.refl _).mul (fE.cv (Bd fH))
 ·rw[Av H,<-Ag,aN E fE,Cv]
  refine Dv.psc _ ?_;rw[Ag,Av];exact(Dv.refl _).mul ((Bd fE).cv fH)
theorem ZO(h:AU g){E:Nat->Rat}(hE:AU E)(hd:Dv (cv E E) (y0 g)):pl E=1:=by
 obtain⟨k,q1,q2,z1,z2⟩:=Ch h;obtain⟨V,fV,eV,cV⟩:=XQ h;have hE0:Dv E (y0 g):=Dv.trans ⟨E,hE.f,rfl⟩ hd;have cE:Cr E V:=cV.dv hE0;have hE1:Dv E (pd (y0 g)):=by
  obtain⟨U,fU,e⟩:=hd;rw[e,Ji];refine Dv.pad ?_ ?_
  ·rw[<-Ag];exact(Dv.refl E).mul ((Bd fU).cv hE.f)
  ·rw[Ji,Ez]
   exact((Dv.refl E).mul (Bd hE.f)).mul fU |>.pad ((by rw[Av E];exact(Dv.refl E).mul (Bd hE.f):Dv E (cv E (pd E))).mul fU)
 have key:∀ n,Dv (pw E n) (yc g):=by
  intro n;induction n with
  | zero=>exact⟨yc g,k.f,(Ew _).symm⟩
  | succ n ih =>
   have h1:Dv (pw E (n+1)) (cv V (yc g)):=by
    rw[<-eV,q2,Ji];refine Dv.pad ?_ ?_
    ·obtain⟨X,fX,eX⟩:=hE1
     obtain⟨Y,fY,eY⟩:=ih;refine⟨cv X Y,fX.cv fY,?_⟩;show cv (pd (y0 g)) (yc g)=cv (cv X Y) (cv (pw E n) E);rw[eX]
     conv=>lhs;rw[eY]
     rw[Ag,Ag X Y,<-Ag E Y,Av E Y,Ag Y E,Av E (pw E n)]
    ·obtain⟨X,fX,eX⟩:=hd
     obtain⟨Y,fY,eY⟩:=XM hE.f ih;refine⟨cv X Y,fX.cv fY,?_⟩;show cv (y0 g) (pd (yc g))=cv (cv X Y) (cv (pw E n) E);rw[eX,Ag,Ag,eY,Ag X Y];congr 1;rw[<-Ag,Av E Y,Ag,Av E (pw E n)]
   exact(Cr.pw fV hE.f cE.symm (n+1)).symm.euclid k.f h1
 have h1:=Dv.le (GN hE.f (pl (yc g))) k.f k.n (key (pl (yc g)));rw[XI hE]at h1;have h2:=hE.pos;rcases Nat.lt_or_ge 1 (pl E)with h3 | h3
 ·have:pl (yc g)*1<=pl (yc g)*(pl E - 1):=Nat.mul_le_mul_left _ Aa
  omega
 ·omega
theorem iY(h:AU g):∃ N,∀ k,Dv (yw (y0 g) (yc g) k).2 (pw (yw (y0 g) (yc g) k).1 N):=by
 obtain⟨hC,hW,-⟩:=Ch h;obtain⟨N,hN⟩:=MW h;refine⟨N,fun k=>?_⟩;induction k with
 | zero=>exact hN
 | succ k ih =>
  obtain⟨p1,p2⟩:=EU hW hC k;obtain⟨p,e1,e2,-⟩:=Ki hW hC k;obtain⟨-,-,-,-,-,U,V,fU,fV,e⟩:=p1.gcd p2.z p2.f;have h1:=SI fU p1.f fV p2.f (Dv.refl _) N ih;rw[e]at h1;exact Dv.trans ⟨(yw (y0 g) (yc g) (k+1)).1,(EU hW hC (k+1)).1.f,by rw[Av];exact e2⟩ h1
theorem Zb(h:AU g){K:Nat}(hK:pl (yw (y0 g) (yc g) K).1<=1):(yw (y0 g) (yc g) K).1=pone/\(yw (y0 g) (yc g) K).2=pone:=by
 obtain⟨hC,hW,-⟩:=Ch h;obtain⟨p1,p2⟩:=EU hW hC K;have e1:=p1.one hK;obtain⟨N,hN⟩:=iY h;have h1:=hN K;rw[e1,JL]at h1;have h2:=Dv.le p2.f CE IR h1;have h3:pl pone<=1:=BD CP;exact⟨e1,p2.one Aa⟩
theorem Y4(W C:Nat->Rat):∀(K:Nat) (p:(Nat->Rat)×Nat),p∈yl W C K->∃ j,j < K/\p=(ya W C j,j+1)/\1 < pl (ya W C j):=by
 intro K;induction K with
 | zero=>intro p hp;simp[yl]at hp
 | succ K ih =>
  intro p hp;show _;rw[yl,List.mem_append]at hp;rcases hp with hp | hp
  ·obtain⟨j,a,b,c⟩:=ih p hp;exact⟨j,Aa,b,c⟩
  ·split at hp
   ·rename_i hl
    rw[List.mem_singleton]at hp;exact⟨K,Aa,hp,hl⟩
   ·simp at hp
def yp(S:Nat->Rat)(l:List ((Nat->Rat)×Nat)):Nat->Rat:=l.foldl (fun A p=>cv A (pw p.1 p.2)) S
theorem Od(S:Nat->Rat)(l:List ((Nat->Rat)×Nat))(p:(Nat->Rat)×Nat):yp S (l ++ [p])=cv (yp S l) (pw p.1 p.2):=by simp[yp]
theorem Uc{W C:Nat->Rat}(hW:AU W)(hC:AU C)(S:Nat->Rat):∀ K,cv (yp S (yl W C K)) (cv (pw (yw W C K).1 (K+1)) (yw W C K).2)=cv S (cv W C)
 | 0=>by show cv S (cv (cv pone W) C)=_;rw[Br]
 | K+1=>by
  obtain⟨p,e1,e2,-⟩:=Ki hW hC K;have e3:yp S (yl W C (K+1))=cv (yp S (yl W C K)) (pw (ya W C K) (K+1)):=by
   rw[yl]
   split
   ·exact Od _ _ _
   ·rename_i hl
    rw[p.one Aa,JL,Ew,List.append_nil]
  rw[e3,<-Uc hW hC S K,Ag];congr 1
  conv=>rhs;rw[e1,e2,Sj]
  obtain⟨Y,hY⟩:∃ Y,Y=(yw W C (K+1)).1:=⟨_,rfl⟩
  rw[<-hY];show cv (pw (ya W C K) (K+1)) (cv (cv (pw Y (K+1)) Y) (yw W C (K+1)).2)=_;rw[Ag (pw (ya W C K) (K+1)),Ag (pw Y (K+1)),Av Y]
theorem Xx(h:AU g){K:Nat}(hK:pl (yw (y0 g) (yc g) K).1<=1)(S:Nat->Rat):yp S (yl (y0 g) (yc g) K)=cv S g:=by
 obtain⟨hC,hW,e,-⟩:=Ch h;have h1:=Uc hW hC S K;obtain⟨e1,e2⟩:=Zb h hK;rw[e1,e2,JL,Br,Ew,<-e]at h1;exact h1
noncomputable def Tc(l:List ((Nat->Rat)×Nat)):Nat:=(l.map fun p=>p.2*(pl p.1 - 1)).sum
theorem NY(l:List ((Nat->Rat)×Nat))(p:(Nat->Rat)×Nat):Tc (l ++ [p])=Tc l+p.2*(pl p.1 - 1):=by simp[Tc]
theorem gJ{S:Nat->Rat}(hS:Ae S)(nS:S≠pz)(zS:ZI S)(l:List ((Nat->Rat)×Nat)):(∀ p∈l,AU p.1)->Ae (yp S l)/\yp S l≠pz/\ZI (yp S l)/\pl (yp S l)=pl S+Tc l:=by
 revert l;refine Fv (fun _=>⟨hS,nS,zS,by simp[Tc,yp]⟩) fun l p ih h=>?_;obtain⟨a,b,c,d⟩:=ih fun q hq=>h q (List.mem_append_left _ hq);have k:=h p (List.mem_append_right _ (List.mem_singleton.2 rfl));have k1:=Pb k p.2;rw[Od,NY];refine⟨a.cv k1.f,fun e=>?_,c.cv k1.z,?_⟩
 ·rcases H6 a k1.f e with e | e
  ·exact b e
  ·exact k1.n e
 ·have h1:=Du a k1.f b k1.n
  rw[XI k]at h1;omega
theorem Pf(h:AU g)(K:Nat):∀ p∈yl (y0 g) (yc g) K,AU p.1/\1 < pl p.1/\1<=p.2/\p.2<=K:=fun p hp=>by
 obtain⟨hC,hW,-⟩:=Ch h;obtain⟨j,h1,rfl,h3⟩:=Y4 _ _ K p hp;exact⟨(Ki hW hC j).1,h3,by show 1<=j+1;omega,by show j+1<=K;omega⟩
theorem gB(h:AU g){K:Nat}(hK:pl (yw (y0 g) (yc g) K).1<=1):Tc (yl (y0 g) (yc g) K)+1=pl g:=by
 have h1:=(gJ CE IR EN.z _ fun p hp=>(Pf h K p hp).1).2.2.2;rw[Xx h hK,Br]at h1;have:pl pone=1:=Iq CP fun _=>by show(1:Rat)≠0;decide
 omega
end
def kT:World->Value->Value×Nat->Prop:=fun _ c u=>c = .agg #[u.1,.int .i64 (u.2:Nat)]/\∃ A n k,u.1 = .slice A n k
theorem AB.updB{b:Nat}{G:List Nat}{w w':World}{v:Value}{F:Nat->Rat}(h:AB b w v F)(U:Cc G w w')(hG:∀ g∈G,∀ i c,w.cell? ⟨g,i,none⟩≠some (.bool c)):AB b w' v F:=by
 obtain⟨l,⟨A,c,h1,h2,h3,h4⟩,h5,rfl⟩:=h;refine⟨l,⟨A,c,h1,h2,h3,fun h0=>?_⟩,h5,rfl⟩;obtain⟨g,o,ha,hb,hc⟩:=h4 h0;have hg:g∉G:=fun hm=>by
  obtain⟨cs,q1,q2,q3⟩:=hc 0 h0;obtain⟨b,A1,n,c1,e⟩:=q3.cells;obtain rfl:=Ri e;exact hG g hm _ b (q2 0 Aa)
 refine⟨g,o,ha,hb,fun j hj=>?_⟩;obtain⟨cs,q1,q2,q3⟩:=hc j hj;refine⟨cs,q1,fun i hi=>?_,q3.kd U.kd⟩;have e:cs[i]? = some (cs[i]'(Aa)):=Array.getElem?_eq_getElem Aa;rw[e];exact JQ U hg ((q2 i hi).trans e)
structure KY(base:Nat)(t:TypeId)(w:World)(v:Value)(us:List (Value×Nat))(l:List ((Nat->Rat)×Nat)):Prop where
 out:BB 2 kT base t w v us
 len:us.length=l.length
 nb:Nk w v
 el:∀ i (h:i < us.length) (h':i < l.length),us[i].2=l[i].2/\AB 0 w us[i].1 l[i].1
section
variable{base:Nat}{t:TypeId}{w w':World}{v:Value}{us:List (Value×Nat)}{l:List ((Nat->Rat)×Nat)}
theorem Nk.nil(w:World):Nk w (.slice none 0 0):=fun g hg=>by simp[blk,Value.ownBlock]at hg
theorem KY.nil(base:Nat)(t:TypeId)(w:World):KY base t w (.slice none 0 0) [] []:=⟨BB.nil _ _ _ _ _,rfl,Nk.nil w,fun i h=>by simp at h⟩
theorem Nk.ext{k:Nat}{α:Type}{rd:World->Value->α->Prop}{b:Nat}{m:List α}(h:Nk w v)(o:BB k rd b t w v m)(x:Ext w w'):Nk w' v:=fun g hg i c e=>by
 have:=(BB.blk_ge o g hg).2;rw[x.cells g i this]at e;exact h g hg i c e
theorem KY.ext(h:KY base t w v us l)(x:Ext w w'):KY base t w' v us l:=
 ⟨h.out.ext x fun _ _ q=>q,h.len,h.nb.ext h.out x,fun i a b=>⟨(h.el i a b).1,(h.el i a b).2.ext x⟩⟩
theorem KY.base_le{b:Nat}(h:KY base t w v us l)(hb:b<=base):KY b t w v us l:=by
 obtain⟨⟨ess,h1,h2,⟨h3,h4⟩,h5⟩,k2,k3,k4⟩:=h;refine⟨⟨ess,h1,h2,⟨h3,?_⟩,h5⟩,k2,k3,k4⟩;rcases h4 with h4 | ⟨g,cap,cur,a,c,d⟩
 ·exact .inl h4
 ·exact .inr ⟨g,cap,cur,a,Nat.le_trans hb c,d⟩
theorem KY.shape(h:KY base t w v us l):∃ A c,v = .slice A l.length c:=by
 obtain⟨A,c,e⟩:=h.out.len;exact⟨A,c,by rw[e,h.len]⟩
theorem KY.at_{A:Option Addr}{n c:Nat}(h:KY base t w (.slice A n c) us l){i:Nat}(hi:i < l.length) :
  ∃ g o E d,A=some ⟨g,o,none⟩/\w.cell? ⟨g,o+i*2,none⟩=some (.slice E (pl l[i].1) d)/\w.cell? ⟨g,o+i*2+1,none⟩=some (.int .i64 (l[i].2:Nat))/\AB 0 w (.slice E (pl l[i].1) d) l[i].1:=by
 obtain⟨h0,h1,-,h2⟩:=h;have hi':i < us.length:=by omega
 obtain⟨A',c',e,-,-,hA⟩:=BB.row h0;have eA:A'=A:=by injection e with h1;exact h1.symm
 subst eA;obtain⟨g,o,ha,hb,hc⟩:=hA Aa;obtain⟨cs,q1,q2,q3,-⟩:=hc i hi';obtain⟨k1,k2⟩:=h2 i hi' hi;obtain⟨E,d,e2,-⟩:=AB.shape k2;have e3:cs=#[us[i].1,.int .i64 (us[i].2:Nat)]:=by injection q3
 refine⟨g,o,E,d,ha,?_,?_,by rw[<-e2];exact k2⟩
 ·have:=q2 0 Aa
  rw[e3,e2]at this;exact this
 ·have:=q2 1 Aa
  rw[e3,k1]at this;exact this
theorem KY.append{P:Program}{A:Option Addr}{n c:Nat}{F:Nat->Rat}(h:KY base t w v us l)(hu:AB 0 w (.slice A n c) F)(e:Nat)
  (tt ty:TypeId) (i:TypeInfo) (z:Value) (bytes:Nat) (hT:P.underlying tt=some (.slice t)) (hi:P.info? t=some i) (hz:i.zero=some z) (hsize:i.size=2) (hby:i.bytes=bytes) (hzs:z.cells.size=2) (hzd:nodig z.cells=true) (hzB:∀ u∈z.cells.toList,Ro u=false)
  (h63:l.length+1<=maxLen) (hbytes:(l.length+1)*bytes<=140737488355328) (hbase:base<=w.heap.size) :
  ∃ v' w',(Builtin.append_ #[tt,tt] ty #[v,.slice (some ⟨w.heap.size,0,none⟩) 1 1]).run P (w.alloc (.cells #[.slice A n c,.int .i64 (e:Nat)] t)) = .ok v' w'/\KY base t w' v' (us ++ [(.slice A n c,e)]) (l ++ [(F,e)]) /\
   Cc (blk v) (w.alloc (.cells #[.slice A n c,.int .i64 (e:Nat)] t)) w'/\Nk (w.alloc (.cells #[.slice A n c,.int .i64 (e:Nat)] t)) v:=by
 have hb:=Ba.new w t #[.slice A n c,.int .i64 (e:Nat)] (by simp[Ah]);have x:=(Ext.refl w).alloc (.cells #[.slice A n c,.int .i64 (e:Nat)] t);have h':=h.ext x;have hu':=hu.ext x;have hl:=h.len;obtain⟨v',w',a,b,U,B⟩:=BB.append_blk (P:=P) (x:=((Value.slice A n c),e)) h'.out tt ty i z bytes hT hi hz hsize hby hzs hzd Ab ⟨w.heap.size,0,none⟩ 1 #[.slice A n c,.int .i64 (e:Nat)] rfl ⟨rfl,_,_,_,rfl⟩ (MB w t _) (by simp[Value.oneCell']) (by simp[nodig,Ah]) Aa (by rw[hl];exact hbytes) (Nat.le_trans hbase x.size) (fun _ _ _ _ q=>q) h'.nb (by simp[Ro]) hzB
 refine⟨v',w',a,⟨b,by simp[hl],B,fun j a1 a2=>?_⟩,U,h'.nb⟩;by_cases hj:j < us.length
 ·rw[List.getElem_append_left hj,List.getElem_append_left Aa]
  obtain⟨k1,k2⟩:=h'.el j hj Aa;exact⟨k1,k2.updB U h'.nb⟩
 ·rw[List.getElem_append_right Aa,List.getElem_append_right Aa]
  have e0:j - us.length=0:=by simp at a1;omega
  have e1:j - l.length=0:=by omega
  simp only[e0,e1,List.getElem_cons_zero];exact⟨trivial,hu'.updB U h'.nb⟩
theorem AB.upd2{b g:Nat}{t':TypeId}{x y:Value}{F:Nat->Rat}{u:Value}(h:AB b w u F)(hF:1 < pl F)(e:Ba w g t' #[x,y])(U:Cc [g] w w'):AB b w' u F:=by
 obtain⟨l,⟨A,c,h1,h2,h3,h4⟩,h5,rfl⟩:=h;have hl:l.length=pl (cz l):=by have:=h5.pl;rw[DZ]at this;exact this.symm
 refine⟨l,⟨A,c,h1,h2,h3,fun h0=>?_⟩,h5,rfl⟩;obtain⟨g1,o,ha,hb,hc⟩:=h4 h0;have hg:g1∉[g]:=fun hm=>by
  have:g1=g:=by simpa using hm
  subst this;obtain⟨cs,q1,q2,q3⟩:=hc 1 Aa;obtain⟨b,A1,n,c1,e1⟩:=q3.cells;obtain rfl:=Ri e1;have h6:=q2 0 Aa;rw[cell_of_row w g1 (o+1*2+0) #[x,y] t' (0,0) e.1,Array.getElem?_eq_none Ac]at h6;cases h6
 refine⟨g1,o,ha,hb,fun j hj=>?_⟩;obtain⟨cs,q1,q2,q3⟩:=hc j hj;refine⟨cs,q1,fun i hi=>?_,q3.kd U.kd⟩;have e2:cs[i]? = some (cs[i]'(Aa)):=Array.getElem?_eq_getElem Aa;rw[e2];exact JQ U hg ((q2 i hi).trans e2)
theorem AB.off1{g0:Nat}{F:Nat->Rat}{u:Value}(h:AB (g0+1) w u F)(U:Cc [g0] w w'):AB (g0+1) w' u F:=by
 obtain⟨l,⟨A,c,h1,h2,h3,h4⟩,h5,rfl⟩:=h;refine⟨l,⟨A,c,h1,h2,h3,fun h0=>?_⟩,h5,rfl⟩;obtain⟨g,o,ha,hb,hc⟩:=h4 h0;refine⟨g,o,ha,hb,fun j hj=>?_⟩;obtain⟨cs,q1,q2,q3⟩:=hc j hj;refine⟨cs,q1,fun i hi=>?_,q3.kd U.kd⟩;have e:cs[i]? = some (cs[i]'(Aa)):=Array.getElem?_eq_getElem Aa;rw[e];exact JQ U Dq ((q2 i hi).trans e)
theorem KY.upd2{g:Nat}{t':TypeId}{x y:Value}(h:KY base t w v us l)(hl:∀ p∈l,1 < pl p.1)(e:Ba w g t' #[x,y])(hg:g < base)(U:Cc [g] w w'):KY base t w' v us l:=by
 have hb:=BB.blk_ge h.out;have hne:∀ g'∈blk v,g'∉[g]:=fun g' hg' hm=>by
  have:=hb g' hg';have:g'=g:=by simpa using hm
  omega
 refine⟨BB.upd h.out U hne fun _ _ q=>q,h.len,fun g' hg' i c hc=>?_,fun i a b=>⟨(h.el i a b).1,(h.el i a b).2.upd2 (hl _ (List.getElem_mem b)) e U⟩⟩;obtain⟨o,ho⟩:∃ o,w.heap[g']? = some o:=⟨_,Array.getElem?_eq_getElem (hb g' hg').2⟩
 have hk:=U.1 g' o (hne g' hg') ho;rw[World.cell?_of_block (hk.trans ho.symm)]at hc;exact h.nb g' hg' i c hc
theorem VY(W C:Nat->Rat):∀ K,(yl W C K).length<=K
 | 0=>Nat.le_refl _
 | K+1=>by
  have:=VY W C K;rw[yl,List.length_append]
  split<;>simp<;>omega
end
def kR:World->Value->Value->Prop:=fun _ c u=>c = .agg #[u]/\∃ A n k,u = .slice A n k
structure Jh(base eb:Nat)(t:TypeId)(w:World)(v:Value)(us:List Value)(l:List (Nat->Rat)):Prop where
 out:BB 1 kR base t w v us
 len:us.length=l.length
 nb:Nk w v
 el:∀ i (h:i < us.length) (h':i < l.length),AB eb w us[i] l[i]
section
variable{base eb:Nat}{t:TypeId}{w w':World}{v:Value}{us:List Value}{l:List (Nat->Rat)}
theorem Jh.nil(base eb:Nat)(t:TypeId)(w:World):Jh base eb t w (.slice none 0 0) [] []:=⟨BB.nil _ _ _ _ _,rfl,Nk.nil w,fun i h=>by simp at h⟩
theorem Jh.ext(h:Jh base eb t w v us l)(x:Ext w w'):Jh base eb t w' v us l:=
 ⟨h.out.ext x fun _ _ q=>q,h.len,h.nb.ext h.out x,fun i a b=>(h.el i a b).ext x⟩
theorem Jh.base_le{b:Nat}(h:Jh base eb t w v us l)(hb:b<=base):Jh b eb t w v us l:=by
 obtain⟨⟨ess,h1,h2,⟨h3,h4⟩,h5⟩,k2,k3,k4⟩:=h;refine⟨⟨ess,h1,h2,⟨h3,?_⟩,h5⟩,k2,k3,k4⟩;rcases h4 with h4 | ⟨g,cap,cur,a,c,d⟩
 ·exact .inl h4
 ·exact .inr ⟨g,cap,cur,a,Nat.le_trans hb c,d⟩
theorem Jh.el_le{b:Nat}(h:Jh base eb t w v us l)(hb:b<=eb):Jh base b t w v us l:=⟨h.out,h.len,h.nb,fun i h1 h2=>(h.el i h1 h2).base_le hb⟩
theorem Jh.shape(h:Jh base eb t w v us l):∃ A c,v = .slice A l.length c:=by
 obtain⟨A,c,e⟩:=h.out.len;exact⟨A,c,by rw[e,h.len]⟩
theorem Jh.at_{A:Option Addr}{n c:Nat}(h:Jh base eb t w (.slice A n c) us l){i:Nat}(hi:i < l.length) :
  ∃ g o E d,A=some ⟨g,o,none⟩/\w.cell? ⟨g,o+i,none⟩=some (.slice E (pl l[i]) d)/\AB 0 w (.slice E (pl l[i]) d) l[i]:=by
 obtain⟨h0,h1,-,h2⟩:=h;have hi':i < us.length:=by omega
 obtain⟨A',c',e,-,-,hA⟩:=BB.row h0;have eA:A'=A:=by injection e with h1;exact h1.symm
 subst eA;obtain⟨g,o,ha,hb,hc⟩:=hA Aa;obtain⟨cs,q1,q2,q3,-⟩:=hc i hi';have k2:=h2 i hi' hi;obtain⟨E,d,e2,-⟩:=AB.shape k2;have e3:cs=#[us[i]]:=by injection q3
 refine⟨g,o,E,d,ha,?_,by rw[<-e2];exact k2.base_le (Nat.zero_le _)⟩;have:=q2 0 Aa;rw[e3,e2,Nat.mul_one]at this;exact this
theorem Jh.append{P:Program}{A:Option Addr}{n c:Nat}{F:Nat->Rat}(h:Jh base eb t w v us l)(hu:AB eb w (.slice A n c) F)
  (tt ty:TypeId) (i:TypeInfo) (z:Value) (bytes:Nat) (hT:P.underlying tt=some (.slice t)) (hi:P.info? t=some i) (hz:i.zero=some z) (hsize:i.size=1) (hby:i.bytes=bytes) (hzs:z.cells.size=1) (hzd:nodig z.cells=true) (hzB:∀ u∈z.cells.toList,Ro u=false)
  (h63:l.length+1<=maxLen) (hbytes:(l.length+1)*bytes<=140737488355328) (hbase:base<=w.heap.size) :
  ∃ v' w',(Builtin.append_ #[tt,tt] ty #[v,.slice (some ⟨w.heap.size,0,none⟩) 1 1]).run P (w.alloc (.cells #[.slice A n c] t)) = .ok v' w'/\Jh base eb t w' v' (us ++ [.slice A n c]) (l ++ [F]) /\
   Cc (blk v) (w.alloc (.cells #[.slice A n c] t)) w'/\Nk (w.alloc (.cells #[.slice A n c] t)) v:=by
 have hb:=Ba.new w t #[.slice A n c] (by simp[Ah]);have x:=(Ext.refl w).alloc (.cells #[.slice A n c] t);have h':=h.ext x;have hu':=hu.ext x;have hl:=h.len;obtain⟨v',w',a,b,U,B⟩:=BB.append_blk (P:=P) (x:=Value.slice A n c) h'.out tt ty i z bytes hT hi hz hsize hby hzs hzd Ab ⟨w.heap.size,0,none⟩ 1 #[.slice A n c] rfl ⟨rfl,_,_,_,rfl⟩ (MB w t _) (by simp[Value.oneCell']) (by simp[nodig,Ah]) Aa (by rw[hl];exact hbytes) (Nat.le_trans hbase x.size) (fun _ _ _ _ q=>q) h'.nb (by simp[Ro]) hzB
 refine⟨v',w',a,⟨b,by simp[hl],B,fun j a1 a2=>?_⟩,U,h'.nb⟩;by_cases hj:j < us.length
 ·rw[List.getElem_append_left hj,List.getElem_append_left Aa]
  exact(h'.el j hj Aa).updB U h'.nb
 ·rw[List.getElem_append_right Aa,List.getElem_append_right Aa]
  have e0:j - us.length=0:=by simp at a1;omega
  have e1:j - l.length=0:=by omega
  simp only[e0,e1,List.getElem_cons_zero];exact hu'.updB U h'.nb
end
theorem CU.updN{α:Type}{k:Nat}{rd:World->Value->α->Prop}{base g o n c:Nat}{w w':World}{l:List α}{G:List Nat}(h:CU k rd base w (.slice (some ⟨g,o,none⟩) n c) l)(U:Cc G w w')(hg:g∉G)(hr:∀ u x,rd w u x->rd w' u x):CU k rd base w' (.slice (some ⟨g,o,none⟩) n c) l:=by
 obtain⟨A,c,h1,h2,h3,h4⟩:=h;refine⟨A,c,h1,h2,h3,fun h0=>?_⟩;obtain⟨g',o',ha,hb,hc⟩:=h4 h0;have e:A=some ⟨g,o,none⟩:=by injection h1 with h5;exact h5.symm
 rw[e]at ha;injection ha with ha;injection ha with ha1 ha2;subst ha1;refine⟨g,o',by rw[e,ha2],hb,fun j hj=>?_⟩;obtain⟨cs,q1,q2,q3⟩:=hc j hj;refine⟨cs,q1,fun i hi=>?_,hr _ _ q3⟩;rw[<-q2 i hi];have hs:cs[i]? = some cs[i]:=Array.getElem?_eq_getElem Aa;have hcell:=(q2 i hi).trans hs;have hlt:=World.block_lt_of_cell? w _ hcell;have hblk:=U.1 g w.heap[g] hg (Array.getElem?_eq_getElem hlt);unfold World.cell?
 simp only[hblk,Array.getElem?_eq_getElem hlt]
def Mx(G:List Nat)(w:World)(v:Value)(F:Nat->Rat):Prop:=AB 0 w v F/\∃ g o c,v = .slice (some ⟨g,o,none⟩) (pl F) c/\c<=9223372036854775807/\g∉G
theorem Mx.ext{G:List Nat}{w w':World}{v:Value}{F:Nat->Rat}(h:Mx G w v F)(e:Ext w w'):Mx G w' v F:=⟨h.1.ext e,h.2⟩
theorem Mx.upd{L G:List Nat}{w w':World}{v:Value}{F:Nat->Rat}(h:Mx G w v F)(U:Cc L w w')(hL:∀ g∈L,g∈G):Mx G w' v F:=by
 obtain⟨⟨l,h1,h2,h3⟩,g,o,c,rfl,hc,hg⟩:=h;exact⟨⟨l,CU.updN h1 U (fun hm=>hg (hL g hm)) fun _ _ q=>q.kd U.kd,h2,h3⟩,g,o,c,rfl,hc,hg⟩
theorem AB.off{base:Nat}{G:List Nat}{w:World}{v:Value}{F:Nat->Rat}(h:AB base w v F)(h0:0 < pl F)(hG:∀ g∈G,base<=g->g < w.heap.size->False):Mx G w v F:=by
 have h':=h.base_le (Nat.zero_le _);obtain⟨A,c,l,rfl,k1,k2,hA,k3,k4,k5⟩:=h.form;obtain⟨g,o,b,A1,n,c1,rfl,hb,q0,q1,hq⟩:=hA.at_ (j:=0) Aa;exact⟨h',g,o,c,rfl,k2,fun hm=>hG g hm hb (World.block_lt_of_cell? w _ q0)⟩
theorem Ja.sizes{F0 G0 F G:Nat->Rat}{D S:Nat}{x y:Int}(h:Ja F0 G0 D S F G x y){M:Nat}(hM:M=(S+1)*2^D)(hB:8+8*((D+1)*((D+1)*M))<=1099511627776) :
  (∀ i,qsz (F i)<=M)/\(∀ i,qsz (G i)<=M)/\sz x.natAbs+2*(D*M)+2<=549755813888/\sz y.natAbs+D*(D*M)+2<=549755813888/\M+(pl F+1)*(M+1)+M<=549755813888/\1+D*(D*M)<=549755813888/\1+D*M<=549755813888/\M<=549755813888/\D*D<=549755813888/\D<=549755813888:=by
 have up:∀ a:Nat,a<=D->(S+1)*2^a<=M:=fun a ha=>by rw[hM];exact Nat.mul_le_mul_left _ (Nat.pow_le_pow_right Ab ha)
 have h1:=up (D - (pl F+pl G)) Aa;have hlen:=h.len;have sx:=h.sx;have sy:=h.sy;rw[<-hM]at sx sy;have e1:(D - (pl F+pl G))*(D*M)<=D*(D*M):=Nat.mul_le_mul_right _ Aa;have e2:(D+1)*((D+1)*M)=D*(D*M)+2*(D*M)+M:=by rw[Nat.succ_mul,Nat.succ_mul,Nat.mul_add];omega
 have e3:(pl F+1)*(M+1)<=(D+1)*(M+1):=Nat.mul_le_mul_right _ Aa;have e4:(D+1)*(M+1)=D*M+M+D+1:=by rw[Nat.succ_mul,Nat.mul_succ];omega
 have hM1:1<=M:=by rw[hM];exact Nat.mul_pos Aa (Nat.pow_pos Ab)
 have e5:D*1<=D*M:=Nat.mul_le_mul_left _ hM1;have e6:D*D<=D*(D*M):=Nat.mul_le_mul_left _ (by rw[Nat.mul_one]at e5;exact e5);refine⟨fun i=>by have:=h.qF i;omega,fun i=>by have:=h.qG i;omega,?_,?_,?_,?_,?_,?_,?_,?_⟩<;>omega
theorem Ja.more{F0 G0 F G:Nat->Rat}{D S:Nat}{x y:Int}(h:Ja F0 G0 D S F G x y){M:Nat}(hM:M=(S+1)*2^D)(hB:8+8*((D+1)*((D+1)*M))<=1099511627776)(h1:1 < pl G)(hl:pl G<=pl F){R:Nat->Rat}(hR:R=D7 F G (pl F+1 - pl G))(h0:R≠pz){b d k n:Nat}(hb:b=pl G - 1)(hd:d=pl F - 1 - (pl R - 1))(hk:k=(pl F+1 - pl G)*(pl G - 1)) :
  (∀ i,qsz (R i)<=M)/\sz (pcn R).natAbs<=M/\sz (ld G).num.natAbs<=M/\(1+b*M<=1099511627776/\b<=1099511627776)/\(1+d*M<=1099511627776/\d<=1099511627776)/\(1+k*M<=1099511627776/\k<=1099511627776)/\sz (ZA n x*pcn R^b).natAbs<=1099511627776/\sz (pcn R^b).natAbs<=1099511627776/\sz ((ld G).num^d).natAbs<=1099511627776/\sz ((ld G).num^k).natAbs<=1099511627776/\sz (ZA n x).natAbs<=1099511627776:=by
 obtain⟨s1,s2,s3,s4,s5,s6,s7,s8,s9,s10⟩:=h.sizes hM hB;obtain⟨-,-,r3⟩:=h.room hl hR;have hlen:=h.len;have up:∀ a:Nat,a<=D->(S+1)*2^a<=M:=fun a ha=>by rw[hM];exact Nat.mul_le_mul_left _ (Nat.pow_le_pow_right Ab ha)
 have hRq:∀ i,qsz (R i)<=M:=fun i=>by have a:=r3 i;have b:=up (D - (pl F+pl G)+(pl F+1 - pl G)) Aa;omega
 have p1:sz (pcn R).natAbs<=M:=by rw[F8];exact Jg hRq _
 have p2:sz (ld G).num.natAbs<=M:=Nat.le_trans (Fs _) (s2 (pl G - 1));have c1:b*M<=D*M:=Nat.mul_le_mul_right _ Aa;have c2:d*M<=D*M:=Nat.mul_le_mul_right _ Aa;have c3:k<=D*D:=by rw[hk];exact Nat.mul_le_mul Aa Aa
 have c4:k*M<=D*(D*M):=by rw[<-Nat.mul_assoc];exact Nat.mul_le_mul_right _ c3
 have t1:=IE _ _ p1 b;have t2:=IE _ _ p2 d;have t3:=IE _ _ p2 k;have t4:=BV (ZA n x).natAbs (pcn R^b).natAbs;rw[<-Int.natAbs_mul]at t4;rw[Ls]at t4;refine⟨hRq,p1,p2,⟨Aa,Aa⟩,⟨Aa,Aa⟩,⟨Aa,Aa⟩,Aa,Aa,Aa,Aa,by rw[Ls];omega⟩
theorem Y5{R:Nat->Rat}(hz:ZI R)(hf:Ae R)(h0:R≠pz):(ld (pp R)).num≠0/\(ld (pp R)).num∣(ld R).num/\(ld R).num / (ld (pp R)).num=pcn R:=by
 have hn:=Dl hz hf h0;have h1:=CV (Dx hf) (TV hz hf h0);have z1:=Oc (Ha hz hf);have z2:=Oc hz;have hp:(ld (pp R)).num≠0:=fun e=>h1 (by rw[z1,e];rfl);have e:ld R=(pcn R:Rat)*ld (pp R):=by
  rw[Xv hz hf h0];have:(pcn R:Rat)≠0:=fun e=>hn (Ff (by rw[e];rfl));grind
 rw[z1,z2,<-Rat.intCast_mul]at e;have e2:=Ff e;rw[e2];exact⟨hp,⟨pcn R,Int.mul_comm _ _⟩,Int.mul_ediv_cancel _ hp⟩
def QV:Value->Nat
 | .slice _ n _=>n
 | _=>0
theorem I5.of{l:List Rat}(h:co l (l.length - 1)≠0):I5 l:=fun h0=>by rw[<-F6];exact h
theorem K4(b o i:Nat):(⟨b,o,none⟩:Addr).add i=⟨b,o+i,none⟩:=by unfold Addr.add;split<;>simp_all
abbrev Raw:=Bool×List Nat×Bool×List Nat
def Lc(w:World)(v:Value)(x:Raw):Prop:=∃ A n c A' n' c',v = .agg #[.bool x.1,.slice A n c,.bool x.2.2.1,.slice A' n' c']/\BH w (.slice A n c) x.2.1/\BH w (.slice A' n' c') x.2.2.2
def K8(w:World)(v:Value)(l:List Raw):Prop:=CU 4 Lc 0 w v l
theorem Lc.ext{w w':World}{v:Value}{x:Raw}(h:Lc w v x)(e:Ext w w'):Lc w' v x:=by
 obtain⟨A,n,c,A',n',c',h1,h2,h3⟩:=h;exact⟨A,n,c,A',n',c',h1,h2.ext e,h3.ext e⟩
theorem K8.ext{w w':World}{v:Value}{l:List Raw}(h:K8 w v l)(e:Ext w w'):K8 w' v l:=CU.ext h e fun _ _ q=>q.ext e
def Tw(x:Raw):Prop:=x.2.1.length<=2/\x.2.2.2.length<=2
def PR(x:Raw):Rat:=Rat.divInt (iv x.1 x.2.1) (iv x.2.2.1 x.2.2.2)
theorem SH(b:Bool)(ds:List Nat):(iv b ds).natAbs=nv ds:=by unfold iv;cases b<;>simp
theorem Tj{w:World}{v:Value}{ds:List Nat}(h:BH w v ds):sz (nv ds)<=ds.length:=by
 obtain⟨_,_,_,_,_,hA⟩:=h;exact Xi hA.1
theorem Lc.has{w:World}{v:Value}{x:Raw}(h:Lc w v x)(hs:Tw x):Ce w v (PR x)/\qsz (PR x)<=2:=by
 obtain⟨A,n,c,A',n',c',rfl,h2,h3⟩:=h;have s1:=Tj h2;have s2:=Tj h3;obtain⟨k1,k2⟩:=hs;have e1:=SH x.1 x.2.1;have e2:=SH x.2.2.1 x.2.2.2;exact⟨⟨_,A,n,c,_,A',n',c',_,_,rfl,⟨_,_,⟨_,rfl,h2⟩,rfl,Aa⟩,⟨_,_,⟨_,rfl,h3⟩,rfl,Aa⟩,by rw[e1];omega,by rw[e2];omega,rfl⟩,
  Dp (by rw[e1];omega) (by rw[e2];omega) Aa⟩
theorem K8.has{w:World}{v:Value}{l:List Raw}(h:K8 w v l)(hs:∀ x∈l,Tw x):Qb 0 w v (l.map PR):=by
 obtain⟨A,c,h1,h2,h3,h4⟩:=h;refine⟨A,c,by simpa using h1,by simpa using h2,h3,fun h0=>?_⟩;obtain⟨g,o,q1,q2,q3⟩:=h4 (by simpa using h0);refine⟨g,o,q1,q2,fun j hj=>?_⟩;have hj':j < l.length:=by simpa using hj
 obtain⟨cs,r1,r2,r3⟩:=q3 j hj';refine⟨cs,r1,r2,?_⟩;rw[List.getElem_map];exact(r3.has (hs _ (List.getElem_mem hj'))).1
theorem K8.len{w:World}{v:Value}{l:List Raw}(h:K8 w v l):∃ A c,v = .slice A l.length c/\l.length<=c/\c<=9223372036854775807:=by
 obtain⟨A,c,h1,h2,h3,h4⟩:=h;exact⟨A,c,h1,h2,h3⟩
theorem K8.at_{w:World}{A:Option Addr}{n c:Nat}{l:List Raw}(h:K8 w (.slice A n c) l){j:Nat}(hj:j < l.length) :
  ∃ g o A1 n c A1' n' c',A=some ⟨g,o,none⟩/\w.cell? ⟨g,o+j*4,none⟩=some (.bool l[j].1)/\w.cell? ⟨g,o+j*4+1,none⟩=some (.slice A1 n c)/\w.cell? ⟨g,o+j*4+2,none⟩=some (.bool l[j].2.2.1)/\w.cell? ⟨g,o+j*4+3,none⟩=some (.slice A1' n' c')/\n=l[j].2.1.length/\n'=l[j].2.2.2.length:=by
 obtain⟨A',c',e1,h2,h3,h4⟩:=h;have e5:A'=A:=by injection e1 with h1;exact h1.symm
 subst e5;obtain⟨g,o,ha,hb,hc⟩:=h4 Aa;obtain⟨cs,q1,q2,q3⟩:=hc j hj;obtain⟨A1,n1,c1,A2,n2,c2,e,d1,d2⟩:=q3;obtain rfl:=V8 e;obtain⟨_,_,f1,_⟩:=d1;obtain⟨_,_,f2,_⟩:=d2;exact⟨g,o,A1,n1,c1,A2,n2,c2,ha,q2 0 Aa,q2 1 Aa,q2 2 Aa,q2 3 Aa,by injection f1,by injection f2⟩
theorem Lc.cells{w:World}{v:Value}{x:Raw}(h:Lc w v x):∃ b A n c b' A' n' c',v = .agg #[.bool b,.slice A n c,.bool b',.slice A' n' c']:=by
 obtain⟨A,n,c,A',n',c',e,_⟩:=h;exact⟨_,A,n,c,_,A',n',c',e⟩
def Qg(w:World)(v:Value)(p:Rat×Rat):Prop:=
 ∃ b1 A1 n1 c1 b2 A2 n2 c2 b3 A3 n3 c3 b4 A4 n4 c4,v = .agg #[.bool b1,.slice A1 n1 c1,.bool b2,.slice A2 n2 c2,.bool b3,.slice A3 n3 c3,.bool b4,.slice A4 n4 c4] /\
  Ce w (.agg #[.bool b1,.slice A1 n1 c1,.bool b2,.slice A2 n2 c2]) p.1/\Ce w (.agg #[.bool b3,.slice A3 n3 c3,.bool b4,.slice A4 n4 c4]) p.2
theorem Qg.ext{w w':World}{v:Value}{p:Rat×Rat}(h:Qg w v p)(e:Ext w w'):Qg w' v p:=by
 obtain⟨b1,A1,n1,c1,b2,A2,n2,c2,b3,A3,n3,c3,b4,A4,n4,c4,h1,h2,h3⟩:=h;exact⟨b1,A1,n1,c1,b2,A2,n2,c2,b3,A3,n3,c3,b4,A4,n4,c4,h1,h2.ext e,h3.ext e⟩
def V9(w:World)(v:Value)(l:List (Rat×Rat)):Prop:=CU 8 Qg 0 w v l
def WW(w:World)(A:Option Addr)(l:List (Rat×Rat)):Prop:=Dr 8 Qg 0 w A l
theorem V9.ext{w w':World}{v:Value}{l:List (Rat×Rat)}(h:V9 w v l)(e:Ext w w'):V9 w' v l:=CU.ext h e fun _ _ q=>q.ext e
theorem WW.at_{w:World}{A:Option Addr}{l:List (Rat×Rat)}(h:WW w A l){j:Nat}(hj:j < l.length) :
  ∃ g o b1 A1 n1 c1 b2 A2 n2 c2 b3 A3 n3 c3 b4 A4 n4 c4,A=some ⟨g,o,none⟩/\w.cell? ⟨g,o+j*8,none⟩=some (.bool b1)/\w.cell? ⟨g,o+j*8+1,none⟩=some (.slice A1 n1 c1)/\w.cell? ⟨g,o+j*8+2,none⟩=some (.bool b2)/\w.cell? ⟨g,o+j*8+3,none⟩=some (.slice A2 n2 c2) /\
   w.cell? ⟨g,o+j*8+4,none⟩=some (.bool b3)/\w.cell? ⟨g,o+j*8+5,none⟩=some (.slice A3 n3 c3)/\w.cell? ⟨g,o+j*8+6,none⟩=some (.bool b4)/\w.cell? ⟨g,o+j*8+7,none⟩=some (.slice A4 n4 c4) /\
   Ce w (.agg #[.bool b1,.slice A1 n1 c1,.bool b2,.slice A2 n2 c2]) l[j].1/\Ce w (.agg #[.bool b3,.slice A3 n3 c3,.bool b4,.slice A4 n4 c4]) l[j].2:=by
 obtain⟨g,o,ha,hb,hc⟩:=h Aa;obtain⟨cs,q1,q2,q3⟩:=hc j hj;obtain⟨b1,A1,n1,c1,b2,A2,n2,c2,b3,A3,n3,c3,b4,A4,n4,c4,e,h1,h2⟩:=q3;obtain rfl:cs=#[.bool b1,.slice A1 n1 c1,.bool b2,.slice A2 n2 c2,.bool b3,.slice A3 n3 c3,.bool b4,.slice A4 n4 c4]:=by injection e
 exact⟨g,o,b1,A1,n1,c1,b2,A2,n2,c2,b3,A3,n3,c3,b4,A4,n4,c4,ha,q2 0 Aa,q2 1 Aa,q2 2 Aa,q2 3 Aa,q2 4 Aa,q2 5 Aa,q2 6 Aa,q2 7 Aa,h1,h2⟩
theorem V9.len{w:World}{v:Value}{l:List (Rat×Rat)}(h:V9 w v l):∃ A c,v = .slice A l.length c/\l.length<=c/\c<=9223372036854775807/\WW w A l:=h
def px(l:List (Rat×Rat))(i:Nat):Rat:=(l.getD i (0,0)).1
def py(l:List (Rat×Rat))(i:Nat):Rat:=(l.getD i (0,0)).2
theorem iF{l:List (Rat×Rat)}{i:Nat}(h:i < l.length):px l i=l[i].1:=by unfold px;rw[List.getD_eq_getElem?_getD,List.getElem?_eq_getElem h];rfl
theorem iK{l:List (Rat×Rat)}{i:Nat}(h:i < l.length):py l i=l[i].2:=by unfold py;rw[List.getD_eq_getElem?_getD,List.getElem?_eq_getElem h];rfl
theorem KX.step{X:Nat->Rat}{n:Nat}(h:KX X n)(k:∀ j,j < n->X n≠X j):KX X (n+1):=fun i j hi hj=>by
 rcases Nat.lt_or_ge i n with l | l
 ·exact h i j l hj
 ·obtain rfl:i=n:=by omega
  exact k j hj
abbrev Jy:=Bool×List Nat
def OX(w:World)(v:Value)(x:Jy):Prop:=PM w v x.1 x.2
theorem OX.ext{w w':World}{v:Value}{x:Jy}(h:OX w v x)(e:Ext w w'):OX w' v x:=by
 obtain⟨u,h1,h2⟩:=h;exact⟨u,h1,h2.ext e⟩
def DY(w:World)(v:Value)(l:List Jy):Prop:=CU 2 OX 0 w v l
theorem DY.ext{w w':World}{v:Value}{l:List Jy}(h:DY w v l)(e:Ext w w'):DY w' v l:=CU.ext h e fun _ _ q=>q.ext e
abbrev JV:=Raw×Raw
def PX(w:World)(v:Value)(x:JV):Prop:=
 ∃ b1 A1 n1 c1 b2 A2 n2 c2 b3 A3 n3 c3 b4 A4 n4 c4,v = .agg #[.bool b1,.slice A1 n1 c1,.bool b2,.slice A2 n2 c2,.bool b3,.slice A3 n3 c3,.bool b4,.slice A4 n4 c4] /\
  Lc w (.agg #[.bool b1,.slice A1 n1 c1,.bool b2,.slice A2 n2 c2]) x.1/\Lc w (.agg #[.bool b3,.slice A3 n3 c3,.bool b4,.slice A4 n4 c4]) x.2
theorem PX.ext{w w':World}{v:Value}{x:JV}(h:PX w v x)(e:Ext w w'):PX w' v x:=by
 obtain⟨b1,A1,n1,c1,b2,A2,n2,c2,b3,A3,n3,c3,b4,A4,n4,c4,h1,h2,h3⟩:=h;exact⟨b1,A1,n1,c1,b2,A2,n2,c2,b3,A3,n3,c3,b4,A4,n4,c4,h1,h2.ext e,h3.ext e⟩
def Kn(w:World)(v:Value)(l:List JV):Prop:=CU 8 PX 0 w v l
def PU(w:World)(A:Option Addr)(l:List JV):Prop:=Dr 8 PX 0 w A l
theorem Kn.ext{w w':World}{v:Value}{l:List JV}(h:Kn w v l)(e:Ext w w'):Kn w' v l:=CU.ext h e fun _ _ q=>q.ext e
theorem PU.at_{w:World}{A:Option Addr}{l:List JV}(h:PU w A l){j:Nat}(hj:j < l.length) :
  ∃ g o b1 A1 n1 c1 b2 A2 n2 c2 b3 A3 n3 c3 b4 A4 n4 c4,A=some ⟨g,o,none⟩/\w.cell? ⟨g,o+j*8,none⟩=some (.bool b1)/\w.cell? ⟨g,o+j*8+1,none⟩=some (.slice A1 n1 c1)/\w.cell? ⟨g,o+j*8+2,none⟩=some (.bool b2)/\w.cell? ⟨g,o+j*8+3,none⟩=some (.slice A2 n2 c2) /\
   w.cell? ⟨g,o+j*8+4,none⟩=some (.bool b3)/\w.cell? ⟨g,o+j*8+5,none⟩=some (.slice A3 n3 c3)/\w.cell? ⟨g,o+j*8+6,none⟩=some (.bool b4)/\w.cell? ⟨g,o+j*8+7,none⟩=some (.slice A4 n4 c4) /\
   Lc w (.agg #[.bool b1,.slice A1 n1 c1,.bool b2,.slice A2 n2 c2]) l[j].1/\Lc w (.agg #[.bool b3,.slice A3 n3 c3,.bool b4,.slice A4 n4 c4]) l[j].2:=by
 obtain⟨g,o,ha,hb,hc⟩:=h Aa;obtain⟨cs,q1,q2,q3⟩:=hc j hj;obtain⟨b1,A1,n1,c1,b2,A2,n2,c2,b3,A3,n3,c3,b4,A4,n4,c4,e,h1,h2⟩:=q3;obtain rfl:cs=#[.bool b1,.slice A1 n1 c1,.bool b2,.slice A2 n2 c2,.bool b3,.slice A3 n3 c3,.bool b4,.slice A4 n4 c4]:=by injection e
 exact⟨g,o,b1,A1,n1,c1,b2,A2,n2,c2,b3,A3,n3,c3,b4,A4,n4,c4,ha,q2 0 Aa,q2 1 Aa,q2 2 Aa,q2 3 Aa,q2 4 Aa,q2 5 Aa,q2 6 Aa,q2 7 Aa,h1,h2⟩
def bQ(x:JV):Prop:=Tw x.1/\Tw x.2
def eO(x:JV):Rat×Rat:=(PR x.1,PR x.2)
theorem Kn.has{w:World}{v:Value}{l:List JV}(h:Kn w v l)(hs:∀ x∈l,bQ x):V9 w v (l.map eO)/\(∀ i,i < l.length->qsz (px (l.map eO) i)<=2/\qsz (py (l.map eO) i)<=2):=by
 obtain⟨A,c,h1,h2,h3,h4⟩:=h;refine⟨⟨A,c,by simpa using h1,by simpa using h2,h3,fun h0=>?_⟩,fun i hi=>?_⟩
 ·obtain⟨g,o,q1,q2,q3⟩:=h4 (by simpa using h0)
  refine⟨g,o,q1,q2,fun j hj=>?_⟩;have hj':j < l.length:=by simpa using hj
  obtain⟨cs,r1,r2,b1,A1,n1,c1,b2,A2,n2,c2,b3,A3,n3,c3,b4,A4,n4,c4,e,k1,k2⟩:=q3 j hj';refine⟨cs,r1,r2,?_⟩;rw[List.getElem_map];have hsm:=hs _ (List.getElem_mem hj');exact⟨b1,A1,n1,c1,b2,A2,n2,c2,b3,A3,n3,c3,b4,A4,n4,c4,e,(k1.has hsm.1).1,(k2.has hsm.2).1⟩
 ·obtain⟨g,o,q1,q2,q3⟩:=h4 Aa
  obtain⟨cs,r1,r2,b1,A1,n1,c1,b2,A2,n2,c2,b3,A3,n3,c3,b4,A4,n4,c4,e,k1,k2⟩:=q3 i hi;have hsm:=hs _ (List.getElem_mem hi);rw[iF (by simpa using hi),iK (by simpa using hi),List.getElem_map];exact⟨(k1.has hsm.1).2,(k2.has hsm.2).2⟩
def Zj(x:Jy):Int:=iv x.1 x.2
theorem OX.has{w:World}{v:Value}{x:Jy}(h:OX w v x)(hs:x.2.length<=1099511627776):Bj w v (Zj x)/\sz (Zj x).natAbs<=x.2.length:=by
 have h':=h;obtain⟨s,rfl,hd⟩:=h';refine⟨⟨x.1,x.2,h,rfl,hs⟩,?_⟩;have:=Tj hd;unfold Zj;rw[SH];exact this
theorem DY.len{w:World}{v:Value}{l:List Jy}(h:DY w v l):∃ A c,v = .slice A l.length c/\l.length<=c/\c<=9223372036854775807:=by
 obtain⟨A,c,h1,h2,h3,h4⟩:=h;exact⟨A,c,h1,h2,h3⟩
theorem DY.at_{w:World}{A:Option Addr}{n c:Nat}{l:List Jy}(h:DY w (.slice A n c) l){j:Nat}(hj:j < l.length) :
  ∃ g o A1 c,A=some ⟨g,o,none⟩/\w.cell? ⟨g,o+j*2,none⟩=some (.bool l[j].1)/\w.cell? ⟨g,o+j*2+1,none⟩=some (.slice A1 l[j].2.length c)/\OX w (.agg #[.bool l[j].1,.slice A1 l[j].2.length c]) l[j]:=by
 obtain⟨A',c',e1,h2,h3,h4⟩:=h;have e5:A'=A:=by injection e1 with h1;exact h1.symm
 subst e5;obtain⟨g,o,q1,q2,q3⟩:=h4 Aa;obtain⟨cs,r1,r2,r3⟩:=q3 j hj;have hr:=r3;obtain⟨s,e,A1,c1,e2,k⟩:=r3;subst e2;have e:=Ri e;subst e;exact⟨g,o,A1,c1,q1,r2 0 Aa,r2 1 Aa,hr⟩
theorem DY.has{w:World}{v:Value}{l:List Jy}{d:Nat}(h:DY w v l)(hs:∀ x∈l,x.2.length<=d)(hd:d<=1099511627776:=by omega):Gd 0 w v (l.map Zj)/\∀ x∈l.map Zj,sz x.natAbs<=d:=by
 obtain⟨A,c,h1,h2,h3,h4⟩:=h;have key:∀ j (hj:j < l.length),∃ cs:Array Value,cs.size=2/\OX w (.agg cs) l[j]:=fun j hj=>by
  obtain⟨g,o,q1,q2,q3⟩:=h4 Aa;obtain⟨cs,r1,r2,r3⟩:=q3 j hj;exact⟨cs,r1,r3⟩
 refine⟨⟨A,c,by simpa using h1,by simpa using h2,h3,fun h0=>?_⟩,fun x hx=>?_⟩
 ·obtain⟨g,o,q1,q2,q3⟩:=h4 (by simpa using h0)
  refine⟨g,o,q1,q2,fun j hj=>?_⟩;have hj':j < l.length:=by simpa using hj
  obtain⟨cs,r1,r2,r3⟩:=q3 j hj';refine⟨cs,r1,r2,?_⟩;rw[List.getElem_map];exact(r3.has (Nat.le_trans (hs _ (List.getElem_mem hj')) hd)).1
 ·obtain⟨y,hy,rfl⟩:=List.mem_map.1 hx
  obtain⟨j,hj,rfl⟩:=List.getElem_of_mem hy;obtain⟨cs,-,r3⟩:=key j hj;have:=hs _ (List.getElem_mem hj);exact Nat.le_trans (r3.has Aa).2 this
theorem DY.qsz{w:World}{v:Value}{l:List Jy}{d:Nat}(h:DY w v l)(hs:∀ x∈l,x.2.length<=d)(hd:d<=1099511627776:=by omega)(h1:1<=d:=by omega)(i:Nat):qsz (cz (l.map Zj) i)<=d:=Ot (h.has hs hd).2 h1 i
theorem MM(k:Nat)(F:Nat->Rat):DL (k+1) F=DL k F ++ [(F k).num]:=by simp[DL,List.range_succ]
theorem Jv{n:Nat}(h:n<=1099511627776):n+1<=maxLen:=by simp only[maxLen];omega
theorem fI(l:List Int):DL l.length (cz l)=l:=by
 apply List.ext_getElem
 ·rw[AR]
 ·intro i h1 h2;rw[Ca,Cq h2];rfl
theorem eG{base:Nat}{w:World}{v:Value}{n:Nat}{F:Nat->Rat}{e:TypeId}(h:Ed base e w v (DL n F))(hs:∀ i,qsz (F i)<=1099511627776):Gd 0 w v (DL n F):=
 MX.has h.row fun x hx=>by
  obtain⟨i,hi,rfl⟩:=List.getElem_of_mem hx;rw[Ca];have:=hs i;unfold qsz at this;omega
def JF(w:World)(v:Value)(x:Int):Prop:=∃ a,v = .tuple #[a,.int .i64 0]/\AO w a x
theorem JF.ext{w w':World}{v:Value}{x:Int}(h:JF w v x)(e:Ext w w'):JF w' v x:=by
 obtain⟨a,h1,h2⟩:=h;exact⟨a,h1,h2.kd e.kd⟩
theorem BX.dens{w:World}{b b':Bool}{A A':Option Addr}{n c n' c':Nat}{q:Rat}(h:BX w (.agg #[.bool b,.slice A n c,.bool b',.slice A' n' c']) q)(hs:qsz q<=274877906944):Bj w (.agg #[.bool b',.slice A' n' c']) (q.den:Int)/\Bj w (.agg #[.bool b,.slice A n c]) q.num:=by
 have h1:=h.parts4;have h2:=TY q;have h3:=Ou q;exact⟨h1.2.has Aa,h1.1.has Aa⟩
theorem AB.upd{base:Nat}{G:List Nat}{w w':World}{v:Value}{F:Nat->Rat}(h:AB base w v F)(U:Cc G w w')(hG:∀ g∈G,g < base):AB base w' v F:=by
 obtain⟨l,h1,h2,h3⟩:=h;exact⟨l,CU.upd h1 U hG fun _ _ q=>q.kd U.kd,h2,h3⟩
def Tz(bs n:Nat)(F:Nat->Rat)(r:Value)(w':World):Prop:=∃ a b,r = .tuple #[a,b]/\AB bs w' a (pp (DD n F))/\BX w' b (Lh n F)
theorem RV(n:Nat):DD n pz=pz:=FM _
theorem Yl(n:Nat):Lh n pz=0:=by
 unfold Lh;rw[RV,Iu];show(0:Rat) / 0=0
 decide +kernel
theorem aH{F:Nat->Rat}{s:Nat}(z:ZI F)(h:∀ i,qsz (F i)<=s):CD s F:=by
 have h1:=Dw (F 0);have h2:=h 0;refine⟨1,bp s - 1,⟨Aa,fun i=>⟨(F i).num,?_,?_⟩⟩,?_,?_⟩
 ·have e:((1:Nat):Rat)=1:=rfl
  rw[e,<-z.num i];grind
 ·have h3:=Nat.le_trans (Fs (F i)) (h i)
  have h4:=EB.1 h3;omega
 ·have:sz 1=1:=by decide
  omega
 ·have:0 < bp s:=by have:=EB.1 (show sz 0<=s by have:sz 0=0:=Ab;omega);omega
  exact Cj Aa
theorem Jh.one{base eb:Nat}{t:TypeId}{w:World}{A:Option Addr}{n c:Nat}{F:Nat->Rat}(hu:AB eb w (.slice A n c) F)(hb:base<=w.heap.size) :
  Jh base eb t (w.alloc (.cells #[.slice A n c] t)) (.slice (some ⟨w.heap.size,0,none⟩) 1 1) [.slice A n c] [F]:=by
 have hB:=Ba.new w t #[.slice A n c] (by simp[Ah]);refine⟨⟨[#[.slice A n c]],rfl,Ac,⟨Ac,.inr ⟨_,1,_,rfl,hb,hB,Nat.le_refl _,by simp[maxLen],Ac,Ac⟩⟩,fun j h h'=>?_⟩,rfl,Oj hB.1 (by simp[Ro]),fun i h h'=>?_⟩
 ·have:j=0:=by simp at h;omega
  subst this;exact⟨rfl,_,_,_,rfl⟩
 ·have:i=0:=by simp at h;omega
  subst this;exact hu.ext ((Ext.refl w).alloc _)
theorem iI{A B:Nat->Rat}(fA:Ae A)(fB:Ae B)(h0:B≠pz):nx A B=psc (if 0 < Lh (pl (pr A B)) (pr A B)then -1 else 1) (pp (DD (pl (pr A B)) (pr A B))):=by
 by_cases h:pr A B=pz
 ·rw[JS h,h,Yl,RV,Iu,FM]
 ·rw[Yd h]
  have:=(Ue (AA (EX fA fB)) h).1;by_cases h1:0 < ld (pr A B)
  ·rw[if_pos h1,if_pos (this.2 h1)]
  ·rw[if_neg h1,if_neg (fun q=>h1 (this.1 q))]
theorem JU{q:Rat}:0 < q.num↔0 < q:=by
 have h1:=Rat.num_nonneg (q:=q);have h2:=Rat.num_eq_zero (q:=q);constructor
 ·intro h
  have:0<=q:=h1.1 Aa;have h3:q≠0:=fun e=>by have:=h2.2 e;omega
  grind
 ·intro h
  have:0<=q.num:=h1.2 Ad;have h3:q.num≠0:=fun e=>by have:=h2.1 e;grind
  omega
theorem Uk{q:Rat}(h:0 < q):KV q=1:=Int.sign_eq_one_of_pos (JU.2 h)
theorem bJ{q:Rat}(h:¬ 0 < q):KV q<=0:=by
 unfold KV;have h1:¬ 0 < q.num:=fun k=>h (JU.1 k);rcases Int.lt_trichotomy q.num 0 with a | a | a
 ·rw[Int.sign_eq_neg_one_of_neg a];omega
 ·rw[a];decide
 ·exact absurd a h1
theorem FD.clear{F0 G0 A B:Nat->Rat}{D S M:Nat}(h:FD F0 G0 D S A B)(h0:B≠pz)(qA:∀ i,qsz (A i)<=M)(qB:∀ i,qsz (B i)<=M):CD M A/\CD M B/\CD (M+(D+1)*(M+1)) (pr A B):=by
 obtain⟨fA,fB,zA,zB,hd,-,-⟩:=h.facts;have cA:=aH zA qA;have cB:=aH zB qB;have hp:=AL fB h0;refine⟨cA,cB,(CD.pr (n:=pl A+1 - pl B) ((AA fA).mono Aa) fB h0 cA cB).mono ?_⟩;have:(pl A+1 - pl B)*(M+1)<=(D+1)*(M+1):=Nat.mul_le_mul_right _ Aa;omega
def jQ(F G:Nat->Rat)(S M:Nat):Prop:=S+1<=M/\∀ k,(∀ j,1<=j->j<=k->Cf F G j≠pz)->(∀ i,qsz (Cf F G k i)<=M)/\∀ i,qsz (Cf F G (k+1) i)<=M
theorem jQ.of2{F G:Nat->Rat}{S M:Nat}(fF:Ae F)(fG:Ae G)(zF:ZI F)(zG:ZI G)(qF:∀ i,qsz (F i)<=S)(qG:∀ i,qsz (G i)<=S)(hM:(S+1)*2^(pl F+pl G)<=M):jQ F G S M:=
 ⟨Nat.le_trans (by have:=Nat.mul_le_mul_left (S+1) (Nat.one_le_two_pow (n:=pl F+pl G));omega) hM,fun k h=>by
  have f:=(Jw fF fG zF zG qF qG k h).facts;exact⟨fun i=>Nat.le_trans (f.2.2.2.2.2.1 i) hM,fun i=>Nat.le_trans (f.2.2.2.2.2.2 i) hM⟩⟩
theorem Wn{q:Rat}{s:Nat}(h:qsz q<=s):sz q.num.natAbs<=s:=by unfold qsz at h;omega
theorem gY{F:Nat->Rat}(h:ZI F):ZI (pd F):=fun i=>by
 obtain⟨n,e⟩:=h (i+1);exact⟨((i+1:Nat):Int)*n,by unfold pd;rw[e,Rat.intCast_mul];rfl⟩
theorem Ed.off{base:Nat}{e:TypeId}{w w':World}{v:Value}{l:List Int}{g:Nat}(h:Ed base e w v l)(U:Cc [g] w w')(hg:∀ k∈blk v,k < g):Ed base e w' v l:=
 BB.upd h U (fun k hk hG=>by have:=hg k hk;simp at hG;omega) fun _ _ q=>q.kd U.kd
def Wq(w:World)(v:Value)(X Y:Nat->Rat):Prop:=∃ q r,v = .tuple #[q,r]/\FN 0 w q X/\FN 0 w r Y
theorem Wq.ext{w w':World}{v:Value}{X Y:Nat->Rat}(h:Wq w v X Y)(e:Ext w w'):Wq w' v X Y:=by
 obtain⟨q,r,h1,h2,h3⟩:=h;exact⟨q,r,h1,FN.ext h2 e,FN.ext h3 e⟩
def fd(N k:Nat):List Nat:=(List.range k).map fun j=>if j=0 then 48+N else 48
def Pm(e:TypeId)(base:Nat)(w:World)(v:Value)(l:List Nat):Prop:=w.ownsRow base e 1 v l.length (l.map fun d=>Value.int .u8 (d:Nat))
theorem Pm.alloc{e:TypeId}{base:Nat}{w:World}{v:Value}{l:List Nat}(h:Pm e base w v l)(o:Obj):Pm e base (w.alloc o) v l:=World.ownsRow.alloc h o
theorem Pm.from_{e:TypeId}{base:Nat}{a w w':World}{v:Value}{l:List Nat}(h:Pm e base w v l)(hg:w.grownBy w' v.ownBlock)(x:Ext a w)(hb:a.heap.size<=base):Ext a w':=
 x.grown hg fun k hk=>Nat.le_trans hb (World.ownsRow.lt h k hk).1
theorem Pm.row{e:TypeId}{base:Nat}{w:World}{v:Value}{l:List Nat}(h:Pm e base w v l)(h0:l≠[]):∃ g cap,v = .slice (some ⟨g,0,none⟩) l.length cap/\base<=g/\l.length<=cap/\cap<=maxLen/\∀ j (hj:j < l.length),w.cell? ⟨g,j,none⟩=some (.int .u8 (l[j]:Nat)):=by
 rcases h.2 with⟨-,h1⟩ | ⟨g,cap,cur,hv,r⟩
 ·exact absurd (List.eq_nil_of_length_eq_zero h1) h0
 ·refine⟨g,cap,hv,r.1,r.2.2.1,r.2.2.2.1,fun j hj=>?_⟩
  have:=World.ownsRow.cells h (g:=g) (by rw[hv];rfl) j (.int .u8 (l[j]:Nat)) (by simp[hj]);have e:(⟨g,0,none⟩:Addr).add j=⟨g,j,none⟩:=by simp only[Addr.add];split<;>simp_all
  rw[e]at this;exact this
theorem Ba.grown{A B:World}{row:Option Nat}{g:Nat}{t:TypeId}{cs:Array Value}(h:Ba A g t cs)(hg:A.grownBy B row)(hne:row≠some g):Ba B g t cs:=
 ⟨(hg.block g h.lt (fun e=>hne e.symm)).trans h.1,h.2⟩
theorem Pm.ne{e:TypeId}{base g:Nat}{w:World}{v:Value}{l:List Nat}(h:Pm e base w v l)(hg:g < base):v.ownBlock≠some g:=fun e=>by
 have:=(World.ownsRow.lt h g e).1;omega
def dz(n k:Nat)(h:k<=n):List (Fin n):=(List.range k).pmap (fun j (hj:j < n)=>(⟨n - 1 - j,Aa⟩:Fin n)) (fun j hj=>by have:=List.mem_range.1 hj;omega)
theorem OV{n k:Nat}(h:k+1<=n):dz n (k+1) h=dz n k (by omega) ++ [⟨n - 1 - k,by omega⟩]:=by
 unfold dz;simp[List.range_succ,List.pmap_append]
theorem VC{n k:Nat}(h:k<=n):(dz n k h).length=k:=by simp[dz]
def Fq(W:World)(b o:Nat)(v:Value):Prop:=
 ∃ b1 A1 n1 c1,v = .agg #[.bool b1,.slice A1 n1 c1]/\W.cell? ⟨b,o,none⟩=some (.bool b1)/\W.cell? ⟨b,o+1,none⟩=some (.slice A1 n1 c1)
theorem Fq.below{n₀ b o:Nat}{A B:World}{v:Value}(h:Below n₀ A B)(hb:b < n₀)(c:Fq A b o v):Fq B b o v:=by
 obtain⟨b1,A1,n1,c1,e,q0,q1⟩:=c;exact⟨b1,A1,n1,c1,e,(h.cell (p:=⟨b,o,none⟩) hb).trans q0,(h.cell (p:=⟨b,o+1,none⟩) hb).trans q1⟩
def VM(n₀ Bs:Nat)(W W':World):Prop:=Below n₀ W W'/\∀ v,W.cell? ⟨Bs,0,none⟩=some v->W'.cell? ⟨Bs,0,none⟩=some v
theorem VM.refl(n₀ Bs:Nat)(W:World):VM n₀ Bs W W:=⟨Below.refl _ _,fun _ h=>h⟩
theorem VM.trans{n₀ Bs:Nat}{A B C:World}(h:VM n₀ Bs A B)(k:VM n₀ Bs B C):VM n₀ Bs A C:=⟨h.1.trans k.1,fun v e=>k.2 v (h.2 v e)⟩
theorem iR{n₀ Bs:Nat}{w:World}(hn:n₀<=w.heap.size)(W:World)(l:Nat)(o o':Obj)(hl:w.heap.size<=l)(h:W.heap[l]? = some o)(h1:o.isCells=false)(h2:o.isWalk=false):VM n₀ Bs W (W.putObj l o'):=
 ⟨belowK_b hn W l o o' hl h h1 h2,fun v e=>cell_kept e (grownBy_putObj' W l o') (fun r er=>by cases er;exact⟨o,h,h1⟩)⟩
def hac{n:Nat}(F:Nat->Rat)(x:Rat)(pre:List (Fin n)):Rat:=pre.foldl (fun a p=>a*x+F p.1) 0
theorem PY{n:Nat}(F:Nat->Rat)(x:Rat)(pre:List (Fin n))(p:Fin n):hac F x (pre ++ [p])=hac F x pre*x+F p.1:=by simp[hac]
theorem Yb{n:Nat}(F:Nat->Rat)(x:Rat):∀ k (h:k<=n),hac F x (dz n k h)=hor F x n (n - k)
 | 0,h=>by rw[Nat.sub_zero,TD];rfl
 | k+1,h=>by
  rw[OV h,PY,Yb F x k Aa,LP F x (show n - (k+1) < n by omega),show n - (k+1)+1=n - k from by omega];show hor F x n (n - k)*x+F (n - 1 - k)=_;rw[show n - 1 - k=n - (k+1)from by omega]
theorem Z6{n s t:Nat}{F:Nat->Rat}{x:Rat}(hF:∀ i,qsz (F i)<=s)(hx:qsz x<=t)(pre:List (Fin n)):qsz (hac F x pre)<=1+pre.length*(s+t+1):=by
 have key:∀(pre:List (Fin n)) (a:Rat),qsz (pre.foldl (fun a p=>a*x+F p.1) a)<=qsz a+pre.length*(s+t+1):=by
  intro pre;induction pre with
  | nil=>intro a;simp
  | cons p pre ih =>
   intro a;have h1:=ih (a*x+F p.1);have h2:=Fb (a*x) (F p.1);have h3:=CW a x;have h4:=hF p.1;rw[List.foldl_cons,List.length_cons,Nat.succ_mul];omega
 have:=key pre 0;have h0:qsz (0:Rat)=1:=by decide
 unfold hac;omega
/-! ### absolute values -/
def ab(q:Rat):Rat:=if q < 0 then -q else q
theorem Aj(q:Rat):0<=ab q:=by unfold ab;split<;>grind
theorem Kw(q:Rat):ab (-q)=ab q:=by unfold ab;split<;>split<;>grind
theorem EH{q t:Rat}:ab q<=t ↔ -t<=q/\q<=t:=by unfold ab;split<;>grind
theorem TI(q:Rat):q<=ab q:=by unfold ab;split<;>grind
theorem TP{q:Rat}:ab q=0↔q=0:=by unfold ab;split<;>grind
theorem Fw(p q:Rat):ab (p+q)<=ab p+ab q:=by unfold ab;split<;>split<;>split<;>grind
theorem Xb(p q:Rat):ab (p - q)<=ab p+ab q:=by unfold ab;split<;>split<;>split<;>grind
theorem SQ{q:Rat}:0 < ab q↔q≠0:=by unfold ab;split<;>grind
theorem CX{q:Rat}(h:0<=q):ab q=q:=by unfold ab;split<;>grind
theorem MZ{p q:Rat}(hp:p < 0)(hq:q < 0):0 < p*q:=by
 have:=Rat.mul_pos (a:=-p) (b:=-q) Ad Ad;grind
theorem JD{p q:Rat}(hp:0 < p)(hq:q < 0):p*q < 0:=by
 have:=Rat.mul_pos (a:=p) (b:=-q) hp Ad;grind
theorem BU(p q:Rat):ab (p*q)=ab p*ab q:=by
 have z0:ab 0=0:=rfl;by_cases p0:p=0
 ·rw[p0,Rat.zero_mul,z0,Rat.zero_mul]
 by_cases q0:q=0
 ·rw[q0,Rat.mul_zero,z0,Rat.mul_zero]
 by_cases a:p < 0<;>by_cases b:q < 0
 ·have:=MZ a b;unfold ab;rw[if_neg (show ¬ p*q < 0 by grind),if_pos a,if_pos b];grind
 ·have:=JD (show 0 < q by grind) a;unfold ab;rw[if_pos (show p*q < 0 by grind),if_pos a,if_neg b];grind
 ·have:=JD (show 0 < p by grind) b;unfold ab;rw[if_pos (show p*q < 0 by grind),if_neg a,if_pos b];grind
 ·have:=Rat.mul_pos (show 0 < p by grind) (show 0 < q by grind);unfold ab;rw[if_neg (show ¬ p*q < 0 by grind),if_neg a,if_neg b]
theorem DT{a b c d:Rat}(h1:a<=b)(h2:c<=d)(hc:0<=c)(hb:0<=b):a*c<=b*d:=by
 have e1:a*c<=b*c:=Rat.mul_le_mul_of_nonneg_right h1 hc;have e2:b*c<=b*d:=Rat.mul_le_mul_of_nonneg_left h2 hb;grind
/-! ### signs -/
def AX(q:Rat):Int:=if 0 < q then 1 else if q < 0 then -1 else 0
theorem CY{q:Rat}:AX q=0↔q=0:=by unfold AX;split<;>(try split)<;>grind
theorem BK(q:Rat):AX q=0\/AX q=1\/AX q = -1:=by unfold AX;split<;>(try split)<;>simp
theorem YM(q:Rat):AX (-q) = - AX q:=by unfold AX;split<;>split<;>(try split)<;>(try split)<;>grind
def EY:Int->List Int->Nat
 | _,[]=>0
 | last,s::l=>if s=0 then EY last l else(if last = -s then 1 else 0)+EY s l
inductive Jl:Int->List (Int×Int)->Prop
 | nil (σ:Int):Jl σ []
 | tight (σ p:Int) (l:List (Int×Int)) (hp:p≠0) (h:Jl p l):Jl σ ((p,p)::l)
 | loose (σ p q:Int) (l:List (Int×Int)) (h:Jl (-σ) l):Jl σ ((p,q)::(-σ,-σ)::l)
theorem QQ{σ p:Int}(hσ:σ=1\/σ = -1)(hp:p=0\/p=1\/p = -1)(l:List Int):EY σ (p :: -σ::l)=1+EY (-σ) l:=by
 rcases hσ with rfl | rfl<;>rcases hp with rfl | rfl | rfl<;>simp[EY]
theorem Qd{σ:Int}{l:List (Int×Int)}(h:Jl σ l):(σ=1\/σ = -1)->(∀ x∈l,(x.1=0\/x.1=1\/x.1 = -1)/\(x.2=0\/x.2=1\/x.2 = -1))->EY σ (l.map (·.1))=EY σ (l.map (·.2)):=by
 induction h with
 | nil σ=>intro _ _;rfl
 | tight σ p l hp h ih =>
  intro hσ hx;have hpq:=(hx (p,p) Ac).1;have hp1:p=1\/p = -1:=by rcases hpq with a | a | a;exact absurd a hp;exact .inl a;exact .inr a
  have:=ih hp1 (fun x hm=>hx x (by simp[hm]));simp only[List.map_cons,EY,if_neg hp,this]
 | loose σ p q l h ih =>
  intro hσ hx;have hpq:=hx (p,q) Ac;have hσ' : -σ=1 \/ -σ = -1:=by rcases hσ with rfl | rfl;exact .inr rfl;exact .inl rfl
  have:=ih hσ' (fun x hm=>hx x (by simp[hm]));simp only[List.map_cons];rw[QQ hσ hpq.1,QQ hσ hpq.2,this]
structure JN(m:Nat)(a b:Nat->Rat)(T d:Rat):Prop where
 t1:1<=T
 d0:0 < d
 sm:4*(T*(T*(T*(T*d)))) < 1
 lip:∀ i,i<=m->ab (a i - b i)<=T*d
 beza:∀ i,i < m->∃ U W,U*a i+W*a (i+1)=1/\ab U<=T/\ab W<=T
 bezb:∀ i,i < m->∃ U W,U*b i+W*b (i+1)=1/\ab U<=T/\ab W<=T
 reca:∀ i,i+2<=m->∃ q c,a i=q*a (i+1) - c*a (i+2)/\ab q<=T/\0 < c/\1<=T*c
 recb:∀ i,i+2<=m->∃ q c,b i=q*b (i+1) - c*b (i+2)/\ab q<=T/\0 < c/\1<=T*c
 lst:a m=b m/\a m≠0
 top:1<=m->∃ k r,b 0 - a 0=d*(k*a 1+d*r)/\0 < k/\1<=T*k/\ab r<=T
section
variable{m:Nat}{a b:Nat->Rat}{T d:Rat}
theorem JN.small(h:JN m a b T d):0 < T/\2*(T*d) < 1/\2*(T*(T*d)) < 1/\2*(T*(T*(T*d))) < 1/\0 < T*d/\0 < T*(T*d)/\T*d<=T*(T*d):=by
 have hT:0 < T:=by have:=h.t1;grind
 have hd:=h.d0;have e1:0 < T*d:=Rat.mul_pos hT hd;have e2:0 < T*(T*d):=Rat.mul_pos hT e1;have e3:0 < T*(T*(T*d)):=Rat.mul_pos hT e2;have f1:1*(T*(T*(T*d)))<=T*(T*(T*(T*d))):=Rat.mul_le_mul_of_nonneg_right h.t1 Ad;have f2:1*(T*(T*d))<=T*(T*(T*d)):=Rat.mul_le_mul_of_nonneg_right h.t1 Ad;have f3:1*(T*d)<=T*(T*d):=Rat.mul_le_mul_of_nonneg_right h.t1 Ad;have:=h.sm;refine⟨hT,?_,?_,?_,e1,e2,?_⟩<;>grind
theorem ER{p q t:Rat}(h:ab (p - q)<=t)(hn:¬ (AX p=AX q/\AX p≠0)):ab p<=t/\ab q<=t:=by
 rw[EH]at h;rw[EH,EH];unfold AX at hn;by_cases a1:0 < p<;>by_cases a2:p < 0<;>by_cases b1:0 < q<;>by_cases b2:q < 0<;>simp_all<;>grind
theorem Uo{x y U W T d:Rat}(hT:0 < T)(h2:2*(T*(T*d)) < 1)(e:U*x+W*y=1)(hU:ab U<=T)(hW:ab W<=T)(hx:ab x<=T*d):1 < 2*(T*ab y):=by
 have h1:ab (U*x)<=T*(T*d):=by rw[BU];exact DT hU hx (Aj _) Ad
 have h3:ab (W*y)<=T*ab y:=by rw[BU];exact DT hW Ad (Aj _) Ad
 have h4:=TI (U*x);have h5:=TI (W*y);grind
theorem Ob{p q:Rat}(h:ab (p - q) < ab p):AX p=AX q/\AX p≠0:=by
 unfold ab at h;unfold AX
 split at h<;>split at h<;>(split<;>(try split)<;>(try split)<;>(try split))<;>grind
theorem JN.next_tight(h:JN m a b T d){i:Nat}(hi:i < m)(hn:¬ (AX (a i)=AX (b i)/\AX (a i)≠0)) :
  (AX (a (i+1))=AX (b (i+1))/\AX (a (i+1))≠0)/\1 < 2*(T*ab (a (i+1)))/\1 < 2*(T*ab (b (i+1)))/\ab (a i)<=T*d/\ab (b i)<=T*d:=by
 obtain⟨hT,s1,s2,s3,p1,p2,p3⟩:=h.small;obtain⟨l1,l2⟩:=ER (h.lip i Aa) hn;obtain⟨U,W,e,hU,hW⟩:=h.beza i hi;obtain⟨U',W',e',hU',hW'⟩:=h.bezb i hi;have b1:=Uo hT s2 e hU hW l1;have b2:=Uo hT s2 e' hU' hW' l2;have hl:=h.lip (i+1) Aa;refine⟨Ob ?_,b1,b2,l1,l2⟩;refine Std.lt_of_le_of_lt hl ?_;rcases Std.lt_trichotomy (T*d) (ab (a (i+1)))with c | c | c
 ·exact c
 ·exfalso;rw[<-c]at b1;grind
 ·exfalso
  have:=Rat.mul_lt_mul_of_pos_left c hT;grind
theorem TZ{x y z q c T d:Rat}(hT:0 < T)(hc:0 < c)(hTc:1<=T*c)(hq:ab q<=T)(hy:ab y<=T*d)(hz:1 < 2*(T*ab z))(hs:4*(T*(T*(T*(T*d)))) < 1)(e:x=q*y - c*z)(hd:0 < T*d):AX z = - AX x/\AX x≠0:=by
 have h1:ab (q*y)<=T*(T*d):=by rw[BU];exact DT hq hy (Aj _) Ad
 have h2:T*(T*d) < c*ab z:=by
  -- 1 < 2 T |z| and 1<=T c
  have hz0:0<=ab z:=Aj z;have k1:1*(T*ab z)<=(T*c)*(T*ab z):=Rat.mul_le_mul_of_nonneg_right hTc (by have:=Rat.mul_nonneg (show 0<=T by grind) hz0;grind);have k2:2*(T*(T*(c*ab z))) > 1:=by grind
  have k3:T*(T*(T*(T*d))) < T*(T*(c*ab z)):=by grind
  rcases Std.lt_trichotomy (T*(T*d)) (c*ab z)with a | a | a
  ·exact a
  ·exfalso;rw[a]at k3;grind
  ·exfalso
   have m1:=Rat.mul_lt_mul_of_pos_left a hT;have m2:=Rat.mul_lt_mul_of_pos_left m1 hT;grind
 have h3:=EH.1 h1;have hzne:z≠0:=fun e0=>by rw[e0]at hz;have:ab 0=0:=rfl;rw[this]at hz;grind
 rcases Std.lt_trichotomy z 0 with a | a | a
 ·have e1:ab z = -z:=by unfold ab;rw[if_pos a]
  rw[e1]at h2;have hx:0 < x:=by grind
  unfold AX;rw[if_neg (show ¬ 0 < z by grind),if_pos a,if_pos hx];exact⟨rfl,Ab⟩
 ·exact absurd a hzne
 ·have e1:ab z=z:=by unfold ab;rw[if_neg Ad]
  rw[e1]at h2;have hx:x < 0:=by grind
  unfold AX;rw[if_pos a,if_neg (show ¬ 0 < x by grind),if_pos hx];exact⟨rfl,Ab⟩
def Rv(a b:Nat->Rat)(i n:Nat):List (Int×Int):=(List.range n).map fun j=>(AX (a (i+j)),AX (b (i+j)))
theorem Ka(a b:Nat->Rat)(i n:Nat):Rv a b i (n+1)=(AX (a i),AX (b i))::Rv a b (i+1) n:=by
 unfold Rv;rw[List.range_succ_eq_map,List.map_cons,List.map_map,Nat.add_zero];congr 1;refine List.map_congr_left fun j _=>?_;show(AX (a (i+(j+1))),AX (b (i+(j+1))))=(AX (a (i+1+j)),AX (b (i+1+j)));rw[show i+(j+1)=i+1+j by omega]
theorem JN.good(h:JN m a b T d):∀(n i:Nat),i+n=m->(AX (a i)=AX (b i)/\AX (a i)≠0)->Jl (AX (a i)) (Rv a b (i+1) n):=by
 intro n;induction n using Nat.strongRecOn with
 | ind n ih =>
  intro i hi ht
  match n,ih,hi with
  | 0,_,_=>exact Jl.nil _
  | n+1,ih,hi =>
   rw[Ka];by_cases hn:AX (a (i+1))=AX (b (i+1))/\AX (a (i+1))≠0
   ·rw[<-hn.1]
    exact Jl.tight _ _ _ hn.2 (ih n Aa (i+1) Aa hn)
   ·have hlt:i+1 < m:=by
     rcases Nat.lt_or_ge (i+1) m with c | c
     ·exact c
     ·exfalso
      have e:i+1=m:=by omega
      rw[e]at hn;exact hn ⟨by rw[h.lst.1],fun z=>h.lst.2 (CY.1 z)⟩
    obtain⟨hT,s1,s2,s3,p1,p2,p3⟩:=h.small;obtain⟨t1,t2,t3,t4,t5⟩:=h.next_tight hlt hn;obtain⟨q,c,e,hq,hc,hTc⟩:=h.reca i Aa;obtain⟨q',c',e',hq',hc',hTc'⟩:=h.recb i Aa;have o1:=(TZ hT hc hTc hq t4 t2 h.sm e p1).1;have o2:=(TZ hT hc' hTc' hq' t5 t3 h.sm e' p1).1
    match n,ih,hi with
    | 0,_,hi=>omega
    | n+1,ih,hi =>
     rw[Ka];have ob:AX (b (i+1+1)) = - AX (a i):=by rw[ht.1];exact o2
     have oa:AX (a (i+1+1)) = - AX (a i):=o1;rw[ob,oa];refine Jl.loose _ _ _ _ ?_;rw[<-oa];exact ih n Aa (i+1+1) Aa t1
theorem Nz(a b:Nat->Rat)(i n:Nat):∀ x∈Rv a b i n,(x.1=0\/x.1=1\/x.1 = -1)/\(x.2=0\/x.2=1\/x.2 = -1):=fun x hx=>by
 obtain⟨j,-,rfl⟩:=List.mem_map.1 hx;exact⟨BK _,BK _⟩
def CR(a:Nat->Rat)(n:Nat):Nat:=EY 0 ((List.range n).map fun j=>AX (a j))
theorem YF(a b:Nat->Rat)(n:Nat):(Rv a b 0 n).map (·.1)=(List.range n).map fun j=>AX (a j):=by
 unfold Rv;rw[List.map_map];refine List.map_congr_left fun j _=>?_;simp
theorem Zo(a b:Nat->Rat)(n:Nat):(Rv a b 0 n).map (·.2)=(List.range n).map fun j=>AX (b j):=by
 unfold Rv;rw[List.map_map];refine List.map_congr_left fun j _=>?_;simp
theorem JN.sturm(h:JN m a b T d):CR a (m+1)=CR b (m+1)+(if AX (a 0)≠0/\AX (b 0)≠AX (a 0)then 1 else 0):=by
 have k1:CR a (m+1)=EY 0 ((Rv a b 0 (m+1)).map (·.1)):=by rw[YF];rfl
 have k2:CR b (m+1)=EY 0 ((Rv a b 0 (m+1)).map (·.2)):=by rw[Zo];rfl
 rw[k1,k2,Ka];simp only[List.map_cons];by_cases ht:AX (a 0)=AX (b 0)/\AX (a 0)≠0
 ·have hg:=h.good m 0 Aa ht
  have hσ:AX (a 0)=1\/AX (a 0) = -1:=by rcases BK (a 0)with c | c | c;exact absurd c ht.2;exact .inl c;exact .inr c
  have:=Qd hg hσ (Nz _ _ _ _);rw[if_neg (fun q=>q.2 ht.1.symm)];simp only[EY,<-ht.1,if_neg ht.2,this];rfl
 ·have hm:0 < m:=by
   rcases Nat.eq_zero_or_pos m with c | c
   ·subst c;exact absurd ⟨by rw[h.lst.1],fun z=>h.lst.2 (CY.1 z)⟩ ht
   ·exact c
  obtain⟨n,rfl⟩:∃ n,m=n+1:=⟨m - 1,Aa⟩
  obtain⟨hT,s1,s2,s3,p1,p2,p3⟩:=h.small;obtain⟨t1,t2,t3,t4,t5⟩:=h.next_tight hm ht;have hg:=h.good n 1 Aa t1;have hσ:AX (a 1)=1\/AX (a 1) = -1:=by rcases BK (a 1)with c | c | c;exact absurd c t1.2;exact .inl c;exact .inr c
  have hv:=Qd hg hσ (Nz _ _ _ _);rw[Ka];simp only[List.map_cons]
  -- the direction
  obtain⟨k,r,e,hk,hTk,hr⟩:=h.top Aa;have hd:=h.d0;have hdir:0 < ab (a 1)/\d*ab r < k*ab (a 1):=by
   have ha:0 < ab (a 1):=SQ.2 fun z=>t1.2 (CY.2 z);refine⟨ha,?_⟩;have g1:d*ab r<=d*T:=Rat.mul_le_mul_of_nonneg_left hr Ad;have k1:1*(T*ab (a 1))<=(T*k)*(T*ab (a 1)):=Rat.mul_le_mul_of_nonneg_right hTk (by have:=Rat.mul_pos hT ha;grind);have k2:2*(T*(T*(k*ab (a 1)))) > 1:=by have:=t2;grind
   have k3:T*(T*(T*d)) < T*(T*(k*ab (a 1))):=by grind
   rcases Std.lt_trichotomy (T*d) (k*ab (a 1))with c | c | c
   ·grind
   ·exfalso;rw[c]at k3;grind
   ·exfalso
    have m1:=Rat.mul_lt_mul_of_pos_left c hT;have m2:=Rat.mul_lt_mul_of_pos_left m1 hT;grind
  have hup:(0 < a 1->a 0 < b 0)/\(a 1 < 0->b 0 < a 0):=by
   have hr2:=EH.1 (Std.le_refl (ab r));have hdr:d*r<=d*ab r/\d*(-r)<=d*ab r:=⟨Rat.mul_le_mul_of_nonneg_left hr2.2 Ad,Rat.mul_le_mul_of_nonneg_left Ad Ad⟩
   refine⟨fun hp=>?_,fun hp=>?_⟩
   ·have e1:ab (a 1)=a 1:=by unfold ab;rw[if_neg Ad]
    rw[e1]at hdir;have:=Rat.mul_pos hd (show 0 < k*a 1+d*r by grind);grind
   ·have e1:ab (a 1) = - a 1:=by unfold ab;rw[if_pos hp]
    rw[e1]at hdir;have:=JD hd (show k*a 1+d*r < 0 by grind);grind
  have hcase:(AX (a 0) = - AX (a 1)/\AX (b 0) ≠ - AX (a 1))\/(AX (a 0)=0/\AX (b 0)=AX (a 1)):=by
   rcases hσ with c | c
   ·have hp:0 < a 1:=by unfold AX at c;split at c;assumption;split at c<;>simp at c
    have h1:=hup.1 hp;rw[c];unfold AX at ht ⊢;by_cases a1:0 < a 0<;>by_cases a2:a 0 < 0<;>by_cases b1:0 < b 0<;>by_cases b2:b 0 < 0<;>simp_all<;>grind
   ·have hp:a 1 < 0:=by unfold AX at c;split at c;simp at c;split at c;assumption;simp at c
    have h1:=hup.2 hp;rw[c];unfold AX at ht ⊢;by_cases a1:0 < a 0<;>by_cases a2:a 0 < 0<;>by_cases b1:0 < b 0<;>by_cases b2:b 0 < 0<;>simp_all<;>grind
  have key:∀ p,(p=0\/p=1\/p = -1)->EY 0 (p::AX (a 1)::(Rv a b (0+1+1) n).map (·.2))=(if p = - AX (a 1)then 1 else 0)+EY (AX (a 1)) ((Rv a b (0+1+1) n).map (·.2)):=by
   intro p hp;rcases hσ with c | c<;>rw[c]<;>rcases hp with rfl | rfl | rfl<;>simp[EY]
  have e1:(0+1+1)=1+1:=rfl;have ez:AX (b (0+1))=AX (a 1):=t1.1.symm;rw[ez];have kb:=key (AX (b 0)) (BK _);have ka:=key (AX (a 0)) (BK _);have hx:EY 0 (AX (a 0)::AX (a (0+1))::(Rv a b (0+1+1) n).map (·.1))=EY 0 (AX (a 0)::AX (a 1)::(Rv a b (0+1+1) n).map (·.2)):=by
   have:AX (a (0+1))=AX (a 1):=rfl;rw[this];rcases hσ with c | c<;>rw[c]at hv ⊢ <;> rcases BK (a 0)with q | q | q<;>rw[q]<;>simp only[EY]<;>simp[e1,hv]
  rw[hx,ka,kb];rcases hcase with⟨c1,c2⟩ | ⟨c1,c2⟩
  ·have n1:AX (a 0)≠0:=by rw[c1];rcases hσ with q | q<;>rw[q]<;>decide
   rw[if_pos c1,if_neg c2,if_pos ⟨n1,fun q=>c2 (q.trans c1)⟩];omega
  ·have n1:¬ (AX (a 0) = - AX (a 1)):=by rw[c1];rcases hσ with q | q<;>rw[q]<;>decide
   have n2:¬ (AX (b 0) = - AX (a 1)):=by rw[c2];rcases hσ with q | q<;>rw[q]<;>decide
   rw[if_neg n1,if_neg n2,if_neg (fun q=>q.1 c1)];omega
end
theorem En(q:Rat):KV q=AX q:=by
 unfold AX
 split
 ·rename_i h;exact Uk h
 ·split
  ·rename_i h1 h
   have h2:=JU (q:=-q);have h3:(-q).num = -q.num:=rfl;have h4:0 < -q:=by grind
   have:=h2.2 h4;exact Int.sign_eq_neg_one_of_neg Aa
  ·rename_i h1 h2
   have:q=0:=by grind
   rw[this];rfl
noncomputable def V(l:List (Nat->Rat))(x:Rat):Nat:=EY 0 (l.map fun F=>AX (ev F x))
theorem VT(l:List Int):∀ σ,EY σ l<=l.length:=by
 induction l with
 | nil=>intro σ;exact Nat.le_refl _
 | cons s l ih =>
  intro σ;rw[EY]
  split
  ·have:=ih σ;simp;omega
  ·have:=ih s
   split<;>simp<;>omega
end Go.Hp
namespace Go.Proofs.YtmhgnigpmompmaaGreat
open Go.RowKit Go.Hp
theorem Xd(v u:Value)(x y:Int)(w:World)(hv:Bj w v x)(hu:Bj w u y)(h0:y≠0)(hd:¬ y∣x):Bg 86 #[v,u] w (fun r w'=>EL w' r 0 6):=by
 have Hv:=Af hv;have Hu:=Af hu;obtain⟨neg,A,n,c,N,rfl,h1,h2,h3,hN,hx⟩:=hv.form;obtain⟨neg',A',n',c',M,rfl,k1,k2,k3,kN,hy⟩:=hu.form;clear hN hx hv hu kN hy;have hz:x % y≠0:=fun e=>hd (Int.dvd_of_emod_eq_zero e);have hp:0 < sz (x % y).natAbs:=Nat.pos_of_ne_zero fun e=>hz (by have:=(EB (n:=(x % y).natAbs) (k:=0)).1 Aa;rw[IP]at this;omega);have H0:=Af (Au h0 hp);clear h0 hd hz hp
 go_enter Tryz.func86,Tryz.ntmps86
 go_wp2_with fail
 refine AQ (Kg _ _ x y _ (Hv.out.ext ((((Ext.refl w).alloc _).alloc _).alloc _)) (Hu.out.ext ((((Ext.refl w).alloc _).alloc _).alloc _))) ?_;rintro r w1 ⟨q,m,rfl,hq,hm⟩ hx1;rw[if_neg H0.out.1]at hm;rw[if_neg H0.out.1];obtain⟨b,A1,n1,c1,rfl⟩:=hq.cells;obtain⟨A2,c2,rfl,-⟩:=hm.form;obtain⟨n2,hn2⟩:∃ n2,n2=sz (x % y).natAbs:=⟨_,rfl⟩
 rw[<-hn2];have hn0:0 < n2:=by have:=H0.out.2;omega
 obtain⟨bb,hbb⟩:∃ bb,bb=decide (x % y < 0):=⟨_,rfl⟩
 rw[<-hbb];clear hq hm hn2 hbb;have hx2:=(hx1.alloc (Obj.cells #[Value.bool b,Value.slice A1 n1 c1] 26)).alloc (Obj.cells #[Value.bool bb,Value.slice A2 n2 c2] 26);have hc2:=hx2.cells;have hf2:=hx2.frozens;have Hfin:=Af (Dk (JZ ((w1.alloc (Obj.cells #[Value.bool b,Value.slice A1 n1 c1] 26)).alloc (Obj.cells #[Value.bool bb,Value.slice A2 n2 c2] 26))) hx2.a3 (AV.at_ hx2 (g:=w.heap.size+1+1) Ac (by simp[Ah])) Aa)
 have hc1:=hx1.cells;have hf1:=hx1.frozens;go_wp2;refine bodyPost_ret (v := .tuple #[.agg #[.bool false,.slice none 0 0],.int .i64 6]) (by simp[results,Tryz.results86,go_sem,hc2]) rfl ?_;obtain⟨r,e,hr,hx⟩:=Hfin.out;cases e;exact Ai.mk ⟨_,rfl,hr⟩ hx
theorem U9(v u:Value)(x y:Int)(w:World)(hv:Bj w v x)(hu:Bj w u y)(h0:y≠0)(hd:y∣x):Bg 86 #[v,u] w (fun r w'=>EL w' r (x / y) 0):=GK v u x y w hv hu h0 hd
set_option maxRecDepth 20000 in
theorem Vz(v u:Value)(l m:List Int)(s t:Nat)(w:World)(hv:Gd 0 w v l)(hu:Gd 0 w u m)(hs:∀ i,qsz (cz l i)<=s)(ht:∀ i,qsz (cz m i)<=t)(hn:l.length<=549755813888)(hm:m.length<=549755813888)(h0:cz m≠pz)(hst:s+(l.length+2)*(t+1)+t<=1099511627776) :
  Bg 88 #[v,u] w ((aZ w.heap.size (cz l) (cz m))):=by
 have HV:=Af hv;have HU:=Af hu;obtain⟨A0,c0,rfl⟩:=hv.len;obtain⟨A1,c1,rfl⟩:=hu.len;clear hv hu;have hN1:=EG _ l w HV.out Aa;rw[Gs]at hN1;have hN2:=fun W (x:Ext w W)=>EG _ m W (HU.out.ext x) Aa;simp only[Gs]at hN2;have hc1:=BD (Cx l);have hc2:=BD (Cx m);have hfF:=Ae.cz l;have hzF:=ZI.cz l;have hfG:=Ae.cz m;have hzG:=ZI.cz m;have hL:=AL hfG h0;have ht1:=K5 l;have ht2:=K5 m;obtain⟨F,hF⟩:∃ F,F=cz l:=⟨_,rfl⟩
 obtain⟨G,hG⟩:∃ G,G=cz m:=⟨_,rfl⟩
 rw[<-hF]at hN1 hs hc1 hfF hzF ht1;rw[<-hG]at hc2 hfG hzG hL ht h0 ht2;simp only[<-hG]at hN2;rw[<-hF,<-hG];obtain⟨P,hP⟩:∃ P,P=pl F:=⟨_,rfl⟩
 obtain⟨L,hLe⟩:∃ L,L=pl G:=⟨_,rfl⟩
 obtain⟨K,hK⟩:∃ K,K=pl F+1 - pl G:=⟨_,rfl⟩
 have HB:=Af (show(∀ k,k<=K->∀ q,q<=s+k*(t+1)->q<=1099511627776/\q+t<=1099511627776)/\sz (ld G).num.natAbs<=1099511627776/\(∀ j,sz (G j).num.natAbs<=t)/\t<=1099511627776 by
  have key:∀ k,k<=K->k*(t+1)<=(l.length+2)*(t+1):=fun k hk=>Nat.mul_le_mul_right _ Aa;have g1:∀ j,sz (G j).num.natAbs<=t:=fun j=>Nat.le_trans (Fs _) (ht j);have g2:sz (ld G).num.natAbs<=t:=g1 _;exact⟨fun k hk q hq=>by have:=key k hk;omega,Aa,g1,Aa⟩)
 have HX:=Af (Au hfF (Au hzF (Au hfG (Au hzG (Au h0 (Au hF (Au hG (Au hs ht))))))));have HP:=Af (Au hP (Au hLe hK));rw[<-hP]at hc1 hN1 ht1;rw[<-hLe]at hc2 hL ht2;simp only[<-hLe]at hN2;have HN1:=Af hN1;have HN2:=Af hN2;have HT:=Af (Au ht1 ht2);have hKe:K=P+1 - L:=by rw[hP,hLe];exact hK
 clear hs ht hst hfF hzF hfG hzG h0 hF hG hP hLe hK ht1 ht2 hN1 hN2;have hb1:((L:Int)==0)=false:=by simpa using(show L≠0 by omega)
 go_enter Tryz.func88,Tryz.ntmps88
 go_wp2_with fail
 refine AQ HN1.out ?_;rintro r1 w1 ⟨rfl,er⟩ hx;have hg1:=er.lt
 go_wp2_with fail
 refine AQ (HN2.out w1 hx) ?_;rintro r2 w2 ⟨rfl,eg⟩ hx2;have hg2:=eg.lt;replace er:=er.ext hx2;replace hx:=hx.trans hx2;clear hx2;have hK1:P+1<=K+L/\(0 < K->P+1=K+L):=by omega
 have HK:=Af hK1;replace er:=er.pre P;rw[HT.out.1]at er;replace eg:=eg.pre L;rw[HT.out.2]at eg;obtain⟨W0,hmk,eq,hxq⟩:=IM K (max ((P:Int) - L+1) 0) Aa Aa w2;replace er:=er.ext hxq;replace eg:=eg.ext hxq;replace hx:=hx.trans hxq;have hg3:=eq.lt;rw[<-TA]at eq;have hK40:K<=1099511627776:=by omega
 clear hK1 hKe;have hst0:F9 F G K s t K pz F:=F9.start ((AA HX.out.1).mono (by have:=HK.out;have:=HP.out;omega)) HX.out.2.1 HX.out.2.2.2.2.2.2.2.1;have HS0:=Af hst0;clear hst0;generalize hgG:w1.heap.size=gG at *;generalize hgq:w2.heap.size=gq at *;go_wp2;clear hmk hxq
 go_loopw [8] (fun iv wr=>∃ (i:Nat) (Q R:Nat->Rat),i<=K/\iv = .int .i64 ((i:Int) - 1)/\Ci wr w.heap.size 26 (DL P R)/\Ci wr gq 26 (DL K Q)/\Ci wr gG 26 (DL L G)/\F9 F G K s t i Q R/\Be P R/\Ext w wr) (fun iv _=>(intOf iv+1).toNat)
 case atStart=>exact⟨K,pz,F,Nat.le_refl _,by go_num,er,eq,eg,HS0.out,by rw[HP.out.1];exact AA HX.out.1,hx⟩
 case round =>
  clear er eq eg hx;obtain⟨i,Q,R,hi,rfl,er,eq,eg,hst,hsP,hx⟩:=hrel;have HR:=Af hst;have HSP:=Af hsP;clear hst hsP;by_cases hi0:0 < i
  ·obtain⟨k,rfl⟩:∃ k,i=k+1:=⟨i - 1,Aa⟩
   have hii:((k+1:Nat):Int) - 1=(k:Int):=by omega
   rw[hii];clear hii hi0;have hkK:k < K:=by omega
   have hkP:k+L<=P:=by have:=HK.out.2;omega
   have hkL:k+L - 1 < P:=by omega
   obtain⟨z0,Z0,zn0,zc0,cr0,cr1,hzc⟩:=er.at_ (j:=k+L - 1) (by rw[AR];exact hkL);rw[Ca]at hzc;have hLP:((k:Int)+L - 1).toNat=k+L - 1:=by omega
   have HQ:=Af (show(∀ n,sz (R n).num.natAbs<=1099511627776)/\(ld G).num≠0/\R (k+L - 1)=R (k+pl G - 1)from by
    refine⟨fun n=>?_,fun e=>?_,by rw[HP.out.2.1]⟩
    ·have h1:=HR.out.2.2.2.2.2.2 n
     have h2:=HB.out.1 _ (show K - (k+1)<=K by omega) _ h1;have h3:=Fs (R n);omega
    ·have:=CV HX.out.2.2.1 HX.out.2.2.2.2.1
     exact this (by rw[show ld G=((ld G).num:Rat)from HX.out.2.2.2.1.num _,e];rfl))
   have Hz:=Af (Au hzc (show AB w.heap.size _ (.slice (some ⟨gG,0,none⟩) L m.length) G by
    have h1:=eg;have h2:=HP.out.2.1;rw[h2]at h1;rw[h2];exact h1.whole HX.out.2.2.2.1 HX.out.2.2.1 Aa Aa Aa))
   clear hzc;obtain⟨rv,hrv⟩:∃ rv,rv=(R (k+L - 1)).num:=⟨_,rfl⟩
   rw[<-hrv]at Hz;by_cases hd:(ld G).num∣rv
   ·obtain⟨z,hzz⟩:∃ z,z=rv / (ld G).num:=⟨_,rfl⟩
    have HD:=Af (Au hd (Au hrv hzz));clear hd hzz
    go_wp2_with fail
    go_cut [9,10] (fun pv ev wx=>∃ gc,pv = .pointer (some ⟨gc,0,none⟩)/\ev = .int .i64 0/\Bp wx gc 26 z/\wr.heap.size<=gc/\Ext wr wx)
    case first =>
     refine BG 15 [13] (fun x=>16) [36,37,38,39,40,41,42,43,44,45,46,35,47,48,9] [[],[],[],[2],[1,2,3],[1,2,3,4],[0,1,2,3,4,5],[0,1,2,3,4,5,6],[],[8],[0,1,2,3,4,5,6,7,8,9],[0,1,2,3,4,5,6,7,8,9,10],[0,1,2,3,4,5,6,7,8,9,10,11],[0,1,2,3,4,5,6,7,8,9,10,11],[],[0,1,2,3,4,5,6,7,8,9,10,11,12,14],[0,1,2,3,4,5,6,7,8,9,10,11,12,13,14,15]] [6,8,1] [_,_,_] [(kv ?_),(kv ?_),(kv ?_),(kv ?_),(kv ?_),(kv ?_),(kv ?_),(kv ?_),(kv ?_),(fun γ=>γ 9),(fun γ=>γ 10),(fun γ=>γ 10),(fun γ=>γ 12),(kv ?_),(fun γ=>γ 14)] (fun γ w'=>[True,True,True,True,True,True,True,True,True,AO w' (γ 9) (ld G).num,EL w' (γ 10) z 0,True,AO w' (γ 12) z,True,Bh w' (γ 14) wr.heap.size #[.bool false,.slice none 0 0] 26]) Np Cg Cg Cg Cg Cg P5 Cg Nj ?m1 ?s1 ?_ ?l1
     case s1 =>
      iterate 15 refine⟨?_,?_⟩
      trivial
      iterate 9 focus
       refine Bi fun _ w' he R hR=>?_;have hc:=he.cells;have cq0:=he.cell cr0;have cq1:=he.cell cr1;go_simp;(try go_ints);(try(rw[if_neg Aa]));(try(rw[if_pos Aa]));(try go_simp);(try go_ints)
       exact C8 hR
      ·refine Bi fun _ w' he R hR=>?_
       go_simp;exact BF (Ky _ w.heap.size G w' (Hz.out.2.ext he) HX.out.2.2.2.2.1) hR
      ·refine Gj fun γ w' he hf R hR=>?_;have f9:AO w' (γ 9) (ld G).num:=hf 9 Ab;clear hf
       go_simp;exact BF (HD.out.2.2▸U9 _ _ _ _ w' ((Hz.out.1.kd he.kd).has (by rw[HD.out.2.1];exact HQ.out.1 _)) (f9.has HB.out.2.1) HQ.out.2.1 HD.out.1) hR
      ·refine Bi fun _ w' he R hR=>?_
       have hc:=he.cells;go_simp
       (try go_ints);(try(rw[if_neg Aa]));(try(rw[if_pos Aa]));(try go_simp);(try go_ints)
       exact C8 hR
      ·refine Gj fun γ w' he hf R hR=>?_;have f10:EL w' (γ 10) z 0:=hf 10 Ab;clear hf
       obtain⟨a,e,ha⟩:=f10;go_simp;exact hR _ _ (Ext.refl _) rfl ha
      ·refine Gj fun γ w' he hf R hR=>?_;have f10:EL w' (γ 10) z 0:=hf 10 Ab;clear hf
       obtain⟨a,e,ha⟩:=f10;have hc:=he.cells;go_simp
       (try go_ints);(try(rw[if_neg Aa]));(try(rw[if_pos Aa]));(try go_simp);(try go_ints)
       exact C8 hR
      ·refine Bi fun _ w' he R hR=>?_
       go_simp;exact hR _ _ ((Ext.refl _).alloc _) rfl (Bh.mk (Nat.le_trans Ac he.size) (by simp[Ah]))
     case m1 =>
      exact⟨⟨⟨⟨⟨⟨⟨⟨⟨⟨⟨⟨⟨⟨⟨trivial,(fun γ wA w' e h=>h)⟩,(fun γ wA w' e h=>h)⟩,(fun γ wA w' e h=>h)⟩,(fun γ wA w' e h=>h)⟩,(fun γ wA w' e h=>h)⟩,(fun γ wA w' e h=>h)⟩,(fun γ wA w' e h=>h)⟩,(fun γ wA w' e h=>h)⟩,(fun γ wA w' e h=>h)⟩,(fun γ wA w' e h=>(show AO wA (γ 9) (ld G).num from h).ext e)⟩,(fun γ wA w' e h=>(show EL wA (γ 10) z 0 from h).ext e)⟩,(fun γ wA w' e h=>h)⟩,(fun γ w w' e h=>AO.ext_ h e)⟩,(fun γ wA w' e h=>h)⟩,(fun γ wA w' e h=>(show Bh wA (γ 14) wr.heap.size #[.bool false,.slice none 0 0] 26 from h).ext e)⟩
     case l1 =>
      intro Pn hPs hPn;obtain rfl:=Je hPs hPn;clear hPs hPn
      ·intro γ w3 hx3 hF hA
       clear hA;have p9:AO w3 (γ 9) (ld G).num:=(AC.get hF 9 Ab).resolve_left Ab;have p10:EL w3 (γ 10) z 0:=(AC.get hF 10 Ab).resolve_left Ab;have p12:AO w3 (γ 12) z:=(AC.get hF 12 Ab).resolve_left Ab;have p14:Bh w3 (γ 14) wr.heap.size #[.bool false,.slice none 0 0] 26:=(AC.get hF 14 Ab).resolve_left Ab;clear hF;show AJ _ _ _ _ 3 [13] 15 _ _;simp only[Bw,Nat.reduceAdd,Cw,Xl];generalize γ 9=g9 at *
       generalize γ 10=g10 at *;generalize γ 12=g12 at *;generalize γ 14=g14 at *;clear γ;obtain⟨a10,rfl,-⟩:=p10;obtain⟨gc,rfl,hgc,ec⟩:=p14;obtain⟨b5,A5,n5,c5,rfl⟩:=p12.cells;clear cr0 cr1 p9 hLP;have cec:=ec.cells2;have fec:=ec.frozen
       repeat' first
        | (refine AJ.nil ?_;simp only[IG];go_wp2;done)
        | (refine AJ.nil ?_;(try simp only[IG]);go_wp2)
        | (refine AJ.mk _ ⟨?_,trivial⟩ (fun h=>?_)<;>first | exact absurd h Ab | ((try clear h);simp only[Df,IG];go_wp2;first | show AJ _ _ _ _ _ [13] _ _ _ | show AJ _ _ _ _ _ [] _ _ _))
       all_goals
        skip;obtain⟨W4,eW,ec',U⟩:=ec.put2 (.bool b5) (.slice A5 n5 c5);rw[<-eW];clear eW ec;replace p12:=p12.kd U.kd;replace hx3:=U.from_ hx3 Ak;have ec:=ec';clear U ec'
        go_meet
        case rel=>exact⟨gc,rfl,rfl,Bp.mk ec p12,hgc,hx3⟩
     intro γ w3 hx3 hF hA;clear hA;have p9:AO w3 (γ 9) (ld G).num:=AC.get hF 9 Ab;have p10:EL w3 (γ 10) z 0:=AC.get hF 10 Ab;have p12:AO w3 (γ 12) z:=AC.get hF 12 Ab;have p14:Bh w3 (γ 14) wr.heap.size #[.bool false,.slice none 0 0] 26:=AC.get hF 14 Ab;clear hF;simp only[Bw,Nat.reduceAdd];generalize γ 9=g9 at *;generalize γ 10=g10 at *;generalize γ 12=g12 at *;generalize γ 14=g14 at *;clear γ;obtain⟨a10,rfl,-⟩:=p10
     obtain⟨gc,rfl,hgc,ec⟩:=p14;obtain⟨b5,A5,n5,c5,rfl⟩:=p12.cells;clear cr0 cr1 p9 hLP;have cec:=ec.cells2;have fec:=ec.frozen;go_wp2;skip;obtain⟨W4,eW,ec',U⟩:=ec.put2 (.bool b5) (.slice A5 n5 c5);rw[<-eW];clear eW ec;replace p12:=p12.kd U.kd;replace hx3:=U.from_ hx3 Ak;have ec:=ec';clear U ec'
     go_meet
     case rel=>exact⟨gc,rfl,rfl,Bp.mk ec p12,hgc,hx3⟩
    case rest =>
     clear cr0 cr1 hLP;obtain⟨gc,rfl,rfl,⟨b,B,bn,bc,e8,hb⟩,hgc,hx3⟩:=hcut;have hgq:=eq.lt;have hgr:=er.lt;have hgg:=eg.lt;replace er:=er.ext hx3;replace eq:=eq.ext hx3;replace eg:=eg.ext hx3;replace hx:=hx.trans hx3;clear hx3;have hzk:Q k=0:=HR.out.1 k Aa;have hzv:R (k+pl G - 1)=(z:Rat)*ld G:=by
      rw[<-HQ.out.2.2,HD.out.2.2,HD.out.2.1];exact HR.out.yes HX.out.2.2.2.1 (by rw[<-HD.out.2.1];exact HD.out.1)
     have HZ:=Af (show F9 F G K s t k (pad Q (mono k (z:Rat))) (psb R (cv (mono k (z:Rat)) G))/\Q k=0/\sz z.natAbs<=1099511627776/\(∀ j,sz (z*(G j).num).natAbs<=1099511627776)/\∀ n,sz (R n).num.natAbs<=1099511627776 from by
      have hl:=CV HX.out.2.2.1 HX.out.2.2.2.2.1;have h1:qsz (z:Rat)<=qsz (R (k+pl G - 1)):=Qr hl (HX.out.2.2.2.1 _) hzv;have h2:=HR.out.2.2.2.2.2.2 (k+pl G - 1);have h3:=HB.out.1 _ (show K - (k+1)<=K by omega) _ h2;have h4:sz z.natAbs<=qsz (z:Rat):=by rw[Bn];omega
      refine⟨HR.out.step HX.out.2.2.1 HX.out.2.2.2.2.1 HX.out.2.2.2.1 HX.out.2.2.2.2.2.2.2.2 hkK hzv,hzk,Aa,fun j=>?_,HQ.out.1⟩;have h5:=Oz (x:=z) (y:=(G j).num) h4 (HB.out.2.2.1 j);omega)
     clear hzk hzv;have Hb:=Af hb;clear hb;have hkl:k < (DL K Q).length:=by rw[AR];exact hkK
     have Hkl:=Af hkl;have ce8:=e8.cells2;have fe8:=e8.frozen;obtain⟨_,_,_,_,ca0,ca1,-⟩:=eq.at_ (j:=k) (by first | omega | (simp;omega));have fa0:=eq.frozen (k*2);have fa1:=eq.frozen (k*2+1);clear hkl;go_wp2;have hkl:=Hkl.out;have hb:=Hb.out;obtain⟨W7,eW,eq',U⟩:=eq.put (k:=k) (by first | omega | (simp;omega)) hb;rw[<-eW];clear eW eq;replace hb:=hb.kd U.kd;replace er:=er.upd U Ak;replace eg:=eg.upd U Ak
     replace e8:=e8.upd U Ak;replace hx:=U.from_ hx Ak;have eq:=eq';clear U eq';rw[Pq (G:=pad Q (mono k (z:Rat))) (fun n=>Yz HR.out.2.2.2.2.1 HZ.out.2.1 n)]at eq;have ec:=Bp.mk e8 hb;clear e8 hb Hb Hkl hkl ce8 fe8
     go_loopw [57] (fun jv wx=>∃ j:Nat,j<=L/\jv = .int .i64 j/\Ci wx w.heap.size 26 (DL P (F3 k j (z:Rat) R G))/\Ci wx gq 26 (DL K (pad Q (mono k (z:Rat))))/\Ci wx gG 26 (DL L G)/\Bp wx gc 26 z/\Ext w wx) (fun jv _=>L - (intOf jv).toNat)
     case atStart=>exact⟨0,Nat.zero_le _,rfl,by rw[NI];exact er,eq,eg,ec,hx⟩
     case round =>
      clear er eq eg ec hx;obtain⟨j,hj,rfl,er,eq,eg,ec,hx⟩:=hrel;by_cases hjl:j < L
      ·obtain⟨y1,Y1,yn1,yc1,q0,q1,hy⟩:=eg.at_ (j:=j) (by rw[AR];exact hjl)
       rw[Ca]at hy;have Hy:=Af hy;clear hy;have hne:=ec.lt;have hne2:=eq.lt
       go_wp2_with fail
       obtain⟨W10,eW10,e10,x10⟩:=Ba.made wr 26 #[.bool y1,.slice Y1 yn1 yc1] (by simp[Ah]);rw[<-eW10];clear eW10 q0 q1;have hy:=Hy.out.kd x10.kd;replace er:=er.ext x10;replace eq:=eq.ext x10;replace eg:=eg.ext x10;replace ec:=ec.ext x10;replace hx:=hx.trans x10;clear x10;obtain⟨b,B,bn,bc,e8,hb⟩:=ec;have hij:k+j < P:=by omega
       obtain⟨z1,Z1,zn1,zc1,ca0,ca1,hz⟩:=er.at_ (j:=k+j) (by rw[AR];exact hij);rw[Ca,TF]at hz;obtain⟨rj,hrj⟩:∃ rj,rj=(R (k+j)).num:=⟨_,rfl⟩
       rw[<-hrj]at hz;have Hrj:=Af hrj;clear hrj;have Hz':=Af (Au hz (Au hb hy));clear hz hb hy Hy;have ce8:=e8.cells2;have fe8:=e8.frozen;have ce10:=e10.cells2;have fe10:=e10.frozen
       go_wp2_with fail
       refine EE 14 [62,63,64,65,66,67,68,69,70,71,72,73,74,75] [6,8,11,9,12] [_,_,_,_,_] [(kv ?_),(kv ?_),(kv ?_),(kv ?_),(kv ?_),(kv ?_),(kv ?_),(kv ?_),(kv ?_),(kv ?_),(kv ?_),(kv ?_),(fun γ=>γ 12),(fun γ=>γ 13)] (fun γ w'=>[True,True,True,True,True,True,True,True,True,True,True,True,AO w' (γ 12) (z*(G j).num),AO w' (γ 13) (rj - z*(G j).num)]) ?s2 ?_
       case s2 =>
        iterate 14 refine⟨?_,?_⟩
        trivial
        iterate 12 focus
         refine Bi fun _ w' he R hR=>?_;have hc:=he.cells;have cq0:=he.cell ca0;have cq1:=he.cell ca1;have cq2:=(e8.ext he).cells2;have cq3:=(e10.ext he).cells2;go_simp;(try go_ints);(try(rw[if_neg Aa]));(try(rw[if_pos Aa]));(try go_simp);(try go_ints)
         exact C8 hR
        ·refine Bi fun _ w' he R hR=>?_
         go_simp;exact BF (Dj _ _ _ _ w' ((Hz'.out.2.1.kd he.kd).has HZ.out.2.2.1) ((Hz'.out.2.2.kd he.kd).has (by have h1:=HB.out.2.2.1 j;have h2:=HB.out.2.2.2;omega))) hR
        ·refine Gj fun γ w' he hf R hR=>?_;have f12:AO w' (γ 12) (z*(G j).num):=hf 12 Ab;clear hf
         go_simp;exact BF (aG _ _ _ _ w' ((Hz'.out.1.kd he.kd).has (by rw[Hrj.out];exact HZ.out.2.2.2.2 _)) (f12.has (HZ.out.2.2.2.1 j))) hR
       intro γ w6 hx6 hF;have p12:AO w6 (γ 12) (z*(G j).num):=AC.get hF 12 Ab;have p13:AO w6 (γ 13) (rj - z*(G j).num):=AC.get hF 13 Ab;clear hF;simp only[Bw,Nat.reduceAdd];generalize γ 12=g12 at *;generalize γ 13=g13 at *;clear γ;have hb:=Hz'.out.2.1.kd hx6.kd;clear p12 Hz' ca0 ca1 ce8 fe8 ce10 fe10 e10;replace er:=er.ext hx6;replace eq:=eq.ext hx6;replace eg:=eg.ext hx6;replace e8:=e8.ext hx6;replace hx:=hx.trans hx6
       clear hx6;obtain⟨b5,A5,n5,c5,rfl⟩:=p13.cells;have hkf:k+j < (DL P (F3 k j (z:Rat) R G)).length:=by rw[AR];exact hij
       have Hkf:=Af hkf;have Hb:=Af hb;clear hb;obtain⟨_,_,_,_,ca0,ca1,-⟩:=er.at_ (j:=k+j) (by first | omega | (simp;omega));have fa0:=er.frozen ((k+j)*2);have fa1:=er.frozen ((k+j)*2+1);clear hkf;go_wp2;have hkf:=Hkf.out;have hb:=Hb.out;obtain⟨W9,eW,er',U⟩:=er.put (k:=k+j) (by first | omega | (simp;omega)) p13;rw[<-eW];clear eW er;replace hb:=hb.kd U.kd;replace eq:=eq.upd U Ak;replace eg:=eg.upd U Ak
       replace e8:=e8.upd U Ak;replace hx:=U.from_ hx Ak;have er:=er';clear U er'
       go_roundw
       case rel=>exact⟨j+1,Aa,by go_num,by
        rw[Hrj.out,Pq (G:=F3 k (j+1) (z:Rat) R G) (fun n=>VO HR.out.2.2.2.2.2.1 HX.out.2.2.2.1 n)]at er;exact er,eq,eg,Bp.mk e8 hb,hx⟩
       case measure=>simp[intOf];omega
      ·obtain rfl:L=j:=by omega
       rw[KI (AA HX.out.2.2.1 |>.mono (by rw[<-HP.out.2.1];exact Nat.le_refl _))]at er;go_wp2
       go_roundw
       case rel=>exact⟨k,_,_,Aa,by go_num,er,eq,eg,HZ.out.1,HSP.out.psb (((ES k _).cv (AA HX.out.2.2.1)).mono (by have:=HP.out.2.1;omega)),hx⟩
       case measure=>simp[intOf]<;>omega
   ·have hno:¬ Iw F G:=HR.out.no HX.out.2.2.1 HX.out.2.2.2.2.1 HX.out.2.2.2.1 (by rw[<-HQ.out.2.2,<-hrv];exact hd)
    have HD:=Af (Au hd (Au hrv hno));clear hd hno
    go_wp2_with fail
    go_cut [9,10] (fun pv ev wx=>∃ gc,pv = .pointer (some ⟨gc,0,none⟩)/\ev = .int .i64 6/\Bp wx gc 26 0/\wr.heap.size<=gc/\Ext wr wx)
    case first =>
     refine BG 15 [13] (fun x=>16) [36,37,38,39,40,41,42,43,44,45,46,35,47,48,9] [[],[],[],[2],[1,2,3],[1,2,3,4],[0,1,2,3,4,5],[0,1,2,3,4,5,6],[],[8],[0,1,2,3,4,5,6,7,8,9],[0,1,2,3,4,5,6,7,8,9,10],[0,1,2,3,4,5,6,7,8,9,10,11],[0,1,2,3,4,5,6,7,8,9,10,11],[],[0,1,2,3,4,5,6,7,8,9,10,11,12,14],[0,1,2,3,4,5,6,7,8,9,10,11,12,13,14,15]] [6,8,1] [_,_,_] [(kv ?_),(kv ?_),(kv ?_),(kv ?_),(kv ?_),(kv ?_),(kv ?_),(kv ?_),(kv ?_),(fun γ=>γ 9),(fun γ=>γ 10),(fun γ=>γ 10),(fun γ=>γ 12),(kv ?_),(fun γ=>γ 14)] (fun γ w'=>[True,True,True,True,True,True,True,True,True,AO w' (γ 9) (ld G).num,EL w' (γ 10) 0 6,True,AO w' (γ 12) 0,True,Bh w' (γ 14) wr.heap.size #[.bool false,.slice none 0 0] 26]) Np Cg Cg Cg Cg Cg P5 Cg Nj ?m3 ?s3 ?_ ?l3
     case s3 =>
      iterate 15 refine⟨?_,?_⟩
      trivial
      iterate 9 focus
       refine Bi fun _ w' he R hR=>?_;have hc:=he.cells;have cq0:=he.cell cr0;have cq1:=he.cell cr1;go_simp;(try go_ints);(try(rw[if_neg Aa]));(try(rw[if_pos Aa]));(try go_simp);(try go_ints)
       exact C8 hR
      ·refine Bi fun _ w' he R hR=>?_
       go_simp;exact BF (Ky _ w.heap.size G w' (Hz.out.2.ext he) HX.out.2.2.2.2.1) hR
      ·refine Gj fun γ w' he hf R hR=>?_;have f9:AO w' (γ 9) (ld G).num:=hf 9 Ab;clear hf
       go_simp;exact BF (Xd _ _ _ _ w' ((Hz.out.1.kd he.kd).has (by rw[HD.out.2.1];exact HQ.out.1 _)) (f9.has HB.out.2.1) HQ.out.2.1 HD.out.1) hR
      ·refine Bi fun _ w' he R hR=>?_
       have hc:=he.cells;go_simp
       (try go_ints);(try(rw[if_neg Aa]));(try(rw[if_pos Aa]));(try go_simp);(try go_ints)
       exact C8 hR
      ·refine Gj fun γ w' he hf R hR=>?_;have f10:EL w' (γ 10) 0 6:=hf 10 Ab;clear hf
       obtain⟨a,e,ha⟩:=f10;go_simp;exact hR _ _ (Ext.refl _) rfl ha
      ·refine Gj fun γ w' he hf R hR=>?_;have f10:EL w' (γ 10) 0 6:=hf 10 Ab;clear hf
       obtain⟨a,e,ha⟩:=f10;have hc:=he.cells;go_simp
       (try go_ints);(try(rw[if_neg Aa]));(try(rw[if_pos Aa]));(try go_simp);(try go_ints)
       exact C8 hR
      ·refine Bi fun _ w' he R hR=>?_
       go_simp;exact hR _ _ ((Ext.refl _).alloc _) rfl (Bh.mk (Nat.le_trans Ac he.size) (by simp[Ah]))
     case m3 =>
      exact⟨⟨⟨⟨⟨⟨⟨⟨⟨⟨⟨⟨⟨⟨⟨trivial,(fun γ wA w' e h=>h)⟩,(fun γ wA w' e h=>h)⟩,(fun γ wA w' e h=>h)⟩,(fun γ wA w' e h=>h)⟩,(fun γ wA w' e h=>h)⟩,(fun γ wA w' e h=>h)⟩,(fun γ wA w' e h=>h)⟩,(fun γ wA w' e h=>h)⟩,(fun γ wA w' e h=>h)⟩,(fun γ wA w' e h=>(show AO wA (γ 9) (ld G).num from h).ext e)⟩,(fun γ wA w' e h=>(show EL wA (γ 10) 0 6 from h).ext e)⟩,(fun γ wA w' e h=>h)⟩,(fun γ w w' e h=>AO.ext_ h e)⟩,(fun γ wA w' e h=>h)⟩,(fun γ wA w' e h=>(show Bh wA (γ 14) wr.heap.size #[.bool false,.slice none 0 0] 26 from h).ext e)⟩
     case l3 =>
      intro Pn hPs hPn;obtain rfl:=Je hPs hPn;clear hPs hPn
      ·intro γ w3 hx3 hF hA
       clear hA;have p9:AO w3 (γ 9) (ld G).num:=(AC.get hF 9 Ab).resolve_left Ab;have p10:EL w3 (γ 10) 0 6:=(AC.get hF 10 Ab).resolve_left Ab;have p12:AO w3 (γ 12) 0:=(AC.get hF 12 Ab).resolve_left Ab;have p14:Bh w3 (γ 14) wr.heap.size #[.bool false,.slice none 0 0] 26:=(AC.get hF 14 Ab).resolve_left Ab;clear hF;show AJ _ _ _ _ 3 [13] 15 _ _;simp only[Bw,Nat.reduceAdd,Cw,Xl];generalize γ 9=g9 at *
       generalize γ 10=g10 at *;generalize γ 12=g12 at *;generalize γ 14=g14 at *;clear γ;obtain⟨a10,rfl,-⟩:=p10;obtain⟨gc,rfl,hgc,ec⟩:=p14;obtain⟨b5,A5,n5,c5,rfl⟩:=p12.cells;clear cr0 cr1 p9 hLP;have cec:=ec.cells2;have fec:=ec.frozen
       repeat' first
        | (refine AJ.nil ?_;simp only[IG];go_wp2;done)
        | (refine AJ.nil ?_;(try simp only[IG]);go_wp2)
        | (refine AJ.mk _ ⟨?_,trivial⟩ (fun h=>?_)<;>first | exact absurd h Ab | ((try clear h);simp only[Df,IG];go_wp2;first | show AJ _ _ _ _ _ [13] _ _ _ | show AJ _ _ _ _ _ [] _ _ _))
       all_goals
        skip;obtain⟨W4,eW,ec',U⟩:=ec.put2 (.bool b5) (.slice A5 n5 c5);rw[<-eW];clear eW ec;replace p12:=p12.kd U.kd;replace hx3:=U.from_ hx3 Ak;have ec:=ec';clear U ec'
        go_meet
        case rel=>exact⟨gc,rfl,rfl,Bp.mk ec p12,hgc,hx3⟩
     intro γ w3 hx3 hF hA;clear hA;have p9:AO w3 (γ 9) (ld G).num:=AC.get hF 9 Ab;have p10:EL w3 (γ 10) 0 6:=AC.get hF 10 Ab;have p12:AO w3 (γ 12) 0:=AC.get hF 12 Ab;have p14:Bh w3 (γ 14) wr.heap.size #[.bool false,.slice none 0 0] 26:=AC.get hF 14 Ab;clear hF;simp only[Bw,Nat.reduceAdd];generalize γ 9=g9 at *;generalize γ 10=g10 at *;generalize γ 12=g12 at *;generalize γ 14=g14 at *;clear γ;obtain⟨a10,rfl,-⟩:=p10
     obtain⟨gc,rfl,hgc,ec⟩:=p14;obtain⟨b5,A5,n5,c5,rfl⟩:=p12.cells;clear cr0 cr1 p9 hLP;have cec:=ec.cells2;have fec:=ec.frozen;go_wp2;skip;obtain⟨W4,eW,ec',U⟩:=ec.put2 (.bool b5) (.slice A5 n5 c5);rw[<-eW];clear eW ec;replace p12:=p12.kd U.kd;replace hx3:=U.from_ hx3 Ak;have ec:=ec';clear U ec'
     go_meet
     case rel=>exact⟨gc,rfl,rfl,Bp.mk ec p12,hgc,hx3⟩
    case rest =>
     clear cr0 cr1 hLP;obtain⟨gc,rfl,rfl,-,-,hx3⟩:=hcut;go_wp2
     go_ret2
     exact Ai.mk ⟨fun h=>absurd h HD.out.2.2,fun _=>rfl⟩ (hx.trans hx3)
  ·obtain rfl:i=0:=by omega
   have hm1:((0:Nat):Int) - 1 = -1:=by omega
   rw[hm1];have hfR:=HR.out.fin;have hcR:cz (DL P R)=R:=Il HR.out.2.2.2.2.2.1 HSP.out;have hend:=HR.out.end_ HX.out.1 HX.out.2.2.1 HX.out.2.2.2.2.1;have hout:=HR.out.out HX.out.1 HX.out.2.2.1 HX.out.2.2.2.2.1;have hcQ:cz (DL K Q)=Q:=Il hend.2.2.2 hend.2.2.1;have hT2:=DW w.heap.size (some ⟨w.heap.size,0,none⟩) l.length (DL P R) wr (by rw[AR];exact hc1) Aa (er.row (Nat.le_refl _));have hT1:=DW w.heap.size (some ⟨gq,0,none⟩) K (DL K Q) wr (by rw[AR];exact Nat.le_refl _) Aa (eq.row Aa)
   rw[AR]at hT1 hT2;rw[Gs,hcR]at hT2;have HE:=Af (Au (eq.row (base:=w.heap.size) Aa) (Au hcQ (Au hend (Au hout hfR))));clear er eq eg hm1 hcR hcQ hend hout hfR
   go_wp2_with fail
   refine Calls.mono hT2 ?_;rintro e w3 ⟨rfl,rfl⟩;by_cases hz:R=pz
   ·have h0:pl R=0:=by rw[hz,BR]
    have hyes:=HE.out.2.2.2.1.2 hz;have HY:=Af hyes;clear hz hyes;rw[h0]
    go_wp2_with fail
    refine Calls.mono hT1 ?_;rintro e w3 ⟨rfl,rfl⟩;go_wp2
    go_ret2
    exact Ai.mk ⟨fun _=>⟨_,rfl,by
     rw[<-HE.out.2.2.1.1];exact AB.of_trim (MX.trim HE.out.1 (by rw[AR];exact Nat.le_refl _) Aa) HE.out.2.1⟩,fun h=>absurd HY.out h⟩ hx
   ·have h0:0 < pl R:=AL HE.out.2.2.2.2 hz
    have hno:¬ Iw F G:=fun h=>hz (HE.out.2.2.2.1.1 h);have HY:=Af hno;clear hz hno;go_wp2
    go_ret2
    exact Ai.mk ⟨fun h=>absurd h HY.out,fun _=>rfl⟩ hx
theorem Kr(v u:Value)(F G:Nat->Rat)(s t:Nat)(w:World)(hv:AB 0 w v F)(hu:AB 0 w u G)(hs:∀ i,qsz (F i)<=s)(ht:∀ i,qsz (G i)<=t)(hn:pl F<=549755813888)(hm:pl G<=549755813888)(h0:G≠pz)(hst:s+(pl F+2)*(t+1)+t<=1099511627776) :
  Bg 88 #[v,u] w ((aZ w.heap.size F G)):=by
 obtain⟨l,h1,h2,-,rfl⟩:=hv.hz (fun i=>by have:=hs i;omega);obtain⟨m,k1,k2,-,rfl⟩:=hu.hz (fun i=>by have:=ht i;omega);exact Vz v u l m s t w h1 k1 hs ht Aa Aa h0 (by rw[h2];exact hst)
set_option maxRecDepth 20000 in
theorem Tn(v:Value)(n:Nat)(w:World)(hv:Bj w v 2)(hn:n < 65536):Bg 176 #[v,.int .i64 (n:Nat)] w (fun r w'=>EL w' r (2^n) 0):=by
 have HV:=Af hv;obtain⟨b1,A1,n1,c1,rfl⟩:=hv.cells;clear hv;have hL:=Lib.bitLen_le n 16 Ab Aa;have HL:=Af (G7 n n (Nat.le_refl _) Aa).1
 go_enter Tryz.func176,Tryz.ntmps176
 go_wp2_with fail
 refine AQ (RB _ 2 _ (HV.out.ext (((Ext.refl w).alloc _).alloc _))) ?_;rintro r1 w1 ⟨b,rfl,hb⟩ hx1;obtain rfl:b=2:=hb.uniq ⟨Ab,fun _=>Ab⟩;clear hb;have ea:=((Ba.new w 26 #[.bool b1,.slice A1 n1 c1] (by simp[Ah])).alloc (.cells #[.bool false,.slice none 0 0] 26)).ext hx1;have ez:=(Ba.new (w.alloc (.cells #[.bool b1,.slice A1 n1 c1] 26)) 26 #[.bool false,.slice none 0 0] (by simp[Ah])).ext hx1;rw[World.size_alloc]at ez
 have hx:=hx1.a2;clear hx1
 go_wp2_with fail
 refine AQ (Jb 1 _ Aa Aa) ?_;rintro r2 w2 hr2 hx2;obtain⟨b5,A5,n5,c5,rfl⟩:=hr2.cells;replace ea:=ea.ext hx2;replace ez:=ez.ext hx2;obtain⟨W0,eW,eb,x0⟩:=Ba.made w2 26 #[.bool b5,.slice A5 n5 c5] (by simp[Ah]);have hb:=hr2.kd x0.kd;replace ea:=ea.ext x0;have hgb:=ez.lt;replace ez:=ez.ext x0;replace hx:=(hx.trans hx2).trans x0;have Hb:=Af hb;clear hr2 hb hx2
 go_wp2_with (go_at_call 190;refine(V5 _ _ Aa).mono ?_;rintro e w' ⟨rfl,rfl⟩)
 rw[<-eW];clear eW x0;generalize w2.heap.size=gb at *
 go_loopw [8] (fun iv wr=>∃ (j:Nat),j<=Lib.bitLen n/\iv = .int .i64 ((j:Int) - 1)/\Ba wr w.heap.size 26 #[.bool b1,.slice A1 n1 c1]/\Ba wr (w.heap.size+1) 26 #[.bool false,.slice none 0 0]/\Bp wr gb 26 (2^(n / 2^j))/\Ext w wr) (fun iv _=>(intOf iv+1).toNat)
 case atStart=>exact⟨Lib.bitLen n,Nat.le_refl _,rfl,ea,ez,by rw[Nat.div_eq_of_lt HL.out];exact Bp.mk eb Hb.out,hx⟩
 case round =>
  clear ea ez eb hx Hb;obtain⟨j,hj,rfl,ea,ez,⟨b6,A6,n6,c6,eb,hb⟩,hx⟩:=hrel;have Hb:=Af hb;clear hb;rcases j with _ | j
  ·have e1:(((0:Nat):Int) - 1) = -1:=rfl
   rw[e1];clear e1;have cez:=ez.cells2;have fez:=ez.frozen;have ceb:=eb.cells2;have feb:=eb.frozen;have hr:=Hb.out;go_wp2;obtain⟨W3,eW,ez',U⟩:=ez.put2 (.bool b6) (.slice A6 n6 c6);rw[<-eW];clear eW ez;replace hr:=hr.kd U.kd;replace hx:=U.from_ hx Ak;have ez:=ez';clear U ez';clear cez fez;have cez:=ez.cells2;have fez:=ez.frozen;refine bodyPost_ret (v := .tuple #[.agg #[.bool b6,.slice A6 n6 c6],.int .i64 0]) (by simp[results,Tryz.results176,go_sem,cez]) rfl ?_
   exact Ai.mk ⟨_,rfl,by simpa using hr⟩ hx
  ·have e1:(((j+1:Nat):Int) - 1)=(j:Nat):=by omega
   rw[e1];clear e1;have hsz:∀ m,m<=n->sz ((2:Int)^m).natAbs<=100000:=fun m hm=>by have:=GM m;omega
   have hd1:n / 2^(j+1)<=n:=Nat.div_le_self _ _;have hd2:n / 2^j<=n:=Nat.div_le_self _ _;have HS:=Af (Au (hsz _ hd1) (Au (hsz _ hd2) (Vn n j)));clear hsz hd1 hd2;have ceb:=eb.cells2;have feb:=eb.frozen
   go_wp2_with fail
   refine AQ (Dj _ _ _ _ _ (Hb.out.has (by have:=HS.out.1;omega)) (Hb.out.has (by have:=HS.out.1;omega))) ?_;rintro r2 w2 hr2 hx2;obtain⟨b7,A7,n7,c7,rfl⟩:=hr2.cells;clear Hb ceb feb;replace ea:=ea.ext hx2;replace ez:=ez.ext hx2;replace eb:=eb.ext hx2;replace hx:=hx.trans hx2;clear hx2;have ceb:=eb.cells2;have feb:=eb.frozen
   go_upto_region 13 with(fail)
   obtain⟨W3,eW,eb',U⟩:=eb.put2 (.bool b7) (.slice A7 n7 c7);rw[<-eW];clear eW eb;replace hr2:=hr2.kd U.kd;replace ea:=ea.upd U Ak;replace ez:=ez.upd U Ak;replace hx:=U.from_ hx Ak;have eb:=eb';clear U eb';have Hb:=Af hr2;clear hr2;obtain⟨q,hq⟩:∃ q,q=n / 2^j:=⟨_,rfl⟩
   have hqi:(n:Int) / 2^j=(q:Nat):=by rw[hq];simp
   have hq9:q<=n:=by rw[hq];exact Nat.div_le_self _ _
   have hbit:=QT q Aa;have Hq:=Af HS.out.2;rw[<-hq]at Hq;have HQ:=Af hq;clear HS hq;by_cases hodd:q % 2=1
   ·rw[hodd]at hbit
    have hp:=Hq.out.2;rw[if_pos hodd]at hp;have Hp:=Af hp;clear hp hodd;have cea:=ea.cells2;have fea:=ea.frozen;have ceb:=eb.cells2;have feb:=eb.frozen
    go_wp2_with fail
    refine AQ (Dj _ _ _ 2 _ (Hb.out.has (Nat.le_trans (PH Hp.out) (by have:=Hq.out.1;omega))) (HV.out.ext hx)) ?_;rintro r4 w4 hr4 hx4;rw[Hp.out]at hr4;obtain⟨b8,A8,n8,c8,rfl⟩:=hr4.cells;clear Hb cea fea ceb feb;replace ea:=ea.ext hx4;replace ez:=ez.ext hx4;replace eb:=eb.ext hx4;replace hx:=hx.trans hx4;clear hx4;have ceb:=eb.cells2;have feb:=eb.frozen;go_wp2;obtain⟨W5,eW,eb',U⟩:=eb.put2 (.bool b8) (.slice A8 n8 c8)
    rw[<-eW];clear eW eb;replace hr4:=hr4.kd U.kd;replace ea:=ea.upd U Ak;replace ez:=ez.upd U Ak;replace hx:=U.from_ hx Ak;have eb:=eb';clear U eb'
    go_roundw
    case rel=>exact⟨j,Aa,by go_num,ea,ez,by rw[<-HQ.out];exact Bp.mk eb hr4,hx⟩
    case measure=>simp[intOf]<;>omega
   ·rw[show q % 2=0 by omega]at hbit
    have hp:=Hq.out.2;rw[if_neg hodd,Int.mul_one]at hp;have hr4:=Hb.out;rw[hp]at hr4;clear hp Hb Hq;go_wp2
    go_roundw
    case rel=>exact⟨j,Aa,by go_num,ea,ez,by rw[<-HQ.out];exact Bp.mk eb hr4,hx⟩
    case measure=>simp[intOf]<;>omega
end Go.Proofs.YtmhgnigpmompmaaGreat

namespace Go.Proofs.YtmhgnigpmompmaaGreat
open Go.RowKit Go.Hp
theorem Yf{x y:Int}{v:Value}{w w':World}(h:Md x y v w)(e:Ext w w'):Md x y v w':=by
 obtain⟨a,b,h1,h2,h3⟩:=h;exact⟨a,b,h1,h2.ext_ e,h3.ext_ e⟩
set_option maxRecDepth 20000 in
theorem Xg(v:Value)(Y:Int)(w:World)(hv:Bj w v Y)(h0:0 < Y)(hs:sz Y.natAbs<=1000):Bg 175 #[v] w (fun r w'=>jY w' r):=by
 have HV:=Af hv;obtain⟨b1,A1,n1,c1,rfl⟩:=hv.cells;clear hv;obtain⟨b,hb⟩:=BL.ex Y.natAbs;have hb9:b<=32000:=by have:=hb.sz;omega
 obtain⟨k,hk⟩:∃ k,k=(b+1) / 2:=⟨_,rfl⟩
 have hk9:k<=16001:=by omega
 have hki:(((b:Nat):Int)+1) / 2=(k:Nat):=by omega
 have hbits:∀ W u,Bj W u Y->Bg 174 #[u] W (fun r _=>r = .int .i64 (b:Nat)):=fun W u hu =>
  Ai.imp (RB u Y W hu) fun _ _ ⟨c,e,h⟩=>by rw[e,h.uniq hb]
 have HB:=Af hbits;clear hbits hb hk;have HA:=Af (Au h0 hs);clear h0 hs
 go_enter Tryz.func175,Tryz.ntmps175
 go_wp2_with fail
 refine AQ (Ib _ Y _ (HV.out.ext (((Ext.refl w).alloc _).alloc _))) ?_;rintro r1 w1 rfl hx1;rw[Int.sign_eq_one_of_pos HA.out.1];have ea:=((Ba.new w 26 #[.bool b1,.slice A1 n1 c1] (by simp[Ah])).alloc (.cells #[.bool false,.slice none 0 0] 26)).ext hx1;have ez:=(Ba.new (w.alloc (.cells #[.bool b1,.slice A1 n1 c1] 26)) 26 #[.bool false,.slice none 0 0] (by simp[Ah])).ext hx1;rw[World.size_alloc]at ez
 have hx:=hx1.a2;clear hx1;obtain⟨cea0,cea1⟩:=ea.cells2;have fea:=ea.frozen;have hsz1:=ez.lt
 go_wp2_with fail
 go_cut [5,6] (fun xv ev wx=>∃ gc,xv = .pointer (some ⟨gc,0,none⟩)/\ev = .int .i64 0/\Bp wx gc 26 (2^k)/\w.heap.size+1 < gc/\Ext w1 wx)
 case first =>
  refine BG 10 [8] (fun x=>11) [19,20,21,22,23,24,18,25,26,5] [[],[],[0,1],[0,1,2],[0,1,2,3],[0,1,2,3,4],[0,1,2,3,4,5],[0,1,2,3,4,5,6],[0,1,2,3,4,5,6],[],[0,1,2,3,4,5,6,7,9],[0,1,2,3,4,5,6,7,8,9,10]] [1] [_] [(fun γ=>γ 0),(kv ?_),(kv (.int .i64 (b:Nat))),(kv ?_),(kv ?_),(fun γ=>γ 5),(fun γ=>γ 5),(fun γ=>γ 7),(kv ?_),(fun γ=>γ 9)] (fun γ w'=>[AO w' (γ 0) 2,True,True,True,True,EL w' (γ 5) (2^k) 0,True,AO w' (γ 7) (2^k),True,Bh w' (γ 9) w1.heap.size #[.bool false,.slice none 0 0] 26]) Np Cg Cg Cg Cg Cg P5 Cg Nj ?m1 ?s1 ?_ ?l1
  case s1 =>
   iterate 10 refine⟨?_,?_⟩
   trivial
   ·refine Bi fun _ w' he R hR=>?_
    go_simp;exact BF (Jb 2 w' Aa Aa) hR
   iterate 1 focus
    refine Bi fun _ w' he R hR=>?_;have hc:=he.cells;have cq0:=he.cell cea0;have cq1:=he.cell cea1;go_simp;exact C8 hR
   ·refine Bi fun _ w' he R hR=>?_
    go_simp;exact OA (HB.out w' _ (HV.out.ext (hx.trans he))) hR
   iterate 2 focus
    refine Bi fun _ w' he R hR=>?_;have hc:=he.cells;go_simp;(try go_ints);(try(rw[if_neg Aa]));(try(rw[if_pos Aa]));(try go_simp);(try go_ints)
    exact C8 hR
   ·refine Gj fun γ w' he hf R hR=>?_;have f0:AO w' (γ 0) 2:=hf 0 Ab;clear hf
    go_simp;exact BF (Tn _ k w' (f0.has Ab) Aa) hR
   ·refine Bi fun _ w' he R hR=>?_
    have hc:=he.cells;go_simp
    (try go_ints);(try(rw[if_neg Aa]));(try(rw[if_pos Aa]));(try go_simp);(try go_ints)
    exact C8 hR
   ·refine Gj fun γ w' he hf R hR=>?_;have f5:EL w' (γ 5) (2^k) 0:=hf 5 Ab;clear hf
    obtain⟨a,e,ha⟩:=f5;go_simp;exact hR _ _ (Ext.refl _) rfl ha
   ·refine Gj fun γ w' he hf R hR=>?_;have f5:EL w' (γ 5) (2^k) 0:=hf 5 Ab;clear hf
    obtain⟨a,e,ha⟩:=f5;have hc:=he.cells;go_simp
    (try go_ints);(try(rw[if_neg Aa]));(try(rw[if_pos Aa]));(try go_simp);(try go_ints)
    exact C8 hR
   ·refine Bi fun _ w' he R hR=>?_
    go_simp;exact hR _ _ ((Ext.refl _).alloc _) rfl (Bh.mk (Nat.le_trans Ac he.size) (by simp[Ah]))
  case m1 =>
   exact⟨⟨⟨⟨⟨⟨⟨⟨⟨⟨trivial,(fun γ wA w' e h=>(show AO wA (γ 0) 2 from h).ext e)⟩,(fun γ wA w' e h=>h)⟩,(fun γ wA w' e h=>h)⟩,(fun γ wA w' e h=>h)⟩,(fun γ wA w' e h=>h)⟩,(fun γ wA w' e h=>(show EL wA (γ 5) (2^k) 0 from h).ext e)⟩,(fun γ wA w' e h=>h)⟩,(fun γ w w' e h=>AO.ext_ h e)⟩,(fun γ wA w' e h=>h)⟩,(fun γ wA w' e h=>(show Bh wA (γ 9) w1.heap.size #[.bool false,.slice none 0 0] 26 from h).ext e)⟩
  case l1 =>
   intro Pn hPs hPn;obtain rfl:=Je hPs hPn;clear hPs hPn
   ·intro γ w2 hx2 hF hA
    clear hA;have p0:AO w2 (γ 0) 2:=(AC.get hF 0 Ab).resolve_left Ab;have p5:EL w2 (γ 5) (2^k) 0:=(AC.get hF 5 Ab).resolve_left Ab;have p7:AO w2 (γ 7) (2^k):=(AC.get hF 7 Ab).resolve_left Ab;have p9:Bh w2 (γ 9) w1.heap.size #[.bool false,.slice none 0 0] 26:=(AC.get hF 9 Ab).resolve_left Ab;clear hF;show AJ _ _ _ _ 3 [8] 10 _ _;simp only[Bw,Nat.reduceAdd,Cw,Xl];generalize γ 0=g0 at *;generalize γ 5=g5 at *
    generalize γ 7=g7 at *;generalize γ 9=g9 at *;clear γ;obtain⟨a5,rfl,-⟩:=p5;obtain⟨gc,rfl,hgc,ec⟩:=p9;obtain⟨b5,A5,n5,c5,rfl⟩:=p7.cells;clear cea0 cea1 p0;have cec:=ec.cells2;have fec:=ec.frozen
    repeat' first
     | (refine AJ.nil ?_;simp only[IG];go_wp2;done)
     | (refine AJ.nil ?_;(try simp only[IG]);go_wp2)
     | (refine AJ.mk _ ⟨?_,trivial⟩ (fun h=>?_)<;>first | exact absurd h Ab | ((try clear h);simp only[Df,IG];go_wp2;first | show AJ _ _ _ _ _ [8] _ _ _ | show AJ _ _ _ _ _ [] _ _ _))
    all_goals
     skip;obtain⟨W4,eW,ec',U⟩:=ec.put2 (.bool b5) (.slice A5 n5 c5);rw[<-eW];clear eW ec;replace p7:=p7.kd U.kd;replace hx2:=U.from_ hx2 Ak;have ec:=ec';clear U ec'
     go_meet
     case rel=>exact⟨gc,rfl,rfl,Bp.mk ec p7,Aa,hx2⟩
  intro γ w2 hx2 hF hA;clear hA;have p0:AO w2 (γ 0) 2:=AC.get hF 0 Ab;have p5:EL w2 (γ 5) (2^k) 0:=AC.get hF 5 Ab;have p7:AO w2 (γ 7) (2^k):=AC.get hF 7 Ab;have p9:Bh w2 (γ 9) w1.heap.size #[.bool false,.slice none 0 0] 26:=AC.get hF 9 Ab;clear hF;simp only[Bw,Nat.reduceAdd];generalize γ 0=g0 at *;generalize γ 5=g5 at *;generalize γ 7=g7 at *;generalize γ 9=g9 at *;clear γ;obtain⟨a5,rfl,-⟩:=p5;obtain⟨gc,rfl,hgc,ec⟩:=p9
  obtain⟨b5,A5,n5,c5,rfl⟩:=p7.cells;clear cea0 cea1 p0;have cec:=ec.cells2;have fec:=ec.frozen;go_wp2;skip;obtain⟨W4,eW,ec',U⟩:=ec.put2 (.bool b5) (.slice A5 n5 c5);rw[<-eW];clear eW ec;replace p7:=p7.kd U.kd;replace hx2:=U.from_ hx2 Ak;have ec:=ec';clear U ec'
  go_meet
  case rel=>exact⟨gc,rfl,rfl,Bp.mk ec p7,Aa,hx2⟩
 case rest =>
  clear cea0 cea1 fea hsz1;obtain⟨gx,rfl,rfl,ex,hgx,hx2⟩:=hcut;replace ea:=ea.ext hx2;replace ez:=ez.ext hx2;replace hx:=hx.trans hx2;clear hx2;rename_i wx
  go_wp2_with fail
  refine AQ (Jb 2 _ Aa Aa) ?_;rintro r3 w3 hr3 hx3;obtain⟨b6,A6,n6,c6,rfl⟩:=hr3.cells;replace ea:=ea.ext hx3;replace ez:=ez.ext hx3;replace ex:=ex.ext hx3;replace hx:=hx.trans hx3;clear hx3;obtain⟨W0,eW,et,x0⟩:=Ba.made w3 26 #[.bool b6,.slice A6 n6 c6] (by simp[Ah]);have ht:=Bp.mk et (hr3.kd x0.kd);have hgt:=ex.lt;replace ea:=ea.ext x0;replace ez:=ez.ext x0;replace ex:=ex.ext x0;replace hx:=hx.trans x0
  clear x0;clear et hr3;go_wp2;rw[<-eW];clear eW;generalize w3.heap.size=gt at *
  go_loopw [13] (fun _ wr=>∃ x:Int,0 < x/\sz x.natAbs<=20000/\Ba wr w.heap.size 26 #[.bool b1,.slice A1 n1 c1]/\Ba wr (w.heap.size+1) 26 #[.bool false,.slice none 0 0]/\Bp wr gx 26 x/\Bp wr gt 26 2/\Ext w wr) (fun _ wr=>jU wr gx 26)
  case atStart=>exact⟨2^k,Int.pow_pos Ab,by have:=GM k;omega,ea,ez,ex,ht,hx⟩
  case round =>
   clear ea ez ex ht hx;obtain⟨x,hx0,hxs,ea,ez,⟨b7,A7,n7,c7,ex,hxz⟩,ht,hx⟩:=hrel;have Hb2:=Af (OG (Bp.mk ex hxz));have Hx:=Af (Au hx0 hxs);clear hx0 hxs;have Hxz:=Af hxz;clear hxz;obtain⟨cea0,cea1⟩:=ea.cells2;have fea:=ea.frozen;obtain⟨cex0,cex1⟩:=ex.cells2;have fex:=ex.frozen
   go_wp2_with fail
   refine AQ (Kg _ _ Y x _ (HV.out.ext hx) (Hxz.out.has (by have:=Hx.out.2;omega))) ?_;rintro r4 w4 ⟨q0,m0,rfl,hq,hm⟩ hx4;rw[if_neg (by have:=Hx.out.1;omega)];obtain⟨b8,A8,n8,c8,rfl⟩:=hq.cells;obtain⟨b9,A9,n9,c9,rfl⟩:=hm.cells;have HQ:=Af hq;have HXZ:=Af (Hxz.out.ext hx4);clear hm hq Hxz cea0 cea1 fea cex0 cex1 fex;replace ea:=ea.ext hx4;replace ez:=ez.ext hx4;replace ex:=ex.ext hx4;replace ht:=ht.ext hx4
   replace hx:=hx.trans hx4;clear hx4;obtain⟨W5,eW5,e8,x5⟩:=Ba.made w4 26 #[.bool b8,.slice A8 n8 c8] (by simp[Ah]);obtain⟨W6,eW6,-,x6⟩:=Ba.made W5 26 #[.bool b9,.slice A9 n9 c9] (by simp[Ah]);replace e8:=e8.ext x6;have x56:=x5.trans x6;have HQ6:=Af (Au (HQ.out.ext x56) (HXZ.out.ext x56));clear HQ HXZ;replace ea:=ea.ext x56;replace ez:=ez.ext x56;replace ex:=ex.ext x56;replace ht:=ht.ext x56;replace hx:=hx.trans x56
   clear x56;clear x5 x6
   go_upto_region 6 with(fail)
   rw[<-eW5,<-eW6];clear eW5 eW6;generalize w4.heap.size=g8 at *;obtain⟨b6,A6,n6,c6,et,htz⟩:=ht;have Htz:=Af htz;clear htz;have hsum:sz (x+Y / x).natAbs<=30000:=by
    have h1:=Bq (Int.natAbs_add_le x (Y / x));have h2:=GX x.natAbs (Y / x).natAbs;have h3:=Bq (Int.natAbs_ediv_le_natAbs Y x);have:=Hx.out.2;have:=HA.out.2;omega
   have hq9:sz (Y / x).natAbs<=1000:=Nat.le_trans (Bq (Int.natAbs_ediv_le_natAbs Y x)) HA.out.2;have HS:=Af (Au hsum hq9);clear hsum hq9;have hlt6:=ez.lt;obtain⟨cex0,cex1⟩:=ex.cells2;have fex:=ex.frozen;have ce8:=e8.cells2;have fe8:=e8.frozen;have cet:=et.cells2;have fet:=et.frozen
   go_cut [11,12,13] (fun pv qv ev wx=>∃ gc,pv = .pointer (some ⟨gc,0,none⟩)/\Bp wx gc 26 ((x+Y / x) / 2)/\w.heap.size+1 < gc/\Ext W6 wx)
   case first =>
    refine BG 11 [7,8] (fun x=>if x=7 then 12 else 13) [36,37,38,39,40,35,41,42,43,11,12] [[],[],[0,1],[],[0,1,2,3],[0,1,2,3,4],[0,1,2,3,4,5],[0,1,2,3,4,5],[0,1,2,3,4,5],[],[],[0,1,2,3,4,5,6,9,10],[0,1,2,3,4,5,6,7,9,10,11],[0,1,2,3,4,5,6,7,8,9,10,11,12]] [5,8,7] [_,_,_] [(kv ?_),(kv ?_),(fun γ=>γ 2),(kv ?_),(fun γ=>γ 4),(fun γ=>γ 4),(fun γ=>γ 6),(fun γ=>γ 7),(kv ?_),(fun γ=>γ 9),(fun γ=>γ 10)] (fun γ w'=>[True,True,AO w' (γ 2) (x+Y / x),True,Md (x+Y / x) 2 (γ 4) w',True,AO w' (γ 6) ((x+Y / x) / 2),bW (γ 4) (γ 7),True,Bh w' (γ 9) W6.heap.size #[.bool false,.slice none 0 0] 26,Bh w' (γ 10) W6.heap.size #[.bool false,.slice none 0 0] 26]) Np Cg Cg Cg Cg Cg P5 Cg Nj ?m2 ?s2 ?_ ?l2
    case s2 =>
     iterate 11 refine⟨?_,?_⟩
     trivial
     iterate 2 focus
      refine Bi fun _ w' he R hR=>?_;have hc:=he.cells;have cq0:=he.cell cex0;have cq1:=he.cell cex1;have cq2:=(e8.ext he).cells2;have cq3:=(et.ext he).cells2;go_simp;exact C8 hR
     ·refine Bi fun _ w' he R hR=>?_
      go_simp;exact BF (M8 _ _ x (Y / x) w' ((HQ6.out.2.ext he).has (by have:=Hx.out.2;omega)) ((HQ6.out.1.ext he).has (by have:=HS.out.2;omega))) hR
     iterate 1 focus
      refine Bi fun _ w' he R hR=>?_;have hc:=he.cells;have cq0:=he.cell cex0;have cq1:=he.cell cex1;have cq2:=(e8.ext he).cells2;have cq3:=(et.ext he).cells2;go_simp;exact C8 hR
     ·refine Gj fun γ w' he hf R hR=>?_;have f2:AO w' (γ 2) (x+Y / x):=hf 2 Ab;clear hf
      go_simp;exact BF (Kg _ _ _ 2 w' (f2.has (by have:=HS.out.1;omega)) ((Htz.out.ext he).has Ab)) hR
     ·refine Bi fun _ w' he R hR=>?_
      have hc:=he.cells;go_simp
      (try go_ints);(try(rw[if_neg Aa]));(try(rw[if_pos Aa]));(try go_simp);(try go_ints)
      exact C8 hR
     ·refine Gj fun γ w' he hf R hR=>?_;have f4:Md (x+Y / x) 2 (γ 4) w':=hf 4 Ab;clear hf
      obtain⟨q',m',e,ha,hb⟩:=f4;go_simp;exact hR _ _ (Ext.refl _) rfl ha
     ·refine Gj fun γ w' he hf R hR=>?_;have f4:Md (x+Y / x) 2 (γ 4) w':=hf 4 Ab;clear hf
      obtain⟨q',m',e,ha,hb⟩:=f4;go_simp;exact hR _ _ (Ext.refl _) rfl ⟨_,_,e⟩
     ·refine Gj fun γ w' he hf R hR=>?_;have f4:Md (x+Y / x) 2 (γ 4) w':=hf 4 Ab;clear hf
      obtain⟨q',m',e,ha⟩:=f4;have hc:=he.cells;go_simp
      (try go_ints);(try(rw[if_neg Aa]));(try(rw[if_pos Aa]));(try go_simp);(try go_ints)
      exact C8 hR
     ·refine Bi fun _ w' he R hR=>?_
      go_simp;exact hR _ _ ((Ext.refl _).alloc _) rfl (Bh.mk (Nat.le_trans Ac he.size) (by simp[Ah]))
     ·refine Bi fun _ w' he R hR=>?_
      go_simp;exact hR _ _ ((Ext.refl _).alloc _) rfl (Bh.mk (Nat.le_trans Ac he.size) (by simp[Ah]))
    case m2 =>
     exact⟨⟨⟨⟨⟨⟨⟨⟨⟨⟨⟨trivial,(fun γ wA w' e h=>h)⟩,(fun γ wA w' e h=>h)⟩,(fun γ wA w' e h=>(show AO wA (γ 2) (x+Y / x)from h).ext e)⟩,(fun γ wA w' e h=>h)⟩,(fun γ w w' e h=>Yf h e)⟩,(fun γ wA w' e h=>h)⟩,(fun γ w w' e h=>AO.ext_ h e)⟩,(fun γ w w' e h=>h)⟩,(fun γ wA w' e h=>h)⟩,(fun γ wA w' e h=>(show Bh wA (γ 9) W6.heap.size #[.bool false,.slice none 0 0] 26 from h).ext e)⟩,(fun γ wA w' e h=>(show Bh wA (γ 10) W6.heap.size #[.bool false,.slice none 0 0] 26 from h).ext e)⟩
    case l2 =>
     intro Pn hPs hPn;rcases iV hPs hPn with rfl | rfl | rfl<;>clear hPs hPn
     ·intro γ w7 hx7 hF hA
      have na9x10:γ 9≠γ 10:=hA 9 10 Ab Ab Ab Ab Ab ⟨_,_,rfl,rfl⟩ ⟨_,_,rfl,rfl⟩;clear hA;have p2:AO w7 (γ 2) (x+Y / x):=(AC.get hF 2 Ab).resolve_left Ab;have p4:Md (x+Y / x) 2 (γ 4) w7:=(AC.get hF 4 Ab).resolve_left Ab;have p6:AO w7 (γ 6) ((x+Y / x) / 2):=(AC.get hF 6 Ab).resolve_left Ab;have p9:Bh w7 (γ 9) W6.heap.size #[.bool false,.slice none 0 0] 26:=(AC.get hF 9 Ab).resolve_left Ab;have p10:Bh w7 (γ 10) W6.heap.size #[.bool false,.slice none 0 0] 26:=(AC.get hF 10 Ab).resolve_left Ab
      clear hF;show AJ _ _ _ _ 4 [7] 11 _ _;simp only[Bw,Nat.reduceAdd,Cw,Xl];generalize γ 2=g2 at *;generalize γ 4=g4 at *;generalize γ 6=g6 at *;generalize γ 9=g9 at *;generalize γ 10=g10 at *;clear γ;obtain⟨q4,m4,rfl,ha4,hb4⟩:=p4;obtain⟨bm,Am,nm,cm,rfl⟩:=hb4.cells
      (try(obtain⟨_,_,h7⟩:=p7;cases h7))
      obtain⟨gc,rfl,hgc,ec⟩:=p9;obtain⟨gd,rfl,hgd,ed⟩:=p10;have hcd:gc≠gd:=fun e=>na9x10 (by rw[e]);clear na9x10;obtain⟨bq,Aq,nq,cq,rfl⟩:=p6.cells;clear cex0 cex1 ce8 cet p2 ha4 hb4;have cec:=ec.cells2;have fec:=ec.frozen;have ced:=ed.cells2;have fed:=ed.frozen
      repeat' first
       | (refine AJ.nil ?_;simp only[IG];go_wp2;done)
       | (refine AJ.nil ?_;(try simp only[IG]);go_wp2)
       | (refine AJ.mk _ ⟨?_,trivial⟩ (fun h=>?_)<;>first | exact absurd h Ab | ((try clear h);simp only[Df,IG];go_wp2;first | show AJ _ _ _ _ _ [7] _ _ _ | show AJ _ _ _ _ _ [8] _ _ _ | show AJ _ _ _ _ _ [] _ _ _ | show AJ _ _ _ _ _ [7,8] _ _ _))
      all_goals
       skip;obtain⟨W4,eW,ec',U⟩:=ec.put2 (.bool bq) (.slice Aq nq cq);rw[<-eW];clear eW ec;replace p6:=p6.kd U.kd;replace ed:=ed.upd U Ak;replace hx7:=U.from_ hx7 Ak;have ec:=ec';clear U ec';obtain⟨W8,eW,ed',U⟩:=ed.put2 (.bool bm) (.slice Am nm cm);rw[<-eW];clear eW ed;replace p6:=p6.kd U.kd;replace ec:=ec.upd U Ak;replace hx7:=U.from_ hx7 Ak;have ed:=ed';clear U ed'
       go_meet
       case rel=>exact⟨gc,rfl,Bp.mk ec p6,Aa,hx7⟩
     ·intro γ w7 hx7 hF hA
      have na9x10:γ 9≠γ 10:=hA 9 10 Ab Ab Ab Ab Ab ⟨_,_,rfl,rfl⟩ ⟨_,_,rfl,rfl⟩;clear hA;have p2:AO w7 (γ 2) (x+Y / x):=(AC.get hF 2 Ab).resolve_left Ab;have p4:Md (x+Y / x) 2 (γ 4) w7:=(AC.get hF 4 Ab).resolve_left Ab;have p6:AO w7 (γ 6) ((x+Y / x) / 2):=(AC.get hF 6 Ab).resolve_left Ab;have p7:bW (γ 4) (γ 7):=(AC.get hF 7 Ab).resolve_left Ab;have p9:Bh w7 (γ 9) W6.heap.size #[.bool false,.slice none 0 0] 26:=(AC.get hF 9 Ab).resolve_left Ab
      have p10:Bh w7 (γ 10) W6.heap.size #[.bool false,.slice none 0 0] 26:=(AC.get hF 10 Ab).resolve_left Ab;clear hF;show AJ _ _ _ _ 4 [8] 11 _ _;simp only[Bw,Nat.reduceAdd,Cw,Xl];generalize γ 2=g2 at *;generalize γ 4=g4 at *;generalize γ 6=g6 at *;generalize γ 7=g7 at *;generalize γ 9=g9 at *;generalize γ 10=g10 at *;clear γ;obtain⟨q4,m4,rfl,ha4,hb4⟩:=p4;obtain⟨bm,Am,nm,cm,rfl⟩:=hb4.cells
      (try(obtain⟨_,_,h7⟩:=p7;cases h7))
      obtain⟨gc,rfl,hgc,ec⟩:=p9;obtain⟨gd,rfl,hgd,ed⟩:=p10;have hcd:gc≠gd:=fun e=>na9x10 (by rw[e]);clear na9x10;obtain⟨bq,Aq,nq,cq,rfl⟩:=p6.cells;clear cex0 cex1 ce8 cet p2 ha4 hb4;have cec:=ec.cells2;have fec:=ec.frozen;have ced:=ed.cells2;have fed:=ed.frozen
      repeat' first
       | (refine AJ.nil ?_;simp only[IG];go_wp2;done)
       | (refine AJ.nil ?_;(try simp only[IG]);go_wp2)
       | (refine AJ.mk _ ⟨?_,trivial⟩ (fun h=>?_)<;>first | exact absurd h Ab | ((try clear h);simp only[Df,IG];go_wp2;first | show AJ _ _ _ _ _ [7] _ _ _ | show AJ _ _ _ _ _ [8] _ _ _ | show AJ _ _ _ _ _ [] _ _ _ | show AJ _ _ _ _ _ [7,8] _ _ _))
      all_goals
       skip;obtain⟨W4,eW,ec',U⟩:=ec.put2 (.bool bq) (.slice Aq nq cq);rw[<-eW];clear eW ec;replace p6:=p6.kd U.kd;replace ed:=ed.upd U Ak;replace hx7:=U.from_ hx7 Ak;have ec:=ec';clear U ec';obtain⟨W8,eW,ed',U⟩:=ed.put2 (.bool bm) (.slice Am nm cm);rw[<-eW];clear eW ed;replace p6:=p6.kd U.kd;replace ec:=ec.upd U Ak;replace hx7:=U.from_ hx7 Ak;have ed:=ed';clear U ed'
       go_meet
       case rel=>exact⟨gc,rfl,Bp.mk ec p6,Aa,hx7⟩
     ·intro γ w7 hx7 hF hA
      have na9x10:γ 9≠γ 10:=hA 9 10 Ab Ab Ab Ab Ab ⟨_,_,rfl,rfl⟩ ⟨_,_,rfl,rfl⟩;clear hA;have p2:AO w7 (γ 2) (x+Y / x):=(AC.get hF 2 Ab).resolve_left Ab;have p4:Md (x+Y / x) 2 (γ 4) w7:=(AC.get hF 4 Ab).resolve_left Ab;have p6:AO w7 (γ 6) ((x+Y / x) / 2):=(AC.get hF 6 Ab).resolve_left Ab;have p9:Bh w7 (γ 9) W6.heap.size #[.bool false,.slice none 0 0] 26:=(AC.get hF 9 Ab).resolve_left Ab;have p10:Bh w7 (γ 10) W6.heap.size #[.bool false,.slice none 0 0] 26:=(AC.get hF 10 Ab).resolve_left Ab
      clear hF;show AJ _ _ _ _ 5 [7,8] 11 _ _;simp only[Bw,Nat.reduceAdd,Cw,Xl];generalize γ 2=g2 at *;generalize γ 4=g4 at *;generalize γ 6=g6 at *;generalize γ 9=g9 at *;generalize γ 10=g10 at *;clear γ;obtain⟨q4,m4,rfl,ha4,hb4⟩:=p4;obtain⟨bm,Am,nm,cm,rfl⟩:=hb4.cells
      (try(obtain⟨_,_,h7⟩:=p7;cases h7))
      obtain⟨gc,rfl,hgc,ec⟩:=p9;obtain⟨gd,rfl,hgd,ed⟩:=p10;have hcd:gc≠gd:=fun e=>na9x10 (by rw[e]);clear na9x10;obtain⟨bq,Aq,nq,cq,rfl⟩:=p6.cells;clear cex0 cex1 ce8 cet p2 ha4 hb4;have cec:=ec.cells2;have fec:=ec.frozen;have ced:=ed.cells2;have fed:=ed.frozen
      repeat' first
       | (refine AJ.nil ?_;simp only[IG];go_wp2;done)
       | (refine AJ.nil ?_;(try simp only[IG]);go_wp2)
       | (refine AJ.mk _ ⟨?_,?_,trivial⟩ (fun h=>?_)<;>first | exact absurd h Ab | ((try clear h);simp only[Df,IG];go_wp2;first | show AJ _ _ _ _ _ [7] _ _ _ | show AJ _ _ _ _ _ [8] _ _ _ | show AJ _ _ _ _ _ [] _ _ _ | show AJ _ _ _ _ _ [7,8] _ _ _))
       | (refine AJ.mk _ ⟨?_,trivial⟩ (fun h=>?_)<;>first | exact absurd h Ab | ((try clear h);simp only[Df,IG];go_wp2;first | show AJ _ _ _ _ _ [7] _ _ _ | show AJ _ _ _ _ _ [8] _ _ _ | show AJ _ _ _ _ _ [] _ _ _ | show AJ _ _ _ _ _ [7,8] _ _ _))
      all_goals
       skip;obtain⟨W4,eW,ec',U⟩:=ec.put2 (.bool bq) (.slice Aq nq cq);rw[<-eW];clear eW ec;replace p6:=p6.kd U.kd;replace ed:=ed.upd U Ak;replace hx7:=U.from_ hx7 Ak;have ec:=ec';clear U ec';obtain⟨W8,eW,ed',U⟩:=ed.put2 (.bool bm) (.slice Am nm cm);rw[<-eW];clear eW ed;replace p6:=p6.kd U.kd;replace ec:=ec.upd U Ak;replace hx7:=U.from_ hx7 Ak;have ed:=ed';clear U ed'
       go_meet
       case rel=>exact⟨gc,rfl,Bp.mk ec p6,Aa,hx7⟩
    intro γ w7 hx7 hF hA;have na9x10:γ 9≠γ 10:=hA 9 10 Ab Ab Ab ⟨_,_,rfl,rfl⟩ ⟨_,_,rfl,rfl⟩;clear hA;have p2:AO w7 (γ 2) (x+Y / x):=AC.get hF 2 Ab;have p4:Md (x+Y / x) 2 (γ 4) w7:=AC.get hF 4 Ab;have p6:AO w7 (γ 6) ((x+Y / x) / 2):=AC.get hF 6 Ab;have p7:bW (γ 4) (γ 7):=AC.get hF 7 Ab;have p9:Bh w7 (γ 9) W6.heap.size #[.bool false,.slice none 0 0] 26:=AC.get hF 9 Ab;have p10:Bh w7 (γ 10) W6.heap.size #[.bool false,.slice none 0 0] 26:=AC.get hF 10 Ab
    clear hF;simp only[Bw,Nat.reduceAdd];generalize γ 2=g2 at *;generalize γ 4=g4 at *;generalize γ 6=g6 at *;generalize γ 7=g7 at *;generalize γ 9=g9 at *;generalize γ 10=g10 at *;clear γ;obtain⟨q4,m4,rfl,ha4,hb4⟩:=p4;obtain⟨bm,Am,nm,cm,rfl⟩:=hb4.cells
    (try(obtain⟨_,_,h7⟩:=p7;cases h7))
    obtain⟨gc,rfl,hgc,ec⟩:=p9;obtain⟨gd,rfl,hgd,ed⟩:=p10;have hcd:gc≠gd:=fun e=>na9x10 (by rw[e]);clear na9x10;obtain⟨bq,Aq,nq,cq,rfl⟩:=p6.cells;clear cex0 cex1 ce8 cet p2 ha4 hb4;have cec:=ec.cells2;have fec:=ec.frozen;have ced:=ed.cells2;have fed:=ed.frozen;go_wp2;skip;obtain⟨W4,eW,ec',U⟩:=ec.put2 (.bool bq) (.slice Aq nq cq);rw[<-eW];clear eW ec;replace p6:=p6.kd U.kd;replace ed:=ed.upd U Ak;replace hx7:=U.from_ hx7 Ak
    have ec:=ec';clear U ec';obtain⟨W8,eW,ed',U⟩:=ed.put2 (.bool bm) (.slice Am nm cm);rw[<-eW];clear eW ed;replace p6:=p6.kd U.kd;replace ec:=ec.upd U Ak;replace hx7:=U.from_ hx7 Ak;have ed:=ed';clear U ed'
    go_meet
    case rel=>exact⟨gc,rfl,Bp.mk ec p6,Aa,hx7⟩
   case rest =>
    clear cex0 cex1 fex ce8 fe8 cet fet hlt6;obtain⟨gc,rfl,⟨bq,Aq,nq,cq,ec,hy⟩,hgc,hx7⟩:=hcut;rename_i wy;have Hy:=Af (Au hy (Au (HQ6.out.2.ext hx7) (Sg HA.out.1 Hx.out.1)));have HT:=Af (Htz.out.ext hx7);clear hy HQ6 e8 Htz;replace ea:=ea.ext hx7;replace ez:=ez.ext hx7;replace ex:=ex.ext hx7;replace et:=et.ext hx7;replace hx:=hx.trans hx7;clear hx7;obtain⟨cex0,cex1⟩:=ex.cells2;have fex:=ex.frozen;have cec:=ec.cells2
    have fec:=ec.frozen
    go_wp2_with fail
    refine AQ (aC _ _ ((x+Y / x) / 2) x _ (Hy.out.1.has (by have h1:=Int.natAbs_ediv_le_natAbs (x+Y / x) 2;have h2:=Bq h1;have:=HS.out.1;omega)) (Hy.out.2.1.has (by have:=Hx.out.2;omega))) ?_;rintro r10 w10 rfl hx10;have Hy':=Af (Hy.out.1.ext_ hx10);have Hx':=Af (Hy.out.2.1.ext_ hx10);have HT':=Af (HT.out.ext_ hx10);clear cex0 cex1 fex cec fec HT;replace ea:=ea.ext hx10;replace ez:=ez.ext hx10;replace ex:=ex.ext hx10
    replace et:=et.ext hx10;replace ec:=ec.ext hx10;replace hx:=hx.trans hx10;clear hx10;by_cases hge:(x+Y / x) / 2 < x
    ·have hsg:((x+Y / x) / 2 - x).sign = -1:=Int.sign_eq_neg_one_of_neg Aa
     rw[hsg];obtain⟨cex0,cex1⟩:=ex.cells2;have fex:=ex.frozen;have cec:=ec.cells2;have fec:=ec.frozen
     go_upto_region 8 with(fail)
     have hy:=Hy'.out;have ht:=HT'.out;go_wp2;have hxg:=ex.lt;obtain⟨W11,eW,ex',U⟩:=ex.put2 (.bool bq) (.slice Aq nq cq);rw[<-eW];clear eW ex;replace hy:=hy.kd U.kd;replace ht:=ht.kd U.kd;replace ea:=ea.upd U Ak;replace ez:=ez.upd U Ak;replace et:=et.upd U Ak;replace hx:=U.from_ hx Ak;have ex:=ex';clear U ex';have hb1:=OG (Bp.mk ex hy);have hpos:=Hy.out.2.2;have hx0:=Hx.out.1;have hmul:((x+Y / x) / 2).natAbs < x.natAbs:=by omega
     go_roundw
     case rel=>exact⟨(x+Y / x) / 2,hpos,Nat.le_trans (Bq (Nat.le_of_lt hmul)) Hx.out.2,ea,ez,Bp.mk ex hy,Bp.mk et ht,hx⟩
     case measure=>rw[hb1,Hb2.out];exact hmul
    ·have hsg:0<=((x+Y / x) / 2 - x).sign:=by
      rcases Int.lt_or_eq_of_le (show 0<=(x+Y / x) / 2 - x by omega)with q | q
      ·rw[Int.sign_eq_one_of_pos q];decide
      ·rw[<-q];decide
     generalize ((x+Y / x) / 2 - x).sign=sg at *;have hmz:sz (x*x).natAbs<=1099511627776:=by
      rw[Int.natAbs_mul];have:=BV x.natAbs x.natAbs;have:=Hx.out.2;omega
     have HM:=Af hmz;clear hmz;obtain⟨cex0,cex1⟩:=ex.cells2;have fex:=ex.frozen;obtain⟨cea0,cea1⟩:=ea.cells2;have fea:=ea.frozen;have cez:=ez.cells2;have fez:=ez.frozen
     go_upto_region 9 with(fail)
     have hxz:=Hx'.out;clear ec hge hgc;refine BG 7 [6] (fun x=>8) [49,50,51,52,53,54,55] [[],[],[],[1,2],[],[1,2,3,4],[1,2,3,4,5],[0,1,2,3,4,5],[0,1,2,3,4,5,6,7],[0,1,2,3,4,5,6,7,8]] [5,1] [_,_] [(kv ?_),(kv ?_),(kv ?_),(fun γ=>γ 3),(kv ?_),(kv (.int .i64 (x*x - Y).sign)),(kv (.bool ((x*x - Y).sign==0)))] (fun γ w'=>[True,True,True,AO w' (γ 3) (x*x),True,True,True]) Np Cg Cg Cg Cg Cg P5 Cg Nj gU ?s3 ?_ ?l3
     case s3 =>
      iterate 7 refine⟨?_,?_⟩
      trivial
      iterate 3 focus
       refine Bi fun _ w' he R hR=>?_;have hc:=he.cells;have cq0:=he.cell cex0;have cq1:=he.cell cex1;have cq2:=he.cell cea0;have cq3:=he.cell cea1;go_simp;exact C8 hR
      ·refine Bi fun _ w' he R hR=>?_
       go_simp;exact BF (Dj _ _ x x w' ((Hx'.out.ext_ he).has (by have:=Hx.out.2;omega)) ((Hx'.out.ext_ he).has (by have:=Hx.out.2;omega))) hR
      iterate 1 focus
       refine Bi fun _ w' he R hR=>?_;have hc:=he.cells;have cq0:=he.cell cex0;have cq1:=he.cell cex1;have cq2:=he.cell cea0;have cq3:=he.cell cea1;go_simp;exact C8 hR
      ·refine Gj fun γ w' he hf R hR=>?_;have f3:AO w' (γ 3) (x*x):=hf 3 Ab;clear hf
       go_simp;exact OA (aC _ _ (x*x) Y w' (f3.has HM.out) (HV.out.ext (hx.trans he))) hR
      ·refine Bi fun _ w' he R hR=>?_
       have hc:=he.cells;go_simp
       (try go_ints);(try(rw[if_neg Aa]));(try(rw[if_pos Aa]));(try go_simp);(try go_ints)
       exact C8 hR
     case l3 =>
      intro Pn hPs hPn;obtain rfl:=Je hPs hPn;clear hPs hPn
      ·intro γ w11 hx11 hF hA
       clear hA;have p3:AO w11 (γ 3) (x*x):=(AC.get hF 3 Ab).resolve_left Ab;clear hF;show AJ _ _ _ _ 4 [6] 7 _ _;simp only[Bw,Nat.reduceAdd,Cw,Xl];generalize γ 3=g3 at *;clear γ;skip;clear cex0 cex1 fex cea0 cea1 fea cez fez p3;replace hxz:=hxz.ext_ hx11;replace ez:=ez.ext hx11;replace hx:=hx.trans hx11;clear hx11;have cez:=ez.cells2;have fez:=ez.frozen
       repeat' first
        | (refine AJ.nil ?_;simp only[IG];go_wp2;done)
        | (refine AJ.nil ?_;(try simp only[IG]);go_wp2)
        | (refine AJ.mk _ ⟨?_,trivial⟩ (fun h=>?_)<;>first | exact absurd h Ab | ((try clear h);simp only[Df,IG];go_wp2;first | show AJ _ _ _ _ _ [6] _ _ _ | show AJ _ _ _ _ _ [] _ _ _))
       all_goals
        skip;obtain⟨W12,eW,ez',U⟩:=ez.put2 (.bool b7) (.slice A7 n7 c7);rw[<-eW];clear eW ez;replace hxz:=hxz.kd U.kd;replace hx:=U.from_ hx Ak;have ez:=ez';clear U ez';clear cez fez;have cez:=ez.cells2;have fez:=ez.frozen;refine bodyPost_ret (v := .tuple #[.agg #[.bool b7,.slice A7 n7 c7],.bool ((x*x - Y).sign==0),.int .i64 0]) (by simp[results,Tryz.results175,go_sem,cez]) rfl ?_;exact Ai.mk ⟨_,x,_,rfl,hxz,Hx.out.1,Hx.out.2⟩ hx
     intro γ w11 hx11 hF hA;clear hA;have p3:AO w11 (γ 3) (x*x):=AC.get hF 3 Ab;clear hF;simp only[Bw,Nat.reduceAdd];generalize γ 3=g3 at *;clear γ;skip;clear cex0 cex1 fex cea0 cea1 fea cez fez p3;replace hxz:=hxz.ext_ hx11;replace ez:=ez.ext hx11;replace hx:=hx.trans hx11;clear hx11;have cez:=ez.cells2;have fez:=ez.frozen;go_wp2;skip;obtain⟨W12,eW,ez',U⟩:=ez.put2 (.bool b7) (.slice A7 n7 c7);rw[<-eW]
     clear eW ez;replace hxz:=hxz.kd U.kd;replace hx:=U.from_ hx Ak;have ez:=ez';clear U ez';clear cez fez;have cez:=ez.cells2;have fez:=ez.frozen;refine bodyPost_ret (v := .tuple #[.agg #[.bool b7,.slice A7 n7 c7],.bool ((x*x - Y).sign==0),.int .i64 0]) (by simp[results,Tryz.results175,go_sem,cez]) rfl ?_;exact Ai.mk ⟨_,x,_,rfl,hxz,Hx.out.1,Hx.out.2⟩ hx
theorem dK(v u:Value)(F G:Nat->Rat)(M:Nat)(w:World)(hv:AB 0 w v F)(hu:AB 0 w u G)(hs:∀ i,qsz (F i)<=M)(ht:∀ i,qsz (G i)<=M)(h0:G≠pz)(hn:pl F<=549755813888)(hm:pl G<=549755813888)(hst:M+(pl F+1)*(M+1)+M<=549755813888) :
  Bg 95 #[v,u] w ((ZX w.heap.size (Gc F G (pl F+1 - pl G)) (D7 F G (pl F+1 - pl G)))):=by
 obtain⟨l,h1,h2,-,rfl⟩:=hv.hz (fun i=>by have:=hs i;omega);obtain⟨m,k1,k2,-,rfl⟩:=hu.hz (fun i=>by have:=ht i;omega);exact gT v u l m M M w h1 k1 hs ht Aa Aa h0 (by rw[h2];omega)
theorem G5(v:Value)(F:Nat->Rat)(w:World)(hv:AB 0 w v F)(hs:∀ i,qsz (F i)<=1099511627776)(hn:pl F<=1099511627776) :
  Bg 85 #[v] w (fun r w'=>AB w.heap.size w' r (pp F)):=by
 obtain⟨l,h1,h2,-,rfl⟩:=hv.hz hs;exact Fe v l w h1 Aa
theorem V3(v u:Value)(F:Nat->Rat)(a:Int)(w:World)(hv:AB 0 w v F)(hs:∀ i,qsz (F i)<=1099511627776)(hu:Bj w u a)(hn:pl F<=1099511627776) :
  Bg 96 #[v,u] w (fun r w'=>AB 0 w' r (psc (a:Rat) F)):=by
 obtain⟨l,h1,h2,-,rfl⟩:=hv.hz hs;exact Ai.imp (QI v u l a w h1 hu Aa) fun _ _ h=>h.base_le (Nat.zero_le _)
open Go.Deep Go.ChangeShapes Go.ChangeAt
section
variable{H:Type}{enc:TypeId×Value->H}{w:World}{spare:Nat->Bool}{held:Bool}
theorem V4{fuel:Nat}{cs:List Value}{x:DataW H×List MemPlace}(h:DataW.trod enc Tryz.prog w 0 spare held fuel 24 cs=some x):∃ A n c ds,cs=[.slice A n c]/\BH w (.slice A n c) ds:=by
 rcases open_ints Tryz.underlying24 Tryz.underlying113 Fy h with⟨rfl,_⟩ | ⟨a,n,c,zs,rfl,_,hl,hm,hz,_,hcell,hwz⟩
 ·exact⟨none,0,0,[],rfl,none,0,rfl,Nat.le_refl _,Aa,fun d hd=>by simp at hd,fun h=>by simp at h⟩
 ·have hzl:n<=zs.length:=by rw[hz];split<;>omega
  have hw:∀ z∈zs,0<=z/\z < 4294967296:=fun z hz=>by
   have:=hwz z hz;simp[Lit.wf]at this;have e1:IntKind.u32.min=0:=rfl;have e2:IntKind.u32.max=4294967295:=rfl;omega
  have hlen:((zs.take n).map Int.toNat).length=n:=by simp;omega
  refine⟨some a,n,c,(zs.take n).map Int.toNat,rfl,some a,c,by rw[hlen],by rw[hlen];exact hl,J7 hm,?_,fun _=>⟨a,rfl,fun j hj=>?_⟩⟩
  ·intro d hd
   obtain⟨z,hz1,rfl⟩:=List.mem_map.1 hd;have:=hw z (List.mem_of_mem_take hz1);omega
  ·rw[hlen]at hj
   have hjz:j < zs.length:=by omega
   rw[hcell j hjz,List.getElem_map,List.getElem_take];have:=hw zs[j] (List.getElem_mem hjz);rw[show zs.getD j 0=zs[j]from by rw[List.getD_eq_getElem?_getD,List.getElem?_eq_getElem hjz];rfl];congr 2;omega
set_option maxRecDepth 100000 in
theorem UO{fuel:Nat}{cs:List Value}{x:DataW H×List MemPlace}(h:DataW.trod enc Tryz.prog w 0 spare held fuel 26 cs=some x):∃ b A n c ds,cs=[.bool b,.slice A n c]/\BH w (.slice A n c) ds:=by
 obtain⟨y0,y1,n,_,hl,h0,h1⟩:=trod_struct2 Tryz.underlying26 h;rw[show Tryz.prog.cellsOf 26=2 from by kernel_rfl]at hl
 match cs,hl with
 | [c0,c1],_ =>
  rw[show Tryz.prog.cellsOf 4=1 from by kernel_rfl]at h0;rw[show Tryz.prog.cellsOf 24=1 from by kernel_rfl]at h1;obtain⟨b,e0,_⟩:=DataW.trod_bool Tryz.underlying4 h0;obtain⟨A,m,c,ds,e1,hd⟩:=V4 h1;simp at e0 e1;subst e0 e1;exact⟨b,A,m,c,ds,rfl,hd⟩
end
section
variable{H:Type}{enc:TypeId×Value->H}{w:World}{spare:Nat->Bool}{held:Bool}
theorem UR{α:Type}{k E:Nat}(hk:0 < k){rd:World->Value->α->Prop}(hsz:Tryz.prog.cellsOf E=k)
  (hop:∀ {fuel:Nat} {cs:List Value} {x:DataW H×List MemPlace},DataW.trod enc Tryz.prog w 0 spare held fuel E cs=some x->∃ r:α,∃ cs':Array Value,cs=cs'.toList/\cs'.size=k/\rd w (.agg cs') r)
  {T fuel:Nat} {v:Value} {x:DataW H×List MemPlace} (hT:Tryz.prog.underlying T=some (.slice E)) (h:DataW.trod enc Tryz.prog w 0 spare held fuel T v.cells.toList=some x) (hv:∃ a n c,v = .slice a n c):∃ l:List α,CU k rd 0 w v l:=by
 obtain⟨a0,n0,c0,rfl⟩:=hv;rcases open_slice hT h with⟨hcs,_⟩ | ⟨a,n,c,m,k',D,Pl,hcs,_,hl,hm,hmm,_,hel⟩
 ·simp[Value.cells]at hcs
  obtain⟨rfl,rfl,rfl⟩:=hcs;exact⟨[],CU.nil k rd 0 w⟩
 ·simp[Value.cells]at hcs
  obtain⟨rfl,rfl,rfl⟩:=hcs;have hnm:n0<=m:=by rw[hmm];split<;>omega
  rw[hsz]at hel;have key:∀ i,i < n0->∃ r:α,∃ cs:Array Value,cs.size=k/\(∀ j,j < k->w.cell? ((a.add (i*k)).add j)=cs[j]?)/\rd w (.agg cs) r:=fun i hi=>by
   obtain⟨cs',h1,h2⟩:=hel i Aa;obtain⟨r,cs,rfl,h3,h4⟩:=hop h2;obtain⟨_,h5,h6⟩:=World.cells?_some h1;exact⟨r,cs,h3,fun j hj=>by rw[h6 j hj];simp,h4⟩
  have hc:∀ n',n'<=n0->∃ l:List α,l.length=n'/\∀ i (h:i < l.length),∃ cs:Array Value,cs.size=k/\(∀ j,j < k->w.cell? ((a.add (i*k)).add j)=cs[j]?)/\rd w (.agg cs) l[i]:=by
   intro n';induction n' with
   | zero=>intro _;exact⟨[],rfl,fun i h=>by simp at h⟩
   | succ n' ih =>
    intro hn;obtain⟨l,hl1,hl2⟩:=ih Aa;obtain⟨r,cs,k1,k2,k3⟩:=key n' Aa;refine⟨l ++ [r],by simp[hl1],fun i hi=>?_⟩;rcases Nat.lt_or_ge i l.length with h' | h'
    ·rw[List.getElem_append_left h'];exact hl2 i h'
    ·have e:i=n':=by simp at hi;omega
     subst e;refine⟨cs,k1,k2,?_⟩;rw[List.getElem_append_right h'];simpa[hl1] using k3
  obtain⟨l,hl1,hl2⟩:=hc n0 (Nat.le_refl _);refine⟨l,some a,c0,by rw[hl1],Aa,J7 hm,fun h0=>?_⟩;obtain⟨b,off,spot⟩:=a;obtain⟨cs,k1,k2,k3⟩:=hl2 0 h0;have hs:spot=none:=by
   have:=k2 0 hk;rw[Array.getElem?_eq_getElem Aa]at this;simpa[Addr.add] using World.cell?_spot this
  subst hs;refine⟨b,off,rfl,Nat.zero_le _,fun j hj=>?_⟩;obtain⟨cs,k1,k2,k3⟩:=hl2 j hj;refine⟨cs,k1,fun i hi=>?_,k3⟩;rw[<-k2 i hi,K4,K4]
set_option maxRecDepth 100000 in
theorem ZH{fuel:Nat}{cs:List Value}{x:DataW H×List MemPlace}(h:DataW.trod enc Tryz.prog w 0 spare held fuel 26 cs=some x):∃ r:Jy,∃ cs':Array Value,cs=cs'.toList/\cs'.size=2/\OX w (.agg cs') r:=by
 obtain⟨b,A,n,c,ds,rfl,hd⟩:=UO h;exact⟨(b,ds),#[.bool b,.slice A n c],rfl,rfl,_,rfl,hd⟩
theorem Sz{T fuel:Nat}{v:Value}{x:DataW H×List MemPlace}(hT:Tryz.prog.underlying T=some (.slice 26))(h:DataW.trod enc Tryz.prog w 0 spare held fuel T v.cells.toList=some x)(hv:∃ a n c,v = .slice a n c):∃ l:List Jy,DY w v l:=
 UR Ab Fy (fun h=>ZH h) hT h hv
end
theorem NM(W:World)(base ty g:Nat)(v:Value)(l:List Int)(q:Int){b:Bool}{A:Option Addr}{n c:Nat}(h:Ed base 26 W v l)(hq:AO W (.agg #[.bool b,.slice A n c]) q)(hn:l.length<=1099511627776)(hb:base<=W.heap.size)(hg:g=W.heap.size) :
  ∃ v' w',(Builtin.append_ #[22,22] ty #[v,.slice (some ⟨g,0,none⟩) 1 1]).run Tryz.prog (W.alloc (.cells #[.bool b,.slice A n c] 26)) = .ok v' w'/\(Ed base 26 w' v' (l ++ [q])/\Cc (blk v) (W.alloc (.cells #[.bool b,.slice A n c] 26)) w'):=by
 subst hg;obtain⟨g,cs,e1,h1,h2,h3,h4⟩:=KO.mk hq (base:=W.heap.size) (Nat.le_refl _) 26;cases e1;obtain⟨i0,hi,hz0,hz1,hz2⟩:=info_parts JO;have ho:=AO.one h4;have hx:=(Ext.refl W).alloc (.cells #[.bool b,.slice A n c] 26);obtain⟨v',w',a,b,c⟩:=BB.append (P:=Tryz.prog) (h.ext hx) 22 ty i0 _ 32 Tryz.underlying22 hi hz0 hz1 hz2 rfl (by simp[nodig,Ah,Value.cells]) Ab ⟨W.heap.size,0,none⟩ 1 cs h3 h4 h2.news ho.1 ho.2.1 (Jv hn) Aa (Nat.le_trans hb hx.size) (fun _ _ _ k hq=>AO.kd hq k)
 exact⟨v',w',a,b,c⟩
theorem UI(v:Value)(l:List Int)(w:World)(hv:Gd 0 w v l)(hn:l.length<=1099511627776):Bg 47 #[v] w (fun r w'=>AB w.heap.size w' r (cz l)):=by
 have hqs:=hv.sz;obtain⟨A,c,rfl,hl,hc,hA⟩:=hv;have HA:Hid (KL 0 w A l):=Af hA;clear hA;have HQ:=Af hqs;clear hqs
 go_enter Tryz.func47,Tryz.ntmps47
 go_wp2
 go_loopw [3,4] (fun ov iv wr=>∃ (k:Nat),k<=l.length/\iv = .int .i64 k/\Ed w.heap.size 26 wr ov (DL k (cz l))/\Ext w wr) (fun _ iv _=>l.length - (intOf iv).toNat)
 case atStart=>exact⟨0,Nat.zero_le _,rfl,BB.nil _ _ _ _ _,Ext.refl _⟩
 case round =>
  obtain⟨k,hk,rfl,hown,hx⟩:=hrel;by_cases hkl:k < l.length
  ·obtain⟨g,o,b,A1,n,c1,rfl,_,q0,q1,hq⟩:=HA.out.at_ (j:=k) hkl
   replace q0:=hx.cell q0;replace q1:=hx.cell q1;have Hq:=Af (hq.kd hx.kd);clear hq
   go_wp2_with fail
   refine AQ (P9 _ _ _ Hq.out) ?_;rintro r w2 hr hx2;obtain⟨b5,A5,n5,c5,rfl⟩:=hr.cells;have Hr:=Af hr;clear hr;replace hown:=hown.ext hx2;replace hx:=hx.trans hx2;have Hown:=Af hown;clear hown;have hsz:=hx.size;clear hx2 q0 q1 Hq
   go_wp2_with (at_builtin;refine Bu rfl _ _ 22 rfl u3 (.slice (some ⟨w2.heap.size,0,none⟩) 1 1) rfl rfl (NM w2 w.heap.size _ _ _ _ _ Hown.out Hr.out (by first | (rw[AR];omega) | omega) hsz rfl) ?_)
   first | intro v' w5 hown U | rintro v' w5 ⟨hown,U⟩
   replace hx:=(Hown.out.ext ((Ext.refl w2).alloc _)).from_ U (hx.alloc _) (Nat.le_refl _);have Hown':=Af hown;clear hown U;go_wp2
   go_roundw
   case rel=>exact⟨k+1,Aa,by go_num,by rw[MM,Cq hkl];exact Hown'.out,hx⟩
   case measure=>simp[intOf]<;>omega
  ·obtain rfl:k=l.length:=by omega
   rw[fI]at hown;obtain⟨A2,c2,rfl,h2,h3,h4⟩:=Ed.row hown;have Hrow:Hid (Li w.heap.size wr A2 l):=Af h4;clear h4 hown;have hx0:=hx;go_wp2;clear hx
   go_loopw [5] (fun nv wx=>∃ m:Nat,m<=l.length/\nv = .int .i64 m/\(∀ j,m<=j->(h:j < l.length)->l[j]=0)/\Ext wr wx) (fun nv _=>(intOf nv).toNat)
   case atStart=>exact⟨l.length,Nat.le_refl _,rfl,fun j h1 h2=>Aa,Ext.refl _⟩
   case round =>
    obtain⟨m,hm,rfl,hz,hx⟩:=hrel;have Hz:=Af hz;clear hz;by_cases h0:0 < m
    ·obtain⟨m,rfl⟩:∃ k,m=k+1:=⟨m - 1,Aa⟩
     have hml:m < l.length:=by omega
     have Hrow':Hid (Li w.heap.size _ A2 l):=Af Hrow.out;obtain⟨g,o,b,A1,n,c1,rfl,hb,q0,q1,hq⟩:=Hrow'.out.at_ (j:=m) hml;replace q0:=hx.cell q0;replace q1:=hx.cell q1;have Hq:=Af ((hq.has (HQ.out _ (List.getElem_mem hml))).kd hx.kd);clear hq
     go_wp2_with fail
     refine AQ (WE _ l[m] _ Hq.out) ?_;rintro r w2 rfl hx2;by_cases hd0:l[m]'(Aa)=0
     ·have hb:(l[m].sign==0)=true:=by rw[hd0];rfl
      have Hd:=Af hd0;clear hd0;go_wp2
      go_roundw
      case rel=>exact⟨m,Aa,by go_num,fun j h1 h2=>by
       rcases Nat.eq_or_lt_of_le h1 with e | e
       ·subst e;exact Hd.out
       ·exact Hz.out j Aa h2,hx.trans hx2⟩
      case measure=>simp[intOf]<;>omega
     ·have hb:(l[m].sign==0)=false:=by
       have:l[m].sign≠0:=fun e=>hd0 (Int.sign_eq_zero_iff_zero.1 e);simpa using this
      have Hd:=Af hd0;clear hd0;go_wp2
      go_ret
      have hlen:=GG hm Hz.out (fun h _=>by simpa using Hd.out);have hR:=(MX.trim (Hrow.out.ext (hx.trans hx2)) h2 h3)
      rw[hlen]at hR;exact Ai.mk (AB.of_trim hR rfl) ((hx0.trans hx).trans hx2)
    ·obtain rfl:m=0:=by omega
     have hlen:=GG hm Hz.out (fun h hh=>Aa);have hR:=(MX.trim (Hrow.out.ext hx) h2 h3)
     rw[hlen]at hR;have HR:=Af (Au hR hlen);clear hR hlen;go_wp2
     go_ret
     exact Ai.mk (AB.of_trim HR.out.1 rfl) (hx0.trans hx)
theorem NV(v:Value)(l:List Int)(w:World)(hv:Gd 0 w v l)(hn:l.length<=1099511627776):Bg 15 #[v] w (fun r _=>r = .int .i64 ((pl (cz l):Int) - 1)):=by
 have HV:=Af hv;obtain⟨A,c,rfl⟩:=hv.len;clear hv;have hpl:pl (cz l)<=l.length:=BD (Cx l)
 go_enter Tryz.func15,Tryz.ntmps15
 go_wp2_with fail
 refine AQ (UI _ l _ HV.out hn) ?_;rintro r w1 hr hx1;obtain⟨A2,c2,rfl,-⟩:=hr.shape;clear hr;go_wp2
 go_ret
 exact Ai.mk rfl hx1
theorem XH(W:World)(base ty g:Nat)(v:Value)(l:List Int)(q:Int){b:Bool}{A:Option Addr}{n c:Nat}(h:Ed base 26 W v l)(hq:AO W (.agg #[.bool b,.slice A n c]) q)(hn:l.length<=1099511627776)(hb:base<=W.heap.size)(hg:g=W.heap.size) :
  ∃ v' w',(Builtin.append_ #[23,23] ty #[v,.slice (some ⟨g,0,none⟩) 1 1]).run Tryz.prog (W.alloc (.cells #[.bool b,.slice A n c] 26)) = .ok v' w'/\(Ed base 26 w' v' (l ++ [q])/\Cc (blk v) (W.alloc (.cells #[.bool b,.slice A n c] 26)) w'):=by
 subst hg;obtain⟨g,cs,e1,h1,h2,h3,h4⟩:=KO.mk hq (base:=W.heap.size) (Nat.le_refl _) 26;cases e1;obtain⟨i0,hi,hz0,hz1,hz2⟩:=info_parts JO;have ho:=AO.one h4;have hx:=(Ext.refl W).alloc (.cells #[.bool b,.slice A n c] 26);obtain⟨v',w',a,b,c⟩:=BB.append (P:=Tryz.prog) (h.ext hx) 23 ty i0 _ 32 Tryz.underlying23 hi hz0 hz1 hz2 rfl (by simp[nodig,Ah,Value.cells]) Ab ⟨W.heap.size,0,none⟩ 1 cs h3 h4 h2.news ho.1 ho.2.1 (Jv hn) Aa (Nat.le_trans hb hx.size) (fun _ _ _ k hq=>AO.kd hq k)
 exact⟨v',w',a,b,c⟩
set_option maxRecDepth 20000 in
theorem RF(v:Value)(l:List Rat)(w:World)(hv:Qb 0 w v l)(hn:l.length<=1099511627776)(h0:co l=pz) :
  Bg 116 #[v] w (fun r w'=>Tz w.heap.size 0 pz r w'):=by
 have HV:=Af hv;obtain⟨A0,c0,rfl⟩:=hv.len;have H0:=Af h0;clear hv h0
 go_enter Tryz.func116,Tryz.ntmps116
 go_wp2_with fail
 refine AQ (K7 _ l _ (HV.out.ext ((Ext.refl w).alloc _)) hn) ?_;rintro r1 w1 hr1 hx1;rw[H0.out]at hr1;obtain⟨A1,c1,l1,rfl,k1,k2,-⟩:=hr1.form;rw[BR];clear hr1 HV k1
 go_wp2_with fail
 refine AQ (WJ 0 _ Aa Aa) ?_;rintro r2 w2 hr2 hx2;obtain⟨b5,A5,n5,c5,b6,A6,n6,c6,rfl⟩:=hr2.cells;have ea:=((Ba.new w 28 #[.bool false,.slice none 0 0,.bool false,.slice none 0 0] (by simp[Ah])).ext hx1).ext hx2;have hx:=hx1.a1.trans hx2;have cea:=ea.cells4;have fea:=ea.frozen;clear hx1 hx2;go_wp2;obtain⟨W3,eW,ea',U⟩:=ea.put4 (.bool b5) (.slice A5 n5 c5) (.bool b6) (.slice A6 n6 c6);rw[<-eW];clear eW ea
 replace hr2:=hr2.kd U.kd;replace hx:=U.from_ hx Ak;have ea:=ea';clear U ea';clear cea;have cea:=ea.cells4;have fea:=ea.frozen;refine bodyPost_ret (v := .tuple #[.slice none 0 0,.agg #[.bool b5,.slice A5 n5 c5,.bool b6,.slice A6 n6 c6]]) (by simp[results,Tryz.results116,go_sem,cea]) rfl ?_;exact Ai.mk ⟨_,_,rfl,by rw[RV,Iu];exact AB.nil _ _,by rw[Yl];exact hr2⟩ hx
set_option maxRecDepth 20000 in
theorem Zy(v:Value)(l:List Rat)(s:Nat)(w:World)(hv:Qb 0 w v l)(hn:l.length<=1000)(hs:∀ i,qsz (co l i)<=s)(hs0:s<=1000000)(h0:co l≠pz) :
  Bg 116 #[v] w (fun r w'=>Tz w.heap.size (pl (co l)) (co l) r w'):=by
 have HV:=Af hv;obtain⟨A0,c0,rfl⟩:=hv.len;have hfin:=Ae.co l;have hNorm:=fun w' (e:Ext w w')=>K7 _ l w' (hv.ext e) Aa;have hplen:=BD (KM l);obtain⟨F,hF⟩:∃ F,F=co l:=⟨_,rfl⟩
 rw[<-hF]at hfin h0 hs hplen hNorm;rw[<-hF];have hpos:=AL hfin h0;obtain⟨n,hn0⟩:∃ n,n=pl F:=⟨_,rfl⟩
 have hsup:Be n F:=by rw[hn0];exact AA hfin
 have hdl:∀ k,k<=n->sz (dl k F)<=1+1000*1000000:=fun k hk=>by
  have:=Yh hs k;have h2:k*s<=1000*1000000:=Nat.mul_le_mul Aa hs0;omega
 have hcq:∀ i,qsz (DD n F i)<=1+1000*1000000+1+1000000:=fun i=>by
  have:=OO (n:=n) hs i;have h2:n*s<=1000*1000000:=Nat.mul_le_mul Aa hs0;omega
 rw[<-hn0]at hpos ⊢;have hn3:n<=1000:=by omega
 have HX:=Af (Au hn0 (Au hfin (Au h0 (Au hs (Au hs0 (Au hsup (Au hdl hcq)))))));have HN:=Af hNorm;clear hn0 hfin h0 hs hs0 hsup hdl hcq hNorm hF hv HV hplen hn
 go_enter Tryz.func116,Tryz.ntmps116
 go_wp2_with fail
 refine AQ (HN.out _ ((Ext.refl w).alloc _)) ?_;rintro r1 w1 hr1 hx1;obtain⟨A1,c1,l1,rfl,k1,k2,hA,k3,-,k5⟩:=hr1.form;rw[<-HX.out.1]at k1 k3 ⊢;have HA:=Af (Au hA (Au k3 k5));clear hA k3 k5 hr1 HN;have ea:=(Ba.new w 28 #[.bool false,.slice none 0 0,.bool false,.slice none 0 0] (by simp[Ah])).ext hx1;have hx:=hx1.a1;have hs1:=hx1.size;rw[World.size_alloc]at hs1;clear hx1
 go_wp2_with fail
 refine AQ (Jb 1 _ Aa Aa) ?_;rintro r2 w2 hr2 hx2;obtain⟨b5,A5,n5,c5,rfl⟩:=hr2.cells;obtain⟨W0,eW,eb,x0⟩:=Ba.made w2 26 #[.bool b5,.slice A5 n5 c5] (by simp[Ah]);replace hr2:=hr2.kd x0.kd;have hs2:=hx2.size;have Hx1:=Af (hx2.trans x0);replace ea:=ea.ext (hx2.trans x0);have hgb:w.heap.size < w2.heap.size:=by omega
 clear hx2;go_wp2;rw[<-eW];clear eW x0;generalize w2.heap.size=gb at *
 go_loopw [28] (fun iv wr=>∃ k:Nat,k<=n/\iv = .int .i64 k/\Ba wr w.heap.size 28 #[.bool false,.slice none 0 0,.bool false,.slice none 0 0]/\Bp wr gb 26 (dl k F:Nat)/\Ext w1 wr) (fun iv _=>n - (intOf iv).toNat)
 case atStart=>exact⟨0,Nat.zero_le _,rfl,ea,Bp.mk eb hr2,Hx1.out⟩
 case round =>
  clear ea eb hr2 Hx1;obtain⟨k,hk,rfl,ea,⟨b,B,bn,bc,eb,hb⟩,hx2⟩:=hrel;have Hb:=Af hb;clear hb;by_cases hkn:k < n
  ·have hkl1:k < l1.length:=by have:=HA.out.2.1;omega
   obtain⟨g,o,b1,B1,n1,d1,b2,B2,n2,d2,rfl,_,q0,q1,q2,q3,hq⟩:=HA.out.1.at_ (j:=k) hkl1;rw[<-F6,HA.out.2.2]at hq;replace q0:=hx2.cell q0;replace q1:=hx2.cell q1;replace q2:=hx2.cell q2;replace q3:=hx2.cell q3;have hqs:=HX.out.2.2.2.1 k;have hqd:=(hq.ext hx2).dens (by have:=HX.out.2.2.2.2.1;omega);have hdk:=HX.out.2.2.2.2.2.2.1 k Aa;obtain⟨L,hL⟩:∃ L,L=dl k F:=⟨_,rfl⟩
   obtain⟨D,hD⟩:∃ D,D=(F k).den:=⟨_,rfl⟩
   have hDp:0 < D:=by rw[hD];exact(F k).den_pos
   have hLp:0 < L:=by rw[hL];exact MK F k
   have hG:Int.gcd (L:Int) (D:Int)=Nat.gcd L D:=Int.gcd_natCast_natCast L D;have hGp:0 < Nat.gcd L D:=Nat.gcd_pos_of_pos_left _ hLp;have hGd:((Nat.gcd L D:Nat):Int)∣(D:Int):=Int.natCast_dvd_natCast.2 (Nat.gcd_dvd_right L D);have hGn:((Nat.gcd L D:Nat):Int)≠0:=by omega
   have hGs:sz ((Nat.gcd L D:Nat):Int).natAbs<=1099511627776:=by
    rw[Int.natAbs_natCast];have:=Bq (Nat.le_of_dvd hLp (Nat.gcd_dvd_left L D));rw[<-hL]at hdk;omega
   have hstep:(L:Int)*((D:Int) / ((Nat.gcd L D:Nat):Int))=(dl (k+1) F:Nat):=by
    rw[<-Zm,hL,hD];norm_cast
   obtain⟨X,hX⟩:∃ X:Int,X=(D:Int) / ((Nat.gcd L D:Nat):Int):=⟨_,rfl⟩
   rw[<-hX]at hstep;have hXs:sz X.natAbs<=1099511627776:=by
    have h1:=Py hGd;rw[<-hX]at h1;have h2:=Ou (F k);rw[<-hD]at h2;have:=HX.out.2.2.2.2.1;omega
   have hLs:sz ((L:Nat):Int).natAbs<=1099511627776:=by rw[Int.natAbs_natCast,hL];omega
   rw[<-hL]at Hb;rw[<-hD]at hqd;have HG:=Af (Au hX (Au hG (Au hGd (Au hGn (Au hGs (Au hstep (Au hXs hLs)))))));have Hq:=Af hqd.1;clear hq hqs hqd hdk hG hGp hGd hGn hGs hstep hXs hX hL hD hDp hLp hLs;go_wp2;obtain⟨W9,eW9,e9,x9⟩:=Ba.made wr 28 #[.bool b1,.slice B1 n1 d1,.bool b2,.slice B2 n2 d2] (by simp[Ah]);rw[<-eW9];clear eW9 q0 q1 q2 q3;replace hx2:=hx2.trans x9;replace ea:=ea.ext x9;replace eb:=eb.ext x9
   have Hq':=Af (Hq.out.kd x9.kd);have Hb':=Af ((Hb.out.kd x9.kd).has HG.out.2.2.2.2.2.2.2);clear Hq Hb x9;generalize wr.heap.size=gp at e9 ⊢;have s0:=e9.cell (i:=0) rfl;have s1:=e9.cell (i:=1) rfl;have s2:=e9.cell (i:=2) rfl;have s3:=e9.cell (i:=3) rfl;clear e9;obtain⟨r0,r1⟩:=eb.cells2
   go_cut [7] (fun pv wy=>∃ gc,pv = .pointer (some ⟨gc,0,none⟩)/\Bp wy gc 26 X/\Ext W9 wy)
   case first =>
    refine BG 11 [9] (fun x=>12) [33,34,35,36,37,38,39,32,40,41,7] [[],[0],[],[],[3],[2,3,4],[0,1,2,3,4,5],[0,1,2,3,4,5,6],[0,1,2,3,4,5,6,7],[0,1,2,3,4,5,6,7],[],[0,1,2,3,4,5,6,7,8,10],[0,1,2,3,4,5,6,7,8,9,10,11]] [6,4] [_,_] [(kv ?_),(kv ?_),(kv ?_),(kv ?_),(kv ?_),(fun γ=>γ 5),(fun γ=>γ 6),(fun γ=>γ 6),(fun γ=>γ 8),(kv ?_),(fun γ=>γ 10)] (fun γ w'=>[True,True,True,True,True,AO w' (γ 5) (Nat.gcd L D:Nat),JF w' (γ 6) X,True,AO w' (γ 8) X,True,Bh w' (γ 10) W9.heap.size #[.bool false,.slice none 0 0] 26]) Np Cg Cg Cg Cg Cg P5 Cg Nj ?m1 ?s1 ?_ ?l1
    case s1 =>
     iterate 11 refine⟨?_,?_⟩
     trivial
     iterate 5 focus
      refine Bi fun _ w' he R hR=>?_;have hc:=he.cells;have cq0:=he.cell s0;have cq1:=he.cell s1;have cq2:=he.cell s2;have cq3:=he.cell s3;have cq4:=he.cell r0;have cq5:=he.cell r1;go_simp;exact C8 hR
     ·refine Bi fun _ w' he R hR=>?_
      go_simp;exact BF (HG.out.2.1▸Un _ _ (L:Int) (D:Int) w' (Hb'.out.kd he.kd) (Hq'.out.kd he.kd)) hR
     ·refine Gj fun γ w' he hf R hR=>?_;have f5:AO w' (γ 5) (Nat.gcd L D:Nat):=hf 5 Ab;clear hf
      go_simp;exact BF (HG.out.1▸GK _ _ (D:Int) (Nat.gcd L D:Nat) w' (Hq'.out.kd he.kd) (f5.has HG.out.2.2.2.2.1) HG.out.2.2.2.1 HG.out.2.2.1) hR
     ·refine Bi fun _ w' he R hR=>?_
      have hc:=he.cells;go_simp
      (try go_ints);(try(rw[if_neg Aa]));(try(rw[if_pos Aa]));(try go_simp);(try go_ints)
      exact C8 hR
     ·refine Gj fun γ w' he hf R hR=>?_;have f6:JF w' (γ 6) X:=hf 6 Ab;clear hf
      obtain⟨a,e,ha⟩:=f6;go_simp;exact hR _ _ (Ext.refl _) rfl ha
     ·refine Gj fun γ w' he hf R hR=>?_;have f6:JF w' (γ 6) X:=hf 6 Ab;clear hf
      obtain⟨a,e,ha⟩:=f6;have hc:=he.cells;go_simp
      (try go_ints);(try(rw[if_neg Aa]));(try(rw[if_pos Aa]));(try go_simp);(try go_ints)
      exact C8 hR
     ·refine Bi fun _ w' he R hR=>?_
      go_simp;exact hR _ _ ((Ext.refl _).alloc _) rfl (Bh.mk (Nat.le_trans Ac he.size) (by simp[Ah]))
    case m1 =>
     exact⟨⟨⟨⟨⟨⟨⟨⟨⟨⟨⟨trivial,(fun γ wA w' e h=>h)⟩,(fun γ wA w' e h=>h)⟩,(fun γ wA w' e h=>h)⟩,(fun γ wA w' e h=>h)⟩,(fun γ wA w' e h=>h)⟩,(fun γ wA w' e h=>(show AO wA (γ 5) (Nat.gcd L D:Nat)from h).ext e)⟩,(fun γ wA w' e h=>(show JF wA (γ 6) X from h).ext e)⟩,(fun γ wA w' e h=>h)⟩,(fun γ w w' e h=>AO.ext_ h e)⟩,(fun γ wA w' e h=>h)⟩,(fun γ wA w' e h=>(show Bh wA (γ 10) W9.heap.size #[.bool false,.slice none 0 0] 26 from h).ext e)⟩
    case l1 =>
     intro Pn hPs hPn;obtain rfl:=Je hPs hPn;clear hPs hPn
     ·intro γ w8 hx8 hF hA
      clear hA;have p5:AO w8 (γ 5) (Nat.gcd L D:Nat):=(AC.get hF 5 Ab).resolve_left Ab;have p6:JF w8 (γ 6) X:=(AC.get hF 6 Ab).resolve_left Ab;have p8:AO w8 (γ 8) X:=(AC.get hF 8 Ab).resolve_left Ab;have p10:Bh w8 (γ 10) W9.heap.size #[.bool false,.slice none 0 0] 26:=(AC.get hF 10 Ab).resolve_left Ab;clear hF;show AJ _ _ _ _ 3 [9] 11 _ _;simp only[Bw,Nat.reduceAdd,Cw,Xl];generalize γ 5=g5 at *;generalize γ 6=g6 at *
      generalize γ 8=g8 at *;generalize γ 10=g10 at *;clear γ;obtain⟨a6,rfl,-⟩:=p6;obtain⟨gc,rfl,hgc,ec⟩:=p10;obtain⟨b7,A7,n7,c7,rfl⟩:=p8.cells;clear s0 s1 s2 s3 r0 r1 p5;have cec:=ec.cells2;have fec:=ec.frozen
      repeat' first
       | (refine AJ.nil ?_;simp only[IG];go_wp2;done)
       | (refine AJ.nil ?_;(try simp only[IG]);go_wp2)
       | (refine AJ.mk _ ⟨?_,trivial⟩ (fun h=>?_)<;>first | exact absurd h Ab | ((try clear h);simp only[Df,IG];go_wp2;first | show AJ _ _ _ _ _ [9] _ _ _ | show AJ _ _ _ _ _ [] _ _ _))
      all_goals
       skip;obtain⟨W4,eW,ec',U⟩:=ec.put2 (.bool b7) (.slice A7 n7 c7);rw[<-eW];clear eW ec;replace p8:=p8.kd U.kd;replace hx8:=U.from_ hx8 Ak;have ec:=ec';clear U ec'
       go_meet
       case rel=>exact⟨gc,rfl,Bp.mk ec p8,hx8⟩
    intro γ w8 hx8 hF hA;clear hA;have p5:AO w8 (γ 5) (Nat.gcd L D:Nat):=AC.get hF 5 Ab;have p6:JF w8 (γ 6) X:=AC.get hF 6 Ab;have p8:AO w8 (γ 8) X:=AC.get hF 8 Ab;have p10:Bh w8 (γ 10) W9.heap.size #[.bool false,.slice none 0 0] 26:=AC.get hF 10 Ab;clear hF;simp only[Bw,Nat.reduceAdd];generalize γ 5=g5 at *;generalize γ 6=g6 at *;generalize γ 8=g8 at *;generalize γ 10=g10 at *;clear γ;obtain⟨a6,rfl,-⟩:=p6
    obtain⟨gc,rfl,hgc,ec⟩:=p10;obtain⟨b7,A7,n7,c7,rfl⟩:=p8.cells;clear s0 s1 s2 s3 r0 r1 p5;have cec:=ec.cells2;have fec:=ec.frozen;go_wp2;skip;obtain⟨W4,eW,ec',U⟩:=ec.put2 (.bool b7) (.slice A7 n7 c7);rw[<-eW];clear eW ec;replace p8:=p8.kd U.kd;replace hx8:=U.from_ hx8 Ak;have ec:=ec';clear U ec'
    go_meet
    case rel=>exact⟨gc,rfl,Bp.mk ec p8,hx8⟩
   case rest =>
    clear s0 s1 s2 s3 r0 r1;obtain⟨gc,rfl,⟨b7,A7,n7,c7,ec,hc⟩,hx3⟩:=hcut;have Hc:=Af (hc.has HG.out.2.2.2.2.2.2.1);clear hc;replace ea:=ea.ext hx3;replace eb:=eb.ext hx3;replace hx2:=hx2.trans hx3;have cec:=ec.cells2;have fec:=ec.frozen;have ceb:=eb.cells2;have feb:=eb.frozen
    go_wp2_with fail
    refine AQ (Dj _ _ (L:Int) X _ (Hb'.out.kd hx3.kd) Hc.out) ?_;rintro r4 w4 hr4 hx4;rw[HG.out.2.2.2.2.2.1]at hr4;obtain⟨b8,A8,n8,c8,rfl⟩:=hr4.cells;replace ea:=ea.ext hx4;replace eb:=eb.ext hx4;replace hx2:=hx2.trans hx4;clear ceb feb cec fec ec hx3 hx4 Hc Hb' Hq';have ceb:=eb.cells2;have feb:=eb.frozen;go_wp2;obtain⟨W5,eW,eb',U⟩:=eb.put2 (.bool b8) (.slice A8 n8 c8);rw[<-eW];clear eW eb;replace hr4:=hr4.kd U.kd
    replace ea:=ea.upd U Ak;replace hx2:=U.from_ hx2 Ak;have eb:=eb';clear U eb'
    go_roundw
    case rel=>exact⟨k+1,Aa,by go_num,ea,Bp.mk eb hr4,hx2⟩
    case measure=>simp[intOf]<;>omega
  ·obtain rfl:n=k:=by omega
   have hgbl:=eb.lt;have hb0:=Hb.out;go_wp2
   go_loopw [9,48] (fun zv iv wr=>∃ k:Nat,k<=n/\iv = .int .i64 k/\Ed (gb+1) 26 wr zv (DL k (DD n F))/\Ba wr w.heap.size 28 #[.bool false,.slice none 0 0,.bool false,.slice none 0 0]/\Ba wr gb 26 #[.bool b,.slice B bn bc]/\AO wr (.agg #[.bool b,.slice B bn bc]) (dl n F:Nat)/\Ext w1 wr) (fun _ iv _=>n - (intOf iv).toNat)
   case atStart=>exact⟨0,Nat.zero_le _,rfl,BB.nil _ _ _ _ _,ea,eb,hb0,hx2⟩
   case round =>
    clear ea eb hx2 hgbl hb0 Hb;obtain⟨k,hk,rfl,hown,ea,eb,hb,hx2⟩:=hrel;have Hb:=Af hb;clear hb;have hgbl:=eb.lt;by_cases hkn:k < n
    ·have hkl1:k < l1.length:=by have:=HA.out.2.1;omega
     obtain⟨g,o,b1,B1,n1,d1,b2,B2,n2,d2,rfl,_,q0,q1,q2,q3,hq⟩:=HA.out.1.at_ (j:=k) hkl1;rw[<-F6,HA.out.2.2]at hq;replace q0:=hx2.cell q0;replace q1:=hx2.cell q1;replace q2:=hx2.cell q2;replace q3:=hx2.cell q3;have hqs:=HX.out.2.2.2.1 k;have hqd:=(hq.ext hx2).dens (by have:=HX.out.2.2.2.2.1;omega);have hdk:=HX.out.2.2.2.2.2.2.1 n (Nat.le_refl _);obtain⟨L,hL⟩:∃ L,L=dl n F:=⟨_,rfl⟩
     obtain⟨D,hD⟩:∃ D,D=(F k).den:=⟨_,rfl⟩
     have hDn:(D:Int)≠0:=by have:=(F k).den_pos;omega
     have hDd:(D:Int)∣(L:Int):=by rw[hD,hL];exact Int.natCast_dvd_natCast.2 (RA F n k hkn)
     have hval:(F k).num*((L:Int) / (D:Int))=(DD n F k).num:=by rw[YS HX.out.2.2.2.2.2.1,hL,hD]
     obtain⟨X,hX⟩:∃ X:Int,X=(L:Int) / (D:Int):=⟨_,rfl⟩
     rw[<-hX]at hval;have hLs:sz ((L:Nat):Int).natAbs<=1099511627776:=by rw[Int.natAbs_natCast,hL];omega
     have hXs:sz X.natAbs<=1099511627776:=by
      have h1:=Py hDd;rw[<-hX]at h1;omega
     rw[<-hL]at Hb;rw[<-hD]at hqd;have HG:=Af (Au hX (Au hDn (Au hDd (Au hval (Au hLs (Au hXs hL))))));have Hq:=Af hqd;have Hown:=Af hown;clear hq hqs hqd hdk hDn hDd hval hX hL hD hLs hXs hown;have hB9:=Ba.made wr 28 #[.bool b1,.slice B1 n1 d1,.bool b2,.slice B2 n2 d2] (by simp[Ah]);obtain⟨W9,eW9,e9,x9⟩:=hB9
     go_upto_region 15 with(fail)
     rw[<-eW9];clear eW9 q0 q1 q2 q3;replace hx2:=hx2.trans x9;replace ea:=ea.ext x9;replace eb:=eb.ext x9;have Hq':=Af (Au (Hq.out.1.kd x9.kd) (Hq.out.2.kd x9.kd));have Hb':=Af (Hb.out.kd x9.kd);have Hown':=Af (Hown.out.ext x9);have hgb9:=eb.lt;clear Hq Hb Hown x9;generalize wr.heap.size=gp at e9 ⊢;have s0:=e9.cell (i:=0) rfl;have s1:=e9.cell (i:=1) rfl;have s2:=e9.cell (i:=2) rfl;have s3:=e9.cell (i:=3) rfl
     clear e9;obtain⟨r0,r1⟩:=eb.cells2
     go_wp2_with fail
     refine AQ (GK _ _ (L:Int) (D:Int) _ (Hb'.out.has HG.out.2.2.2.2.1) Hq'.out.1 HG.out.2.1 HG.out.2.2.1) ?_;rintro r3 w3 ⟨a3,rfl,hr3⟩ hx3;rw[<-HG.out.1]at hr3;obtain⟨b7,A7,n7,c7,rfl⟩:=hr3.cells;have hBa:=Ba.made w3 26 #[.bool b7,.slice A7 n7 c7] (by simp[Ah]);obtain⟨Wa,eWa,e5,xa⟩:=hBa;clear r0 r1
     go_upto_region 16 with(fail)
     rw[<-eWa];replace hx3:=hx3.trans xa;have Hr3:=Af ((hr3.kd xa.kd).has HG.out.2.2.2.2.2.1);clear eWa xa hr3;generalize w3.heap.size=gq at e5 ⊢;obtain⟨ce50,ce51⟩:=e5.cells2;have fe5:=e5.frozen;replace s0:=hx3.cell s0;replace s1:=hx3.cell s1;replace s2:=hx3.cell s2;replace s3:=hx3.cell s3;replace ea:=ea.ext hx3;replace eb:=eb.ext hx3;replace hx2:=hx2.trans hx3;have Hb:=Af (Hb'.out.kd hx3.kd);have Hown:=Af (Hown'.out.ext hx3)
     go_wp2_with fail
     refine AQ (Dj _ _ (F k).num X _ (Hq'.out.2.kd hx3.kd) Hr3.out) ?_;rintro r4 w4 hr4 hx4;rw[HG.out.2.2.2.1]at hr4;obtain⟨b8,A8,n8,c8,rfl⟩:=hr4.cells;have Hr:=Af hr4;clear hr4;replace ea:=ea.ext hx4;replace eb:=eb.ext hx4;replace hx2:=hx2.trans hx4;have Hb':=Af (Hb.out.kd hx4.kd);have Hown':=Af (Hown.out.ext hx4);have hsz:=eb.lt;clear s0 s1 s2 s3 hx3 hx4 e5 ce50 ce51 fe5 Hr3 Hq' Hb Hown
     go_wp2_with (at_builtin;refine Bu rfl _ _ 23 rfl u9 (.slice (some ⟨w4.heap.size,0,none⟩) 1 1) rfl rfl (XH w4 (gb+1) _ _ _ _ _ Hown'.out Hr.out (by rw[AR];omega) Aa rfl) ?_)
     first | intro v' w5 hown U | rintro v' w5 ⟨hown,U⟩
     have hb2:=BB.blk_ge (Hown'.out.ext ((Ext.refl w4).alloc (.cells #[.bool b8,.slice A8 n8 c8] 26)));have hx5:=(Ext.refl w4).alloc (.cells #[.bool b8,.slice A8 n8 c8] 26);replace ea:=(ea.ext hx5).upd U (fun hm=>by have:=(hb2 _ hm).1;omega);replace eb:=(eb.ext hx5).upd U (fun hm=>by have:=(hb2 _ hm).1;omega);have Hb:=Af ((Hb'.out.kd hx5.kd).kd U.kd);replace hx2:=U.from_ (hx2.trans hx5) (fun g hg=>by have:=(hb2 _ hg).1;omega)
     have Hown:=Af hown;clear hown U hb2 hx5 Hb' Hown';go_wp2
     go_roundw
     case rel=>exact⟨k+1,Aa,by go_num,by rw[MM];exact Hown.out,ea,eb,by rw[<-HG.out.2.2.2.2.2.2];exact Hb.out,hx2⟩
     case measure=>simp[intOf]<;>omega
    ·obtain rfl:n=k:=by omega
     obtain⟨A2,c2,hv2⟩:=(Ed.row hown).len;rw[AR]at hv2;have hz2:=eG hown (fun i=>by have:=HX.out.2.2.2.2.2.2.2 i;omega);have hzs:=Ed.row hown;rw[hv2]at hz2 hzs;have hczl:=Il (FI HX.out.2.2.2.2.2.1) (show Be n (DD n F)from(HX.out.2.2.2.2.2.1).psc _);have Hz:=Af (Au hz2 (Au hzs hczl));clear hz2 hzs hczl hown;subst hv2
     go_wp2_with fail
     refine AQ (Fe _ _ _ Hz.out.1 (by rw[AR];omega)) ?_;rintro r2 w2 hr2 hx3;rw[Hz.out.2.2]at hr2;replace ea:=ea.ext hx3;replace eb:=eb.ext hx3;replace hx2:=hx2.trans hx3;have Hb':=Af (Hb.out.kd hx3.kd);have hzz:=Hz.out.2.1.ext hx3;obtain⟨A3,c3,l3,rfl,k3,k4,hA3,k5,-,k6⟩:=hr2.form;have hppl:pl (pp (DD n F))=n:=by
      rw[DI (FI HX.out.2.2.2.2.2.1) (EF HX.out.2.1),M5 HX.out.2.1,<-HX.out.1]
     rw[hppl]at k3 k5 hr2 ⊢;have hlast:n - 1 < (DL n (DD n F)).length:=by rw[AR];omega
     obtain⟨gz,oz,y1,Y1,yn1,yc1,rfl,_,q0,q1,hqz⟩:=hzz.at_ (j:=n - 1) hlast;obtain⟨gg,og,z1,Z1,zn1,zc1,rfl,_,p0,p1,hqg⟩:=hA3.at_ (j:=n - 1) Aa;rw[Ca]at hqz;have hg3:l3[n - 1]'(by omega)=(pp (DD n F) (n - 1)).num:=by
      have:=Cq (l:=l3) (i:=n - 1) Aa;rw[k6]at this;rw[this];rfl
     rw[hg3]at hqg;have hzn:=FI HX.out.2.2.2.2.2.1;have hfn:=EF (n:=n) HX.out.2.1;have hne:=Px (n:=n) HX.out.2.1 HX.out.2.2.1;have hpn:=Dl hzn hfn hne;have hpd:=IV hfn (n - 1);have hpa:(pp (DD n F) (n - 1)).num=(DD n F (n - 1)).num / pcn (DD n F):=by rw[Mk hzn hfn hne];rfl
     have htop:(DD n F (n - 1)).num≠0:=by
      have h1:=EA hfn (by rw[M5 HX.out.2.1,<-HX.out.1];exact hpos);rw[M5 HX.out.2.1,<-HX.out.1]at h1;intro e;exact h1 (by rw[hzn.num,e];rfl)
     obtain⟨u,hu⟩:=hpd;have hpu:(pp (DD n F) (n - 1)).num=u:=by rw[hpa,hu,Int.mul_ediv_cancel_left _ hpn]
     have hun:u≠0:=fun e=>htop (by rw[hu,e,Int.mul_zero]);rw[hpu]at hqg;have hquo:(DD n F (n - 1)).num / u=pcn (DD n F):=by rw[hu,Int.mul_ediv_cancel _ hun]
     have hdv:u∣(DD n F (n - 1)).num:=⟨pcn (DD n F),by rw[hu,Int.mul_comm]⟩
     have hcs:=HX.out.2.2.2.2.2.2.2 (n - 1);have hzs1:sz (DD n F (n - 1)).num.natAbs<=1099511627776:=by unfold qsz at hcs;omega
     have hus:sz u.natAbs<=1099511627776:=by
      have h1:=Ga hzn hfn HX.out.2.2.2.2.2.2.2 (n - 1);unfold qsz at h1;rw[hpu]at h1;omega
     have hpcs:sz (pcn (DD n F)).natAbs<=1099511627776:=by
      rw[F8];have:=Jg HX.out.2.2.2.2.2.2.2 (pl (DD n F));show sz (ct _ _)<=_;omega
     have hdl:=HX.out.2.2.2.2.2.2.1 n (Nat.le_refl _);have hdl2:sz (((dl n F:Nat):Int)).natAbs<=1099511627776:=by rw[Int.natAbs_natCast];omega
     have hdln:((dl n F:Nat):Int)≠0:=by have:=MK F n;omega
     have hcf:=(Rx HX.out.2.2.2.2.2.1 HX.out.2.2.1).1;have hcf2:Rat.divInt (pcn (DD n F)) ((dl n F:Nat):Int)=Lh n F:=by rw[hcf];exact(II _ _).symm
     have HQ:=Af (Au (hqz.has hzs1) (Au (hqg.has hus) (Au hun (Au hdv (Au hquo (Au hpcs (Au hdl2 (Au hdln hcf2))))))));have HP:=Af hr2;clear hqz hqg hg3 hzn hfn hne hpn hpa htop hu hpu hun hquo hdv hcs hzs1 hus hpcs hdl hdl2 hdln hcf hcf2 hr2 hA3 k5 k6 hppl hzz hlast hx3
     go_upto_region 19 with(fail)
     obtain⟨wt,hwt⟩:∃ wt:World,wt=w2:=⟨_,rfl⟩
     subst hwt
     go_cut [15] (fun pv wy=>∃ gc,pv = .pointer (some ⟨gc,0,none⟩)/\Bp wy gc 26 (pcn (DD n F))/\Ext wt wy)
     case first =>
      refine BG 17 [15] (fun x=>18) [70,71,72,73,74,75,76,77,78,79,80,81,82,69,83,84,15] [[],[],[1],[1,2],[0,1,2,3],[0,1,2,3,4],[],[],[7],[7,8],[6,7,8,9],[6,7,8,9,10],[0,1,2,3,4,5,6,7,8,9,10,11],[0,1,2,3,4,5,6,7,8,9,10,11,12],[0,1,2,3,4,5,6,7,8,9,10,11,12,13],[0,1,2,3,4,5,6,7,8,9,10,11,12,13],[],[0,1,2,3,4,5,6,7,8,9,10,11,12,13,14,16],[0,1,2,3,4,5,6,7,8,9,10,11,12,13,14,15,16,17]] [9,14] [_,_] [(kv ?_),(kv ?_),(kv ?_),(kv ?_),(kv ?_),(kv ?_),(kv ?_),(kv ?_),(kv ?_),(kv ?_),(kv ?_),(kv ?_),(fun γ=>γ 12),(fun γ=>γ 12),(fun γ=>γ 14),(kv ?_),(fun γ=>γ 16)] (fun γ w'=>[True,True,True,True,True,True,True,True,True,True,True,True,JF w' (γ 12) (pcn (DD n F)),True,AO w' (γ 14) (pcn (DD n F)),True,Bh w' (γ 16) wt.heap.size #[.bool false,.slice none 0 0] 26]) Np Cg Cg Cg Cg Cg P5 Cg Nj ?m2 ?s2 ?_ ?l2
      case s2 =>
       iterate 17 refine⟨?_,?_⟩
       trivial
       iterate 12 focus
        refine Bi fun _ w' he R hR=>?_;have hc:=he.cells;have cq0:=he.cell q0;have cq1:=he.cell q1;have cq2:=he.cell p0;have cq3:=he.cell p1;go_simp;(try go_ints);(try(rw[if_neg Aa]));(try(rw[if_pos Aa]));(try go_simp);(try go_ints)
        exact C8 hR
       ·refine Bi fun _ w' he R hR=>?_
        go_simp;exact BF (HQ.out.2.2.2.2.1▸GK _ _ _ _ w' (HQ.out.1.kd he.kd) (HQ.out.2.1.kd he.kd) HQ.out.2.2.1 HQ.out.2.2.2.1) hR
       ·refine Bi fun _ w' he R hR=>?_
        have hc:=he.cells;go_simp
        (try go_ints);(try(rw[if_neg Aa]));(try(rw[if_pos Aa]));(try go_simp);(try go_ints)
        exact C8 hR
       ·refine Gj fun γ w' he hf R hR=>?_;have f12:JF w' (γ 12) (pcn (DD n F)):=hf 12 Ab;clear hf
        obtain⟨a,e,ha⟩:=f12;go_simp;exact hR _ _ (Ext.refl _) rfl ha
       ·refine Gj fun γ w' he hf R hR=>?_;have f12:JF w' (γ 12) (pcn (DD n F)):=hf 12 Ab;clear hf
        obtain⟨a,e,ha⟩:=f12;have hc:=he.cells;go_simp
        (try go_ints);(try(rw[if_neg Aa]));(try(rw[if_pos Aa]));(try go_simp);(try go_ints)
        exact C8 hR
       ·refine Bi fun _ w' he R hR=>?_
        go_simp;exact hR _ _ ((Ext.refl _).alloc _) rfl (Bh.mk (Nat.le_trans Ac he.size) (by simp[Ah]))
      case m2 =>
       exact⟨⟨⟨⟨⟨⟨⟨⟨⟨⟨⟨⟨⟨⟨⟨⟨⟨trivial,(fun γ wA w' e h=>h)⟩,(fun γ wA w' e h=>h)⟩,(fun γ wA w' e h=>h)⟩,(fun γ wA w' e h=>h)⟩,(fun γ wA w' e h=>h)⟩,(fun γ wA w' e h=>h)⟩,(fun γ wA w' e h=>h)⟩,(fun γ wA w' e h=>h)⟩,(fun γ wA w' e h=>h)⟩,(fun γ wA w' e h=>h)⟩,(fun γ wA w' e h=>h)⟩,(fun γ wA w' e h=>h)⟩,(fun γ wA w' e h=>(show JF wA (γ 12) (pcn (DD n F))from h).ext e)⟩,(fun γ wA w' e h=>h)⟩,(fun γ w w' e h=>AO.ext_ h e)⟩,(fun γ wA w' e h=>h)⟩,(fun γ wA w' e h=>(show Bh wA (γ 16) wt.heap.size #[.bool false,.slice none 0 0] 26 from h).ext e)⟩
      case l2 =>
       intro Pn hPs hPn;obtain rfl:=Je hPs hPn;clear hPs hPn
       ·intro γ w8 hx8 hF hA
        clear hA;have pf12:JF w8 (γ 12) (pcn (DD n F)):=(AC.get hF 12 Ab).resolve_left Ab;have pf14:AO w8 (γ 14) (pcn (DD n F)):=(AC.get hF 14 Ab).resolve_left Ab;have pf16:Bh w8 (γ 16) wt.heap.size #[.bool false,.slice none 0 0] 26:=(AC.get hF 16 Ab).resolve_left Ab;clear hF;show AJ _ _ _ _ 3 [15] 17 _ _;simp only[Bw,Nat.reduceAdd,Cw,Xl];generalize γ 12=g12 at *;generalize γ 14=g14 at *;generalize γ 16=g16 at *
        clear γ;obtain⟨a6,rfl,-⟩:=pf12;obtain⟨gc,rfl,hgc,ec⟩:=pf16;obtain⟨b7,A7,n7,c7,rfl⟩:=pf14.cells;clear q0 q1 p0 p1;have cec:=ec.cells2;have fec:=ec.frozen
        repeat' first
         | (refine AJ.nil ?_;simp only[IG];go_wp2;done)
         | (refine AJ.nil ?_;(try simp only[IG]);go_wp2)
         | (refine AJ.mk _ ⟨?_,trivial⟩ (fun h=>?_)<;>first | exact absurd h Ab | ((try clear h);simp only[Df,IG];go_wp2;first | show AJ _ _ _ _ _ [15] _ _ _ | show AJ _ _ _ _ _ [] _ _ _))
        all_goals
         skip;obtain⟨W4,eW,ec',U⟩:=ec.put2 (.bool b7) (.slice A7 n7 c7);rw[<-eW];clear eW ec;replace pf14:=pf14.kd U.kd;replace hx8:=U.from_ hx8 Ak;have ec:=ec';clear U ec'
         go_meet
         case rel=>exact⟨gc,rfl,Bp.mk ec pf14,hx8⟩
      intro γ w8 hx8 hF hA;clear hA;have pf12:JF w8 (γ 12) (pcn (DD n F)):=AC.get hF 12 Ab;have pf14:AO w8 (γ 14) (pcn (DD n F)):=AC.get hF 14 Ab;have pf16:Bh w8 (γ 16) wt.heap.size #[.bool false,.slice none 0 0] 26:=AC.get hF 16 Ab;clear hF;simp only[Bw,Nat.reduceAdd];generalize γ 12=g12 at *;generalize γ 14=g14 at *;generalize γ 16=g16 at *;clear γ;obtain⟨a6,rfl,-⟩:=pf12;obtain⟨gc,rfl,hgc,ec⟩:=pf16
      obtain⟨b7,A7,n7,c7,rfl⟩:=pf14.cells;clear q0 q1 p0 p1;have cec:=ec.cells2;have fec:=ec.frozen;go_wp2;skip;obtain⟨W4,eW,ec',U⟩:=ec.put2 (.bool b7) (.slice A7 n7 c7);rw[<-eW];clear eW ec;replace pf14:=pf14.kd U.kd;replace hx8:=U.from_ hx8 Ak;have ec:=ec';clear U ec'
      go_meet
      case rel=>exact⟨gc,rfl,Bp.mk ec pf14,hx8⟩
     case rest =>
      clear q0 q1 p0 p1;obtain⟨gc,rfl,⟨b7,A7,n7,c7,ec,hc⟩,hx3⟩:=hcut;have Hc:=Af (hc.has HQ.out.2.2.2.2.2.1);clear hc;have HbL:=Af ((Hb'.out.kd hx3.kd).has HQ.out.2.2.2.2.2.2.1);replace ea:=ea.ext hx3;replace eb:=eb.ext hx3;have cec:=ec.cells2;have fec:=ec.frozen;have ceb:=eb.cells2;have feb:=eb.frozen
      go_wp2_with fail
      refine AQ (bT _ _ (pcn (DD n F)) ((dl n F:Nat):Int) _ Hc.out HbL.out HQ.out.2.2.2.2.2.2.2.1) ?_;rintro r4 w4 ⟨a4,rfl,hr4⟩ hx4;rw[HQ.out.2.2.2.2.2.2.2.2]at hr4;obtain⟨b8,A8,n8,c8,b9,A9,n9,c9,rfl⟩:=hr4.cells;replace ea:=ea.ext hx4;replace hx3:=hx3.trans hx4;clear ceb feb cec fec ec eb Hc HbL hx4;have hBa:=Ba.made w4 28 #[.bool b8,.slice A8 n8 c8,.bool b9,.slice A9 n9 c9] (by simp[Ah]);obtain⟨Wa,eWa,e5,xa⟩:=hBa
      go_upto_region 21 with(fail)
      rw[<-eWa];replace hr4:=hr4.ext xa;replace ea:=ea.ext xa;replace hx3:=hx3.trans xa;clear eWa xa;generalize w4.heap.size=gr at e5 ⊢;have HP':=Af (HP.out.ext hx3);have hxx:=hx.trans (hx2.trans hx3);clear HP hx3 hx2;obtain⟨ce50,ce51,ce52,ce53⟩:=e5.cells4;have fe5:=e5.frozen;refine EE 3 [91,92,2] [14,17] [_,_] [(kv ?_),(kv ?_),(kv ?_)] (fun γ w'=>[True,True,True]) ?s3 ?_
      case s3 =>
       iterate 3 refine⟨?_,?_⟩
       trivial
       iterate 3 focus
        refine Bi fun _ w' he R hR=>?_;have hc:=he.cells;have cq0:=he.cell ce50;have cq1:=he.cell ce51;have cq2:=he.cell ce52;have cq3:=he.cell ce53;go_simp;(try go_ints);(try(rw[if_neg Aa]));(try(rw[if_pos Aa]));(try go_simp);(try go_ints)
        exact C8 hR
      intro γ w9 hx9 hF;clear hF;simp only[Bw,Nat.reduceAdd];clear γ;replace ea:=ea.ext hx9;replace hr4:=hr4.ext hx9;replace hxx:=hxx.trans hx9;have hp:=HP'.out.ext hx9;clear hx9 ce50 ce51 ce52 ce53 fe5 e5 HP';have cea:=ea.cells4;have fea:=ea.frozen;go_wp2;obtain⟨W3,eW,ea',U⟩:=ea.put4 (.bool b8) (.slice A8 n8 c8) (.bool b9) (.slice A9 n9 c9);rw[<-eW];clear eW ea;replace hr4:=hr4.kd U.kd;replace hp:=hp.upd U Ak
      replace hxx:=U.from_ hxx Ak;have ea:=ea';clear U ea';have HP:=Af (hp.base_le (show w.heap.size<=_ by omega));clear hp;clear cea;have cea:=ea.cells4;have fea:=ea.frozen;refine bodyPost_ret (v := .tuple #[_,.agg #[.bool b8,.slice A8 n8 c8,.bool b9,.slice A9 n9 c9]]) (by simp[results,Tryz.results116,go_sem,cea];rfl) rfl ?_;exact Ai.mk ⟨_,_,rfl,HP.out,hr4⟩ hxx
theorem AO.cast{w:World}{v:Value}{x y:Int}(h:AO w v x)(e:x=y):AO w v y:=e▸h
theorem iG(v:Value)(l:List Int)(w:World)(hv:Gd 0 w v l)(hn:l.length<=1099511627776):Bg 115 #[v] w (fun r w'=>FN w.heap.size w' r (cz l)):=by
 obtain⟨A,c,rfl,hl,hc,hA⟩:=hv;obtain⟨W0,hmk,ea,hx⟩:=KF l.length (l.length:Int) rfl hn w;have HA:Hid (KL 0 w A l):=Af hA;clear hA;have hzl:=DZ l;have Hzl:=Af hzl;clear hzl
 go_enter Tryz.func115,Tryz.ntmps115
 go_wp2
 go_loopw [11] (fun iv wr=>∃ (k:Nat) (la:List (Option Rat)),k<=l.length/\iv = .int .i64 k/\CS wr w.heap.size 28 la/\la.length=l.length/\la=((zq l).take k).map some ++ List.replicate (l.length - k) none/\Ext w wr) (fun iv _=>l.length - (intOf iv).toNat)
 case atStart=>exact⟨0,_,Nat.zero_le _,rfl,ea,Ac,Ac,hx⟩
 case round =>
  obtain⟨k,la,hk,rfl,ea,hlen,hla,hx⟩:=hrel;have Hla:=Af hla;clear hla;have Hlen:=Af hlen;clear hlen;by_cases hkl:k < l.length
  ·obtain⟨g,o,b,A1,n,c1,rfl,_,q0,q1,hq⟩:=HA.out.at_ (j:=k) hkl
   replace q0:=hx.cell q0;replace q1:=hx.cell q1;have Hq:=Af hq;clear hq
   go_wp2_with fail
   refine AQ (GL _ _ _ (Hq.out.kd (hx.alloc _).kd)) ?_;rintro r w2 hr hx2;replace ea:=ea.ext hx2.a1;replace hx:=hx.trans hx2.a1;clear hx2 q0 q1;obtain⟨b5,A5,n5,c5,b6,A6,n6,c6,rfl⟩:=hr.cells;have hkla:k < la.length:=by have:=Hlen.out;omega
   obtain⟨_,_,_,_,_,_,_,_,ca0,ca1,ca2,ca3,-⟩:=ea.at_ (j:=k) (by first | omega | (simp;omega));have fa0:=ea.frozen (k*4);have fa1:=ea.frozen (k*4+1);have fa2:=ea.frozen (k*4+2);have fa3:=ea.frozen (k*4+3);go_wp2;obtain⟨W3,eW,ea',U⟩:=ea.put (k:=k) (by first | omega | (simp;omega)) hr;rw[<-eW];clear eW ea;replace hx:=U.from_ hx Ak;have ea:=ea';clear U ea'
   go_roundw
   case rel=>exact⟨k+1,_,Aa,by go_num,ea,by simpa using Hlen.out,QR Hla.out hkl Hzl.out (LZ hkl),hx⟩
   case measure=>simp[intOf];omega
  ·obtain rfl:k=l.length:=by omega
   replace ea:CS wr w.heap.size 28 ((zq l).map some):=by
    have:=Hla.out;rw[Nat.sub_self,List.replicate_zero,List.append_nil,List.take_of_length_le (by rw[Hzl.out];exact Nat.le_refl _)]at this;rw[<-this];exact ea
   have hrow:=ea.row (m:=zq l) rfl (Nat.le_refl _);have hT:=GV w.heap.size (some ⟨w.heap.size,0,none⟩) l.length (zq l) wr (by rw[Hzl.out];exact Nat.le_refl _) Aa hrow;rw[Hzl.out]at hT;have Hrow:=Af hrow;clear hrow
   go_wp2_with fail
   refine Calls.mono hT ?_;rintro e w2 ⟨rfl,rfl⟩;go_wp2
   go_ret
   exact Ai.mk (FN.of_trim (PW.trim Hrow.out (by rw[Hzl.out];exact Nat.le_refl _)) rfl) hx
end Go.Proofs.YtmhgnigpmompmaaGreat
namespace Go.Hp
theorem AB.cast{b:Nat}{w:World}{v:Value}{F G:Nat->Rat}(h:AB b w v F)(e:F=G):AB b w v G:=e▸h
theorem FN.cast{b:Nat}{w:World}{v:Value}{F G:Nat->Rat}(h:FN b w v F)(e:F=G):FN b w v G:=e▸h
theorem ZE{n:Nat}{F:Nat->Rat}{s:Nat}(hs:Be n F)(hq:∀ i,qsz (F i)<=s):qsz (Lh n F)<=s+(1+n*s+1+s):=by
 unfold Lh;have h1:=J5 (ld F) (ld (pp (DD n F)));have h2:=hq (pl F - 1);have h3:=Ga (FI hs) (EF (n:=n) ⟨n,hs⟩) (fun i=>OO (n:=n) hq i) (pl (pp (DD n F)) - 1);have e1:ld F=F (pl F - 1):=rfl;have e2:ld (pp (DD n F))=pp (DD n F) (pl (pp (DD n F)) - 1):=rfl;rw[e1,e2]at h1;show qsz (F (pl F - 1) / pp (DD n F) (pl (pp (DD n F)) - 1))<=_;omega
end Go.Hp
namespace Go.Proofs.YtmhgnigpmompmaaGreat
open Go.RowKit Go.Hp
theorem VG(v:Value)(l:List Rat)(s:Nat)(w:World)(hv:Qb 0 w v l)(hn:l.length<=1000)(hs:∀ i,qsz (co l i)<=s)(hs0:s<=1000000) :
  Bg 116 #[v] w (fun r w'=>Tz w.heap.size (pl (co l)) (co l) r w'):=by
 by_cases h0:co l=pz
 ·have:=RF v l w hv Aa h0
  rw[h0,BR];exact this
 ·exact Zy v l s w hv hn hs hs0 h0
theorem WL(v:Value)(F:Nat->Rat)(w:World)(hv:AB 0 w v F)(hs:∀ i,qsz (F i)<=1099511627776)(hn:pl F<=1099511627776):Bg 115 #[v] w (fun r w'=>FN 0 w' r F):=by
 obtain⟨l,h1,h2,-,rfl⟩:=hv.hz hs;exact Ai.imp (iG v l w h1 Aa) fun _ _ h=>h.base_le (Nat.zero_le _)
theorem VF(v u:Value)(F G:Nat->Rat)(s:Nat)(w:World)(hv:FN 0 w v F)(hu:FN 0 w u G)(h0:G≠pz)(hF:CD s F)(hG:CD s G)(hs:s<=1000000)(hn:pl F<=1000)(hm:pl G<=1000) :
  Bg 114 #[v,u] w (fun r w'=>∃ a b,r = .tuple #[a,b,.int .i64 0]/\FN 0 w' a (pq F G)/\FN 0 w' b (pr F G)):=by
 obtain⟨l,h1,h2,-,rfl⟩:=hv.hs fun i=>by have:=hF.elem i;omega
 obtain⟨m,k1,k2,-,rfl⟩:=hu.hs fun i=>by have:=hG.elem i;omega
 have:(pl (co l)+2)*(s+1)<=1002*1000001:=Nat.mul_le_mul Aa Aa;exact Ai.imp (XU v u l m s s w h1 k1 h0 hF hG Aa Aa Aa) fun r w' ⟨a,b,e,h,k⟩=>⟨a,b,e,h.base_le (Nat.zero_le _),k.base_le (Nat.zero_le _)⟩
theorem VR(v:Value)(F:Nat->Rat)(s:Nat)(w:World)(hv:FN 0 w v F)(hF:CD s F)(hs:s<=1000000)(hn:pl F<=1000) :
  Bg 116 #[v] w (fun r w'=>Tz w.heap.size (pl F) F r w'):=by
 obtain⟨l,h1,h2,-,rfl⟩:=hv.hs fun i=>by have:=hF.elem i;omega
 exact VG v l s w h1 Aa hF.elem hs
theorem MJ(v u:Value)(F:Nat->Rat)(a:Int)(w:World)(hv:AB 0 w v F)(hs:∀ i,qsz (F i)<=1099511627776)(hu:Bj w u a)(hn:pl F<=1099511627776) :
  Bg 96 #[v,u] w (fun r w'=>AB w.heap.size w' r (psc (a:Rat) F)):=by
 obtain⟨l,h1,h2,-,rfl⟩:=hv.hz hs;exact QI v u l a w h1 hu Aa
theorem NZ(v:Value)(F:Nat->Rat)(w:World)(hv:AB 0 w v F)(hs:∀ i,qsz (F i)<=274877906944)(hn:pl F<=274877906944)(zF:ZI F)(fF:Ae F) :
  Bg 113 #[v] w (fun r w'=>AB w.heap.size w' r (rd F)):=by
 have HP:=Af (G5 v F w hv (fun i=>by have:=hs i;omega) Aa);have HS:=Af (Au (fun W u (hu:AB 0 W u (pp F)) z (hz:Bj W z (-1))=>MJ u z (pp F) (-1) W hu (fun i=>by have:=Ga zF fF hs i;omega) hz (by rw[DI zF fF];omega)) (U5 F));have HZ:=Af (show pl F=0->¬ ld F < 0 from fun h=>by rw[(BI fF).1 h];show ¬ (0:Rat) < 0;decide);obtain⟨A,c,l,rfl,k1,k2,hA,k3,k4,k5⟩:=hv.form;have HA:=Af (Au hA (Au k3 k5));clear hv hA k3 k4 k5 hs zF fF
 go_enter Tryz.func113,Tryz.ntmps113
 go_wp2_with fail
 refine AQ HP.out ?_;rintro r1 w1 hr1 hx1;obtain⟨A1,c1,rfl,-⟩:=hr1.shape;have hr:=hr1;clear hr1;by_cases hp:0 < pl F
 ·obtain⟨g,o,b,A2,n,c2,rfl,_,q0,q1,hq⟩:=HA.out.1.at_ (j:=pl F - 1) (by have:=HA.out.2.1;omega)
  have hbb:=hq.two.2;have hld:ld F=(l[pl F - 1]'(by have:=HA.out.2.1;omega):Rat):=by rw[<-Cq,HA.out.2.2];rfl
  have hrd:rd F=psc (if b=true then -1 else 1) (pp F):=by
   rw[HS.out.2,hld,hbb];by_cases hneg:l[pl F - 1]'(by have:=HA.out.2.1;omega) < 0
   ·rw[if_pos (by exact_mod_cast hneg),if_pos (by simpa using hneg)]
   ·rw[if_neg (fun h=>hneg (by exact_mod_cast h)),if_neg (by simpa using hneg)]
  replace q0:=hx1.cell q0;have Hrd:=Af hrd;have Hr:=Af hr;clear hrd hld hbb hq q1 hr;cases b with
  | true =>
   go_wp2_with fail
   refine AQ (Jb (-1) _ Aa Aa) ?_;rintro r2 w2 hr2 hx2
   go_wp2_with fail
   refine AQ (HS.out.1 _ _ ((Hr.out.ext hx2).base_le (Nat.zero_le _)) _ (hr2.has Ab)) ?_;rintro r3 w3 hr3 hx3;go_wp2
   go_ret
   exact Ai.mk ((hr3.base_le (hx1.trans hx2).size).cast (by rw[Hrd.out];simp)) ((hx1.trans hx2).trans hx3)
  | false =>
   go_wp2
   go_ret
   exact Ai.mk (Hr.out.cast (by rw[Hrd.out];simp[Ct])) hx1
 ·have h0:pl F=0:=by omega
  have e:rd F=pp F:=by
   rw[HS.out.2,if_neg (HZ.out h0),Ct]
  have Hr:=Af (hr.cast e.symm);clear hr e;rw[h0];clear h0 hp;go_wp2
  go_ret
  exact Ai.mk Hr.out hx1
theorem gL:(Tryz.prog.info? 23).map (fun i=>(i.zero,i.size,i.bytes))=some (some (.slice none 0 0),1,24):=by kernel_rfl
theorem UZ(W:World)(v:Value)(base eb ty n c g:Nat)(A:Option Addr)(us:List Value)(l:List (Nat->Rat))(F:Nat->Rat)(h:Jh base eb 23 W v us l)(hu:AB eb W (.slice A n c) F)(hg:g=W.heap.size)(hn:l.length<=1000000)(hb:base<=W.heap.size) :
  ∃ v' w',(Builtin.append_ #[55,55] ty #[v,.slice (some ⟨g,0,none⟩) 1 1]).run Tryz.prog (W.alloc (.cells #[.slice A n c] 23)) = .ok v' w' /\
   (Jh base eb 23 w' v' (us ++ [.slice A n c]) (l ++ [F])/\Cc (blk v) (W.alloc (.cells #[.slice A n c] 23)) w'/\Nk (W.alloc (.cells #[.slice A n c] 23)) v):=by
 subst hg;obtain⟨i0,hi,hz0,hz1,hz2⟩:=info_parts gL;obtain⟨v',w',a,b,U,N⟩:=Jh.append (P:=Tryz.prog) h hu 55 ty i0 _ 24 Tryz.underlying55 hi hz0 hz1 hz2 rfl (by simp[nodig,Ah,Value.cells]) (by simp[Ro,Value.cells]) (by simp only[maxLen];omega) Aa hb;exact⟨v',w',a,b,U,N⟩
set_option maxRecDepth 20000 in
theorem YW(v u:Value)(F G:Nat->Rat)(S D M:Nat)(w:World)(hv:AB 0 w v F)(hu:AB 0 w u G)(zF:ZI F)(zG:ZI G)(fF:Ae F)(fG:Ae G)(hs:∀ i,qsz (F i)<=S)(ht:∀ i,qsz (G i)<=S)
  (hD:pl F+pl G=D) (hM:jQ F G S M) (hB:M+(D+1)*(M+1)<=1000000) (hD9:D<=900) :
  Bg 65 #[v,u] w (fun r w'=>∃ us K,Ow F G K/\K<=pl G+1/\Jh w.heap.size w.heap.size 23 w' r us (Gp F G K)):=by
 have hSM:=hM.1;have hDM:(D+1)*1<=(D+1)*(M+1):=Nat.mul_le_mul_left _ Aa;obtain⟨K0,hK0,hK1⟩:=Gl fF fG zF zG hs ht;have hR1:=fun W (x:Ext w W)=>NZ v F W (hv.ext x) (fun i=>by have:=hs i;omega) Aa zF fF;have hR2:=fun W (x:Ext w W)=>NZ u G W (hu.ext x) (fun i=>by have:=ht i;omega) Aa zG fG;have hst:∀ k,(∀ j,1<=j->j<=k->Cf F G j≠pz)->FD F G D S (Cf F G k) (Cf F G (k+1)):=fun k h=>by rw[<-hD];exact Jw fF fG zF zG hs ht k h
 have hlow:=fun k h=>O8 fF fG zF zG hs ht k h;obtain⟨A0,c0,rfl,-⟩:=hv.shape;obtain⟨A1,c1,rfl,-⟩:=hu.shape;have HX:=Af (Au hst (Au hlow (Au hM (Au hB (Au hD9 (Au hD hK1))))));have HR:=Af (Au hR1 hR2);clear hv hu zF zG fF fG hs ht hD hM hSM hDM hR1 hR2 hst hlow hK0 hK1 hB hD9
 go_enter Tryz.func65,Tryz.ntmps65
 go_wp2_with fail
 refine AQ (HR.out.1 _ (Ext.refl w)) ?_;rintro r1 w1 hr1 hx1;obtain⟨A2,c2,rfl,-⟩:=hr1.shape;have hP1:=Jh.one (t:=23) (base:=w.heap.size) (hr1.base_le (b:=w.heap.size) (Nat.le_refl _)) hx1.size;have hx:=hx1.alloc (.cells #[.slice A2 (pl (rd F)) c2] 23);have H1:=Af hP1;clear hP1 hr1 hx1
 go_wp2_with fail
 refine AQ (HR.out.2 _ hx) ?_;rintro r2 w2 hr2 hx2;have hP2:=H1.out.ext hx2;replace hr2:=hr2.base_le (b:=w.heap.size) hx.size;replace hx:=hx.trans hx2;clear H1 hx2;go_wp2
 go_loopw [5,6] (fun ov nv wr=>∃ k us,Jh w.heap.size w.heap.size 23 wr ov us (Gp F G (k+1))/\AB w.heap.size wr nv (Cf F G (k+1))/\(∀ j,1<=j->j<=k->Cf F G j≠pz)/\Ext w wr) (fun _ nv _=>QV nv)
 case atStart=>exact⟨0,_,hP2,hr2,fun j a b=>Aa,hx⟩
 case round =>
  clear hP2 hr2 hx;obtain⟨k,us,hP,hn,hk,hx⟩:=hrel;obtain⟨L,d,rfl⟩:=hP.shape;obtain⟨A3,c3,rfl,-⟩:=hn.shape;have HK:=Af hk;clear hk;have hf:=(HX.out.1 k HK.out).facts;have hkl:=HX.out.2.1 k HK.out;have hkk:k<=900:=by have:=HX.out;omega
  by_cases h0:0 < pl (Cf F G (k+1))
  ·have hbn:Cf F G (k+1)≠pz:=fun e=>by rw[e,BR]at h0;omega
   obtain⟨fA,fB,zA,zB,hdd,qA,qB⟩:=hf;have hcl:=(HX.out.1 k HK.out).clear hbn (HX.out.2.2.1.2 k HK.out).1 (HX.out.2.2.1.2 k HK.out).2;have hall:=Kz fA fB hbn;have hcx:=iI fA fB hbn;have hpr:=Et fA fB hbn;rw[<-MN]at hall hcx;obtain⟨X,hXe⟩:∃ X,X=Cf F G k:=⟨_,rfl⟩
   obtain⟨Y,hYe⟩:∃ Y,Y=Cf F G (k+1):=⟨_,rfl⟩
   obtain⟨Z,hZe⟩:∃ Z,Z=Cf F G (k+2):=⟨_,rfl⟩
   obtain⟨R,hRe⟩:∃ R,R=pr X Y:=⟨_,rfl⟩
   simp only[<-hXe,<-hYe,<-hZe]at hcl hall hcx hpr hkl hbn h0 fB zB qB fA zA qA hdd;simp only[<-hRe]at hcl hall hcx hpr;have hM9:M<=1000000:=by have:=HX.out.2.2.2.1;have:0<=(D+1)*(M+1):=Nat.zero_le _;omega
   have hplR:pl R<=1000:=by have:=BD hpr;have:=HX.out.2.2.2.2.1;omega
   have hplXY:pl X<=1000/\pl Y<=1000:=by have:=HX.out.2.2.2.2.1;omega
   have hcR:Lh (pl R) R=Lh (pl R) R:=rfl;have hpR:∀ i,qsz (pp (DD (pl R) R) i)<=1099511627776:=fun i=>by
    have fR:Ae R:=⟨_,hpr⟩
    have h1:=Ga (FI (AA fR)) (EF (n:=pl R) fR) (fun j=>OO (n:=pl R) hcl.2.2.elem j) i;have h2:pl R*(M+(D+1)*(M+1))<=1000*1000000:=Nat.mul_le_mul hplR HX.out.2.2.2.1;have:=HX.out.2.2.2.1;omega
   have hplc:pl (pp (DD (pl R) R))<=1000:=by
    have fR:Ae R:=⟨_,hpr⟩
    rw[DI (FI (AA fR)) (EF (n:=pl R) fR)];exact Nat.le_trans (BD (show Be (pl R) (DD (pl R) R)from(AA fR).psc _)) hplR
   have HC:=Af (Au hcl (Au hall (Au hcx (Au hM9 (Au hplR (Au hplXY (Au hbn (Au hpR hplc))))))));have HE:=Af (Au hXe (Au hYe (Au hZe hRe)));have hlt:(Gp F G (k+1)).length=k+1:=Er _ _ _;have HN:=Af (hYe▸hn);rw[<-hYe];rw[hlt]at hP ⊢;have HP:=Af hP;have hbl:=Af hP.out.blk_ge;clear hcl hall hcx hM9 hplR hplXY hcR hpR hplc hpr fA fB zA zB hdd qA qB hbn hXe hYe hZe hRe hn hP hlt
   go_wp2_with (at_builtin;refine Bu rfl _ _ 55 rfl (.slice L (k+1) d) (.slice (some ⟨wr.heap.size,0,none⟩) 1 1) rfl rfl (UZ wr _ w.heap.size w.heap.size _ _ _ _ _ us _ _ HP.out HN.out rfl (by rw[Er];omega) hx.size) ?_)
   intro v' w6 hP6 U hNB;have xa:=(Ext.refl wr).alloc (.cells #[.slice A3 (pl Y) c3] 23);have hP7:=hP6;rw[show Gp F G (k+1) ++ [Y]=Gp F G (k+1+1)from by rw[HE.out.2.1,<-Yy]]at hP7;obtain⟨L2,d2,rfl⟩:=hP7.shape;have hn7:=(HN.out.ext xa).updB U hNB;have hx7:=U.from_ (hx.trans xa) (fun g' hg=>(hbl.out _ hg).1);have hlt:(Gp F G (k+1+1)).length=k+2:=Er _ _ _;have hat:=hP7.at_ (i:=k) (by rw[hlt];omega);rw[YD]at hat
   obtain⟨g5,o5,E5,d5,rfl,hc5,h5⟩:=hat;rw[<-HE.out.1]at hc5 h5;have H7:=Af (Au hP7 (Au hn7 h5));rw[hlt];clear hP6 hP7 hn7 h5 U hNB xa hx HP HN hbl hlt
   go_wp2_with fail
   refine AQ (WL _ _ _ H7.out.2.2 (fun i=>by have:=HC.out.1.1.elem i;have:=HC.out.2.2.2.1;omega) (by have:=HC.out.2.2.2.2.2.1;omega)) ?_;rintro r8 w8 hr8 hx8;have H8:=Af (Au (H7.out.1.ext hx8) (Au (H7.out.2.1.ext hx8) hr8));replace hx7:=hx7.trans hx8;clear hx8 hr8 H7 hc5
   go_wp2_with fail
   refine AQ (WL _ _ _ (H8.out.2.1.base_le (Nat.zero_le _)) (fun i=>by have:=HC.out.1.2.1.elem i;have:=HC.out.2.2.2.1;omega) (by have:=HC.out.2.2.2.2.2.1;omega)) ?_;rintro r9 w9 hr9 hx9;have H9:=Af (Au (H8.out.1.ext hx9) (Au (H8.out.2.2.ext hx9) hr9));replace hx7:=hx7.trans hx9;clear hx9 hr9 H8
   go_wp2_with fail
   refine AQ (VF _ _ X Y M _ H9.out.2.1 H9.out.2.2 HC.out.2.2.2.2.2.2.1 HC.out.1.1 HC.out.1.2.1 HC.out.2.2.2.1 HC.out.2.2.2.2.2.1.1 HC.out.2.2.2.2.2.1.2) ?_;rintro r10 w10 ⟨qv,rv,rfl,hq10,hr10⟩ hx10;obtain⟨Aq,cq,_,rfl,-⟩:=hq10.form;obtain⟨Ar,cr,_,rfl,-⟩:=hr10.form;rw[<-HE.out.2.2.2]at hr10 ⊢;have H10:=Af (Au (H9.out.1.ext hx10) hr10);replace hx7:=hx7.trans hx10;clear hx10 hr10 hq10 H9
   go_wp2_with fail
   refine AQ (VR _ R (M+(D+1)*(M+1)) _ H10.out.2 HC.out.1.2.2 HX.out.2.2.2.1 HC.out.2.2.2.2.1) ?_;rintro r11 w11 ⟨pv,cv,rfl,hp11,hc11⟩ hx11;replace hp11:=hp11.base_le (b:=w.heap.size) hx7.size;obtain⟨Ap,cp,rfl,-⟩:=hp11.shape;obtain⟨b5,B5,n5,e5,b6,B6,n6,e6,rfl⟩:=hc11.cells;obtain⟨W12,eW,ec,x12⟩:=Ba.made w11 28 #[.bool b5,.slice B5 n5 e5,.bool b6,.slice B6 n6 e6] (by simp[Ah]);have H12:=Af (Au ((H10.out.1.ext hx11).ext x12) (Au (hp11.ext x12) (hc11.ext x12)))
   replace hx7:=(hx7.trans hx11).trans x12;clear hx11 hp11 hc11 x12 H10
   go_upto_region 7 with(fail)
   rw[<-eW];clear eW;generalize w11.heap.size=gc at *;have cec:=ec.cells4;have fec:=ec.frozen;have hqc:qsz (Lh (pl R) R)<=274877906944:=by
    have h1:=ZE (AA ⟨_,(show Be (pl R) R from by
     have:=HC.out.2.1;exact AA (by rw[HE.out.2.2.2];exact EX (HX.out.1 k HK.out |>.facts |> fun f=>by rw[HE.out.1];exact f.1) (HX.out.1 k HK.out |>.facts |> fun f=>by rw[HE.out.2.1];exact f.2.1)))⟩) HC.out.1.2.2.elem
    have h2:pl R*(M+(D+1)*(M+1))<=1000*1000000:=Nat.mul_le_mul HC.out.2.2.2.2.1 HX.out.2.2.2.1;have:=HX.out.2.2.2.1;omega
   have hcx:=HC.out.2.2.1;have hpx:=HC.out.2.2.2.2.2.2.2
   go_wp2_with fail
   refine AQ (LQ _ (Lh (pl R) R) _ (H12.out.2.2.has hqc)) ?_;rintro r13 w13 rfl hx13;replace hx7:=hx7.trans hx13;have H13a:=Af (Au (H12.out.1.ext hx13) (H12.out.2.1.ext hx13));have hZe:Cf F G (k+1+1)=Z:=HE.out.2.2.1.symm;clear hx13 H12 cec fec ec hqc;by_cases hc:0 < Lh (pl R) R
   ·rw[Uk hc]
    rw[if_pos hc]at hcx;have HCX:=Af (Au hcx (Au hpx hZe));clear hcx hpx hc hZe
    go_wp2_with fail
    refine AQ (Jb (-1) _ Aa Aa) ?_;rintro r14 w14 hr14 hx14;have H14:=Af (Au (H13a.out.1.ext hx14) (H13a.out.2.ext hx14));replace hx7:=hx7.trans hx14;clear hx14 H13a
    go_wp2_with fail
    refine AQ (MJ _ _ _ (-1) _ (H14.out.2.base_le (Nat.zero_le _)) HCX.out.2.1.1 (hr14.has Ab) (by have:=HCX.out.2.1.2;omega)) ?_;rintro r15 w15 hr15 hx15;replace hr15:=(hr15.base_le (b:=w.heap.size) hx7.size).cast (show psc (((-1:Int):Rat)) (pp (DD (pl R) R))=Z from by rw[HCX.out.1];rfl);obtain⟨A15,c15,rfl,-⟩:=hr15.shape;rw[<-HCX.out.2.2]at hr15 ⊢;have H13:=Af (Au (H14.out.1.ext hx15) hr15);replace hx7:=hx7.trans hx15
    have HCX:=Af HCX.out.2.2.symm;clear hx15 H14 hr15 hr14;go_wp2
    go_roundw
    case rel=>exact⟨k+1,_,(by have:=H13.out.1;rw[Er]at this;exact this),H13.out.2,fun j a1 a2=>by
     rcases Nat.lt_or_ge j (k+1)with a3 | a3
     ·exact HK.out j a1 Aa
     ·obtain rfl:j=k+1:=by omega
      rw[<-HE.out.2.1];exact HC.out.2.2.2.2.2.2.1,hx7⟩
    case measure =>
     have h1:=HC.out.2.1.2.2.2.1;rw[HCX.out]at h1;simp only[QV];omega
   ·have hsg:=bJ hc
    have hdec:decide (0 < KV (Lh (pl R) R))=false:=decide_eq_false Aa;rw[if_neg hc,Ct]at hcx;have hr15:=H13a.out.2;rw[<-hcx,<-hZe]at hr15;rw[<-hcx,<-hZe];have H13:=Af (Au H13a.out.1 hr15);have HCX:=Af hZe.symm;clear hcx hpx hc hZe H13a hr15;go_wp2
    go_roundw
    case rel=>exact⟨k+1,_,(by have:=H13.out.1;rw[Er]at this;exact this),H13.out.2,fun j a1 a2=>by
     rcases Nat.lt_or_ge j (k+1)with a3 | a3
     ·exact HK.out j a1 Aa
     ·obtain rfl:j=k+1:=by omega
      rw[<-HE.out.2.1];exact HC.out.2.2.2.2.2.2.1,hx7⟩
    case measure =>
     have h1:=HC.out.2.1.2.2.2.1;rw[HCX.out]at h1;simp only[QV];omega
  ·have hz:Cf F G (k+1)=pz:=(BI hf.2.1).1 Aa
   have hS:Ow F G (k+1):=⟨Aa,hz,fun j a b=>HK.out j a Aa⟩
   have HS:=Af hS;clear hS hz hf;have HP:=Af hP;clear hP;have hlt:(Gp F G (k+1)).length=k+1:=Er _ _ _;go_wp2
   go_ret
   exact Ai.mk ⟨us,k+1,HS.out,Aa,HP.out⟩ hx
theorem UT(W:World)(v x:Value)(base b ty:Nat)(l:List Int)(q:Int)(h:Ed base 26 W v l)(hx:KO W x b q 26)(hn:l.length<=1099511627776)(hb:base<=W.heap.size) :
  ∃ v' w',(Builtin.append_ #[23,23] ty #[v,x]).run Tryz.prog W = .ok v' w'/\(Ed base 26 w' v' (l ++ [q])/\Cc (blk v) W w'):=by
 obtain⟨g,cs,rfl,h1,h2,h3,h4⟩:=hx;obtain⟨i0,hi,hz0,hz1,hz2⟩:=info_parts JO;have ho:=AO.one h4;obtain⟨v',w',a,b,c⟩:=BB.append (P:=Tryz.prog) h 23 ty i0 _ 32 Tryz.underlying23 hi hz0 hz1 hz2 rfl (by simp[nodig,Ah,Value.cells]) Ab ⟨g,0,none⟩ 1 cs h3 h4 h2.news ho.1 ho.2.1 (Jv hn) Aa hb (fun _ _ _ k hq=>AO.kd hq k);exact⟨v',w',a,b,c⟩
set_option maxRecDepth 20000 in
theorem Gb(v:Value)(l:List Int)(w:World)(hv:Gd 0 w v l)(hn:l.length<=1099511627776) :
  Bg 66 #[v] w (fun r w'=>AB w.heap.size w' r (pd (cz l))):=by
 obtain⟨A,c,rfl,hl,hc,hA⟩:=hv;have HA:Hid (KL 0 w A l):=Af hA;clear hA
 go_enter Tryz.func66,Tryz.ntmps66
 go_wp2
 go_loopw [3,4] (fun ov iv wr=>∃ (k:Nat),1<=k/\k<=max l.length 1/\iv = .int .i64 k/\Ed w.heap.size 26 wr ov (DL (k - 1) (pd (cz l)))/\Ext w wr) (fun _ iv _=>l.length - (intOf iv).toNat)
 case atStart=>exact⟨1,Aa,Aa,Ac,BB.nil _ _ _ _ _,Ext.refl _⟩
 case round =>
  obtain⟨k,hk1,hk,rfl,hown,hx⟩:=hrel;by_cases hkl:k < l.length
  ·obtain⟨g,o,b,A1,n,c1,rfl,_,q0,q1,hq⟩:=HA.out.at_ (j:=k) hkl
   replace q0:=hx.cell q0;replace q1:=hx.cell q1;have hval:(pd (cz l) (k - 1)).num=(k:Int)*l[k]:=by
    unfold pd;rw[show k - 1+1=k from Aa,Cq hkl];show(((k:Nat):Int)*((l[k]:Int):Rat):Rat).num=_;rw[num_mul]
   have Hq:=Af (Au hq hval);clear hq hval;have Hown:=Af hown;clear hown;have HK:=Af (show sz ((k:Nat):Int).natAbs<=2 from by
    have:=Ze (x:=(k:Int)) Aa Aa;rw[Bn]at this;omega)
   go_wp2_with fail
   refine EE 9 [11,12,13,14,15,16,17,18,19] [3,4,0] [_,_,_] [(kv ?_),(kv ?_),(fun γ=>γ 2),(kv ?_),(kv ?_),(kv ?_),(kv ?_),(fun γ=>γ 7),(fun γ=>γ 8)] (fun γ w'=>[True,True,AO w' (γ 2) (k:Int),True,True,True,True,AO w' (γ 7) (pd (cz l) (k - 1)).num,KO w' (γ 8) (wr.heap.size) ((pd (cz l) (k - 1)).num) 26]) ?s3 ?_
   case s3 =>
    iterate 9 refine⟨?_,?_⟩
    trivial
    iterate 2 focus
     refine Bi fun _ w' he R hR=>?_;have hc:=he.cells;go_simp;exact C8 hR
    ·refine Bi fun _ w' he R hR=>?_
     go_simp;exact BF (Jb (k:Int) w' Aa Aa) hR
    iterate 4 focus
     refine Bi fun _ w' he R hR=>?_;have hc:=he.cells;have cq0:=he.cell q0;have cq1:=he.cell q1;go_simp;(try go_ints);(try(rw[if_neg Aa]));(try(rw[if_pos Aa]));(try go_simp);(try go_ints)
     exact C8 hR
    ·refine Gj fun γ w' he hf R hR=>?_;have f2:AO w' (γ 2) (k:Int):=hf 2 Ab;clear hf
     go_simp;exact BF (Hq.out.2▸Dj _ _ _ _ w' (f2.has (by have:=HK.out;omega)) (Hq.out.1.kd (hx.trans he).kd)) hR
    ·refine Gj fun γ w' he hf R hR=>?_;have f7:AO w' (γ 7) (pd (cz l) (k - 1)).num:=hf 7 Ab;clear hf
     refine AO.el f7 fun b5 A5 n5 c5 e7 f7'=>?_;clear f7;go_simp;exact hR _ _ ((Ext.refl _).alloc _) rfl (KO.mk f7' (Nat.le_trans Ac he.size) _)
   intro γ w1 hx1 hF;have p2:AO w1 (γ 2) (k:Int):=AC.get hF 2 Ab;have p7:AO w1 (γ 7) (pd (cz l) (k - 1)).num:=AC.get hF 7 Ab;have p8:KO w1 (γ 8) (wr.heap.size) ((pd (cz l) (k - 1)).num) 26:=AC.get hF 8 Ab;clear hF;simp only[Bw,Nat.reduceAdd];generalize γ 2=g2 at *;generalize γ 7=g7 at *;generalize γ 8=g8 at *;clear γ;have hs:=hx.size;have hs1:=hx1.size;refine Bu rfl _ _ 23 rfl u3 g8 rfl rfl (UT w1 _ _ w.heap.size _ _ _ _ (Hown.out.ext hx1) p8 (by rw[AR];omega) Aa) ?_
   rintro v' w2 ⟨hown,U⟩;replace hx:=(Hown.out.ext hx1).from_ U (hx.trans hx1) (Nat.le_refl _);have Hown':=Af hown;clear hown U p8 p7 p2;go_wp2
   go_roundw
   case rel=>exact⟨k+1,Aa,Aa,by go_num,by
    have:=Hown'.out;rw[<-MM,show k - 1+1=k+1 - 1 from by omega]at this;exact this,hx⟩
   case measure=>simp[intOf];omega
  ·have hz:Be (k - 1) (pd (cz l)):=fun i hi=>by unfold pd;rw[Ik Aa];exact Rat.mul_zero _
   have hco:=Il (gY (ZI.cz l)) hz;obtain⟨A2,c2,h1,h2,h3,h4⟩:=hown.row;rw[AR]at h1 h2;have hT:=DW w.heap.size A2 c2 _ wr (by rw[AR];exact h2) h3 h4;rw[AR,<-h1]at hT;have Hrow:=Af (Au h4 (Au hco (Au h2 h3)));clear h1 h2 h3 h4 hco hz hown
   go_wp2_with fail
   refine Calls.mono hT ?_;rintro e w2 ⟨rfl,rfl⟩;go_wp2
   go_ret
   exact Ai.mk (AB.of_trim (MX.trim Hrow.out.1 (by rw[AR];exact Hrow.out.2.2.1) Hrow.out.2.2.2) Hrow.out.2.1) hx
theorem jG(v:Value)(x:Int)(w:World)(hv:Bj w v x):Bg 162 #[v] w (fun r w'=>AO w' r (x.natAbs:Nat)):=by
 obtain⟨neg,A,n,c,N,rfl,h1,h2,h3,hN,hx⟩:=hv.form;have HN:=Af hN;clear hN hv;have Hx:=Af (show((x.natAbs:Nat):Int)=if false=true then -(N:Int)else N by rw[hx];cases neg<;>simp);clear hx;have hs:sz N<=n:=HN.out.sz
 go_enter Tryz.func162,Tryz.ntmps162
 go_wp2_with fail
 refine AQ (Bo _ N n _ (HN.out.ext (((Ext.refl w).alloc _).alloc _))) ?_;rintro r1 w1 p5 hx1
 go_wp2_with fail
 refine AQ (J3 _ N _ p5 Aa) ?_;rintro r2 w2 p6 hx2;replace hx1:=hx1.trans hx2
 go_wp2_with fail
 refine AQ (Co (x.natAbs:Nat) false _ N _ w2 Hx.out (p6.num (Nat.le_refl _))) ?_;rintro r3 w3 hr hx3;replace hx1:=hx1.trans hx3;obtain⟨b5,A5,n5,c5,rfl⟩:=hr.cells;have hc1:=hx1.cells;have hf1:=hx1.frozens;have Hfin:=Af (Dk hr hx1.a2 (AV.at_ hx1 (g:=w.heap.size+1) Ac (by simp[Ah])) Aa);clear hr;go_wp2;refine bodyPost_ret (v := .agg #[.bool b5,.slice A5 n5 c5]) (by simp[results,Tryz.results162,go_sem,hc1]) rfl ?_
 exact Hfin.out
open Go.Shelf
attribute [local go_sem] Oper.semAt_some
set_option maxRecDepth 100000 in
theorem Vu(F:Fence)(n:Nat)(h7:F.fn 171)(hro:F.round=none)(hn:1<=n)(l Bs n₀ b off len cap:Nat)(enc:Fin len->Value)(hreach:len*4<=1099511627776)(hb:b < n₀)(J Jx:List (Fin len)->World->Prop)
  (hY:∀ pre x W,J pre W->pre.length < len->YieldAt F (n - 1) Tryz.prog l #[.int .i64 (x.1:Nat),enc x] W fun e W' =>
   (e = .returned (.bool true)/\J (pre ++ [x]) W'/\VM n₀ Bs W W')\/(e = .returned (.bool false)/\Jx (pre ++ [x]) W'))
  (W:World) (hBs:W.cell? ⟨Bs,0,none⟩=some (.slice (some ⟨b,off,none⟩) len cap)) (hc:∀ j (hj:j < len),Fq W b (off+j*2) (enc ⟨j,hj⟩)) (h0:J [] W) :
  CallsIn F n Tryz.prog 171 #[.func (.yield l) #[] #[],.pointer (some ⟨Bs,0,none⟩)] W fun e W'=>(∃ v,e = .returned v) /\
   ((∃ ys,ys=dz len len (Nat.le_refl _)/\J ys W')\/(∃ pre,(∃ k,∃ h:k<=len,pre=dz len k h)/\Jx pre W')):=by
 refine callsIn_of_wp Tryz.func171 rfl h7 ?_ hro;simp only[Tryz.ntmps171,List.size_toArray,List.length_cons,List.length_nil,Nat.reduceAdd,Nat.reduceSub,Array.replicate_succ,Array.replicate_zero,List.push_toArray,List.append_toArray,List.nil_append,List.cons_append]
 gi_wp2
 gi_loopw [3] (fun i wr=>∃ (k:Nat) (hk:k<=len),i = .int .i64 ((len:Int) - 1 - k)/\J (dz len k hk) wr/\VM n₀ Bs W wr)
  (fun i _=>(intOf i+1).toNat)
 case atStart=>exact⟨0,Nat.zero_le _,by go_num,h0,VM.refl _ _ _⟩
 case round =>
  obtain⟨k,hk,rfl,hJs,hnx⟩:=hrel;by_cases hlt:k < len
  ·obtain⟨b1,A1,n1,c1,hv,q0,q1⟩:=(hc (len - 1 - k) Aa).below hnx.1 hb
   have hbx:=hnx.2 _ hBs;obtain⟨fn,tmps,assign,body,hy,hR⟩:=hY _ ⟨len - 1 - k,Aa⟩ wr hJs (by rw[VC];exact hlt)
   dsimp only at hy
   rw[hv]at hy;obtain⟨m,hm⟩:∃ m,m=len - 1 - k:=⟨_,rfl⟩
   have hmi:(len:Int) - 1 - k=(m:Int):=by omega
   have hml:m < len:=by omega
   simp only[<-hm]at hy q0 q1;rw[hmi];clear hJs hY h0 hc;have Hm:=Af (Au hm hmi);clear hm hmi
   gi_wp2
   refine hR.mono ?_;rintro e W3 (⟨rfl,hJ3,hk3⟩ | ⟨rfl,hJx3⟩)
   ·gi_wp2
    go_roundw
    case rel=>exact⟨k+1,Aa,by have:=Hm.out.2;congr 1;omega,by rw[OV];exact hJ3,hnx.trans hk3⟩
    case measure=>simp[intOf]
   ·gi_wp2
    refine bodyPost_ret (results_none rfl _ _ _) rfl ?_;exact⟨⟨_,rfl⟩,.inr ⟨_,⟨k+1,Aa,(OV Aa).symm⟩,hJx3⟩⟩
  ·obtain rfl:k=len:=by omega
   gi_wp2
   go_end0
   exact⟨⟨_,rfl⟩,.inl ⟨_,rfl,hJs⟩⟩
set_option maxRecDepth 100000 in
theorem ML(F:Fence)(n:Nat)(h7:F.fn 171)(hro:F.round=none)(l Bs cap:Nat)(A:Option Addr)(J:List (Fin 0)->World->Prop)(W:World)(hBs:W.cell? ⟨Bs,0,none⟩=some (.slice A 0 cap))(h0:J [] W) :
  CallsIn F n Tryz.prog 171 #[.func (.yield l) #[] #[],.pointer (some ⟨Bs,0,none⟩)] W fun e W'=>(∃ v,e = .returned v)/\J [] W':=by
 refine callsIn_of_wp Tryz.func171 rfl h7 ?_ hro;simp only[Tryz.ntmps171,List.size_toArray,List.length_cons,List.length_nil,Nat.reduceAdd,Nat.reduceSub,Array.replicate_succ,Array.replicate_zero,List.push_toArray,List.append_toArray,List.nil_append,List.cons_append]
 gi_wp2
 gi_loopw [3] (fun i wr=>i = .int .i64 (-1)/\J [] wr) (fun _ _=>0)
 case atStart=>exact⟨rfl,h0⟩
 case round =>
  obtain⟨rfl,hJs⟩:=hrel
  gi_wp2
  go_end0
  exact⟨⟨_,rfl⟩,hJs⟩
/-- slices.Backward(s): the slice is boxed;the function captures the box. -/
theorem Wi(F:Fence)(n:Nat)(h5:F.fn 139)(hro:F.round=none)(a:Option Addr)(len cap:Nat)(w:World) :
  CallsIn F n Tryz.prog 139 #[.slice a len cap] w fun e w'=>e = .returned (.func (.func 171) #[] #[.pointer (some ⟨w.heap.size,0,none⟩)])/\w'=w.alloc (.cells #[.slice a len cap] 23):=by
 refine callsIn_of_wp Tryz.func139 rfl h5 ?_ hro;simp only[Tryz.ntmps139,List.size_toArray,List.length_cons,List.length_nil,Nat.reduceAdd,Nat.reduceSub,Array.replicate_succ,Array.replicate_zero,List.push_toArray,List.append_toArray,List.nil_append,List.cons_append]
 gi_wp2
 go_ret
 exact⟨rfl,rfl⟩
theorem Qa(F:Fence)(n:Nat)(h7:F.fn 171)(hro:F.round=none)(hn:1<=n)(Bs n₀ len cap:Nat)(A:Option Addr)(enc:Fin len->Value)(hreach:len*4<=1099511627776)(w:World)(hBs:Bs < w.heap.size)(hn₀:n₀<=w.heap.size)
  (hc:w.cell? ⟨Bs,0,none⟩=some (.slice A len cap)) (hI:0 < len->∃ b off,A=some ⟨b,off,none⟩/\b < n₀/\∀ j (hj:j < len),Fq w b (off+j*2) (enc ⟨j,hj⟩)) :
  SeqStopsK F n Tryz.prog 171 #[.pointer (some ⟨Bs,0,none⟩)] (fun x:Fin len=>#[Value.int .i64 (x.1:Nat),enc x]) (VM n₀ Bs) (fun ys=>ys=dz len len (Nat.le_refl _)) (fun pre=>∃ k,∃ h:k<=len,pre=dz len k h) len w:=fun l J Jx W hW _ _ hY h0=>by
 have hc':=(hW.cell (p:=⟨Bs,0,none⟩) hBs).trans hc;by_cases hl:0 < len
 ·obtain⟨b,off,rfl,hb,hcs⟩:=hI hl
  exact Vu F n h7 hro hn l Bs n₀ b off len cap enc hreach hb J Jx hY W hc' (fun j hj=>(hcs j hj).below (hW.mono hn₀) hb) h0
 ·obtain rfl:len=0:=by omega
  exact(ML F n h7 hro l Bs cap A J W hc' h0).mono fun e W' ⟨he,hj⟩=>⟨he,.inl ⟨_,rfl,hj⟩⟩
end Go.Proofs.YtmhgnigpmompmaaGreat
namespace Go.Proofs.YtmhgnigpmompmaaGreat
open Go.RowKit Go.Hp Go.Shelf
attribute [local go_sem] Oper.semAt_some
set_option maxRecDepth 100000 in
theorem Z9(v u:Value)(l:List Int)(x:Rat)(s t:Nat)(w:World)(hv:Gd 0 w v l)(hu:Ce w u x)(hs:∀ i,qsz (cz l i)<=s)(ht:qsz x<=t)(hK:1+l.length*(s+t+1)+s+t+1<=274877906944)(hn:l.length<=2748779069) :
  Bg 90 #[v,u] w (fun r w'=>BX w' r (CL l.length (cz l) x)):=by
 have HU:=Af hu;obtain⟨b1,A1,n1,c1,b1',A1',n1',c1',x0,y0,rfl,-⟩:=hu.form;obtain⟨A,c,rfl,hl,hc,hA⟩:=hv;clear hu;have HA:Hid (KL 0 w A l):=Af hA;clear hA;have HS:=Af (Au hs ht);clear hs ht;refine(callsIn_wide (n:=5)).1 ?_;refine callsIn_of_wp_marks Tryz.func90 rfl trivial ?_ rfl;simp only[Tryz.ntmps90,List.size_toArray,List.length_cons,List.length_nil,Nat.reduceAdd,Nat.reduceSub,Array.replicate_succ,Array.replicate_zero,List.push_toArray,List.append_toArray,List.nil_append,List.cons_append]
 gi_wp2_with (refine⟨trivial,?_⟩;gi_at_call 120;refine(callsIn_wide.2 (WJ 0 _ Aa Aa)).mono ?_;rintro e w1 ⟨r1,rfl,hr1,hx1⟩;obtain⟨b5,A5,n5,c5,b6,A6,n6,c6,rfl⟩:=hr1.cells)
 obtain⟨W9,eW9,e9,x9⟩:=Ba.made w1 28 #[.bool b5,.slice A5 n5 c5,.bool b6,.slice A6 n6 c6] (by simp[Ah]);rw[<-eW9];clear eW9;have hgb:w.heap.size+1+1<=w1.heap.size:=by have:=hx1.size;simpa using this
 have eb:=Eb.mk e9 (hr1.ext x9);replace hx1:=hx1.trans x9;clear x9 hr1 e9;generalize w1.heap.size=gb at *;refine⟨trivial,?_⟩
 gi_at_call 139
 refine(Wi _ _ trivial rfl _ _ _ _).mono ?_;rintro e w2 ⟨rfl,rfl⟩
 gi_wp2
 obtain⟨WA,hWA⟩:∃ WA,(w.alloc (.cells #[.bool b1,.slice A1 n1 c1,.bool b1',.slice A1' n1' c1'] 28)).alloc (.cells #[.bool false,.slice none 0 0,.bool false,.slice none 0 0] 28)=WA:=⟨_,rfl⟩
 have hAsz:WA.heap.size=w.heap.size+2:=by rw[<-hWA];simp
 have eu:Ba WA w.heap.size 28 #[.bool b1,.slice A1 n1 c1,.bool b1',.slice A1' n1' c1']:=by rw[<-hWA];exact(Ba.new w _ _ (by simp[Ah])).alloc _
 have ez:Ba WA (w.heap.size+1) 28 #[.bool false,.slice none 0 0,.bool false,.slice none 0 0]:=by
  have:=Ba.new (w.alloc (.cells #[.bool b1,.slice A1 n1 c1,.bool b1',.slice A1' n1' c1'] 28)) 28 #[.bool false,.slice none 0 0,.bool false,.slice none 0 0] (by simp[Ah]);rw[World.size_alloc]at this;rw[<-hWA];exact this
 rw[hWA]at hx1;have hwA:Ext w WA:=by rw[<-hWA];exact((Below.refl w.heap.size w).alloc (Nat.le_refl _) _).alloc Ac _
 clear hWA;have hgW:gb < W9.heap.size:=eb.lt;obtain⟨enc,hE,hcs⟩:∃ enc:Fin l.length->Value,(∀ j,Bj w (enc j) l[j.1])/\(0 < l.length->∃ b off,A=some ⟨b,off,none⟩/\b < WA.heap.size/\∀ j (hj:j < l.length),Fq (W9.alloc (.cells #[.slice A l.length c] 23)) b (off+j*2) (enc ⟨j,hj⟩)):=by
  have key:∀ j:Fin l.length,∃ e:Value,Bj w e l[j.1]/\∃ b off,A=some ⟨b,off,none⟩/\b < w.heap.size/\Fq (W9.alloc (.cells #[.slice A l.length c] 23)) b (off+j.1*2) e:=by
   rintro⟨j,hj⟩;obtain⟨g,o,b,A2,n,c2,rfl,_,q0,q1,hq⟩:=HA.out.at_ (j:=j) hj;have X:=hwA.trans (hx1.alloc (.cells #[.slice (some ⟨g,o,none⟩) l.length c] 23));exact⟨_,hq,g,o,rfl,World.block_lt_of_cell? w _ q0,_,_,_,_,rfl,X.cell q0,X.cell q1⟩
  refine⟨fun j=>Classical.choose (key j),fun j=>(Classical.choose_spec (key j)).1,fun h0=>?_⟩;obtain⟨-,b,off,e1,e2,-⟩:=Classical.choose_spec (key ⟨0,h0⟩);refine⟨b,off,e1,Aa,fun j hj=>?_⟩;obtain⟨-,b',off',e1',-,e3⟩:=Classical.choose_spec (key ⟨j,hj⟩);rw[e1]at e1';cases e1';exact e3
 have HE:=Af hE;clear hE;obtain⟨W2,hW2⟩:∃ W2,W9.alloc (.cells #[.slice A l.length c] 23)=W2:=⟨_,rfl⟩
 have h2sz:W2.heap.size=W9.heap.size+1:=by rw[<-hW2];simp
 have hb2:W2.cell? ⟨W9.heap.size,0,none⟩=some (.slice A l.length c):=by rw[<-hW2];exact(Boxed.new W9 _ _).cell
 have eb2:Eb W2 gb 28 ((0:Int):Rat):=by
  rw[<-hW2];obtain⟨b,A1,n,c,b',A1',n',c',h1,h2⟩:=eb;exact Eb.mk (h1.alloc _) (h2.ext ((Below.refl _ W9).alloc (Nat.le_refl _) _))
 have hx2:Ext WA W2:=by rw[<-hW2];exact hx1.alloc _
 rw[hW2]at hcs ⊢;clear hW2 eb hx1;refine wpIn_rangeFunc_ownH rfl Aa (gf:=171) (lb:=#[.pointer (some ⟨W9.heap.size,0,none⟩)]) rfl trivial (enters_of Tryz.func171 Fy rfl)
  (Qa _ _ trivial rfl Aa W9.heap.size WA.heap.size l.length c A enc Aa W2 Aa hx2.size hb2 hcs) VM.trans (iR hx2.size) (Below.refl _ _) (fun _=>rfl)
  (fun pre W=>Eb W gb 28 (hac (cz l) x pre)/\Below WA.heap.size WA W)
  (fun _ _ _=>False)
  (fun pre A B row hs hg hr=>⟨hs.1.own hg (fun r e=>(hr r e).2),ownFrom_below (β:=Unit) (Nat.le_refl _) hx2.size () A B row hs.2 hg hr⟩)
  (fun _ _ _ _ _ hs _ _=>hs)
  ⟨eb2,hx2⟩
  (fun p a' W=>∃ Bx b A2 n2 c2,enc p = .agg #[.bool b,.slice A2 n2 c2]/\Ba W Bx 26 #[.bool b,.slice A2 n2 c2]/\a'={ tmps:=#[.slice A l.length c,.agg #[.bool b1,.slice A1 n1 c1,.bool b1',.slice A1' n1' c1'],undef,.pointer (some ⟨w.heap.size,0,none⟩),.pointer (some ⟨w.heap.size+1,0,none⟩),.pointer (some ⟨gb,0,none⟩),undef,.pointer (some ⟨Bx,0,none⟩),.agg #[.bool b5,.slice A5 n5 c5,.bool b6,.slice A6 n6 c6],.slice A l.length c,.func (.func 171) #[] #[.pointer (some ⟨W9.heap.size,0,none⟩)],.int .i64 (p.1:Nat),.agg #[.bool b,.slice A2 n2 c2],undef,undef,undef,undef,undef,undef,undef],defers:=[] })
  (fun p a' _ X Y row hs hg hr=>by obtain⟨Bx,b,A2,n2,c2,k2,k3,k4⟩:=hs;exact⟨Bx,b,A2,n2,c2,k2,k3.own hg (fun r e=>(hr r e).2),k4⟩)
  ?assign ?body ?done ?stop
 case assign =>
  rintro lp pre p W K ⟨hi,hB⟩ hK;obtain⟨b,A2,n2,c2,hpv⟩:=(HE.out p).cells;have HK:=Af hK;clear hK;have HI:=Af (Au hi hB);clear hi
  gi_wp2
  obtain⟨W9,eW9,e9,x9⟩:=Ba.made W 26 #[.bool b,.slice A2 n2 c2] (by simp[Ah]);rw[<-eW9];refine HK.out _ _ ⟨x9.size,fun k o _ h0 _=>x9.blk h0⟩ ⟨x9.mono hB.size,fun v h=>x9.cell h⟩ ⟨HI.out.1.ext x9,hB.trans (x9.mono hB.size)⟩ ⟨W.heap.size,b,A2,n2,c2,hpv,e9,rfl⟩
 case body =>
  rintro lp pre p a' W hl0 ⟨r,hr⟩ ⟨hi,hB⟩ ⟨Bx,b,A2,n2,c2,k2,k3,rfl⟩ hlt;have HQ:=Af (show Bj w (.agg #[.bool b,.slice A2 n2 c2]) l[p.1]from k2▸HE.out p);have HPl:=Af (show((l[p.1]:Int):Rat)=cz l p.1 from by rw[Cq p.2]);have HR:=Af (show qsz (hac (cz l) x pre)<=274877906944/\qsz (hac (cz l) x pre*x)<=274877906944/\qsz (cz l p.1) < 274877906944 by
   have h1:=Z6 HS.out.1 HS.out.2 pre;have h2:=CW (hac (cz l) x pre) x;have h3:=HS.out.2;have h4:=HS.out.1 p.1;have h5:pre.length*(s+t+1)<=l.length*(s+t+1):=Nat.mul_le_mul_right _ Aa;omega)
  obtain⟨z1,Z1,zn,zc,z2,Z2,zn',zc',eg,hz⟩:=hi;have Hz:=Af hz;clear hz;have hB':Ext WA W:=hB;have euW:=eu.ext hB';obtain⟨g0,g1,g2,g3⟩:=eg.cells4;obtain⟨u0,u1,u2,u3⟩:=euW.cells4;obtain⟨e0,e1⟩:=k3.cells2;have fg:=eg.frozen
  gi_wp2
  have hmx:Tryz.prog.follows .mixedOrders=true:=by kernel_rfl
  have xd:Ext W W.drew:=Below.drew (Below.refl _ W);have xA:=(hwA.trans hB').trans xd;have hm1:=(Hz.out.ext xd).has HR.out.1;have hm2:=HU.out.ext xA;have hm3:=HQ.out.ext xA;have Hm:=Af (Au hm1 (Au hm2 hm3));clear hm1 hm2 hm3
  gi_region_with_o (first | (refine⟨trivial,?_⟩;gi_at_call 140;refine(CallsIn.inRound lp (callsIn_wide.2 (Y8 _ _ (hac (cz l) x pre) x _ Hm.out.1 Hm.out.2.1))).mono ?_;rintro e w5 ⟨r5,rfl,hr5,hx5⟩;obtain⟨b7,A7,n7,c7,b8,A8,n8,c8,rfl⟩:=hr5.cells;have v0:=(xd.trans hx5).cell e0;have v1:=(xd.trans hx5).cell e1;have HmA:=Af (Hm.out.2.2.ext hx5);have Hr5:=Af hr5;clear hr5) | (refine⟨trivial,?_⟩;gi_at_call 102;refine(CallsIn.inRound lp (callsIn_wide.2 (GL _ _ _ HmA.out))).mono ?_;rintro e w4 ⟨r4,rfl,hr4,hx4⟩;obtain⟨b9,A9,n9,c9,b10,A10,n10,c10,rfl⟩:=hr4.cells;have HF:=Af (Au (Hr5.out.ext hx4) (Au (HPl.out▸hr4) ((xd.trans hx5).trans hx4)));clear hr4) | (refine⟨trivial,?_⟩;gi_at_call 102;refine(CallsIn.inRound lp (callsIn_wide.2 (GL _ _ _ Hm.out.2.2))).mono ?_;rintro e w4 ⟨r4,rfl,hr4,hx4⟩;obtain⟨b9,A9,n9,c9,b10,A10,n10,c10,rfl⟩:=hr4.cells;have y0:=(xd.trans hx4).cell g0;have y1:=(xd.trans hx4).cell g1;have y2:=(xd.trans hx4).cell g2;have y3:=(xd.trans hx4).cell g3;have t0:=(xd.trans hx4).cell u0;have t1:=(xd.trans hx4).cell u1;have t2:=(xd.trans hx4).cell u2;have t3:=(xd.trans hx4).cell u3;have HmB:=Af (Au (Hm.out.1.ext hx4) (Hm.out.2.1.ext hx4));have Hr4:=Af hr4;clear hr4) | (refine⟨trivial,?_⟩;gi_at_call 140;refine(CallsIn.inRound lp (callsIn_wide.2 (Y8 _ _ (hac (cz l) x pre) x _ HmB.out.1 HmB.out.2))).mono ?_;rintro e w5 ⟨r5,rfl,hr5,hx5⟩;obtain⟨b7,A7,n7,c7,b8,A8,n8,c8,rfl⟩:=hr5.cells;have HF:=Af (Au hr5 (Au (HPl.out▸Hr4.out.ext hx5) ((xd.trans hx4).trans hx5)));clear hr5) | (refine⟨trivial,?_⟩;gi_at_call 123;refine(CallsIn.inRound lp (callsIn_wide.2 (Ut _ _ (hac (cz l) x pre*x) (cz l p.1) _ (HF.out.1.has HR.out.2.1) (HF.out.2.1.has (Nat.le_of_lt HR.out.2.2))))).mono ?_;rintro e w6 ⟨r6,rfl,hr6,hx6⟩;obtain⟨b11,A11,n11,c11,b12,A12,n12,c12,rfl⟩:=hr6.cells;have x6:=HF.out.2.2.trans hx6;have eg6:=eg.ext x6;have f6:=eg6.frozen;obtain⟨s0,s1,s2,s3⟩:=eg6.cells4;have Hr6:=Af hr6;clear hr6))
  all_goals gi_wp2
  all_goals
   obtain⟨W7,eW7,e7,U7⟩:=eg6.put4 (.bool b11) (.slice A11 n11 c11) (.bool b12) (.slice A12 n12 c12) rfl rfl rfl rfl;have kf:=iZ W2.heap.size x6 eW7;have kb:=fJ (n₀:=WA.heap.size) (x6.mono hB'.size) eW7 Aa;have kq:=Eb.mk e7 (Hr6.out.kd U7.kd);rw[<-PY (cz l) x pre p]at kq;rw[<-eW7];exact⟨kf,⟨kb,fun v h=>JQ U7 Dq (x6.cell h)⟩,kq,Below.trans hB kb⟩
 case done =>
  rintro D ys W hD rfl ⟨hi,hB⟩ hK;rw[Yb (cz l) x l.length (Nat.le_refl _),Nat.sub_self,Qp]at hi;obtain⟨z1,Z1,zn,zc,z2,Z2,zn',zc',eg,hz⟩:=hi;obtain⟨g0,g1,g2,g3⟩:=eg.cells4;have hB':Ext WA W:=hB;have ezW:=ez.ext hB';obtain⟨z0',z1',z2',z3'⟩:=ezW.cells4;have fz:=ezW.frozen;have eW3:=ezW.put4 (.bool z1) (.slice Z1 zn zc) (.bool z2) (.slice Z2 zn' zc') rfl rfl rfl rfl;have hne:D≠w.heap.size+1:=by have:=hx2.size;omega
  have Hz:=Af hz;clear hz
  gi_wp2
  obtain⟨W3,eW3,e3,U3⟩:=eW3;rw[<-eW3];clear eW3;have hK3:W3.heap[D]? = some (.deferred (some [])):=U3.1 D _ (by simpa using hne) hK;have e4:=e3.own (grownBy_putObj' W3 D (.deferred none)) (fun r e=>by cases e;exact⟨_,hK3,rfl⟩);have hx3:Ext w W3:=U3.2.2 w (hwA.trans hB') Ac;have hx4:Ext w (W3.putObj D (.deferred none)):=Below.trans hx3 (belowK_b (w:=w) (Nat.le_refl _) W3 D _ _ (by have:=hx2.size;omega) hK3 rfl rfl)
  have hz4:=(Hz.out.kd U3.kd).kd (KD.own (grownBy_putObj' W3 D (.deferred none)) (fun r e=>by cases e;exact⟨_,hK3,rfl⟩));refine⟨Ac,.inl ⟨_,_,rfl,run_takeDeferred hK3,?_⟩⟩;obtain⟨y0,y1,y2,y3⟩:=e4.cells4;exact⟨_,by simp[results,Tryz.f90,go_sem,y0,y1,y2,y3],Ai.mk hz4 hx4⟩
 case stop =>
  rintro D c pre W _ _ h _;exact h.elim
end Go.Proofs.YtmhgnigpmompmaaGreat
namespace Go.Proofs.YtmhgnigpmompmaaGreat
open Go.RowKit Go.Hp
/-! ### over polynomials -/
theorem XR(v u:Value)(F:Nat->Rat)(x:Rat)(s t n:Nat)(w:World)(hv:AB 0 w v F)(hu:Ce w u x)(hs:∀ i,qsz (F i)<=s)(ht:qsz x<=t)(hn:pl F<=n)(hK:1+n*(s+t+1)+s+t+1<=274877906944)(hn9:n<=1000) :
  Bg 90 #[v,u] w (fun r w'=>BX w' r (ev F x)):=by
 obtain⟨l,a1,a2,-,a4⟩:=hv.hz (fun i=>by have:=hs i;omega);have hK2:l.length*(s+t+1)<=n*(s+t+1):=Nat.mul_le_mul_right _ Aa;have:=Z9 v u l x s t w a1 hu (by rw[a4];exact hs) ht Aa Aa;rw[<-Ee (Cx l),a4]at this;exact this
set_option maxRecDepth 20000 in
theorem Vo(v u:Value)(us:List Value)(l:List (Nat->Rat))(x:Rat){eb:Nat}(base s t n:Nat)(w:World)(hv:Jh base eb 23 w v us l)(hu:Ce w u x)(hs:∀ F∈l,(∀ i,qsz (F i)<=s)/\pl F<=n/\Ae F)(ht:qsz x<=t)
  (hK:1+n*(s+t+1)+s+t+1<=274877906944) (hn9:n<=1000) (hl:l.length<=1000) :
  Bg 101 #[v,u] w (fun r _=>r = .int .i64 (V l x:Nat)):=by
 have HV:=Af hv;have HU:=Af hu;obtain⟨A0,c0,rfl⟩:=hv.shape;obtain⟨b,B,n1,c1,b',B',n1',c1',x0,y0,rfl,-⟩:=hu.form;clear hv hu;have hev:∀ W (x1:Ext w W) i (h:i < l.length) u,AB 0 W u l[i]->Bg 90 #[u,.agg #[.bool b,.slice B n1 c1,.bool b',.slice B' n1' c1']] W (fun r w'=>BX w' r (ev l[i] x)):=fun W x1 i h u hu =>
  XR u _ l[i] x s t n W hu (HU.out.ext x1) (hs _ (List.getElem_mem h)).1 ht (hs _ (List.getElem_mem h)).2.1 hK hn9
 have hqz:∀ i (h:i < l.length),qsz (ev l[i] x)<=274877906944:=fun i h=>by
  obtain⟨h1,h2,h3⟩:=hs _ (List.getElem_mem h);have h4:=SA ((AA h3).mono h2) h1 ht;omega
 obtain⟨sg,hsg⟩:∃ sg,sg=l.map fun F=>AX (ev F x):=⟨_,rfl⟩
 have hsl:sg.length=l.length:=by rw[hsg,List.length_map]
 have hsi:∀ i (h:i < l.length) (h':i < sg.length),KV (ev l[i] x)=sg[i]:=fun i h h'=>by
  rw[En];simp[hsg]
 have hsc:∀ i (h':i < sg.length),sg[i]=0\/sg[i]=1\/sg[i] = -1:=fun i h'=>by
  simp only[hsg,List.getElem_map];exact BK _
 have hV:V l x=EY 0 sg:=by unfold V;rw[hsg]
 rw[hV];have HC:=Af (Au hev (Au hqz (Au hsi hsc)));clear hev hqz hsi hsc hs ht hK hsg hV
 go_enter Tryz.func101,Tryz.ntmps101
 have ea:=Ba.new w 28 #[.bool b,.slice B n1 c1,.bool b',.slice B' n1' c1'] (by simp[Ah]);have hx:=(Ext.refl w).alloc (.cells #[.bool b,.slice B n1 c1,.bool b',.slice B' n1' c1'] 28)
 go_upto_region 1 with(fail)
 generalize w.alloc (.cells #[.bool b,.slice B n1 c1,.bool b',.slice B' n1' c1'] 28)=W0 at *;go_wp2
 go_loopw [5,6,12] (fun cv lv iv wr=>∃ (i cc:Nat) (la:Int),i<=l.length/\iv = .int .i64 (i:Nat)/\cv = .int .i64 (cc:Nat)/\cc<=i/\lv = .int .i64 la/\(la=0\/la=1\/la = -1)/\cc+EY la (sg.drop i)=EY 0 sg/\Ba wr w.heap.size 28 #[.bool b,.slice B n1 c1,.bool b',.slice B' n1' c1']/\Ext w wr) (fun _ _ iv _=>l.length - (intOf iv).toNat)
 case atStart=>exact⟨0,0,0,Nat.zero_le _,rfl,rfl,Nat.le_refl _,rfl,.inl rfl,Ac,ea,hx⟩
 case round =>
  clear ea hx;obtain⟨i,cc,la,hi,rfl,rfl,hcc,rfl,hla,hval,ea,hx⟩:=hrel;have Hval:=Af hval;clear hval;by_cases hil:i < l.length
  ·obtain⟨g,o,E,d,rfl,hc,h5⟩:=(HV.out.ext hx).at_ hil
   have H5:=Af h5;clear h5;have cea:=ea.cells4;have fea:=ea.frozen
   go_wp2_with fail
   refine AQ (HC.out.1 _ hx i hil _ H5.out) ?_;rintro r2 w2 hr2 hx2
   go_wp2_with fail
   refine AQ (LQ _ _ _ (hr2.has (HC.out.2.1 i hil))) ?_;rintro r3 w3 rfl hx3;rw[HC.out.2.2.1 i hil Aa];have hdrop:sg.drop i=sg[i]'(Aa)::sg.drop (i+1):=List.drop_eq_getElem_cons Aa;have hsc:=HC.out.2.2.2 i Aa;have hval:=Hval.out;rw[hdrop,EY]at hval;obtain⟨sv,hsv⟩:∃ sv,sv=sg[i]'(Aa):=⟨_,rfl⟩
   simp only[<-hsv]at hval hsc ⊢;clear hsv hdrop Hval hc H5 hr2 cea fea;have x23:=hx2.trans hx3;replace ea:=ea.ext x23;replace hx:=hx.trans x23;clear x23;clear hx2 hx3;rcases hsc with rfl | hs1
   ·rw[if_pos rfl]at hval
    have Hval:=Af hval;clear hval;go_wp2
    go_roundw
    case rel=>exact⟨i+1,cc,la,Aa,by go_num,rfl,Aa,rfl,hla,Hval.out,ea,hx⟩
    case measure=>simp[intOf]<;>omega
   ·have hs0:sv≠0:=by rcases hs1 with h | h<;>rw[h]<;>decide
    rw[if_neg hs0]at hval;have hsb:(sv==0)=false:=by simpa using hs0
    by_cases hch:la = -sv
    ·rw[if_pos hch]at hval
     have Hval:=Af hval;clear hval;have hneg:la*sv = -1:=by rw[hch];rcases hs1 with h | h<;>rw[h]<;>decide
     have HS:=Af hs1;clear hs0 hch hs1;go_wp2
     go_roundw
     case rel=>exact⟨i+1,cc+1,sv,Aa,by go_num,by go_num,Aa,rfl,.inr HS.out,by have:=Hval.out;omega,ea,hx⟩
     case measure=>simp[intOf]<;>omega
    ·rw[if_neg hch]at hval
     have Hval:=Af hval;clear hval;have hneg:decide (la*sv < 0)=false:=by
      rcases hla with rfl | rfl | rfl<;>rcases hs1 with rfl | rfl<;>first | rfl | (exact absurd rfl hch)
     have HS:=Af hs1;have hw:wrap64 (la*sv)=la*sv:=by
      rcases hla with rfl | rfl | rfl<;>rcases hs1 with rfl | rfl<;>exact IntWalk.wrap64_in _ ⟨Aa,Aa⟩
     clear hs0 hch hs1;go_wp2
     go_roundw
     case rel=>exact⟨i+1,cc,sv,Aa,by go_num,rfl,Aa,rfl,.inr HS.out,by have:=Hval.out;omega,ea,hx⟩
     case measure=>simp[intOf]<;>omega
  ·obtain rfl:i=l.length:=by omega
   have hval:=Hval.out;rw[List.drop_eq_nil_of_le Aa]at hval;have hv2:cc=EY 0 sg:=hval;have Hv2:=Af hv2;clear hv2 hval Hval;go_wp2
   go_ret
   exact Ai.mk (by rw[<-Hv2.out];rfl) hx
set_option maxRecDepth 20000 in
theorem dJ(v u:Value)(l m:List Int)(S M:Nat)(w:World)(hv:Gd 0 w v l)(hu:Gd 0 w u m)(hs:∀ i,qsz (cz l i)<=S)(ht:∀ i,qsz (cz m i)<=S)(hn:l.length<=549755813888)(hm:m.length<=549755813888)(hM:(S+1)*2^(pl (cz l)+pl (cz m))<=M)(hB:M+(pl (cz l)+pl (cz m)+1)*(M+1)+M<=549755813888) :
  Bg 42 #[v,u] w (fun r w'=>AB 0 w' r (BC (cz l) (cz m))):=by
 have HV:=Af hv;have HU:=Af hu;obtain⟨A0,c0,rfl⟩:=hv.len;obtain⟨A1,c1,rfl⟩:=hu.len;clear hv hu;have hc1:=BD (Cx l);have hc2:=BD (Cx m);have hSM:S+1<=M:=by
  have h:0 < 2^(pl (cz l)+pl (cz m)):=Nat.pow_pos Ab;have:=Nat.le_mul_of_pos_right (S+1) h;omega
 have hcn:sz (cn (cz l))<=S/\sz (cn (cz m))<=S:=⟨Jg hs _,Jg ht _⟩
 have hst:=I1.start (Ae.cz l) (Ae.cz m) (ZI.cz l) (ZI.cz m) hs ht;have hP1:=fun W (x:Ext w W)=>Fe _ l W (HV.out.ext x) Aa;have hP2:=fun W (x:Ext w W)=>Fe _ m W (HU.out.ext x) Aa;have hC1:=JA _ l w HV.out Aa;have hC2:=fun W (x:Ext w W)=>JA _ m W (HU.out.ext x) Aa;have hz:=(show(∀ A,I1 (cz l) (cz m) (pl (cz l)+pl (cz m)) S A pz->psc ((Nat.gcd (cn (cz l)) (cn (cz m)):Nat):Rat) A=BC (cz l) (cz m))from
  fun A h=>(Ym (h.end_ (Ae.cz l) (Ae.cz m) (ZI.cz l) (ZI.cz m) rfl)).symm)
 have hpl:pl (cz l)+pl (cz m)<=1099511627776:=by omega
 obtain⟨F,hF⟩:∃ F,F=cz l:=⟨_,rfl⟩
 obtain⟨G,hG⟩:∃ G,G=cz m:=⟨_,rfl⟩
 rw[<-hF]at hcn hC1;rw[<-hG]at hcn;rw[<-hF,<-hG]at hM hB hst hz hpl ⊢;simp only[<-hF]at hP1;simp only[<-hG]at hP2 hC2;have HC:=Af (Au hC1 (Au hC2 (Au hP1 hP2)));have HX:=Af (Au hM (Au hB (Au hz (Au hcn hSM))));have HSt:=Af (Au hst hpl);clear hs ht hn hm hM hB hc1 hc2 hSM hcn hst hP1 hP2 hC1 hC2 hz hF hG hpl HV HU
 go_enter Tryz.func42,Tryz.ntmps42
 go_wp2_with fail
 refine AQ HC.out.1 ?_;rintro r1 w1 hr1 hx
 go_wp2_with fail
 refine AQ (HC.out.2.1 w1 hx) ?_;rintro r2 w2 hr2 hx2;have H12:=Af (Au ((hr1.kd hx2.kd).has (by have h1:=HX.out.2.2.2.1.1;have h2:=HX.out.2.2.2.2;have h3:=HX.out.2.1;simp;omega)) (hr2.has (by have h1:=HX.out.2.2.2.1.2;have h2:=HX.out.2.2.2.2;have h3:=HX.out.2.1;simp;omega)));replace hx:=hx.trans hx2;clear hr1 hr2 hx2
 go_wp2_with fail
 refine AQ (Un _ _ (cn F:Nat) (cn G:Nat) _ H12.out.1 H12.out.2) ?_;rintro r3 w3 hr3 hx3;obtain⟨b5,A5,n5,c5,rfl⟩:=hr3.cells;obtain⟨cc,hcc⟩:∃ cc:Nat,cc=Nat.gcd (cn F) (cn G):=⟨_,rfl⟩
 replace hr3:AO w3 (.agg #[.bool b5,.slice A5 n5 c5]) (cc:Nat):=by rw[hcc];exact hr3
 obtain⟨W4,eW4,e4,x4⟩:=Ba.made w3 26 #[.bool b5,.slice A5 n5 c5] (by simp[Ah]);have ec:=Bp.mk e4 (hr3.kd x4.kd);replace hx:=(hx.trans hx3).trans x4;have HCC:=Af hcc;clear hx3 x4 hr3 e4 H12 hcc
 go_wp2_with fail
 rw[<-eW4];clear eW4;generalize w3.heap.size=gc at *;refine AQ (HC.out.2.2.1 W4 hx) ?_;rintro r5 w5 hr5 hx5;have ec5:=ec.ext hx5;replace hx:=hx.trans hx5;have H5:=Af (hr5.base_le (Nat.zero_le _));clear hr5 hx5
 go_wp2_with fail
 refine AQ (HC.out.2.2.2 w5 hx) ?_;rintro r6 w6 hr6 hx6;replace ec5:=ec5.ext hx6;replace hx:=hx.trans hx6;have h5:=H5.out.ext hx6;have h6:=hr6.base_le (Nat.zero_le _);clear hr6 hx6 H5;go_wp2
 go_loopw [0,1] (fun fv gv wr=>∃ A B,AB 0 wr fv A/\AB 0 wr gv B/\I1 F G (pl F+pl G) S A B/\Bp wr gc 26 (cc:Nat)/\Ext w wr) (fun _ gv _=>QV gv)
 case atStart=>exact⟨_,_,h5,h6,HSt.out.1,ec5,hx⟩
 case round =>
  clear h5 h6 ec5 hx ec;obtain⟨A,B,hA,hB,hst,ec,hx⟩:=hrel;obtain⟨A2,c2,rfl,-⟩:=hA.shape;obtain⟨A3,c3,rfl,-⟩:=hB.shape;have HA:=Af (Au hA hB);clear hA hB;have HS:=Af hst;clear hst;by_cases h0:0 < pl B
  ·have hbn:B≠pz:=fun e=>by rw[e,BR]at h0;omega
   have hroom:=HS.out.room rfl;have hpl:=HS.out.deg;have HR:=Af (show(∀ i,qsz (A i)<=M)/\(∀ i,qsz (B i)<=M)/\M+(pl A+1)*(M+1)+M<=549755813888/\B≠pz/\pl A<=1099511627776/\pl B<=1099511627776 from by
    refine⟨fun i=>Nat.le_trans (hroom.1 i) HX.out.1,fun i=>Nat.le_trans (hroom.2.1 i) HX.out.1,?_,hbn,by have:=HSt.out.2;omega,by have:=HSt.out.2;omega⟩;have h1:=HX.out.2.1;have h2:(pl A+1)*(M+1)<=(pl F+pl G+1)*(M+1):=Nat.mul_le_mul_right _ Aa;omega)
   have hst2:=HS.out.step hbn (R:=D7 A B (pl A+1 - pl B)) rfl;have HS2:=Af (Au hst2.1 (Au hst2.2 hroom.2.2));clear hst2 hbn hroom hpl
   go_wp2_with fail
   refine Calls.mono (dK _ _ A B M _ HA.out.1 HA.out.2 HR.out.1 HR.out.2.1 HR.out.2.2.2.1 (by have h1:=HR.out.2.2.1;have:(pl A+1)*1<=(pl A+1)*(M+1):=Nat.mul_le_mul_left _ Aa;omega) (by
    have h1:=HX.out.2.1;have h2:=HS.out.deg;have:(pl F+pl G+1)*1<=(pl F+pl G+1)*(M+1):=Nat.mul_le_mul_left _ Aa;omega) HR.out.2.2.1) ?_
   rintro e w7 ⟨r7,rfl,⟨qv,rv,rfl,hq,hr⟩,hx7⟩;have hrr:=hr.base_le (b:=0) (Nat.zero_le _);have hB7:=HA.out.2.ext hx7;have ec7:=ec.ext hx7;replace hx:=hx.trans hx7;have H7:=Af (Au hrr hB7);clear hr hrr hB7 hq hx7 ec
   go_wp2_with fail
   refine Calls.mono (G5 _ _ _ H7.out.1 (fun i=>by
    have h1:=HS2.out.2.2 i;have h2:=HX.out.1;have h3:(S+1)*2^(pl F+pl G - (pl A+pl B)+(pl A+1 - pl B))<=(S+1)*2^(pl F+pl G)*2:=by
     have e1:(S+1)*2^(pl F+pl G)*2=(S+1)*2^(pl F+pl G+1):=by rw[Nat.pow_succ,Nat.mul_assoc]
     rw[e1];refine Nat.mul_le_mul_left _ (Nat.pow_le_pow_right Ab ?_);have:=HS.out.deg;omega
    have h4:=HX.out.2.1;omega) (by have:=Ul HS.out.fA HS.out.fB HR.out.2.2.2.1;have:=HR.out.2.2.2.2.2;omega)) ?_
   rintro e w8 ⟨r8,rfl,hr8,hx8⟩;have hB8:=H7.out.2.ext hx8;have hp8:=hr8.base_le (b:=0) (Nat.zero_le _);have ec8:=ec7.ext hx8;replace hx:=hx.trans hx8;obtain⟨A4,c4,rfl,-⟩:=hr8.shape;have H8:=Af (Au hB8 hp8);clear hB8 hp8 hr8 hx8 ec7 H7;go_wp2
   go_roundw
   case rel=>exact⟨_,_,H8.out.1,H8.out.2,HS2.out.1,ec8,hx⟩
   case measure=>exact HS2.out.2.1
  ·have hbz:B=pz:=(BI HS.out.fB).1 Aa
   have hroom:=HS.out.room rfl;subst hbz;have hz:=HX.out.2.2.1 A HS.out;have HZ:=Af (Au hz (Au hroom.1 (show pl A<=1099511627776 by have:=HS.out.deg;have:=HSt.out.2;omega)));have h0:pl pz=0:=BR;rw[h0];clear hz hroom;obtain⟨b,Bv,bn,bc,e8,hb8⟩:=ec;have Hb:=Af hb8;clear hb8;have ce8:=e8.cells2;have fe8:=e8.frozen
   go_wp2_with fail
   refine Calls.mono (V3 _ _ A (cc:Nat) _ HA.out.1 (fun i=>by have h1:=HZ.out.2.1 i;have h2:=HX.out.1;have h3:=HX.out.2.1;omega) (Hb.out.has (by
    rw[HCC.out];have h1:=HX.out.2.2.2.1;have h2:sz (Nat.gcd (cn F) (cn G))<=S:=by
     by_cases e:cn F=0
     ·rw[e,Nat.gcd_zero_left];exact h1.2
     ·exact Nat.le_trans (Bq (Nat.gcd_le_left _ (Nat.pos_of_ne_zero e))) h1.1
    have h3:=HX.out.2.2.2.2;have h4:=HX.out.2.1;simp only[Int.natAbs_natCast];omega)) HZ.out.2.2) ?_
   rintro e w9 ⟨r9,rfl,hr9,hx9⟩;have h9:AB 0 w9 r9 (BC F G):=by
    rw[<-HZ.out.1,<-HCC.out];exact hr9
   have H9:=Af h9;clear h9 hr9;go_wp2
   go_ret
   exact Ai.mk H9.out (hx.trans hx9)
theorem RN(v u:Value)(F G:Nat->Rat)(S M:Nat)(w:World)(hv:AB 0 w v F)(hu:AB 0 w u G)(hs:∀ i,qsz (F i)<=S)(ht:∀ i,qsz (G i)<=S)(hn:pl F<=549755813888)(hm:pl G<=549755813888)(hM:(S+1)*2^(pl F+pl G)<=M)(hB:M+(pl F+pl G+1)*(M+1)+M<=549755813888) :
  Bg 42 #[v,u] w (fun r w'=>AB 0 w' r (BC F G)):=by
 have hSM:S+1<=M:=by
  have h:0 < 2^(pl F+pl G):=Nat.pow_pos Ab;have:=Nat.le_mul_of_pos_right (S+1) h;omega
 obtain⟨l,h1,h2,-,rfl⟩:=hv.hz (fun i=>by have:=hs i;omega);obtain⟨m,k1,k2,-,rfl⟩:=hu.hz (fun i=>by have:=ht i;omega);exact dJ v u l m S M w h1 k1 hs ht Aa Aa hM hB
end Go.Proofs.YtmhgnigpmompmaaGreat
