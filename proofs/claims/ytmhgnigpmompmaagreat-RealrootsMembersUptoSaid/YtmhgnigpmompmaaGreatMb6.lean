/- The statement RealrootsMembers holds for arguments of bulk at most 1048576 (its '..Upto' form): for every such polynomial and interval, and every number, the law returns true, and the arguments read afterwards as before. -/
import Derived.Test.YtmhgnigpmompmaaGreatMb1
import Derived.Test.YtmhgnigpmompmaaGreatMb2
import Derived.Test.YtmhgnigpmompmaaGreatMb3
import Derived.Test.YtmhgnigpmompmaaGreatMb4
import Derived.Test.YtmhgnigpmompmaaGreatMb5
set_option linter.unusedVariables false
set_option linter.unusedSimpArgs false
set_option maxHeartbeats 16000000
namespace Go.Hp
open Go.RowKit
theorem Bp.inj{w:World}{v:Value}{x y:Int}(h:Bp w v x)(k:Bp w v y):x=y:=by
 obtain⟨n,ds,⟨s,rfl,hd⟩,rfl,-⟩:=h;obtain⟨m,es,⟨t,e,he⟩,rfl,-⟩:=k;cases e;rw[hd.uniq he]
theorem Bt.inj{w:World}{v:Value}{p q:Rat}(h:Bt w v p)(k:Bt w v q):p=q:=by
 obtain⟨b,A,n,c,b',A',n',c',x,y,rfl,h1,h2,-,-,rfl⟩:=h;obtain⟨d,B,m,e,d',B',m',e',x',y',k0,k1,k2,-,-,rfl⟩:=k;cases k0;rw[h1.inj k1,h2.inj k2]
theorem GU.inj{w:World}{g:Nat}{t:TypeId}{p q p' q':Rat}(h:GU w g t p q)(k:GU w g t p' q'):p=p'/\q=q':=by
 obtain⟨b1,A1,n1,c1,b2,A2,n2,c2,b3,A3,n3,c3,b4,A4,n4,c4,h1,h2,h3⟩:=h;obtain⟨d1,B1,m1,e1,d2,B2,m2,e2,d3,B3,m3,e3,d4,B4,m4,e4,k1,k2,k3⟩:=k;have e:=h1.1.symm.trans k1.1;cases e;exact⟨h2.inj k2,h3.inj k3⟩
theorem dJ{R:Rat->Rat->Int}{p q:Rat}(hpq:p < q){j k:Nat}(h1:(BZ R p q j).1=(BZ R p q k).1)(h2:(BZ R p q j).2=(BZ R p q k).2):j=k:=by
 have a:=(Dr R p q j).width;have b:=(Dr R p q k).width;have c:=((Dr R p q k).within hpq).2.1;rw[h1,h2]at a;have e:(2:Rat)^j=2^k:=by
  have hne:(BZ R p q k).2 - (BZ R p q k).1≠0:=by grind
  have:((BZ R p q k).2 - (BZ R p q k).1)*(2^j - 2^k)=0:=by grind
  rcases Rat.mul_eq_zero.1 this with z | z
  ·exact absurd z hne
  ·grind
 have key:∀ {m n:Nat},m < n->(2:Rat)^m≠2^n:=fun {m n} h e=>by
  have h1:=KG (show m+1<=n from h);rw[Rat.pow_succ]at h1;have:=Cb m;grind
 rcases Nat.lt_trichotomy j k with z | z | z
 ·exact absurd e (key z)
 ·exact z
 ·exact absurd e.symm (key z)
noncomputable def Zc(w:World)(g:Nat)(t:TypeId)(R:Rat->Rat->Int)(p q:Rat):Nat:=open Classical in if h:∃ k,GU w g t (BZ R p q k).1 (BZ R p q k).2 then Classical.choose h else 0
theorem Jo{w:World}{g:Nat}{t:TypeId}{R:Rat->Rat->Int}{p q:Rat}(hpq:p < q){k:Nat}(h:GU w g t (BZ R p q k).1 (BZ R p q k).2):Zc w g t R p q=k:=by
 have hx:∃ k,GU w g t (BZ R p q k).1 (BZ R p q k).2:=⟨k,h⟩
 unfold Zc;rw[dif_pos hx];have:=(Classical.choose_spec hx).inj h;exact dJ hpq this.1 this.2
def K5(F G:Nat->Rat)(p q:Rat)(s:Int):Prop:=(G=pz/\s=0)\/(G≠pz/\rc (AY (CG F G)) p q=1/\s=0) \/
 (G≠pz/\rc (AY (CG F G)) p q≠1/\∃ K,rc (AY G) (BZ (rc (AY F)) p q K).1 (BZ (rc (AY F)) p q K).2=0/\(∀ j,j < K->rc (AY G) (BZ (rc (AY F)) p q j).1 (BZ (rc (AY F)) p q j).2≠0)/\s=Fq (ev G (BZ (rc (AY F)) p q K).2))
theorem K5.uniq{F G:Nat->Rat}{p q:Rat}{s s':Int}(h:K5 F G p q s)(k:K5 F G p q s'):s=s':=by
 rcases h with⟨a,b⟩ | ⟨a,b,c⟩ | ⟨a,b,K,c,d,e⟩<;>rcases k with⟨a',b'⟩ | ⟨a',b',c'⟩ | ⟨a',b',K',c',d',e'⟩
 ·rw[b,b']
 ·exact absurd a a'
 ·exact absurd a a'
 ·exact absurd a' a
 ·rw[c,c']
 ·exact absurd b b'
 ·exact absurd a' a
 ·exact absurd b' b
 ·rcases Nat.lt_trichotomy K K' with z | z | z
  ·exact absurd c (d' K z)
  ·subst z;rw[e,e']
  ·exact absurd c' (d K' z)
def Xu(F G:Nat->Rat)(p q:Rat)(r:Value):Prop:=∃ s E,r = .tuple #[.int .i64 s,.int .i64 E]/\(E≠0->s=0)/\(E=0->K5 F G p q s)/\E=if BO F≠0 then BO F else if BO G=7 then 7 else if p < q/\rc (AY F) p q=1 then 0 else 12
def Rm(F:Nat->Rat):Prop:=∃ D M,Pg F D M/\D<=20
theorem Nq{F:Nat->Rat}(h:BO F=0)(z:ZI F):F≠pz/\pl F<=33/\∀ i,qsz (F i)<=129:=by
 rcases D8 F with⟨_,e⟩ | ⟨_,e⟩ | ⟨a,b,c,_⟩
 ·omega
 ·omega
 ·exact⟨a,b,Zf z c⟩
def TQ(x y:Rat):Rat:=if x < y then y else x
def Ux(x y:Rat):Rat:=if y < x then y else x
def Stp(C:Nat->Rat)(a b:Rat×Rat)(s:Int):Prop:=(a.2<=b.1/\s = -1)\/(¬ a.2<=b.1/\b.2<=a.1/\s=1)\/(¬ a.2<=b.1/\¬ b.2<=a.1/\rc (AY C) (TQ a.1 b.1) (Ux a.2 b.2)=1/\s=0)
def fZ(F G:Nat->Rat)(p q p' q':Rat)(s:Int):Prop:=∃ K,Stp (CG F G) (BZ (rc (AY F)) p q K) (BZ (rc (AY G)) p' q' K) s/\∀ j,j < K->∀ s',¬ Stp (CG F G) (BZ (rc (AY F)) p q j) (BZ (rc (AY G)) p' q' j) s'
def kT(F G:Nat->Rat)(p q p' q':Rat)(r:Value):Prop:=∃ s E,r = .tuple #[.int .i64 s,.int .i64 E]/\(E≠0->s=0)/\(E=0->fZ F G p q p' q' s) /\
 E=if BO F≠0 then BO F else if ¬ (p < q/\rc (AY F) p q=1)then 12 else if BO G≠0 then BO G else if p' < q'/\rc (AY G) p' q'=1 then 0 else 12
structure jX(w:World)(v:Value)(P:Rat×Rat):Prop where
 out:IJ w v P.1 P.2
theorem jX.ext{w w':World}{v:Value}{P:Rat×Rat}(h:jX w v P)(e:Ext w w'):jX w' v P:=⟨h.out.ext e⟩
def lL(w:World)(g:Nat)(t:TypeId)(q:Rat):Prop:=∃ b A n c b' A' n' c',Bf w g t #[.bool b,.slice A n c,.bool b',.slice A' n' c']/\Bt w (.agg #[.bool b,.slice A n c,.bool b',.slice A' n' c']) q
theorem IB{p q:Rat}:Fq (p - q)<=0↔p<=q:=by
 have h:=Fj (p:=p) (q:=q);by_cases hq:q < p
 ·rw[decide_eq_true hq]at h
  have:=of_decide_eq_true h;exact⟨fun _=>Aa,fun _=>Aj⟩
 ·rw[decide_eq_false hq]at h
  have:=of_decide_eq_false h;exact⟨fun _=>Aj,fun _=>Aa⟩
theorem Nv{p q:Rat}:Fq (p - q) > 0↔q < p:=by
 have h:=Fj (p:=p) (q:=q);exact⟨fun h1=>of_decide_eq_true (h▸decide_eq_true h1),fun h1=>of_decide_eq_true (h▸decide_eq_true h1)⟩
theorem MU{p q:Rat}:Fq (p - q) < 0↔p < q:=by
 have h:=Mr (p:=p) (q:=q);exact⟨fun h1=>of_decide_eq_true (h▸decide_eq_true h1),fun h1=>of_decide_eq_true (h▸decide_eq_true h1)⟩
def B7:Nat:=7*(4095*7*15^7*15^7)
theorem D7.div{F E:Nat->Rat}(h:D7 F)(hE:BD E)(hd:Dv E F)(i:Nat):(E i).num.natAbs<=B7:=by
 have hP:=BD.pp h.z h.f h.n0;have hpl:=Ed h.z h.f;have h1:=Qd hP.z hP.f hP.n hE.z hE.f (hP.zdv hE ((Ex h.z h.f).2 hd)) (n:=7) (by rw[hpl];exact h.p) (Q0 hP.z (PZ h.z h.f h.n0 h.b));refine QH hE.z (fun i=>?_) i;refine Std.le_trans (h1 i) ?_;have e:(1:Rat)+2*((7:Nat):Rat)=((15:Nat):Rat):=by exact_mod_cast(rfl:1+2*7=15)
 rw[e,GX];have:((7:Nat):Rat)*(((4095:Nat):Rat)*((7:Nat):Rat)*((15^7:Nat):Rat)*((15^7:Nat):Rat))=((7*(4095*7*15^7*15^7):Nat):Rat):=Nw 7 4095 7 _;rw[this];exact Std.le_refl _
structure Mid(F:Nat->Rat):Prop where
 z:ZI F
 f:Af F
 n0:F≠pz
 p:pl F<=7
 c:cn F<=4095
 d:∀ E,BD E->Dv E F->∀ i,(E i).num.natAbs<=B7
theorem D7.cnt{F:Nat->Rat}(h:D7 F):cn F<=4095:=by
 have hp:=Bc h.f h.n0;have ht:=Es h.f hp;have hd:=Iy h.f (pl F - 1);have hn:(F (pl F - 1)).num≠0:=fun e=>ht (by rw[h.z.num,e];rfl);have h1:Hp.cn F<=(F (pl F - 1)).num.natAbs:=Nat.le_of_dvd Aa (by have:=Int.natAbs_dvd_natAbs.2 hd;simpa using this);exact Nat.le_trans h1 (h.b _)
theorem D7.mid{F:Nat->Rat}(h:D7 F):Mid F:=⟨h.z,h.f,h.n0,h.p,h.cnt,fun _ a b=>h.div a b⟩
theorem UF{F G:Nat->Rat}(zF:ZI F)(fF:Af F)(zG:ZI G)(fG:Af G):Dv (CG F G) F:=(Jg _).trans (GA fF fG zF zG).2.2.2.2.2.2.1
theorem Mid.gcd{F G:Nat->Rat}(h:Mid F)(zG:ZI G)(fG:Af G):Mid (CG F G):=by
 have k:=GA h.f fG h.z zG;have hd:=UF h.z h.f zG fG;refine⟨k.2.1,k.1,Tv h.z h.f zG fG h.n0,Nat.le_trans (Dv.le k.1 h.f h.n0 hd) h.p,?_,fun E a b=>h.d E a (b.trans hd)⟩;rw[k.2.2.2.1];exact Nat.le_trans (Nat.le_of_dvd (Nat.pos_of_ne_zero (IY h.z h.f h.n0)) (Nat.gcd_dvd_left _ _)) h.c
theorem Mid.ppn{F:Nat->Rat}(h:Mid F)(i:Nat):(pp F i).num.natAbs<=B7:=h.d _ (BD.pp h.z h.f h.n0) ((Ex h.z h.f).1 (Dv.refl _)) i
theorem Mid.coef{F:Nat->Rat}(h:Mid F)(i:Nat):(F i).num.natAbs<=4095*B7:=by
 have e:(F i).num=pcn F*(pp F i).num:=by
  have h1:=Om h.z h.f h.n0 i;have h2:(pp F i).num=(F i).num / pcn F:=by rw[h1];rfl
  rw[h2,Int.mul_ediv_cancel' (IP h.f i)]
 rw[e,Int.natAbs_mul,Fg];exact Nat.mul_le_mul h.c (h.ppn i)
theorem Mid.q{F:Nat->Rat}(h:Mid F)(i:Nat):qsz (F i)<=3:=Dj h.z Ab (Nat.lt_of_le_of_lt (h.coef i) (by decide +kernel))
theorem Mid.sqn{F:Nat->Rat}(h:Mid F)(i:Nat):(AY F i).num.natAbs<=B7:=h.d _ (Cu h.z h.f h.n0).p (Jf h.z h.f h.n0) i
theorem Mid.chn{F:Nat->Rat}(h:Mid F):L8 (AY F) 3 (pl (AY F)+pl (pd (AY F))) 32768/\pl (AY F)+pl (pd (AY F))<=13:=by
 have h1:=h.sqn;have h2:=Nat.le_trans (Zp h.z h.f h.n0) h.p;have hS:=Cu h.z h.f h.n0;have h3:=KO hS.p.f;have h4:=Bc hS.p.f hS.p.n;have hD:pl (AY F)+pl (pd (AY F))<=13:=by omega
 have hp:2^(pl (AY F)+pl (pd (AY F)))<=2^13:=Nat.pow_le_pow_right Ab hD;have hm:(pl (AY F)+pl (pd (AY F))+1)*(32768+1)<=14*32769:=Nat.mul_le_mul_right _ Aa;refine⟨⟨hS.p.z,hS.p.f,fun i=>Dj hS.p.z Ab (Nat.lt_of_le_of_lt (h1 i) (by decide +kernel)),fun i=>Dj (Ez hS.p.z) Ab (Nat.lt_of_le_of_lt (Ob hS.p.z hS.p.f (n:=6) Aa h1 i) (by decide +kernel)),rfl,Aa,Aa,Aa⟩,hD⟩
theorem Mid.sim{F:Nat->Rat}(h:Mid F):PH F 3 7 32768 36000:=by
 have hP:=BD.pp h.z h.f h.n0;have hpl:=Ed h.z h.f;have hpn:=h.ppn;exact⟨h.z,h.f,h.n0,h.q,fun i=>Dj (Ez hP.z) Ab (Nat.lt_of_le_of_lt (Ob hP.z hP.f (n:=6) (by rw[hpl];exact h.p) hpn i) (by decide +kernel)),
  fun i=>Va hP (n:=7) (s:=3) (by rw[hpl];exact h.p) Ab (fun i=>Dj hP.z Ab (Nat.lt_of_le_of_lt (hpn i) (by decide +kernel))) Ab i,h.p,Ab,Ab,Ab,Ab⟩
theorem Mid.err{F:Nat->Rat}(h:Mid F):BO F=0:=by
 refine MJ h.n0 (by have:=h.p;omega) fun⟨i,b,h1,h2⟩=>?_;have:=h1.le (m:=96) (Nat.lt_of_le_of_lt (h.coef i) (by decide +kernel));omega
theorem Mid.pg{F:Nat->Rat}(h:Mid F):Pg F (pl (AY F)+pl (pd (AY F))) 32768:=
 ⟨h.z,h.f,h.n0,h.err,fun i=>Nat.le_trans (h.q i) Ab,by have:=h.p;omega,⟨3,7,32768,36000,h.sim⟩,⟨3,h.chn.1⟩⟩
theorem Mid.rm{F:Nat->Rat}(h:Mid F):Rm F:=⟨_,_,h.pg,by have:=h.chn.2;omega⟩
theorem Mid.nice{F:Nat->Rat}(h:Mid F):Rp F:=⟨h.z,h.f,h.n0,fun E hE hd i=>Dj hE.p.z Ab (Nat.lt_of_le_of_lt (h.d E hE.p hd i) (by decide +kernel))⟩
theorem Mid.rcr{l:List Int}(h:Mid (cz l))(hl:l.length<=1000):nH l (AY (cz l)) 3 7 32768 36000 600000 3 (pl (AY (cz l))+pl (pd (AY (cz l)))) 32768 (kn (AY (cz l))):=
 ⟨Aa,h.sim,Aa,Aa,Aa,Aa,rfl,h.chn.1,(Cu h.z h.f h.n0).st.k⟩
theorem dO{A B:Nat->Rat}(fA:Af A)(h:Dv A B){x:Rat}(h0:ev A x=0):ev B x=0:=by
 obtain⟨Q,fQ,rfl⟩:=h;rw[Fs fQ fA,h0,Rat.mul_zero]
theorem dP{F:Nat->Rat}(f:Af F){x:Rat}:∀ N,ev (pw F N) x=0->ev F x=0
 | 0,h=>by
  have e:ev pone x=1:=MG x;rw[show pw F 0=pone from rfl,e]at h;exact absurd h Ab
 | N+1,h=>by
  rw[show pw F (N+1)=cv (pw F N) F from rfl,Fs (Ql f N) f]at h;rcases Rat.mul_eq_zero.1 h with z | z
  ·exact dP f N z
  ·exact z
theorem Zx{F:Nat->Rat}(z:ZI F)(f:Af F)(h0:F≠pz){x:Rat}(h:ev F x=0):ev (AY F) x=0:=by
 have hP:=BD.pp z f h0;have h1:ev (pp F) x=0:=dO f ((Ex z f).2 (Dv.refl F)) h;obtain⟨hC,hW,e,-,-⟩:=EH hP;obtain⟨N,hN⟩:=Yr hP;have h2:ev (cv (y0 (pp F)) (yc (pp F))) x=0:=(congrArg (fun G=>ev G x) e).symm.trans h1;rw[Fs hW.f hC.f]at h2;rcases(Rat.mul_eq_zero.1 h2).symm with a | a
 ·exact dP hW.f N (dO hC.f hN a)
 ·exact a
theorem bS{F:Nat->Rat}(z:ZI F)(f:Af F)(h0:F≠pz){p q:Rat}(hpq:p < q)(h:rc (AY F) p q=0):ev F q≠0:=fun e=>by
 have h1:1<=rc (AY F) p q:=(Cu z f h0).st.zero_counts hpq (Std.le_refl _) (Zx z f h0 e);omega
theorem Yk{W:Nat->Rat}(h:BD W):CG W W=W:=by
 have k:=GA h.f h.f h.z h.z;obtain⟨hG,-,-,g1,-⟩:=h.gcd h.z h.f;have g3:=k.2.2.2.2.2.2.2.2 _ h.f (Dv.refl W) (Dv.refl W);exact hG.eq_dv h g1 (g3.trans (IX hG.f))
theorem RO{F:Nat->Rat}(z:ZI F)(f:Af F)(h0:F≠pz):AY (CG F F)=AY F:=by
 rw[Vh z f h0 z f h0,Yk (Cu z f h0).p]
theorem N9{F:Nat->Rat}(z:ZI F)(f:Af F)(h0:F≠pz){p q:Rat}(hpq:p < q)(h1:rc (AY F) p q=1):∀ s,Stp (CG F F) (p,q) (p,q) s↔s=0:=by
 intro s;have e1:TQ p p=p:=by unfold TQ;split<;>rfl
 have e2:Ux q q=q:=by unfold Ux;split<;>rfl
 have hn:¬ q<=p:=by grind
 constructor
 ·rintro(⟨a,-⟩ | ⟨-,a,-⟩ | ⟨-,-,-,a⟩)
  ·exact absurd a hn
  ·exact absurd a hn
  ·exact a
 ·intro e
  refine .inr (.inr ⟨hn,hn,?_,e⟩);show rc (AY (CG F F)) (TQ p p) (Ux q q)=1;rw[e1,e2,RO z f h0];exact h1
theorem Tz{F:Nat->Rat}(z:ZI F)(f:Af F)(h0:F≠pz){p q:Rat}(hpq:p < q)(h1:rc (AY F) p q=1){s:Int}(h:fZ F F p q p q s):s=0:=by
 obtain⟨K,a,b⟩:=h;rcases Nat.eq_zero_or_pos K with e | e
 ·subst e
  exact(N9 z f h0 hpq h1 s).1 a
 ·exact absurd ((N9 z f h0 hpq h1 0).2 rfl) (b 0 e 0)
theorem P8(R:Rat->Rat->Int)(p q:Rat)(k:Nat):BZ R (BZ R p q k).1 (BZ R p q k).2 1=BZ R p q (k+1):=rfl
theorem Z8:pl (cz [0,1])=2:=JR (BH [0,1]) (fun _=>by decide +kernel)
theorem L6:D7 (cz [0,1]):=by
 refine⟨ZI.cz _,Af.cz _,fun e=>by have:=Z8;rw[e,BS]at this;omega,by rw[Z8];decide,fun i=>?_⟩
 match i with
 | 0=>decide +kernel
 | 1=>decide +kernel
 | i+2=>rw[Ht Ac];decide
theorem YU{F G:Nat->Rat}(hF:Mid F)(zG:ZI G)(fG:Af G){p q:Rat}(hpq:p<=q):0<=rc (AY (CG F G)) p q/\rc (AY (CG F G)) p q<=rc (AY F) p q:=by
 have hC:=hF.gcd zG fG;have sC:=Cu hC.z hC.f hC.n0;have sF:=Cu hF.z hF.f hF.n0;exact⟨sC.nonneg hpq,sF.rc_le sC.p (MI hF.z hF.f hF.n0 sC ((Jf hC.z hC.f hC.n0).trans (UF hF.z hF.f zG fG))) hpq⟩
theorem GK{p:Rat}(h:qsz p<=12):ab p<=2^400 - 1:=by
 obtain⟨E,hE⟩:∃ E,E=400:=⟨_,rfl⟩
 have h1:=(LY h).1;have h2:=XF (b:=E) (32*12) Aa;rw[hE]at h2;exact Std.le_trans h1 h2
theorem Oq{F G:Nat->Rat}(hF:Mid F)(hG:Mid G)(hD:pl F+pl G<=13){p q:Rat}(hpq:p < q)(hp:ab p<=2^400 - 1)(hq:ab q<=2^400 - 1)(h1:rc (AY F) p q=1) :
  ∃ K,K<=1000001000/\(rc (AY (CG F G)) p q≠1->rc (AY G) (BZ (rc (AY F)) p q K).1 (BZ (rc (AY F)) p q K).2=0/\∀ j,j < K->rc (AY G) (BZ (rc (AY F)) p q j).1 (BZ (rc (AY F)) p q j).2≠0):=by
 by_cases hc:rc (AY (CG F G)) p q=1
 ·exact⟨0,Aa,fun h=>absurd hc h⟩
 ·have hg:=YU hF hG.z hG.f (Std.le_of_lt hpq)
  obtain⟨K,a,b,c⟩:=hF.nice.stop hG.nice hD hpq hp hq h1 Aa;exact⟨K,a,fun _=>⟨b,c⟩⟩
theorem Xn{F G:Nat->Rat}(hF:Mid F)(hG:Mid G)(hD:pl F+pl G<=13){p q:Rat}(hpq:p < q)(hp:ab p<=2^400 - 1)(hq:ab q<=2^400 - 1)(h1:rc (AY F) p q=1):∃ s,K5 F G p q s:=by
 by_cases hc:rc (AY (CG F G)) p q=1
 ·exact⟨0,.inr (.inl ⟨hG.n0,hc,rfl⟩)⟩
 ·obtain⟨K,-,h⟩:=Oq hF hG hD hpq hp hq h1
  obtain⟨a,b⟩:=h hc;exact⟨_,.inr (.inr ⟨hG.n0,hc,K,a,b,rfl⟩)⟩
theorem Zz(w:World)(t:TypeId){g:Nat}(hg:g=w.heap.size){b1 b2 b3 b4:Value}{A1 A2 A3 A4:Option Addr}{n1 n2 n3 n4 c1 c2 c3 c4:Nat}
  (h1:n1<=1000000000000/\n2<=1000000000000/\n3<=1000000000000/\n4<=1000000000000) :
  mJ (w.alloc (.cells #[b1,.slice A1 n1 c1,b2,.slice A2 n2 c2,b3,.slice A3 n3 c3,b4,.slice A4 n4 c4] t)) g [(n1,n2,n3,n4)]:=by
 subst hg;intro j hj;have hj2:j < 1:=by simpa using hj
 have hc:∀ i,(w.alloc (.cells #[b1,.slice A1 n1 c1,b2,.slice A2 n2 c2,b3,.slice A3 n3 c3,b4,.slice A4 n4 c4] t)).cell? ⟨w.heap.size,i,none⟩=_:=fun i=>cell_of_row _ w.heap.size i _ t (0,0) (heap_alloc_new w _)
 match j,hj2 with
 | 0,_=>exact⟨A1,c1,A2,c2,A3,c3,A4,c4,hc 1,hc 3,hc 5,hc 7,h1⟩
theorem mY:∀ x∈([0,1]:List Int),sz x.natAbs<=1:=by decide +kernel
end Go.Hp
namespace Go.Proofs.YtmhgnigpmompmaaGreat
open Go.RowKit Go.Hp
theorem Xk(v a b:Value)(F:Nat->Rat)(p q:Rat)(D M t base:Nat)(w:World)(hR:Pg F D M)(hD:D<=20)(hp:qsz p<=t)(hq:qsz q<=t)(ht:t<=4500000000)(hv:JW base 23 w v (AY F))(ha:Bt w a p)(hb:Bt w b q) :
  Ba 51 #[v,a,b] w (fun r _=>r = .int .i64 (rc (AY F) p q)):=by
 obtain⟨S,hC⟩:=hR.chn;have hM:=hR.lim.1;have hm:D*(M+t+1)<=20*(M+t+1):=Nat.mul_le_mul_right _ hD;have:=Zm v a b (AY F) p q base S D M t (kn (AY F)) w hv ha hb hC hR.k hp hq Aa;rw[show((V (EC (AY F) (pd (AY F)) (kn (AY F))) p:Nat):Int) - (V (EC (AY F) (pd (AY F)) (kn (AY F))) q:Nat)=rc (AY F) p q from IQ hR.k p q]at this;exact this
set_option maxRecDepth 20000 in
theorem Ws(v u i0:Value)(m l:List Int)(p q:Rat)(t:Nat)(w:World)(hv:Cv 0 w v m)(hu:Cv 0 w u l)(hi:IJ w i0 p q)(hm:m.length<=1000000)(hl:l.length<=1000000)
  (hF:BO (cz l)=0->Rm (cz l)) (hG:BO (cz m)=0->Rm (cz m)) (hC:BO (cz l)=0->BO (cz m)=0->Rm (CG (cz l) (cz m)))
  (hgcd:BO (cz l)=0->BO (cz m)=0->∀ X a b,AC 0 X a (cz l)->AC 0 X b (cz m)->Ba 42 #[a,b] X (fun r w'=>AC 0 w' r (CG (cz l) (cz m))))
  (hK:BO (cz l)=0->BO (cz m)=0->p < q->rc (AY (cz l)) p q=1->rc (AY (CG (cz l) (cz m))) p q≠1->∃ K,K<=1000001000/\rc (AY (cz m)) (BZ (rc (AY (cz l))) p q K).1 (BZ (rc (AY (cz l))) p q K).2=0/\∀ j,j < K->rc (AY (cz m)) (BZ (rc (AY (cz l))) p q j).1 (BZ (rc (AY (cz l))) p q j).2≠0)
  (hp:qsz p<=t) (hq:qsz q<=t) (ht:t<=1000000000) :
  Ba 40 #[v,u,i0] w (fun r _=>Xu (cz l) (cz m) p q r):=by
 have HV:=Ad (Ah hv hu);have HH:=Ad (Ah hF (Ah hG (Ah hC (Ah hgcd hK))));have HP:=Ad (Ah hp hq);obtain⟨A,c,rfl⟩:=hv.len;obtain⟨A',c',rfl⟩:=hu.len;obtain⟨b1,B1,m1,k1,b2,B2,m2,k2,b3,B3,m3,k3,b4,B4,m4,k4,rfl,hi1,hi2⟩:=hi;have HI:=Ad (Ah hi1 hi2);clear hv hu hF hG hC hgcd hK hi1 hi2 hp hq
 go_enter Tryz.func40,Tryz.ntmps40
 obtain⟨W1,eW1,eb,y1⟩:=Bf.made w 30 #[.bool b1,.slice B1 m1 k1,.bool b2,.slice B2 m2 k2,.bool b3,.slice B3 m3 k3,.bool b4,.slice B4 m4 k4] (by simp[Ag]);have hx:=y1
 go_upto_region 1 with(fail)
 rw[<-eW1];clear y1 eW1
 go_wp2_with fail
 refine AA (LZ _ l _ (HV.out.2.ext hx) hl) ?_;rintro r2 w2 ⟨u,rfl,hu1,hu2⟩ hx2;replace eb:=eb.ext hx2;replace hx:=hx.trans hx2;clear hx2;have hgb:=eb.lt;obtain⟨E,hE⟩:∃ E,E=BO (cz l):=⟨_,rfl⟩
 have hc:=D8 (cz l);rw[<-hE]at hu1 hu2 hc ⊢;have HE:=Ad hE;clear hE;rcases hc with⟨-,hc⟩ | ⟨-,hc⟩ | ⟨h0,hpl,-,hc⟩
 ·subst hc
  clear hu1 hu2;go_wp2;refine bodyPost_ret (v := .tuple #[.int .i64 0,.int .i64 5]) (by simp[results,Tryz.results40,go_sem]) rfl ?_;exact Ae.mk ⟨0,5,rfl,fun _=>rfl,fun e=>absurd e Ab,by rw[<-HE.out];rw[if_pos Ab]⟩ hx
 ·subst hc
  clear hu1 hu2;go_wp2;refine bodyPost_ret (v := .tuple #[.int .i64 0,.int .i64 7]) (by simp[results,Tryz.results40,go_sem]) rfl ?_;exact Ae.mk ⟨0,7,rfl,fun _=>rfl,fun e=>absurd e Ab,by rw[<-HE.out];rw[if_pos Ab]⟩ hx
 subst hc;have hu:=hu1 rfl;obtain⟨A1,c1,rfl,-⟩:=hu.shape;have HU:=Ad hu;clear hu1 hu2 h0 hu hpl
 go_wp2_with fail
 refine AA (Vn _ m _ (HV.out.1.ext hx) hm) ?_;rintro r3 w3 ⟨z,rfl,hz1,hz2⟩ hx3;have HU3:=Ad (HU.out.ext hx3);clear HU;have hs23:w2.heap.size<=w3.heap.size:=hx3.size;replace eb:=eb.ext hx3;replace hx:=hx.trans hx3;clear hx3;obtain⟨E2,hE2⟩:∃ E,E=BO (cz m):=⟨_,rfl⟩
 have hc:=D8 (cz m);rw[<-hE2]at hz1 hz2 hc ⊢;have HE2:=Ad hE2;clear hE2;by_cases h7:E2=7
 ·subst h7
  clear hz1 hz2 hc;go_wp2;refine bodyPost_ret (v := .tuple #[.int .i64 0,.int .i64 7]) (by simp[results,Tryz.results40,go_sem]) rfl ?_;exact Ae.mk ⟨0,7,rfl,fun _=>rfl,fun e=>absurd e Ab,by rw[<-HE.out];rw[if_neg Ab,if_pos HE2.out.symm]⟩ hx
 have hzz:AC w2.heap.size w3 z (cz m)/\(cz m≠pz->E2=0):=by
  rcases hc with⟨a,e⟩ | ⟨a,e⟩ | ⟨a,-,-,e⟩
  ·rw[hz2 Aa,a]
   exact⟨AC.nil _ _,fun h=>absurd rfl h⟩
  ·exact absurd e h7
  ·exact⟨hz1 e,fun _=>e⟩
 have hb7:(E2==7)=false:=beq_eq_false_iff_ne.2 h7;obtain⟨A2,c2,rfl,-⟩:=hzz.1.shape;have HZ:=Ad (Ah hzz (show BO (cz m)≠7 from fun e=>h7 (HE2.out.trans e)));clear hz1 hz2 hc hzz h7;obtain⟨D1,M1,hR1,hD1⟩:=HH.out.1 HE.out.symm;have H1:=Ad hR1;clear hR1
 go_wp2_with fail
 refine AA (EE _ (cz l) D1 M1 _ HU3.out H1.out) ?_;rintro r4 w4 hr4 hx4;obtain⟨cA,cn,cc,rfl⟩:=hr4.cell;obtain⟨W5,eW5,ec,y5⟩:=Bf.made w4 92 #[.slice cA cn cc] (by simp[Ag]);have hcn:=hr4.ext y5;have hx45:=hx4.trans y5;have hgc:w3.heap.size<=w4.heap.size:=hx4.size;have HUZ:=Ad (Ah (HU3.out.ext hx45) (HZ.out.1.1.ext hx45));clear HU3;replace eb:=eb.ext hx45;replace hx:=hx.trans hx45;clear hx45;clear hr4 hx4 y5
 go_upto_region 8 with(fail)
 rw[<-eW5];clear eW5;generalize w4.heap.size=gc at *;have ceb:=eb.cells8;have feb:=eb.frozen;have cec0:=ec.cells1;have HC:=Ad hcn;clear hcn
 go_wp2_with fail
 refine AA (PQ _ _ (cz l) p q D1 M1 t _ _ H1.out hD1 HP.out.1 HP.out.2 Aa HC.out ⟨_,_,_,_,_,_,_,_,_,_,_,_,_,_,_,_,rfl,HI.out.1.ext hx,HI.out.2.ext hx⟩) ?_;rintro r6 w6 rfl hx6;have hcn:=HC.out.ext hx6;have HUZ6:=Ad (Ah (HUZ.out.1.ext hx6) (HUZ.out.2.ext hx6));clear HUZ;clear ceb feb cec0 HC;replace eb:=eb.ext hx6;replace ec:=ec.ext hx6;replace hx:=hx.trans hx6;clear hx6;by_cases hone:p < q/\rc (AY (cz l)) p q=1
 case neg =>
  rw[decide_eq_false hone];clear hcn;go_wp2;refine bodyPost_ret (v := .tuple #[.int .i64 0,.int .i64 12]) (by simp[results,Tryz.results40,go_sem]) rfl ?_;exact Ae.mk ⟨0,12,rfl,fun _=>rfl,fun e=>absurd e Ab,by rw[<-HE.out];rw[if_neg Ab,if_neg HZ.out.2,if_neg hone]⟩ hx
 rw[decide_eq_true hone];have HO:=Ad hone;clear hone;have HE0:=Ad (show(0:Int)=if BO (cz l)≠0 then BO (cz l)else if BO (cz m)=7 then 7 else if p < q/\rc (AY (cz l)) p q=1 then 0 else 12 from by rw[<-HE.out,if_neg Ab,if_neg HZ.out.2,if_pos HO.out]);by_cases hp0:pl (cz m)=0
 ·have hmz:cz m=pz:=(Bz (Af.cz m)).1 hp0
  have HM:=Ad hmz;clear hmz;rw[hp0];clear hcn;go_wp2;refine bodyPost_ret (v := .tuple #[.int .i64 0,.int .i64 0]) (by simp[results,Tryz.results40,go_sem]) rfl ?_;exact Ae.mk ⟨0,0,rfl,fun _=>rfl,fun _ => .inl ⟨HM.out,rfl⟩,HE0.out⟩ hx
 have hmz:cz m≠pz:=fun e=>hp0 (by rw[e,BS]);have e2:=HZ.out.1.2 hmz;have HM:=Ad (Ah hmz (HE2.out.symm.trans e2));clear hmz;have hb0:(((pl (cz m):Nat):Int)==0)=false:=beq_eq_false_iff_ne.2 Aa;obtain⟨C,hCe⟩:∃ C,C=CG (cz l) (cz m):=⟨_,rfl⟩
 have HCe:=Ad hCe;clear hCe;have hgc0:=HH.out.2.2.2.1 HE.out.symm HM.out.2;rw[<-HCe.out]at hgc0;have HG:=Ad hgc0;clear hgc0;have HCN:=Ad hcn;clear hcn
 go_wp2_with fail
 refine AA (HG.out _ _ _ HUZ6.out.1 (HUZ6.out.2.base_le (Nat.zero_le _))) ?_;rintro r7 w7 hr7 hx7;obtain⟨A3,c3,rfl,-⟩:=hr7.shape;have HU7:=Ad (Ah hr7 (Ah (HUZ6.out.2.ext hx7) (HCN.out.ext hx7)));clear HUZ6 HCN hr7;replace eb:=eb.ext hx7;replace ec:=ec.ext hx7;replace hx:=hx.trans hx7;clear hx7;obtain⟨N3,hN3⟩:∃ N,N=pl C:=⟨_,rfl⟩
 rw[<-hN3];have HN3:=Ad hN3;clear hN3;obtain⟨D3,M3,hR3,hD3⟩:=HH.out.2.2.1 HE.out.symm HM.out.2;rw[<-HCe.out]at hR3;have H3:=Ad hR3;clear hR3;obtain⟨X,hX⟩:∃ X,X=rc (AY C) p q:=⟨_,rfl⟩
 have HX:=Ad hX;clear hX
 go_upto_region 13 with(fail)
 have ceb:=eb.cells8;have feb:=eb.frozen
 go_cut [52] (fun bv wx=>bv = .bool (decide (X=1))/\Ext w7 wx)
 case first =>
  rename_i hJ hM';by_cases hp1:N3<=1
  ·have hX0:X=0:=by
    rw[HX.out];exact QY H3.out.z H3.out.f H3.out.n0 (by rw[<-HN3.out];exact hp1) (Std.le_of_lt HO.out.1)
   have HD:=Ad (show decide (X=1)=false from decide_eq_false Aa);clear hX0;rcases(show N3=0\/N3=1 by omega)with rfl | rfl
   all_goals
    clear hp1
    go_region
    refine hM' _ _ (Met.intro (hJ _ _ ?_))
    (repeat apply Exists.intro)
    refine⟨?rel,rfl⟩
    case rel=>exact⟨by rw[HD.out],(Ext.refl _).drew⟩
  ·have HN:=Ad (show decide (1 < (N3:Int))=true from decide_eq_true Aa);clear hp1
   have HU8:=Ad (Ah (show AC 0 w7 (.slice A3 N3 c3) C from by rw[HN3.out];exact HU7.out.1) (Ah (HI.out.1.ext hx) (HI.out.2.ext hx)));refine CE 10 [40,41,42,43,44,45,46,47,48,49] [10,5] [_,_] [(kv ?_),(kv ?_),(kv (.bool true)),(kv (.bool true)),(kv ?_),(fun γ=>γ 5),(kv ?_),(kv ?_),(kv ?_),(kv ?_)] (fun γ w'=>[True,True,True,True,True,JW 0 23 w' (γ 5) (AY C),True,True,True,True]) ?s1 ?_
   case s1 =>
    iterate 10 refine⟨?_,?_⟩
    trivial
    iterate 2 focus
     refine AV fun _ w' he R hR=>?_;have hc:=he.cells;go_simp;(try go_ints);(try(rw[if_neg Aa]));(try(rw[if_pos Aa]));(try go_simp);(try go_ints)
     exact Bj hR
    ·refine AV fun _ w' he R hR=>?_
     have hc:=he.cells;go_simp
     (try go_ints);(try(rw[if_neg Aa]));(try(rw[if_pos Aa]));(try go_simp);(try go_ints)
     refine hR _ _ (Ext.refl _) ?_ trivial;rw[HN.out];rfl
    ·refine AV fun _ w' he R hR=>?_
     have hc:=he.cells;go_simp
     (try go_ints);(try(rw[if_neg Aa]));(try(rw[if_pos Aa]));(try go_simp);(try go_ints)
     exact Bj hR
    iterate 1 focus
     intro γ w' he hf;clear hf;refine⟨by trivial,?_⟩;intro R hR;have hc:=he.cells;go_simp;exact Bj hR
    ·intro γ w' he hf;clear hf;refine⟨rfl,?_⟩;intro R hR
     go_simp;exact Be (F:=fun r w''=>JW 0 23 w'' (r) (AY C)) (Ae.imp (EE _ C D3 M3 w' (HU8.out.1.ext he) H3.out) fun _ _ h=>h.lower (Nat.zero_le _)) hR
    iterate 4 focus
     intro γ w' he hf;clear hf;refine⟨by trivial,?_⟩;intro R hR;have hc:=he.cells;have cq0:=(eb.ext he).cells8;go_simp;exact Bj hR
   intro γ w8 hx8 hF;have p5:JW 0 23 w8 (γ 5) (AY C):=Ak.get hF 5 Ab;clear hF;simp only[Bg,Nat.reduceAdd];generalize γ 5=g5 at *;clear γ;obtain⟨dA,dn,dc,rfl⟩:=p5.cell;have hin:=Xk _ _ _ C p q D3 M3 t _ _ H3.out hD3 HP.out.1 HP.out.2 Aa p5 (HU8.out.2.1.ext hx8) (HU8.out.2.2.ext hx8);rw[<-HX.out]at hin;have HIN:=Ad hin;clear hin p5
   go_wp2_with fail
   refine AA HIN.out ?_;rintro r9 w9 rfl hx9;have hx10:=hx8.trans hx9;clear ceb feb HIN HU8;by_cases hX1:X=1
   ·subst hX1
    go_wp2
    go_meet
    case rel=>exact⟨rfl,hx10⟩
   ·have hbX:(X==1)=false:=beq_eq_false_iff_ne.2 hX1
    have HD:=Ad (decide_eq_false hX1);clear hX1;go_wp2
    go_meet
    case rel=>exact⟨by rw[HD.out],hx10⟩
 case rest =>
  clear ceb feb;obtain⟨rfl,hx8⟩:=hcut;have HU8:=Ad (Ah (HU7.out.2.1.ext hx8) (HU7.out.2.2.ext hx8));clear HU7;replace eb:=eb.ext hx8;replace ec:=ec.ext hx8;replace hx:=hx.trans hx8;clear hx8;by_cases hX1:X=1
  ·rw[decide_eq_true hX1]
   have HX1:=Ad hX1;clear hX1;go_wp2;refine bodyPost_ret (v := .tuple #[.int .i64 0,.int .i64 0]) (by simp[results,Tryz.results40,go_sem]) rfl ?_;exact Ae.mk ⟨0,0,rfl,fun _=>rfl,fun _ => .inr (.inl ⟨HM.out.1,by rw[<-HCe.out,<-HX.out,HX1.out],rfl⟩),HE0.out⟩ hx
  rw[decide_eq_false hX1];have HX1:=Ad (show rc (AY (CG (cz l) (cz m))) p q≠1 by rw[<-HCe.out,<-HX.out];exact hX1);clear hX1;obtain⟨K,hK9,hK0,hKn⟩:=HH.out.2.2.2.2 HE.out.symm HM.out.2 HO.out.1 HO.out.2 HX1.out;have HKK:=Ad (Ah hK0 hKn);clear hK0 hKn;obtain⟨D2,M2,hR2,hD2⟩:=HH.out.2.1 HM.out.2;have H2:=Ad hR2;clear hR2;have HSM:=Ad (Nq HM.out.2 (ZI.cz m))
  go_wp2_with fail
  refine AA (EE _ (cz m) D2 M2 _ (HU8.out.1.base_le (Nat.zero_le _)) H2.out) ?_;rintro r9 w9 hr9 hx9;obtain⟨dA,dn,dc,rfl⟩:=hr9.cell;obtain⟨W10,eW10,ed,y10⟩:=Bf.made w9 92 #[.slice dA dn dc] (by simp[Ag]);have hx910:=hx9.trans y10;have hb9:w.heap.size < wc.heap.size:=eb.lt;have hgd:wc.heap.size<=w9.heap.size:=hx9.size;have hc1:=HU8.out.2.ext hx910;have hc2:=hr9.ext y10;have hg0:=HU8.out.1.ext hx910;replace eb:=eb.ext hx910
  replace ec:=ec.ext hx910;replace hx:=hx.trans hx910;clear hx910;clear hr9 hx9 y10 HU8;have hbx:GU W10 w.heap.size 30 (BZ (rc (AY (cz l))) p q 0).1 (BZ (rc (AY (cz l))) p q 0).2:=⟨_,_,_,_,_,_,_,_,_,_,_,_,_,_,_,_,eb,HI.out.1.ext hx,HI.out.2.ext hx⟩
  clear eb HI;go_wp2;rw[<-eW10];clear eW10;generalize w9.heap.size=gd at *
  go_loopw [] (fun wr=>∃ k:Nat,k<=K/\GU wr w.heap.size 30 (BZ (rc (AY (cz l))) p q k).1 (BZ (rc (AY (cz l))) p q k).2/\Bf wr gc 92 #[.slice cA cn cc]/\Bf wr gd 92 #[.slice dA dn dc]/\JW w3.heap.size 23 wr (.agg #[.slice cA cn cc]) (AY (cz l))/\JW wc.heap.size 23 wr (.agg #[.slice dA dn dc]) (AY (cz m))/\AC w2.heap.size wr (.slice A2 (pl (cz m)) c2) (cz m)/\Ext w wr) (fun wr=>K - Zc wr w.heap.size 30 (rc (AY (cz l))) p q)
  case atStart=>exact⟨0,Aa,hbx,ec,ed,hc1,hc2,hg0,hx⟩
  case round =>
   clear hbx ec ed hc1 hc2 hg0 hx;obtain⟨k,hk,hbi,ec,ed,hc1,hc2,hg0,hx⟩:=hrel;have HPN:=Ad (Jo HO.out.1 hbi);have z1:=Ff (R:=rc (AY (cz l))) HP.out.1 HP.out.2 k;obtain⟨P,hPe⟩:∃ P,P=BZ (rc (AY (cz l))) p q k:=⟨_,rfl⟩
   rw[<-hPe]at hbi z1;obtain⟨b1,B1,m1,k1,b2,B2,m2,k2,b3,B3,m3,k3,b4,B4,m4,k4,eb,i1,i2⟩:=hbi;have HC:=Ad (Ah hc1 (Ah hc2 (Ah i1 i2)));clear hc1 hc2 i1 i2;have HG0:=Ad hg0;clear hg0;have HS:=Ad (Ah z1 hPe);clear z1 hPe;have hin:=Xk _ _ _ (cz m) P.1 P.2 D2 M2 _ _ wr H2.out hD2 HS.out.1.1 HS.out.1.2.1 Aa HC.out.2.1 HC.out.2.2.1 HC.out.2.2.2;have hnn:=H2.out.sf.nonneg (p:=P.1) (q:=P.2) (by rw[HS.out.2];exact Std.le_of_lt ((Dr (rc (AY (cz l))) p q k).within HO.out.1).2.1)
   obtain⟨Y,hY⟩:∃ Y,Y=rc (AY (cz m)) P.1 P.2:=⟨_,rfl⟩
   rw[<-hY]at hin hnn;have HIN:=Ad hin;clear hin;have HY:=Ad hY;clear hY;have ceb:=eb.cells8;have feb:=eb.frozen;have cec0:=ec.cells1;have ced0:=ed.cells1
   go_wp2_with fail
   refine AA HIN.out ?_;rintro r11 w11 rfl hx11;have HC2:=Ad (Ah (HC.out.1.ext hx11) (Ah (HC.out.2.1.ext hx11) (Ah (HC.out.2.2.1.ext hx11) (HC.out.2.2.2.ext hx11))));clear HC HIN;have HG1:=Ad (HG0.out.ext hx11);clear HG0;clear ceb feb cec0 ced0;replace eb:=eb.ext hx11;replace ec:=ec.ext hx11;replace ed:=ed.ext hx11;replace hx:=hx.trans hx11;clear hx11;by_cases hY0:0 < Y
   ·have hkK:k < K:=by
     rcases Nat.lt_or_ge k K with h | h
     ·exact h
     ·obtain rfl:k=K:=by omega
      have h1:=HKK.out.1;rw[<-HS.out.2,<-HY.out]at h1;omega
    have hI:=HC2.out.2.2;rw[HS.out.2]at hI;have HI2:=Ad hI;clear hI;have ceb:=eb.cells8;have feb:=eb.frozen;have cec0:=ec.cells1
    go_wp2_with fail
    refine AA (KA _ _ (cz l) p q D1 M1 t k _ _ H1.out hD1 HP.out.1 HP.out.2 Aa HC2.out.1 ⟨_,_,_,_,_,_,_,_,_,_,_,_,_,_,_,_,rfl,HI2.out.1,HI2.out.2⟩) ?_;rintro r12 w12 ⟨g1,G1,e5,f5,g2,G2,e6,f6,g3,G3,e7,f7,g4,G4,e8,f8,rfl,j1,j2⟩ hx12;have hc1:=HC2.out.1.ext hx12;have hc2:=HC2.out.2.1.ext hx12;have hg0:=HG1.out.ext hx12;clear ceb feb cec0 HC2 HI2;replace eb:=eb.ext hx12;replace ec:=ec.ext hx12;replace ed:=ed.ext hx12
    replace hx:=hx.trans hx12;clear hx12;have ceb:=eb.cells8;have feb:=eb.frozen;go_wp2;obtain⟨W13,eW,eb',U⟩:=eb.put8 (.bool g1) (.slice G1 e5 f5) (.bool g2) (.slice G2 e6 f6) (.bool g3) (.slice G3 e7 f7) (.bool g4) (.slice G4 e8 f8);rw[<-eW];clear eW eb;replace j1:=j1.kd U.kd;replace j2:=j2.kd U.kd;replace ec:=ec.upd U Ai;replace ed:=ed.upd U Ai;replace hc1:=hc1.upd U Ai;replace hc2:=hc2.upd U Ai;replace hg0:=hg0.upd U Ai
    replace hx:=U.from_ hx Ai;have eb:=eb';clear U eb';clear ceb feb;have hbx:GU W13 w.heap.size 30 (BZ (rc (AY (cz l))) p q (k+1)).1 (BZ (rc (AY (cz l))) p q (k+1)).2:=⟨_,_,_,_,_,_,_,_,_,_,_,_,_,_,_,_,eb,j1,j2⟩
    have HPN2:=Ad (Jo HO.out.1 hbx)
    go_roundw
    case rel=>exact⟨k+1,Aa,hbx,ec,ed,hc1,hc2,hg0,hx⟩
    case measure=>rw[HPN.out,HPN2.out];omega
   ·have hkK:k=K:=by
     rcases Nat.lt_or_ge k K with h | h
     ·have h1:=HKK.out.2 k h
      rw[<-HS.out.2,<-HY.out]at h1;omega
     ·omega
    subst hkK;have hev:∀ X v u,AC 0 X v (cz m)->Bt X u P.2->Ba 90 #[v,u] X (fun r w'=>Bw w' r (ev (cz m) P.2)):=fun X v u hv hu=>by
     have h9:33*(129+(3*t+k+4)+1)<=33*(129+4000001100+1):=by omega
     exact RA v u (cz m) P.2 129 (3*t+k+4) 33 X hv hu HSM.out.2.2 HS.out.1.2.1 HSM.out.2.1 Aa Aa
    have hqe:qsz (ev (cz m) P.2)<=274877906944:=by
     have h1:=LK ((AJ (Af.cz m)).mono HSM.out.2.1) HSM.out.2.2 HS.out.1.2.1;omega
    have HV2:=Ad (Ah hev hqe);clear hev hqe;have HF:=Ad (show K5 (cz l) (cz m) p q (Fq (ev (cz m) P.2))from .inr (.inr ⟨HM.out.1,HX1.out,k,HKK.out.1,HKK.out.2,by rw[<-HS.out.2]⟩));have ceb:=eb.cells8;have feb:=eb.frozen
    go_wp2_with fail
    refine AA (HV2.out.1 _ _ _ (HG1.out.base_le (Nat.zero_le _)) HC2.out.2.2.2) ?_;rintro r12 w12 hr12 hx12;have HR:=Ad (hr12.has HV2.out.2);clear hr12
    go_wp2_with fail
    refine AA (M7 _ _ _ HR.out) ?_;rintro r13 w13 rfl hx13;have hx14:=(hx.trans hx12).trans hx13;generalize Fq (ev (cz m) P.2)=sg at *;clear hx12 hx13;go_wp2;refine bodyPost_ret (v := .tuple #[.int .i64 sg,.int .i64 0]) (by simp[results,Tryz.results40,go_sem]) rfl ?_;exact Ae.mk ⟨sg,0,rfl,fun e=>absurd rfl e,fun _=>HF.out,HE0.out⟩ hx14
set_option maxRecDepth 20000 in
theorem Ug(v i0 u j0:Value)(l m:List Int)(p q p' q':Rat)(t:Nat)(w:World)(hv:Cv 0 w v l)(hi:IJ w i0 p q)(hu:Cv 0 w u m)(hj:IJ w j0 p' q')(hl:l.length<=1000000)(hm:m.length<=1000000)
  (hF:BO (cz l)=0->Rm (cz l)) (hG:BO (cz m)=0->Rm (cz m)) (hC:BO (cz l)=0->BO (cz m)=0->Rm (CG (cz l) (cz m)))
  (hgcd:BO (cz l)=0->BO (cz m)=0->∀ X a b,AC 0 X a (cz l)->AC 0 X b (cz m)->Ba 42 #[a,b] X (fun r w'=>AC 0 w' r (CG (cz l) (cz m))))
  (hK:BO (cz l)=0->BO (cz m)=0->p < q->rc (AY (cz l)) p q=1->p' < q'->rc (AY (cz m)) p' q'=1->∃ K,K<=1000001000/\(∃ s,Stp (CG (cz l) (cz m)) (BZ (rc (AY (cz l))) p q K) (BZ (rc (AY (cz m))) p' q' K) s)/\∀ j,j < K->∀ s,¬ Stp (CG (cz l) (cz m)) (BZ (rc (AY (cz l))) p q j) (BZ (rc (AY (cz m))) p' q' j) s)
  (hp:qsz p<=t) (hq:qsz q<=t) (hp':qsz p'<=t) (hq':qsz q'<=t) (ht:t<=1000000000) :
  Ba 43 #[v,i0,u,j0] w (fun r _=>kT (cz l) (cz m) p q p' q' r):=by
 have HV:=Ad (Ah hv hu);have HH:=Ad (Ah hF (Ah hG (Ah hC (Ah hgcd hK))));have HP:=Ad (Ah hp (Ah hq (Ah hp' hq')));obtain⟨A,c,rfl⟩:=hv.len;obtain⟨A',c',rfl⟩:=hu.len;obtain⟨b1,B1,m1,k1,b2,B2,m2,k2,b3,B3,m3,k3,b4,B4,m4,k4,rfl,hi1,hi2⟩:=hi;obtain⟨d1,D1,n1,l1,d2,D2,n2,l2,d3,D3,n3,l3,d4,D4,n4,l4,rfl,hj1,hj2⟩:=hj;have HI:=Ad (Ah hi1 (Ah hi2 (Ah hj1 hj2)));clear hv hu hF hG hC hgcd hK hi1 hi2 hj1 hj2 hp hq hp' hq'
 go_enter Tryz.func43,Tryz.ntmps43
 obtain⟨W1,eW1,eb,y1⟩:=Bf.made w 30 #[.bool b1,.slice B1 m1 k1,.bool b2,.slice B2 m2 k2,.bool b3,.slice B3 m3 k3,.bool b4,.slice B4 m4 k4] (by simp[Ag]);obtain⟨W2,eW2,ej,y2⟩:=Bf.made W1 30 #[.bool d1,.slice D1 n1 l1,.bool d2,.slice D2 n2 l2,.bool d3,.slice D3 n3 l3,.bool d4,.slice D4 n4 l4] (by simp[Ag]);have hs1:W1.heap.size=w.heap.size+1:=by rw[eW1];simp
 rw[hs1]at ej;replace eb:=eb.ext y2;have hx:=y1.trans y2
 go_upto_region 1 with(fail)
 rw[<-eW1,<-eW2];clear y1 y2 eW1 eW2 hs1
 go_wp2_with fail
 refine AA (LZ _ l _ (HV.out.1.ext hx) hl) ?_;rintro r2 w2 ⟨u,rfl,hu1,hu2⟩ hx2;replace eb:=eb.ext hx2;replace ej:=ej.ext hx2;replace hx:=hx.trans hx2;clear hx2;have hgb:=eb.lt;have hgj:=ej.lt;have h22:=Ext.refl w2;obtain⟨E,hE⟩:∃ E,E=BO (cz l):=⟨_,rfl⟩
 have hc:=D8 (cz l);rw[<-hE]at hu1 hu2 hc ⊢;have HE:=Ad hE;clear hE;rcases hc with⟨-,hc⟩ | ⟨-,hc⟩ | ⟨h0,hpl,-,hc⟩
 ·subst hc
  clear hu1 hu2;go_wp2;refine bodyPost_ret (v := .tuple #[.int .i64 0,.int .i64 5]) (by simp[results,Tryz.results43,go_sem]) rfl ?_;exact Ae.mk ⟨0,5,rfl,fun _=>rfl,fun e=>absurd e Ab,by rw[<-HE.out];rw[if_pos Ab]⟩ hx
 ·subst hc
  clear hu1 hu2;go_wp2;refine bodyPost_ret (v := .tuple #[.int .i64 0,.int .i64 7]) (by simp[results,Tryz.results43,go_sem]) rfl ?_;exact Ae.mk ⟨0,7,rfl,fun _=>rfl,fun e=>absurd e Ab,by rw[<-HE.out];rw[if_pos Ab]⟩ hx
 subst hc;have hu:=hu1 rfl;obtain⟨A1,c1,rfl,-⟩:=hu.shape;have HU:=Ad hu;clear hu1 hu2 h0 hu hpl;obtain⟨D1',M1,hR1,hD1⟩:=HH.out.1 HE.out.symm;have H1:=Ad hR1;clear hR1
 go_wp2_with fail
 refine AA (EE _ (cz l) D1' M1 _ HU.out H1.out) ?_;rintro r4 w4 hr4 hx4;obtain⟨cA,cn,cc,rfl⟩:=hr4.cell;obtain⟨W5,eW5,ec,y5⟩:=Bf.made w4 92 #[.slice cA cn cc] (by simp[Ag]);have hcn:=hr4.ext y5;have hx45:=hx4.trans y5;have hgc:w2.heap.size<=w4.heap.size:=hx4.size;have HUZ:=Ad (HU.out.ext hx45);clear HU;replace eb:=eb.ext hx45;replace ej:=ej.ext hx45;replace hx:=hx.trans hx45;replace h22:=h22.trans hx45
 clear hx45;clear hr4 hx4 y5
 go_upto_region 5 with(fail)
 rw[<-eW5];clear eW5;have hgc1:=ec.lt;generalize w4.heap.size=gc at *;obtain⟨ceb0,ceb1,ceb2,ceb3,ceb4,ceb5,ceb6,ceb7⟩:=eb.cells8;have feb:=eb.frozen;have cec0:=ec.cells1;have HC:=Ad hcn;clear hcn
 go_wp2_with fail
 refine AA (PQ _ _ (cz l) p q D1' M1 t _ _ H1.out hD1 HP.out.1 HP.out.2.1 Aa HC.out ⟨_,_,_,_,_,_,_,_,_,_,_,_,_,_,_,_,rfl,HI.out.1.ext hx,HI.out.2.1.ext hx⟩) ?_;rintro r6 w6 rfl hx6;have HC6:=Ad (Ah (HC.out.ext hx6) (HUZ.out.ext hx6));clear HC HUZ;clear ceb0 ceb1 ceb2 ceb3 ceb4 ceb5 ceb6 ceb7 feb cec0;replace eb:=eb.ext hx6;replace ej:=ej.ext hx6;replace ec:=ec.ext hx6;replace hx:=hx.trans hx6;replace h22:=h22.trans hx6
 clear hx6;by_cases hone:p < q/\rc (AY (cz l)) p q=1
 case neg =>
  rw[decide_eq_false hone];go_wp2;refine bodyPost_ret (v := .tuple #[.int .i64 0,.int .i64 12]) (by simp[results,Tryz.results43,go_sem]) rfl ?_;exact Ae.mk ⟨0,12,rfl,fun _=>rfl,fun e=>absurd e Ab,by rw[<-HE.out];rw[if_neg Ab,if_pos hone]⟩ hx
 rw[decide_eq_true hone];have HO:=Ad hone;clear hone
 go_wp2_with fail
 refine AA (LZ _ m _ (HV.out.2.ext hx) hm) ?_;rintro r7 w7 ⟨z,rfl,hz1,hz2⟩ hx7;have HC7:=Ad (Ah (HC6.out.1.ext hx7) (HC6.out.2.ext hx7));clear HC6;replace eb:=eb.ext hx7;replace ej:=ej.ext hx7;replace ec:=ec.ext hx7;replace hx:=hx.trans hx7;replace h22:=h22.trans hx7;clear hx7;obtain⟨E2,hE2⟩:∃ E,E=BO (cz m):=⟨_,rfl⟩
 have hc:=D8 (cz m);rw[<-hE2]at hz1 hz2 hc ⊢;have HE2:=Ad hE2;clear hE2;rcases hc with⟨-,hc⟩ | ⟨-,hc⟩ | ⟨h0,hpl,-,hc⟩
 ·subst hc
  clear hz1 hz2;go_wp2;refine bodyPost_ret (v := .tuple #[.int .i64 0,.int .i64 5]) (by simp[results,Tryz.results43,go_sem]) rfl ?_;exact Ae.mk ⟨0,5,rfl,fun _=>rfl,fun e=>absurd e Ab,by rw[<-HE.out];rw[if_neg Ab,if_neg (fun h=>h HO.out),<-HE2.out,if_pos Ab]⟩ hx
 ·subst hc
  clear hz1 hz2;go_wp2;refine bodyPost_ret (v := .tuple #[.int .i64 0,.int .i64 7]) (by simp[results,Tryz.results43,go_sem]) rfl ?_;exact Ae.mk ⟨0,7,rfl,fun _=>rfl,fun e=>absurd e Ab,by rw[<-HE.out];rw[if_neg Ab,if_neg (fun h=>h HO.out),<-HE2.out,if_pos Ab]⟩ hx
 subst hc;have hz:=hz1 rfl;obtain⟨A2,c2,rfl,-⟩:=hz.shape;have HZ:=Ad hz;clear hz1 hz2 h0 hz hpl;obtain⟨D2',M2,hR2,hD2⟩:=HH.out.2.1 HE2.out.symm;have H2:=Ad hR2;clear hR2
 go_wp2_with fail
 refine AA (EE _ (cz m) D2' M2 _ HZ.out H2.out) ?_;rintro r8 w8 hr8 hx8;obtain⟨fA,fn,fc,rfl⟩:=hr8.cell;obtain⟨W9,eW9,ed,y9⟩:=Bf.made w8 92 #[.slice fA fn fc] (by simp[Ag]);have hcn:=(hr8.lower h22.size).ext y9;have hx89:=hx8.trans y9;have hgd:w2.heap.size<=w8.heap.size:=Nat.le_trans h22.size hx8.size;have HC9:=Ad (Ah (HC7.out.1.ext hx89) (Ah (HC7.out.2.ext hx89) (HZ.out.ext hx89)));clear HC7 HZ;replace eb:=eb.ext hx89
 replace ej:=ej.ext hx89;replace ec:=ec.ext hx89;replace hx:=hx.trans hx89;replace h22:=h22.trans hx89;clear hx89;clear hr8 hx8 y9
 go_upto_region 11 with(fail)
 rw[<-eW9];clear eW9;have hgd1:=ed.lt;generalize w8.heap.size=gd at *;have cej:=ej.cells8;have fej:=ej.frozen;have ced0:=ed.cells1;have HD:=Ad hcn;clear hcn
 go_wp2_with fail
 refine AA (PQ _ _ (cz m) p' q' D2' M2 t _ _ H2.out hD2 HP.out.2.2.1 HP.out.2.2.2 Aa HD.out ⟨_,_,_,_,_,_,_,_,_,_,_,_,_,_,_,_,rfl,HI.out.2.2.1.ext hx,HI.out.2.2.2.ext hx⟩) ?_;rintro r10 w10 rfl hx10;have HC10:=Ad (Ah (HC9.out.1.ext hx10) (Ah (HD.out.ext hx10) (Ah (HC9.out.2.1.ext hx10) (HC9.out.2.2.ext hx10))));clear HC9 HD;clear cej fej ced0;replace eb:=eb.ext hx10;replace ej:=ej.ext hx10;replace ec:=ec.ext hx10
 replace ed:=ed.ext hx10;replace hx:=hx.trans hx10;replace h22:=h22.trans hx10;clear hx10;by_cases hone:p' < q'/\rc (AY (cz m)) p' q'=1
 case neg =>
  rw[decide_eq_false hone];go_wp2;refine bodyPost_ret (v := .tuple #[.int .i64 0,.int .i64 12]) (by simp[results,Tryz.results43,go_sem]) rfl ?_;exact Ae.mk ⟨0,12,rfl,fun _=>rfl,fun e=>absurd e Ab,by rw[<-HE.out];rw[if_neg Ab,if_neg (fun h=>h HO.out),<-HE2.out,if_neg Ab,if_neg hone]⟩ hx
 rw[decide_eq_true hone];have HO2:=Ad hone;clear hone;have HE0:=Ad (show(0:Int)=if BO (cz l)≠0 then BO (cz l)else if ¬ (p < q/\rc (AY (cz l)) p q=1)then 12 else if BO (cz m)≠0 then BO (cz m)else if p' < q'/\rc (AY (cz m)) p' q'=1 then 0 else 12 from by
  rw[<-HE.out,if_neg Ab,if_neg (fun h=>h HO.out),<-HE2.out,if_neg Ab,if_pos HO2.out])
 obtain⟨C,hCe⟩:∃ C,C=CG (cz l) (cz m):=⟨_,rfl⟩
 have HCe:=Ad hCe;clear hCe;have hgc0:=HH.out.2.2.2.1 HE.out.symm HE2.out.symm;have hR3:=HH.out.2.2.1 HE.out.symm HE2.out.symm;rw[<-HCe.out]at hgc0 hR3;obtain⟨D3',M3,hR3,hD3⟩:=hR3;have H3:=Ad (Ah hgc0 hR3);clear hgc0 hR3;obtain⟨K,hK9,⟨sK,hsK⟩,hKn⟩:=HH.out.2.2.2.2 HE.out.symm HE2.out.symm HO.out.1 HO.out.2 HO2.out.1 HO2.out.2;rw[<-HCe.out]at hsK hKn;have HKK:=Ad (Ah hsK hKn);clear hsK hKn
 go_wp2_with fail
 refine AA (H3.out.1 _ _ _ HC10.out.2.2.1 HC10.out.2.2.2) ?_;rintro r11 w11 hr11 hx11;obtain⟨A3,c3,rfl,-⟩:=hr11.shape;have HC11:=Ad (Ah (HC10.out.1.ext hx11) (Ah (HC10.out.2.1.ext hx11) hr11));clear HC10 hr11;replace eb:=eb.ext hx11;replace ej:=ej.ext hx11;replace ec:=ec.ext hx11;replace ed:=ed.ext hx11;replace hx:=hx.trans hx11;replace h22:=h22.trans hx11;clear hx11
 go_wp2_with fail
 refine AA (EE _ C D3' M3 _ HC11.out.2.2 H3.out.2) ?_;rintro r12 w12 hr12 hx12;obtain⟨hA,hn,hc,rfl⟩:=hr12.cell;obtain⟨W13,eW13,ek,y13⟩:=Bf.made w12 92 #[.slice hA hn hc] (by simp[Ag]);have hx123:=hx12.trans y13;have hgk:w2.heap.size<=w12.heap.size:=Nat.le_trans h22.size hx12.size;have hc1:=HC11.out.1.ext hx123;have hc2:=HC11.out.2.1.ext hx123;have hc3:=(hr12.lower h22.size).ext y13;replace eb:=eb.ext hx123
 replace ej:=ej.ext hx123;replace ec:=ec.ext hx123;replace ed:=ed.ext hx123;replace hx:=hx.trans hx123;clear hx123;clear hr12 hx12 y13 HC11;have hbx:GU W13 w.heap.size 30 (BZ (rc (AY (cz l))) p q 0).1 (BZ (rc (AY (cz l))) p q 0).2:=⟨_,_,_,_,_,_,_,_,_,_,_,_,_,_,_,_,eb,HI.out.1.ext hx,HI.out.2.1.ext hx⟩
 have hjx:GU W13 (w.heap.size+1) 30 (BZ (rc (AY (cz m))) p' q' 0).1 (BZ (rc (AY (cz m))) p' q' 0).2:=⟨_,_,_,_,_,_,_,_,_,_,_,_,_,_,_,_,ej,HI.out.2.2.1.ext hx,HI.out.2.2.2.ext hx⟩
 clear eb ej HI h22;go_wp2;rw[<-eW13];clear eW13;generalize w12.heap.size=gk at *
 go_loopw [] (fun wr=>∃ k:Nat,k<=K/\GU wr w.heap.size 30 (BZ (rc (AY (cz l))) p q k).1 (BZ (rc (AY (cz l))) p q k).2/\GU wr (w.heap.size+1) 30 (BZ (rc (AY (cz m))) p' q' k).1 (BZ (rc (AY (cz m))) p' q' k).2/\Bf wr gc 92 #[.slice cA cn cc]/\Bf wr gd 92 #[.slice fA fn fc]/\Bf wr gk 92 #[.slice hA hn hc]/\JW w2.heap.size 23 wr (.agg #[.slice cA cn cc]) (AY (cz l))/\JW w2.heap.size 23 wr (.agg #[.slice fA fn fc]) (AY (cz m))/\JW w2.heap.size 23 wr (.agg #[.slice hA hn hc]) (AY C)/\Ext w wr) (fun wr=>K - Zc wr w.heap.size 30 (rc (AY (cz l))) p q)
 case atStart=>exact⟨0,Aa,hbx,hjx,ec,ed,ek,hc1,hc2,hc3,hx⟩
 case round =>
  clear hbx hjx ec ed ek hc1 hc2 hc3 hx;obtain⟨k,hk,hbi,hji,ec,ed,ek,hc1,hc2,hc3,hx⟩:=hrel;have HPN:=Ad (Jo HO.out.1 hbi);have z1:=Ff (R:=rc (AY (cz l))) HP.out.1 HP.out.2.1 k;have z2:=Ff (R:=rc (AY (cz m))) HP.out.2.2.1 HP.out.2.2.2 k;obtain⟨P,hPe⟩:∃ P,P=BZ (rc (AY (cz l))) p q k:=⟨_,rfl⟩
  obtain⟨Q,hQe⟩:∃ P,P=BZ (rc (AY (cz m))) p' q' k:=⟨_,rfl⟩
  rw[<-hPe]at hbi z1;rw[<-hQe]at hji z2;obtain⟨b1,B1,m1,k1,b2,B2,m2,k2,b3,B3,m3,k3,b4,B4,m4,k4,eb,i1,i2⟩:=hbi;obtain⟨d1,D1,n1,l1,d2,D2,n2,l2,d3,D3,n3,l3,d4,D4,n4,l4,ej,i3,i4⟩:=hji;have HN:=Ad (show ∀ j,j < k->∀ s',¬ Stp C (BZ (rc (AY (cz l))) p q j) (BZ (rc (AY (cz m))) p' q' j) s' from fun j hj=>HKK.out.2 j Aa);have HE3:=Ad (Ah hPe hQe);clear hPe hQe;have HI:=Ad (Ah i1 (Ah i2 (Ah i3 i4)));clear i1 i2 i3 i4
  have HC:=Ad (Ah hc1 (Ah hc2 hc3));clear hc1 hc2 hc3;have HB:=Ad (Ah eb (Ah ej (Ah ec (Ah ed ek))));clear ec ed ek;have HS:=Ad (Ah z1 z2);clear z1 z2;have h0r:=Ext.refl wr;obtain⟨ceb0,ceb1,ceb2,ceb3,ceb4,ceb5,ceb6,ceb7⟩:=eb.cells8;have feb:=eb.frozen;have cej:=ej.cells8;have fej:=ej.frozen
  go_wp2_with fail
  refine AA (Mq _ _ P.2 Q.1 _ HI.out.2.1 HI.out.2.2.1 (by have:=HS.out;omega)) ?_;rintro r14 w14 rfl hx14;clear ceb0 ceb1 ceb2 ceb3 ceb4 ceb5 ceb6 ceb7 feb cej fej;replace eb:=eb.ext hx14;replace ej:=ej.ext hx14;replace h0r:=h0r.trans hx14;clear hx14;by_cases hs1:P.2<=Q.1
  ·have hsg:=IB.2 hs1
   have HS1:=Ad hs1;clear hs1;generalize Fq (P.2 - Q.1)=sg at *;have hx:=hx.trans h0r;go_wp2;refine bodyPost_ret (v := .tuple #[.int .i64 (-1),.int .i64 0]) (by simp[results,Tryz.results43,go_sem]) rfl ?_;exact Ae.mk ⟨-1,0,rfl,fun e=>absurd rfl e,fun _=>⟨k,by rw[<-HCe.out];exact by rw[<-HE3.out.1,<-HE3.out.2];exact .inl ⟨HS1.out,rfl⟩,fun j hj s'=>by rw[<-HCe.out];exact HN.out j hj s'⟩,HE0.out⟩ hx
  have hsg:¬ Fq (P.2 - Q.1)<=0:=fun h=>hs1 (IB.1 h);have HS1:=Ad hs1;clear hs1;generalize Fq (P.2 - Q.1)=sg at *;obtain⟨ceb0,ceb1,ceb2,ceb3,ceb4,ceb5,ceb6,ceb7⟩:=eb.cells8;have feb:=eb.frozen;have cej:=ej.cells8;have fej:=ej.frozen
  go_wp2_with fail
  refine AA (Mq _ _ Q.2 P.1 _ (HI.out.2.2.2.ext h0r) (HI.out.1.ext h0r) (by have:=HS.out;omega)) ?_;rintro r15 w15 rfl hx15;clear ceb0 ceb1 ceb2 ceb3 ceb4 ceb5 ceb6 ceb7 feb cej fej;replace eb:=eb.ext hx15;replace ej:=ej.ext hx15;replace h0r:=h0r.trans hx15;clear hx15;by_cases hs2:Q.2<=P.1
  ·have hsg2:=IB.2 hs2
   have HS2:=Ad hs2;clear hs2;generalize Fq (Q.2 - P.1)=sg2 at *;have hx:=hx.trans h0r;go_wp2;refine bodyPost_ret (v := .tuple #[.int .i64 (1),.int .i64 0]) (by simp[results,Tryz.results43,go_sem]) rfl ?_;exact Ae.mk ⟨1,0,rfl,fun e=>absurd rfl e,fun _=>⟨k,by rw[<-HCe.out];exact by rw[<-HE3.out.1,<-HE3.out.2];exact .inr (.inl ⟨HS1.out,HS2.out,rfl⟩),fun j hj s'=>by rw[<-HCe.out];exact HN.out j hj s'⟩,HE0.out⟩ hx
  have hsg2:¬ Fq (Q.2 - P.1)<=0:=fun h=>hs2 (IB.1 h);have HS2:=Ad hs2;clear hs2;generalize Fq (Q.2 - P.1)=sg2 at *
  go_upto_region 18 with(fail)
  clear hsg hsg2 ej;obtain⟨ceb0,ceb1,ceb2,ceb3,ceb4,ceb5,ceb6,ceb7⟩:=eb.cells8;have feb:=eb.frozen;have hw15:wr.heap.size<=w15.heap.size:=h0r.size
  go_cut [14,15] (fun pv qv wx=>∃ g4 g5,pv = .pointer (some ⟨g4,0,none⟩)/\qv = .pointer (some ⟨g5,0,none⟩)/\Bf wx g4 28 #[.bool b1,.slice B1 m1 k1,.bool b2,.slice B2 m2 k2]/\Bf wx g5 28 #[.bool b3,.slice B3 m3 k3,.bool b4,.slice B4 m4 k4]/\g4≠g5/\w15.heap.size<=g4/\w15.heap.size<=g5/\Ext w15 wx)
  case first =>
   rename_i hJ hM';have hne:w.heap.size < w15.heap.size:=by have:=hx.size;have:=eb.lt;omega
   have hne1:¬ w.heap.size=w15.heap.size:=by omega
   have hne2:¬ w.heap.size=w15.heap.size+1:=by omega
   have hne3:¬ w15.heap.size=w.heap.size:=by omega
   have hne4:¬ w15.heap.size+1=w.heap.size:=by omega
   have ka0:=fun o=>((Ext.refl w15).alloc o).cell ceb0;have kb0:=fun o o'=>(((Ext.refl w15).alloc o).alloc o').cell ceb0;have ka1:=fun o=>((Ext.refl w15).alloc o).cell ceb1;have kb1:=fun o o'=>(((Ext.refl w15).alloc o).alloc o').cell ceb1;have ka2:=fun o=>((Ext.refl w15).alloc o).cell ceb2;have kb2:=fun o o'=>(((Ext.refl w15).alloc o).alloc o').cell ceb2;have ka3:=fun o=>((Ext.refl w15).alloc o).cell ceb3
   have kb3:=fun o o'=>(((Ext.refl w15).alloc o).alloc o').cell ceb3;have ka4:=fun o=>((Ext.refl w15).alloc o).cell ceb4;have kb4:=fun o o'=>(((Ext.refl w15).alloc o).alloc o').cell ceb4;have ka5:=fun o=>((Ext.refl w15).alloc o).cell ceb5;have kb5:=fun o o'=>(((Ext.refl w15).alloc o).alloc o').cell ceb5;have ka6:=fun o=>((Ext.refl w15).alloc o).cell ceb6;have kb6:=fun o o'=>(((Ext.refl w15).alloc o).alloc o').cell ceb6
   have ka7:=fun o=>((Ext.refl w15).alloc o).cell ceb7;have kb7:=fun o o'=>(((Ext.refl w15).alloc o).alloc o').cell ceb7
   go_region
   ·obtain⟨Wa,eWa,e4,ya⟩:=Bf.made w15 28 #[.bool b1,.slice B1 m1 k1,.bool b2,.slice B2 m2 k2] (by simp[Ag])
    obtain⟨Wb,eWb,e5,yb⟩:=Bf.made Wa 28 #[.bool b3,.slice B3 m3 k3,.bool b4,.slice B4 m4 k4] (by simp[Ag]);have hsa:Wa.heap.size=w15.heap.size+1:=by rw[eWa,World.size_alloc]
    rw[<-eWa,<-eWb];rw[hsa]at e5;refine hM' _ _ (Met.intro (hJ _ _ ?_))
    (repeat apply Exists.intro)
    refine⟨?rel,rfl⟩
    case rel=>exact⟨w15.heap.size,w15.heap.size+1,rfl,rfl,e4.ext yb.drew,e5.ext (Ext.refl _).drew,Aa,Aa,Aa,(ya.trans yb).drew⟩
   ·obtain⟨Wa,eWa,e5,ya⟩:=Bf.made w15 28 #[.bool b3,.slice B3 m3 k3,.bool b4,.slice B4 m4 k4] (by simp[Ag])
    obtain⟨Wb,eWb,e4,yb⟩:=Bf.made Wa 28 #[.bool b1,.slice B1 m1 k1,.bool b2,.slice B2 m2 k2] (by simp[Ag]);have hsa:Wa.heap.size=w15.heap.size+1:=by rw[eWa,World.size_alloc]
    rw[<-eWa,<-eWb];rw[hsa]at e4;refine hM' _ _ (Met.intro (hJ _ _ ?_))
    (repeat apply Exists.intro)
    refine⟨?rel,rfl⟩
    case rel=>exact⟨w15.heap.size+1,w15.heap.size,rfl,rfl,e4.ext (Ext.refl _).drew,e5.ext yb.drew,Aa,Aa,Aa,(ya.trans yb).drew⟩
  case rest =>
   clear ceb0 ceb1 ceb2 ceb3 ceb4 ceb5 ceb6 ceb7 feb eb;obtain⟨g4,g5,rfl,rfl,e4,e5,h45,hg4,hg5,hx18⟩:=hcut;replace h0r:=h0r.trans hx18;clear hx18;have ej:=HB.out.2.1.ext h0r;have cej:=ej.cells8;have fej:=ej.frozen;have ce4:=e4.cells4;have fe4:=e4.frozen
   go_wp2_with fail
   refine AA (Mq _ _ Q.1 P.1 _ (HI.out.2.2.1.ext h0r) (HI.out.1.ext h0r) (by have:=HS.out;omega)) ?_;rintro r19 w19 rfl hx19;clear cej fej ce4 fe4;replace ej:=ej.ext hx19;replace e4:=e4.ext hx19;replace e5:=e5.ext hx19;replace h0r:=h0r.trans hx19;clear hx19
   go_upto_if 68 with(fail)
   go_cut [] (fun wx=>lL wx g4 28 (TQ P.1 Q.1)/\Bf wx g5 28 #[.bool b3,.slice B3 m3 k3,.bool b4,.slice B4 m4 k4]/\Ext wr wx)
   case first =>
    by_cases hs3:P.1 < Q.1
    ·have hsg3:=Nv.2 hs3
     have HM:=Ad (show TQ P.1 Q.1=Q.1 by unfold TQ;rw[if_pos hs3]);clear hs3;generalize Fq (Q.1 - P.1)=sg3 at *;have cej:=ej.cells8;have fej:=ej.frozen;have ce4:=e4.cells4;have fe4:=e4.frozen;go_wp2;obtain⟨W20,eW,e4',U⟩:=e4.put4 (.bool d1) (.slice D1 n1 l1) (.bool d2) (.slice D2 n2 l2);rw[<-eW];clear eW e4;replace e5:=e5.upd U Ai;replace h0r:=U.from_ h0r Ai;have e4:=e4';clear U e4'
     go_meet
     case rel=>exact⟨⟨_,_,_,_,_,_,_,_,e4,by rw[HM.out];exact HI.out.2.2.1.ext h0r⟩,e5,h0r⟩
    ·have hsg3:¬ Fq (Q.1 - P.1) > 0:=fun h=>hs3 (Nv.1 h)
     have HM:=Ad (show TQ P.1 Q.1=P.1 by unfold TQ;rw[if_neg hs3]);clear hs3;generalize Fq (Q.1 - P.1)=sg3 at *;go_wp2
     go_meet
     case rel=>exact⟨⟨_,_,_,_,_,_,_,_,e4,by rw[HM.out];exact HI.out.1.ext h0r⟩,e5,h0r⟩
   case rest =>
    clear ej e4 e5 h0r;obtain⟨⟨f1,F1,o1,q1,f2,F2,o2,q2,e4,i5⟩,e5,h0r⟩:=hcut;have H5:=Ad (Ah i5 (Ext.refl wc));clear i5;have ej:=HB.out.2.1.ext h0r;have cej:=ej.cells8;have fej:=ej.frozen;have ce5:=e5.cells4;have fe5:=e5.frozen
    go_wp2_with fail
    refine AA (Mq _ _ Q.2 P.2 _ (HI.out.2.2.2.ext h0r) (HI.out.2.1.ext h0r) (by have:=HS.out;omega)) ?_;rintro r21 w21 rfl hx21;have H6:=Ad (H5.out.1.ext hx21);clear H5;clear cej fej ce5 fe5;replace ej:=ej.ext hx21;replace e4:=e4.ext hx21;replace e5:=e5.ext hx21;replace h0r:=h0r.trans hx21;clear hx21
    go_upto_if 75 with(fail)
    go_cut [] (fun wx=>Bf wx g4 28 #[.bool f1,.slice F1 o1 q1,.bool f2,.slice F2 o2 q2]/\Bt wx (.agg #[.bool f1,.slice F1 o1 q1,.bool f2,.slice F2 o2 q2]) (TQ P.1 Q.1)/\lL wx g5 28 (Ux P.2 Q.2)/\Ext wr wx)
    case first =>
     by_cases hs3:Q.2 < P.2
     ·have hsg3:=MU.2 hs3
      have HM:=Ad (show Ux P.2 Q.2=Q.2 by unfold Ux;rw[if_pos hs3]);clear hs3;generalize Fq (Q.2 - P.2)=sg3 at *;have H7:=H6.out;have cej:=ej.cells8;have fej:=ej.frozen;have ce5:=e5.cells4;have fe5:=e5.frozen;go_wp2;obtain⟨W22,eW,e5',U⟩:=e5.put4 (.bool d3) (.slice D3 n3 l3) (.bool d4) (.slice D4 n4 l4);rw[<-eW];clear eW e5;replace H7:=H7.kd U.kd;replace e4:=e4.upd U Ai;replace h0r:=U.from_ h0r Ai;have e5:=e5'
      clear U e5'
      go_meet
      case rel=>exact⟨e4,H7,⟨_,_,_,_,_,_,_,_,e5,by rw[HM.out];exact HI.out.2.2.2.ext h0r⟩,h0r⟩
     ·have hsg3:¬ Fq (Q.2 - P.2) < 0:=fun h=>hs3 (MU.1 h)
      have HM:=Ad (show Ux P.2 Q.2=P.2 by unfold Ux;rw[if_neg hs3]);clear hs3;generalize Fq (Q.2 - P.2)=sg3 at *;go_wp2
      go_meet
      case rel=>exact⟨e4,H6.out,⟨_,_,_,_,_,_,_,_,e5,by rw[HM.out];exact HI.out.2.1.ext h0r⟩,h0r⟩
    case rest =>
     clear ej e4 e5 h0r H6;obtain⟨e4,i5,⟨s1,S1,t1,v1,s2,S2,t2,v2,e5,i6⟩,h0r⟩:=hcut;have zz:qsz (TQ P.1 Q.1)<=3*t+k+4/\qsz (Ux P.2 Q.2)<=3*t+k+4:=by
      have:=HS.out;unfold TQ Ux;exact⟨by split<;>omega,by split<;>omega⟩
     have ek:=HB.out.2.2.2.2.ext h0r;have hin:=Xk _ _ _ C (TQ P.1 Q.1) (Ux P.2 Q.2) D3' M3 _ _ _ H3.out.2 hD3 zz.1 zz.2 Aa (HC.out.2.2.ext h0r) i5 i6;have HIN:=Ad hin;clear hin zz i5 i6;have ce4:=e4.cells4;have fe4:=e4.frozen;have ce5:=e5.cells4;have fe5:=e5.frozen;have cek0:=ek.cells1
     go_wp2_with fail
     refine AA HIN.out ?_;rintro r23 w23 rfl hx23;clear ce4 fe4 ce5 fe5 cek0 ek e4 e5 HIN;replace h0r:=h0r.trans hx23;clear hx23;by_cases hs3:rc (AY C) (TQ P.1 Q.1) (Ux P.2 Q.2)=1
     ·rw[hs3]
      have HS3:=Ad hs3;clear hs3;have hx:=hx.trans h0r;go_wp2;refine bodyPost_ret (v := .tuple #[.int .i64 (0),.int .i64 0]) (by simp[results,Tryz.results43,go_sem]) rfl ?_;exact Ae.mk ⟨0,0,rfl,fun e=>absurd rfl e,fun _=>⟨k,by rw[<-HCe.out];exact by rw[<-HE3.out.1,<-HE3.out.2];exact .inr (.inr ⟨HS1.out,HS2.out,HS3.out,rfl⟩),fun j hj s'=>by rw[<-HCe.out];exact HN.out j hj s'⟩,HE0.out⟩ hx
     have hkK:k < K:=by
      rcases Nat.lt_or_ge k K with h | h
      ·exact h
      ·obtain rfl:k=K:=by omega
       have:=HKK.out.1;rw[<-HE3.out.1,<-HE3.out.2]at this;rcases this with⟨h,_⟩ | ⟨_,h,_⟩ | ⟨_,_,h,_⟩
       ·exact absurd h HS1.out
       ·exact absurd h HS2.out
       ·exact absurd h hs3
     obtain⟨N,hN⟩:∃ N,N=rc (AY C) (TQ P.1 Q.1) (Ux P.2 Q.2):=⟨_,rfl⟩
     rw[<-hN]at hs3 ⊢;have hbN:(N==1)=false:=beq_eq_false_iff_ne.2 hs3;clear hN hs3;have eb:=HB.out.1.ext h0r;have ej:=HB.out.2.1.ext h0r;have ec:=HB.out.2.2.1.ext h0r;have ed:=HB.out.2.2.2.1.ext h0r;have ek:=HB.out.2.2.2.2.ext h0r;have hI:=HI.out;rw[HE3.out.1,HE3.out.2]at hI;have HI2:=Ad hI;clear hI;obtain⟨P2,hP2⟩:∃ P,P=BZ (rc (AY (cz l))) p q (k+1):=⟨_,rfl⟩
     obtain⟨Q2,hQ2⟩:∃ P,P=BZ (rc (AY (cz m))) p' q' (k+1):=⟨_,rfl⟩
     have hA:∀ X,Ext w23 X->Ba 81 #[.agg #[.slice cA cn cc],.agg #[.bool b1,.slice B1 m1 k1,.bool b2,.slice B2 m2 k2,.bool b3,.slice B3 m3 k3,.bool b4,.slice B4 m4 k4]] X (fun r w'=>jX w' r P2):=fun X x=>by
      rw[hP2];refine Ae.imp ?_ fun _ _ h=>⟨h⟩
      exact KA _ _ (cz l) p q D1' M1 t k _ X H1.out hD1 HP.out.1 HP.out.2.1 Aa (HC.out.1.ext (h0r.trans x)) ⟨_,_,_,_,_,_,_,_,_,_,_,_,_,_,_,_,rfl,HI2.out.1.ext (h0r.trans x),HI2.out.2.1.ext (h0r.trans x)⟩
     have hB:∀ X,Ext w23 X->Ba 81 #[.agg #[.slice fA fn fc],.agg #[.bool d1,.slice D1 n1 l1,.bool d2,.slice D2 n2 l2,.bool d3,.slice D3 n3 l3,.bool d4,.slice D4 n4 l4]] X (fun r w'=>IJ w' r Q2.1 Q2.2):=fun X x=>by
      rw[hQ2];exact KA _ _ (cz m) p' q' D2' M2 t k _ X H2.out hD2 HP.out.2.2.1 HP.out.2.2.2 Aa (HC.out.2.1.ext (h0r.trans x)) ⟨_,_,_,_,_,_,_,_,_,_,_,_,_,_,_,_,rfl,HI2.out.2.2.1.ext (h0r.trans x),HI2.out.2.2.2.ext (h0r.trans x)⟩
     have HPQ2:=Ad (Ah hP2 hQ2);clear hP2 hQ2;have HH2:=Ad (Ah hA hB);clear hA hB;obtain⟨ceb0,ceb1,ceb2,ceb3,ceb4,ceb5,ceb6,ceb7⟩:=eb.cells8;have feb:=eb.frozen;have cej:=ej.cells8;have fej:=ej.frozen;have cec0:=ec.cells1;have ced0:=ed.cells1
     go_upto_region 25 with(fail)
     refine CE 5 [83,84,85,86,87] [11,5,12,7] [_,_,_,_] [(kv ?_),(kv ?_),(fun γ=>γ 2),(kv ?_),(kv ?_)] (fun γ w'=>[True,True,jX w' (γ 2) P2,True,True]) ?s1 ?_
     case s1 =>
      iterate 5 refine⟨?_,?_⟩
      trivial
      iterate 2 focus
       refine AV fun _ w' he R hR=>?_;have hc:=he.cells;have cq0:=he.cell ceb0;have cq1:=he.cell ceb1;have cq2:=he.cell ceb2;have cq3:=he.cell ceb3;have cq4:=he.cell ceb4;have cq5:=he.cell ceb5;have cq6:=he.cell ceb6;have cq7:=he.cell ceb7;have cq8:=(ej.ext he).cells8;have cq9:=he.cell cec0;have cq10:=he.cell ced0;go_simp;exact Bj hR
      ·refine AV fun _ w' he R hR=>?_
       have h9:=HH2.out.1 w' he;go_simp;refine AA h9 ?_;rintro v w2 hv hx;exact⟨v,rfl,hR v w2 hx rfl hv⟩
      iterate 2 focus
       refine AV fun _ w' he R hR=>?_;have hc:=he.cells;have cq0:=he.cell ceb0;have cq1:=he.cell ceb1;have cq2:=he.cell ceb2;have cq3:=he.cell ceb3;have cq4:=he.cell ceb4;have cq5:=he.cell ceb5;have cq6:=he.cell ceb6;have cq7:=he.cell ceb7;have cq8:=(ej.ext he).cells8;have cq9:=he.cell cec0;have cq10:=he.cell ced0;go_simp;exact Bj hR
     intro γ w25 hx25 hF;have p2:jX w25 (γ 2) P2:=Ak.get hF 2 Ab;clear hF;simp only[Bg,Nat.reduceAdd];generalize γ 2=g2 at *;clear γ;obtain⟨f1,F1,o1,q1,f2,F2,o2,q2,f3,F3,o3,q3,f4,F4,o4,q4,rfl,j1,j2⟩:=p2.out;have HJ:=Ad (Ah j1 j2);clear j1 j2
     go_wp2_with fail
     refine AA (HH2.out.2 _ hx25) ?_;rintro r26 w26 ⟨s1,S1,t1,v1,s2,S2,t2,v2,s3,S3,t3,v3,s4,S4,t4,v4,rfl,j3,j4⟩ hx26;have j1:=HJ.out.1.ext hx26;have j2:=HJ.out.2.ext hx26;clear ceb0 ceb1 ceb2 ceb3 ceb4 ceb5 ceb6 ceb7 feb cej fej cec0 ced0 HJ;have hx256:=hx25.trans hx26;clear hx25 hx26;replace eb:=eb.ext hx256;replace ej:=ej.ext hx256;replace ec:=ec.ext hx256;replace ed:=ed.ext hx256;replace ek:=ek.ext hx256
     replace h0r:=h0r.trans hx256;clear hx256;have hc1:=HC.out.1.ext h0r;have hc2:=HC.out.2.1.ext h0r;have hc3:=HC.out.2.2.ext h0r;replace hx:=hx.trans h0r;clear h0r;obtain⟨ceb0,ceb1,ceb2,ceb3,ceb4,ceb5,ceb6,ceb7⟩:=eb.cells8;have feb:=eb.frozen;have cej:=ej.cells8;have fej:=ej.frozen;go_wp2;obtain⟨W26,eW,eb',U⟩:=eb.put8 (.bool f1) (.slice F1 o1 q1) (.bool f2) (.slice F2 o2 q2) (.bool f3) (.slice F3 o3 q3) (.bool f4) (.slice F4 o4 q4)
     rw[<-eW];clear eW eb;replace j1:=j1.kd U.kd;replace j2:=j2.kd U.kd;replace j3:=j3.kd U.kd;replace j4:=j4.kd U.kd;replace ej:=ej.upd U Ai;replace ec:=ec.upd U Ai;replace ed:=ed.upd U Ai;replace ek:=ek.upd U Ai;replace hc1:=hc1.upd U Ai;replace hc2:=hc2.upd U Ai;replace hc3:=hc3.upd U Ai;replace hx:=U.from_ hx Ai;have eb:=eb';clear U eb';obtain⟨W27,eW,ej',U⟩:=ej.put8 (.bool s1) (.slice S1 t1 v1) (.bool s2) (.slice S2 t2 v2) (.bool s3) (.slice S3 t3 v3) (.bool s4) (.slice S4 t4 v4)
     rw[<-eW];clear eW ej;replace j1:=j1.kd U.kd;replace j2:=j2.kd U.kd;replace j3:=j3.kd U.kd;replace j4:=j4.kd U.kd;replace eb:=eb.upd U Ai;replace ec:=ec.upd U Ai;replace ed:=ed.upd U Ai;replace ek:=ek.upd U Ai;replace hc1:=hc1.upd U Ai;replace hc2:=hc2.upd U Ai;replace hc3:=hc3.upd U Ai;replace hx:=U.from_ hx Ai;have ej:=ej';clear U ej';clear ceb0 ceb1 ceb2 ceb3 ceb4 ceb5 ceb6 ceb7 feb cej fej;have hbx:GU W27 w.heap.size 30 (BZ (rc (AY (cz l))) p q (k+1)).1 (BZ (rc (AY (cz l))) p q (k+1)).2:=by rw[<-HPQ2.out.1];exact⟨_,_,_,_,_,_,_,_,_,_,_,_,_,_,_,_,eb,j1,j2⟩
     have hjx:GU W27 (w.heap.size+1) 30 (BZ (rc (AY (cz m))) p' q' (k+1)).1 (BZ (rc (AY (cz m))) p' q' (k+1)).2:=by rw[<-HPQ2.out.2];exact⟨_,_,_,_,_,_,_,_,_,_,_,_,_,_,_,_,ej,j3,j4⟩
     have HPN2:=Ad (Jo HO.out.1 hbx)
     go_roundw
     case rel=>exact⟨k+1,Aa,hbx,hjx,ec,ed,ek,hc1,hc2,hc3,hx⟩
     case measure=>rw[HPN.out,HPN2.out];omega
theorem Gg(v u:Value)(l:List Int)(p q:Rat)(t:Nat)(w:World)(hv:Cv 0 w v l)(hu:IJ w u p q)(hL:Mid (cz l))(hl:l.length<=1000)(hp:qsz p<=t)(hq:qsz q<=t)(ht:t<=4500000000) :
  Ba 18 #[v,u] w (fun r _=>r = .int .i64 (if q<=p then 0 else rc (AY (cz l)) p q)):=by
 have h:=Zj v u l _ p q _ _ _ _ _ _ _ _ _ t w hv hu (hL.rcr hl) hp hq (by
  have:=hL.chn.2;have h1:(pl (AY (cz l))+pl (pd (AY (cz l))))*(32768+t+1)<=13*(32768+t+1):=Nat.mul_le_mul_right _ this;omega)
 rw[IQ (Cu hL.z hL.f hL.n0).st.k]at h;exact h
set_option maxRecDepth 20000 in
theorem bH(v u i0:Value)(m l:List Int)(p q:Rat)(t T K:Nat)(w:World)(hv:Cv 0 w v m)(hu:Cv 0 w u l)(hi:IJ w i0 p q)(hm:m.length<=1000000)(hS:SF (AY (cz l)))(hpq:p < q)(h1:rc (AY (cz l)) p q=1)(hp:qsz p<=t)(hq:qsz q<=t)(ht:3*t+K+6<=T)(hT:T<=13000000000)
  (hcf:∀ X,Ext w X->∀ z P Q,IJ X z P Q->qsz P<=T->qsz Q<=T->Ba 18 #[u,z] X (fun r _=>r = .int .i64 (if Q<=P then 0 else rc (AY (cz l)) P Q)))
  (hcg:cz m≠pz->∀ X,Ext w X->∀ z P Q,IJ X z P Q->qsz P<=T->qsz Q<=T->Ba 18 #[v,z] X (fun r _=>r = .int .i64 (if Q<=P then 0 else rc (AY (cz m)) P Q)))
  (hgcd:cz m≠pz->∀ X,Ext w X->Ba 91 #[u,v] X (fun r w'=>AC 0 w' r (CG (cz l) (cz m))))
  (hM:cz m≠pz->Mid (CG (cz l) (cz m))) (hc1:cz m≠pz->rc (AY (CG (cz l) (cz m))) p q<=1)
  (hev:cz m≠pz->∀ X,Ext w X->∀ z P,Bt X z P->qsz P<=T->Ba 92 #[v,z] X (fun r w'=>Bw w' r (ev (cz m) P)/\qsz (ev (cz m) P)<=274877906944))
  (hK:cz m≠pz->rc (AY (CG (cz l) (cz m))) p q≠1->rc (AY (cz m)) (BZ (rc (AY (cz l))) p q K).1 (BZ (rc (AY (cz l))) p q K).2=0/\∀ j,j < K->rc (AY (cz m)) (BZ (rc (AY (cz l))) p q j).1 (BZ (rc (AY (cz l))) p q j).2≠0) :
  Ba 41 #[v,u,i0] w (fun r _=>∃ s,r = .int .i64 s/\K5 (cz l) (cz m) p q s):=by
 have hdg:∀ X,Ext w X->Ba 15 #[v] X (fun r _=>r = .int .i64 ((pl (cz m):Int) - 1)):=fun X x=>EX v m X (hv.ext x) Aa;have hrf:∀ k n,k+n<=K+1->∀ X,Ext w X->∀ z,IJ X z (BZ (rc (AY (cz l))) p q k).1 (BZ (rc (AY (cz l))) p q k).2->n<=1 ->
   Ba 35 #[u,z,.int .i64 (n:Nat)] X (fun r w'=>G7 w' r (BZ (rc (AY (cz l))) p q (k+n)).1 (BZ (rc (AY (cz l))) p q (k+n)).2):=fun k n hkn X x z hz hn=>by
  have hw:=((Dr (rc (AY (cz l))) p q k).within hpq).2.1;have ho:=MB hS hpq h1 k;have hsz:∀ j,j<=n->qsz (BZ (rc (AY (cz l))) (BZ (rc (AY (cz l))) p q k).1 (BZ (rc (AY (cz l))) p q k).2 j).1<=T/\qsz (BZ (rc (AY (cz l))) (BZ (rc (AY (cz l))) p q k).1 (BZ (rc (AY (cz l))) p q k).2 j).2<=T/\qsz (((BZ (rc (AY (cz l))) (BZ (rc (AY (cz l))) p q k).1 (BZ (rc (AY (cz l))) p q k).2 j).1+(BZ (rc (AY (cz l))) (BZ (rc (AY (cz l))) p q k).1 (BZ (rc (AY (cz l))) p q k).2 j).2) / 2)<=T:=fun j hj=>by
   rcases(show j=0\/j=1 by omega)with rfl | rfl
   ·have:=Ff (R:=rc (AY (cz l))) hp hq k
    exact⟨Nat.le_trans this.1 Aa,Nat.le_trans this.2.1 Aa,Nat.le_trans this.2.2 Aa⟩
   ·rw[P8]
    have:=Ff (R:=rc (AY (cz l))) hp hq (k+1);exact⟨Nat.le_trans this.1 Aa,Nat.le_trans this.2.1 Aa,Nat.le_trans this.2.2 Aa⟩
  have:=OU u z l _ _ n T X (hu.ext x) hz hS hw ho hsz Aa Aa (fun Y y z P Q a b c=>hcf Y (x.trans y) z P Q a b c);rcases(show n=0\/n=1 by omega)with rfl | rfl
  ·exact this
  ·rw[P8]at this;exact this
 have hcc:cz m≠pz->∀ X z,AC 0 X z (CG (cz l) (cz m))->(Ba 15 #[z] X (fun r _=>r = .int .i64 ((pl (CG (cz l) (cz m)):Int) - 1)))/\∀ Y,Ext X Y->∀ a,IJ Y a p q->Ba 18 #[z,a] Y (fun r _=>r = .int .i64 (rc (AY (CG (cz l) (cz m))) p q)):=fun h0 X z hz=>by
  have hMM:=hM h0;obtain⟨l',k1,k2,-,k4⟩:=hz.hz (fun i=>by have:=hMM.q i;omega);have hp7:=hMM.p;refine⟨by rw[<-k4];exact EX z l' X k1 Aa,fun Y y a ha=>?_⟩;have:=Gg z a l' p q t Y (k1.ext y) ha (by rw[k4];exact hMM) Aa hp hq Aa;rw[if_neg (show ¬ q<=p by grind),k4]at this;exact this
 have HH:=Ad (Ah hdg (Ah hrf (Ah hcc (Ah hcg (Ah hgcd (Ah hM (Ah hc1 (Ah hev hK))))))));have HP:=Ad (Ah hpq (Ah hp (Ah hq (Ah hS h1))));obtain⟨A,c,rfl⟩:=hv.len;obtain⟨A',c',rfl⟩:=hu.len;obtain⟨b1,B1,m1,k1,b2,B2,m2,k2,b3,B3,m3,k3,b4,B4,m4,k4,rfl,hi1,hi2⟩:=hi;have HI:=Ad (Ah hi1 hi2);clear hv hu hcf hcg hgcd hM hc1 hev hK hi1 hi2 hdg hrf hcc hpq hp hq hS h1
 go_enter Tryz.func41,Tryz.ntmps41
 obtain⟨W1,eW1,eb,y1⟩:=Bf.made w 30 #[.bool b1,.slice B1 m1 k1,.bool b2,.slice B2 m2 k2,.bool b3,.slice B3 m3 k3,.bool b4,.slice B4 m4 k4] (by simp[Ag]);have hx:=y1
 go_upto_region 1 with(fail)
 rw[<-eW1];clear y1 eW1
 go_wp2_with fail
 refine AA (HH.out.1 _ hx) ?_;rintro r2 w2 rfl hx2;replace eb:=eb.ext hx2;replace hx:=hx.trans hx2;clear hx2;by_cases hp0:pl (cz m)=0
 ·have HM:=Ad (show cz m=pz from(Bz (Af.cz m)).1 hp0)
  rw[hp0];go_wp2
  go_ret
  exact Ae.mk ⟨0,rfl,.inl ⟨HM.out,rfl⟩⟩ hx
 have hlt:¬ ((pl (cz m):Int) - 1 < 0):=by omega
 have HM:=Ad (show cz m≠pz from fun e=>hp0 (by rw[e,BS]));generalize (pl (cz m):Int) - 1=dg at *;clear hp0
 go_wp2_with fail
 refine AA (HH.out.2.2.2.2.1 HM.out _ hx) ?_;rintro r3 w3 hr3 hx3;replace eb:=eb.ext hx3;replace hx:=hx.trans hx3;clear hx3;have hcc:=HH.out.2.2.1 HM.out _ _ hr3;obtain⟨C,hCe⟩:∃ C,C=CG (cz l) (cz m):=⟨_,rfl⟩
 rw[<-hCe]at hcc hr3;have HCe:=Ad hCe;clear hCe;have HMid:=Ad (show Mid C by rw[HCe.out];exact HH.out.2.2.2.2.2.1 HM.out);obtain⟨A3,c3,rfl,-⟩:=hr3.shape;obtain⟨N3,hN3⟩:∃ N,N=pl C:=⟨_,rfl⟩
 rw[<-hN3]at hcc ⊢;have HN3:=Ad hN3;clear hN3;obtain⟨X,hX⟩:∃ X,X=rc (AY C) p q:=⟨_,rfl⟩
 rw[<-hX]at hcc;have hX1:X<=1:=by rw[hX,HCe.out];exact HH.out.2.2.2.2.2.2.1 HM.out
 have hX0:0<=X:=by rw[hX];exact(Cu HMid.out.z HMid.out.f HMid.out.n0).nonneg (Std.le_of_lt HP.out.1)
 have HX:=Ad hX;clear hX;have HC:=Ad hcc;clear hcc hr3
 go_upto_region 4 with(fail)
 go_cut [22] (fun bv wx=>bv = .bool (decide (X=1))/\Ext w3 wx)
 case first =>
  go_wp2_with fail
  refine AA HC.out.1 ?_;rintro r4 w4 rfl hx4;by_cases hp1:N3<=1
  ·have hXz:X=0:=by
    rw[HX.out];exact QY HMid.out.z HMid.out.f HMid.out.n0 (by rw[<-HN3.out];exact hp1) (Std.le_of_lt HP.out.1)
   have HD:=Ad (show decide (X=1)=false from decide_eq_false Aa);have hle:¬ (N3:Int) - 1 > 0:=by omega
   clear hXz hp1;go_wp2
   go_meet
   case rel=>exact⟨by rw[HD.out],hx4⟩
  ·have hle:(N3:Int) - 1 > 0:=by omega
   have HI4:=Ad (Ah ((HI.out.1.ext hx).ext hx4) ((HI.out.2.ext hx).ext hx4));clear hp1;have eb4:=eb.ext hx4;obtain⟨ceb40,ceb41,ceb42,ceb43,ceb44,ceb45,ceb46,ceb47⟩:=eb4.cells8;have feb4:=eb4.frozen
   go_wp2_with fail
   refine AA (HC.out.2 _ hx4 _ ⟨_,_,_,_,_,_,_,_,_,_,_,_,_,_,_,_,rfl,HI4.out.1,HI4.out.2⟩) ?_;rintro r5 w5 rfl hx5;have hx45:=hx4.trans hx5;clear ceb40 ceb41 ceb42 ceb43 ceb44 ceb45 ceb46 ceb47 feb4 eb4 HI4;rcases(show X=0\/X=1 by omega)with rfl | rfl
   ·go_wp2
    go_meet
    case rel=>exact⟨rfl,hx45⟩
   ·go_wp2
    go_meet
    case rel=>exact⟨rfl,hx45⟩
 case rest =>
  obtain⟨rfl,hx4⟩:=hcut;replace eb:=eb.ext hx4;replace hx:=hx.trans hx4;clear hx4;by_cases hX2:X=1
  ·rw[decide_eq_true hX2]
   have HX1:=Ad hX2;clear hX2;go_wp2
   go_ret
   exact Ae.mk ⟨0,rfl,.inr (.inl ⟨HM.out,by rw[<-HCe.out,<-HX.out,HX1.out],rfl⟩)⟩ hx
  rw[decide_eq_false hX2];have HX1:=Ad (show rc (AY (CG (cz l) (cz m))) p q≠1 by rw[<-HCe.out,<-HX.out];exact hX2);clear hX2;have HKK:=Ad (HH.out.2.2.2.2.2.2.2.2 HM.out HX1.out);clear hX1 hX0 HC;have ceb:=eb.cells8;have feb:=eb.frozen
  go_wp2_with fail
  refine AA (HH.out.2.1 0 0 Aa _ hx _ ⟨_,_,_,_,_,_,_,_,_,_,_,_,_,_,_,_,rfl,HI.out.1.ext hx,HI.out.2.ext hx⟩ Aa) ?_;rintro r5 w5 ⟨g1,G1,e5,f5,g2,G2,e6,f6,g3,G3,e7,f7,g4,G4,e8,f8,rfl,j1,j2⟩ hx5;clear ceb feb HI;replace eb:=eb.ext hx5;replace hx:=hx.trans hx5;clear hx5;have z0:=Ff (R:=rc (AY (cz l))) HP.out.2.1 HP.out.2.2.1 0;have j1:=j1.has (Nat.le_trans z0.1 Aa);have j2:=j2.has (Nat.le_trans z0.2.1 Aa)
  clear z0;have ceb:=eb.cells8;have feb:=eb.frozen;go_wp2;obtain⟨W6,eW,eb',U⟩:=eb.put8 (.bool g1) (.slice G1 e5 f5) (.bool g2) (.slice G2 e6 f6) (.bool g3) (.slice G3 e7 f7) (.bool g4) (.slice G4 e8 f8);rw[<-eW];clear eW eb;replace j1:=j1.kd U.kd;replace j2:=j2.kd U.kd;replace hx:=U.from_ hx Ai;have eb:=eb';clear U eb';clear ceb feb;have hbx:GU W6 w.heap.size 30 (BZ (rc (AY (cz l))) p q 0).1 (BZ (rc (AY (cz l))) p q 0).2:=⟨_,_,_,_,_,_,_,_,_,_,_,_,_,_,_,_,eb,j1,j2⟩
  clear eb j1 j2;go_wp2
  go_loopw [] (fun wr=>∃ k:Nat,k<=K/\GU wr w.heap.size 30 (BZ (rc (AY (cz l))) p q k).1 (BZ (rc (AY (cz l))) p q k).2/\Ext w wr) (fun wr=>K - Zc wr w.heap.size 30 (rc (AY (cz l))) p q)
  case atStart=>exact⟨0,Aa,hbx,hx⟩
  case round =>
   clear hbx hx;obtain⟨k,hk,hbi,hx⟩:=hrel;have HPN:=Ad (Jo HP.out.1 hbi);have z1:=Ff (R:=rc (AY (cz l))) HP.out.2.1 HP.out.2.2.1 k;have hw:=((Dr (rc (AY (cz l))) p q k).within HP.out.1).2.1;obtain⟨P,hPe⟩:∃ P,P=BZ (rc (AY (cz l))) p q k:=⟨_,rfl⟩
   rw[<-hPe]at hbi z1 hw;obtain⟨b1,B1,m1,k1,b2,B2,m2,k2,b3,B3,m3,k3,b4,B4,m4,k4,eb,i1,i2⟩:=hbi;have HS:=Ad (Ah z1 (Ah hPe hw));clear z1 hPe hw;have HI:=Ad (Ah i1 i2);clear i1 i2;have hcg:=HH.out.2.2.2.1 HM.out wr hx (.agg #[.bool b1,.slice B1 m1 k1,.bool b2,.slice B2 m2 k2,.bool b3,.slice B3 m3 k3,.bool b4,.slice B4 m4 k4]) P.1 P.2 ⟨_,_,_,_,_,_,_,_,_,_,_,_,_,_,_,_,rfl,HI.out.1,HI.out.2⟩ (by have:=HS.out.1.1;omega) (by have:=HS.out.1.2.1;omega)
   rw[if_neg (show ¬ P.2<=P.1 by have:=HS.out.2.2;grind)]at hcg;obtain⟨Y,hY⟩:∃ Y,Y=rc (AY (cz m)) P.1 P.2:=⟨_,rfl⟩
   rw[<-hY]at hcg;have hY0:0<=Y:=by rw[hY];exact(Cu (ZI.cz m) (Af.cz m) HM.out).nonneg (Std.le_of_lt HS.out.2.2)
   have HY:=Ad hY;clear hY;have HCG:=Ad hcg;clear hcg;have ceb:=eb.cells8;have feb:=eb.frozen
   go_wp2_with fail
   refine AA HCG.out ?_;rintro r7 w7 rfl hx7;clear ceb feb HCG;have HI7:=Ad (Ah (HI.out.1.ext hx7) (HI.out.2.ext hx7));clear HI;replace eb:=eb.ext hx7;replace hx:=hx.trans hx7;clear hx7;by_cases hYp:0 < Y
   ·have hkK:k < K:=by
     rcases Nat.lt_or_ge k K with h | h
     ·exact h
     ·obtain rfl:k=K:=by omega
      have h1:=HKK.out.1;rw[<-HS.out.2.1,<-HY.out]at h1;omega
    have hI:=HI7.out;rw[HS.out.2.1]at hI;have HI2:=Ad hI;clear hI;have ceb:=eb.cells8;have feb:=eb.frozen
    go_wp2_with fail
    refine AA (HH.out.2.1 k 1 Aa _ hx _ ⟨_,_,_,_,_,_,_,_,_,_,_,_,_,_,_,_,rfl,HI2.out.1,HI2.out.2⟩ Aa) ?_;rintro r8 w8 ⟨g1,G1,e5,f5,g2,G2,e6,f6,g3,G3,e7,f7,g4,G4,e8,f8,rfl,j1,j2⟩ hx8;clear ceb feb HI7 HI2;replace eb:=eb.ext hx8;replace hx:=hx.trans hx8;clear hx8;have z1:=Ff (R:=rc (AY (cz l))) HP.out.2.1 HP.out.2.2.1 (k+1);have j1:=j1.has (Nat.le_trans z1.1 Aa);have j2:=j2.has (Nat.le_trans z1.2.1 Aa)
    clear z1;have ceb:=eb.cells8;have feb:=eb.frozen;go_wp2;obtain⟨W9,eW,eb',U⟩:=eb.put8 (.bool g1) (.slice G1 e5 f5) (.bool g2) (.slice G2 e6 f6) (.bool g3) (.slice G3 e7 f7) (.bool g4) (.slice G4 e8 f8);rw[<-eW];clear eW eb;replace j1:=j1.kd U.kd;replace j2:=j2.kd U.kd;replace hx:=U.from_ hx Ai;have eb:=eb';clear U eb';clear ceb feb;have hbx:GU W9 w.heap.size 30 (BZ (rc (AY (cz l))) p q (k+1)).1 (BZ (rc (AY (cz l))) p q (k+1)).2:=⟨_,_,_,_,_,_,_,_,_,_,_,_,_,_,_,_,eb,j1,j2⟩
    have HPN2:=Ad (Jo HP.out.1 hbx)
    go_roundw
    case rel=>exact⟨k+1,Aa,hbx,hx⟩
    case measure=>rw[HPN.out,HPN2.out];omega
   ·have hYz:Y=0:=by omega
    have hkK:k=K:=by
     rcases Nat.lt_or_ge k K with h | h
     ·have h1:=HKK.out.2 k h
      rw[<-HS.out.2.1,<-HY.out]at h1;exact absurd hYz h1
     ·omega
    subst hkK;have hne:ev (cz m) P.2≠0:=bS (ZI.cz m) (Af.cz m) HM.out HS.out.2.2 (by rw[<-HY.out];exact hYz);have hsg:Fq (ev (cz m) P.2)≠0:=fun e=>hne (O4.1 e);have hF:=Ad (show K5 (cz l) (cz m) p q (Fq (ev (cz m) P.2))from .inr (.inr ⟨HM.out,HX1.out,k,HKK.out.1,HKK.out.2,by rw[<-HS.out.2.1]⟩));obtain⟨sg,hsge⟩:∃ sg,sg=Fq (ev (cz m) P.2):=⟨_,rfl⟩
    have hev:∀ X,Ext w X->∀ z,Bt X z P.2->Ba 92 #[.slice A m.length c,z] X (fun r w'=>Bt w' r (ev (cz m) P.2)):=fun X x z hz =>
     Ae.imp (HH.out.2.2.2.2.2.2.2.1 HM.out X x z P.2 hz (by have:=HS.out.1.2.1;omega)) fun _ _ h=>h.1.has h.2
    rw[<-hsge]at hsg hF;have HE:=Ad (Ah hev hsge);clear hev hne hsge;have hbs:(sg==0)=false:=beq_eq_false_iff_ne.2 hsg;clear hsg;have ceb:=eb.cells8;have feb:=eb.frozen
    go_wp2_with fail
    refine AA (HE.out.1 _ hx _ HI7.out.2) ?_;rintro r8 w8 hr8 hx8;have HR:=Ad hr8;clear hr8;clear ceb feb;have HI8:=Ad (HI7.out.2.ext hx8);clear HI7;replace eb:=eb.ext hx8;replace hx:=hx.trans hx8;clear hx8
    go_wp2_with fail
    refine AA (JC _ _ _ HR.out) ?_;rintro r9 w9 rfl hx9;rw[<-HE.out.2];have HI9:=Ad (HI8.out.ext hx9);clear HI8 HR;replace eb:=eb.ext hx9;replace hx:=hx.trans hx9;clear hx9;have ceb:=eb.cells8;have feb:=eb.frozen
    go_wp2_with fail
    refine AA (HE.out.1 _ hx _ HI9.out) ?_;rintro r10 w10 hr10 hx10;have HR:=Ad hr10;clear hr10;clear ceb feb;replace eb:=eb.ext hx10;replace hx:=hx.trans hx10;clear hx10
    go_wp2_with fail
    refine AA (JC _ _ _ HR.out) ?_;rintro r11 w11 rfl hx11;rw[<-HE.out.2];have hx12:=hx.trans hx11;clear hx11;go_wp2
    go_ret
    exact Ae.mk ⟨sg,rfl,hF.out⟩ hx12
theorem Yj{F G:Nat->Rat}(hF:D7 F)(hG:D7 G)(X:World)(a b:Value)(ha:AC 0 X a F)(hb:AC 0 X b G):Ba 42 #[a,b] X (fun r w'=>AC 0 w' r (CG F G)):=by
 have hp:=hF.p;have hq:=hG.p;have h1:2^(pl F+pl G)<=2^14:=Nat.pow_le_pow_right Ab Aa;have h2:(pl F+pl G+1)*(32768+1)<=15*32769:=Nat.mul_le_mul_right _ Aa;exact Xt a b F G 1 32768 X ha hb hF.q hG.q Aa Aa Aa Aa
theorem gL{l m:List Int}(hF:D7 (cz l))(hG:D7 (cz m))(X:World)(a b:Value)(ha:Cv 0 X a l)(hb:Cv 0 X b m)(hl:l.length<=1000)(hm:m.length<=1000):Ba 91 #[a,b] X (fun r w'=>AC 0 w' r (CG (cz l) (cz m))):=by
 have hp:=hF.p;have hq:=hG.p;have h1:2^(pl (cz l)+pl (cz m))<=2^14:=Nat.pow_le_pow_right Ab Aa;have h2:(pl (cz l)+pl (cz m)+2)*(32768+1)<=16*32769:=Nat.mul_le_mul_right _ Aa;have h3:(2*(pl (cz l)+pl (cz m))+4)*(2*600000+4)<=32*1200004:=Nat.mul_le_mul_right _ Aa;exact Yx a b l m 1 32768 600000 X ha hb hF.q hG.q hl hm Aa Aa Aa
theorem aG{m:List Int}(hG:D7 (cz m))(hm:m.length<=12)(X:World)(v z:Value)(P:Rat)(T:Nat)(hv:Cv 0 X v m)(hz:Bt X z P)(hT:T<=10000000000)(hP:qsz P<=T) :
  Ba 92 #[v,z] X (fun r w'=>Bw w' r (ev (cz m) P)/\qsz (ev (cz m) P)<=274877906944):=by
 have h1:m.length*(1+T+1)<=12*(1+T+1):=Nat.mul_le_mul_right _ hm;have:=UL v z m P 1 T X hv hz hG.q hP Aa Aa;rw[<-ET (BH m)]at this;have h2:=LK (BH m) hG.q hP;exact Ae.imp this fun _ _ h=>⟨h,Aa⟩
theorem Rv(v u z:Value)(m l:List Int)(p q:Rat)(t:Nat)(X:World)(hv:Cv 0 X v m)(hu:Cv 0 X u l)(hz:IJ X z p q)(hm:m.length<=12)(hl:l.length<=12)(hF:D7 (cz l))(hG:cz m≠pz->D7 (cz m))(hD:pl (cz l)+pl (cz m)<=13)
  (hp:qsz p<=t) (hq:qsz q<=t) (ht:t<=1000000000) (ap:ab p<=2^400 - 1) (aq:ab q<=2^400 - 1) :
  Ba 40 #[v,u,z] X (fun r _=>Xu (cz l) (cz m) p q r):=by
 have hg:BO (cz m)=0->D7 (cz m):=fun e=>hG (Nq e (ZI.cz m)).1;exact Ws v u z m l p q t X hv hu hz Aa Aa (fun _=>hF.mid.rm) (fun e=>(hg e).mid.rm) (fun _ _=>(hF.mid.gcd (ZI.cz m) (Af.cz m)).rm) (fun _ e Y a b ha hb=>Yj hF (hg e) Y a b ha hb)
  (fun _ e hpq h1 hne=>by
   obtain⟨K,a,b⟩:=Oq hF.mid (hg e).mid hD hpq ap aq h1;exact⟨K,a,b hne⟩) hp hq ht
theorem TD(v u z:Value)(m l:List Int)(p q:Rat)(t:Nat)(X:World)(hv:Cv 0 X v m)(hu:Cv 0 X u l)(hz:IJ X z p q)(hm:m.length<=12)(hl:l.length<=12)(hF:D7 (cz l))(hG:cz m≠pz->D7 (cz m))(hD:pl (cz l)+pl (cz m)<=13)
  (hp:qsz p<=t) (hq:qsz q<=t) (ht:t<=1000000000) (ap:ab p<=2^400 - 1) (aq:ab q<=2^400 - 1) (hpq:p < q) (h1:rc (AY (cz l)) p q=1) :
  Ba 41 #[v,u,z] X (fun r _=>∃ s,r = .int .i64 s/\K5 (cz l) (cz m) p q s):=by
 have hS:=Cu hF.z hF.f hF.n0;obtain⟨K,hK9,hK⟩:∃ K,K<=1000001000/\(cz m≠pz->rc (AY (CG (cz l) (cz m))) p q≠1->rc (AY (cz m)) (BZ (rc (AY (cz l))) p q K).1 (BZ (rc (AY (cz l))) p q K).2=0/\∀ j,j < K->rc (AY (cz m)) (BZ (rc (AY (cz l))) p q j).1 (BZ (rc (AY (cz l))) p q j).2≠0):=by
  by_cases h0:cz m=pz
  ·exact⟨0,Aa,fun h=>absurd h0 h⟩
  ·obtain⟨K,a,b⟩:=Oq hF.mid (hG h0).mid hD hpq ap aq h1
   exact⟨K,a,fun _=>b⟩
 exact bH v u z m l p q t (3*t+K+6) K X hv hu hz Aa hS hpq h1 hp hq (Nat.le_refl _) Aa
  (fun Y y a P Q ha hP hQ=>Gg u a l P Q (3*t+K+6) Y (hu.ext y) ha hF.mid Aa hP hQ Aa)
  (fun h0 Y y a P Q ha hP hQ=>Gg v a m P Q (3*t+K+6) Y (hv.ext y) ha (hG h0).mid Aa hP hQ Aa)
  (fun h0 Y y=>gL hF (hG h0) Y u v (hu.ext y) (hv.ext y) Aa Aa)
  (fun _=>hF.mid.gcd (ZI.cz m) (Af.cz m)) (fun _=>by have:=(YU hF.mid (ZI.cz m) (Af.cz m) (Std.le_of_lt hpq)).2;omega)
  (fun h0 Y y a P ha hP=>aG (hG h0) hm Y v a P (3*t+K+6) (hv.ext y) ha Aa hP) hK
set_option maxRecDepth 20000 in
theorem RL(v0 v1:Value)(n:Int)(l0:List K8)(x y:Raw)(w:World)(h0:Eo w v0 l0)(h1:Zi w v1 x y)(hB:TM l0)
  (hb1:x.2.1.length<=1048576/\x.2.2.2.length<=1048576/\y.2.1.length<=1048576/\y.2.2.2.length<=1048576) :
  Ba 10 #[v0,v1,.int .i64 n] w (fun r _=>r = .bool true):=by
 obtain⟨b1,A1,c1,b2,A2,c2,b3,A3,c3,b4,A4,c4,rfl,r1,r2⟩:=h1;obtain⟨n1,hn1⟩:∃ n,n=x.2.1.length:=⟨_,rfl⟩
 obtain⟨n2,hn2⟩:∃ n,n=x.2.2.2.length:=⟨_,rfl⟩
 obtain⟨n3,hn3⟩:∃ n,n=y.2.1.length:=⟨_,rfl⟩
 obtain⟨n4,hn4⟩:∃ n,n=y.2.2.2.length:=⟨_,rfl⟩
 rw[<-hn1,<-hn2]at r1;rw[<-hn3,<-hn4]at r2;rw[<-hn1,<-hn2,<-hn3,<-hn4]at hb1 ⊢;obtain⟨p,hp⟩:∃ p,p=KY x:=⟨_,rfl⟩
 obtain⟨q,hq⟩:∃ q,q=KY y:=⟨_,rfl⟩
 have hr1:∀ k,n1<=k->n2<=k->1<=k->k<=274877906944->Bt w (.agg #[.bool b1,.slice A1 n1 c1,.bool b2,.slice A2 n2 c2]) p/\qsz p<=k:=fun k h1 h2 h3 h4=>by
  rw[hp];exact r1.hasN Aa Aa h3 h4
 have hr2:∀ k,n3<=k->n4<=k->1<=k->k<=274877906944->Bt w (.agg #[.bool b3,.slice A3 n3 c3,.bool b4,.slice A4 n4 c4]) q/\qsz q<=k:=fun k h1 h2 h3 h4=>by
  rw[hq];exact r2.hasN Aa Aa h3 h4
 have HR:=Ad (Ah hr1 hr2);clear hr1 hr2 r1 r2 hp hq hn1 hn2 hn3 hn4 x y;have H0:=Ad h0;have PB:=Ad (h0.has hB.2).1;have hlB:(l0.map bD).length<=1048576:=by simpa using hB.1
 obtain⟨A0,c0,rfl,k1,k2⟩:=h0.len;clear h0 hB;have hll0:(l0.map bD).length=l0.length:=by simp
 obtain⟨m0,hm0⟩:∃ m0,m0=l0.map bD:=⟨_,rfl⟩
 rw[<-hm0]at PB hlB hll0;rw[<-hll0]at k1 PB ⊢;clear hm0 hll0 H0;have hp0:=Bn (BH m0)
 go_enter Tryz.func10,Tryz.ntmps10
 obtain⟨W1,eW1,ei,y1⟩:=Bf.made w 30 #[.bool b1,.slice A1 n1 c1,.bool b2,.slice A2 n2 c2,.bool b3,.slice A3 n3 c3,.bool b4,.slice A4 n4 c4] (by simp[Ag])
 go_upto_region 1 with(fail)
 rw[<-eW1];have hx:=y1;clear y1 eW1;generalize w.heap.size=gi at *
 go_wp2_with fail
 refine AA (XB _) ?_;rintro r w3 rfl hx3;replace ei:=ei.ext hx3;replace hx:=hx.trans hx3;clear hx3
 go_wp2_with fail
 refine AA (dI w3.heap.size 1 [(.slice A0 m0.length c0,m0)] _ Ac Ac (TU w3 _ (PB.out.ext hx) rfl)) ?_;rintro r4 w4 ⟨b,rfl,hb⟩ hx4;have hx4:=hx4.a1;replace ei:=ei.ext hx4;replace hx:=hx.trans hx4;clear hx4;have Hb:=Ad hb;clear hb;cases b with
 | false =>
  go_wp2
  go_ret
  exact Ae.mk rfl hx
 | true =>
 have HL:=Ad (Hb.out rfl (.slice A0 m0.length c0,m0) Ac);clear Hb;have cei:=ei.cells8;have fei:=ei.frozen
 go_wp2_with fail
 refine AA (bG w4.heap.size 1 [(n1,n2,n3,n4)] _ Ac Ac (Zz w4 _ rfl Aa)) ?_;rintro r5 w5 ⟨b,rfl,hb⟩ hx5;have hx5:=hx5.a1;clear cei fei;replace ei:=ei.ext hx5;replace hx:=hx.trans hx5;clear hx5;have Hb:=Ad hb;clear hb;cases b with
 | false =>
  go_wp2
  go_ret
  exact Ae.mk rfl hx
 | true =>
 have hs1:=Hb.out rfl (n1,n2,n3,n4) Ac;simp only at hs1;obtain⟨i1,s1⟩:=HR.out.1 12 Aa Aa Aa Aa;obtain⟨i2,s2⟩:=HR.out.2 12 Aa Aa Aa Aa;have HI:=Ad (Ah i1 (Ah i2 (Ah s1 s2)));clear i1 i2 s1 s2 HR Hb;have hdg:∀ X,Ext w X->Ba 15 #[.slice A0 m0.length c0] X (fun r _=>r = .int .i64 ((pl (cz m0):Int) - 1)):=fun X x=>EX _ m0 X (PB.out.ext x) Aa;have HD:=Ad hdg;clear hdg
 go_wp2_with fail
 refine AA (HD.out _ hx) ?_;rintro r6 w6 rfl hx6;replace ei:=ei.ext hx6;replace hx:=hx.trans hx6;clear hx6;by_cases hz:pl (cz m0)=0
 ·rw[hz]
  go_wp2
  go_ret
  exact Ae.mk rfl hx
 have hlt:¬ ((pl (cz m0):Int) - 1 < 0):=by omega
 have HT:=Ad (Ah (HL.out.lite (fun e=>hz (by rw[e,BS]))) HL.out.1);clear HL HD;generalize (pl (cz m0):Int) - 1=dg at *;clear hz hp0;by_cases hn0:n < 0
 ·go_wp2
  go_ret
  exact Ae.mk rfl hx
 by_cases hn8:n > 8
 ·go_wp2
  go_ret
  exact Ae.mk rfl hx
 obtain⟨N,rfl⟩:∃ N:Nat,n=N:=⟨n.toNat,Aa⟩
 have hN8:N<=8:=by omega
 have HNN:=Ad (show ¬ ((N:Int) < 0\/1000 < (N:Int))from Aa);have K1:=Ad mY;have hiv:∀ X,Ext w X->IJ X (.agg #[.bool b1,.slice A1 n1 c1,.bool b2,.slice A2 n2 c2,.bool b3,.slice A3 n3 c3,.bool b4,.slice A4 n4 c4]) p q:=fun X x=>⟨_,_,_,_,_,_,_,_,_,_,_,_,_,_,_,_,rfl,HI.out.1.ext x,HI.out.2.1.ext x⟩
 have hD13:pl (cz m0)+pl (cz [0,1])<=13:=by have:=HT.out.1.p;rw[Z8];omega
 have hD20:pl (AY (cz m0))+pl (pd (AY (cz m0)))<=20:=by have:=HT.out.1.chn.2;omega
 have hl12:=HT.out.2;have f1:∀ X,Ext w X->Ba 34 #[.slice A0 m0.length c0,.agg #[.bool b1,.slice A1 n1 c1,.bool b2,.slice A2 n2 c2,.bool b3,.slice A3 n3 c3,.bool b4,.slice A4 n4 c4],.int .i64 (N:Nat)] X (fun r w'=>Uw (cz m0) p q N r w'):=fun X x =>
  Wx _ _ m0 p q N _ _ 12 X (PB.out.ext x) (hiv X x) Aa (fun _=>HT.out.1.pg) hD20 HI.out.2.2.1 HI.out.2.2.2 Aa
 have f2:∀ X,Ext w X->∀ z,Cv 0 X z [0,1]->Ba 40 #[z,.slice A0 m0.length c0,.agg #[.bool b1,.slice A1 n1 c1,.bool b2,.slice A2 n2 c2,.bool b3,.slice A3 n3 c3,.bool b4,.slice A4 n4 c4]] X (fun r _=>Xu (cz m0) (cz [0,1]) p q r):=fun X x z hz =>
  Rv z _ _ [0,1] m0 p q 12 X hz (PB.out.ext x) (hiv X x) Ab hl12 HT.out.1 (fun _=>L6) hD13 HI.out.2.2.1 HI.out.2.2.2 Aa (GK HI.out.2.2.1) (GK HI.out.2.2.2)
 have f3:∀ X,Ext w X->Ba 43 #[.slice A0 m0.length c0,.agg #[.bool b1,.slice A1 n1 c1,.bool b2,.slice A2 n2 c2,.bool b3,.slice A3 n3 c3,.bool b4,.slice A4 n4 c4],.slice A0 m0.length c0,.agg #[.bool b1,.slice A1 n1 c1,.bool b2,.slice A2 n2 c2,.bool b3,.slice A3 n3 c3,.bool b4,.slice A4 n4 c4]] X (fun r _=>kT (cz m0) (cz m0) p q p q r):=fun X x =>
  Ug _ _ _ _ m0 m0 p q p q 12 X (PB.out.ext x) (hiv X x) (PB.out.ext x) (hiv X x) Aa Aa (fun _=>HT.out.1.mid.rm) (fun _=>HT.out.1.mid.rm) (fun _ _=>(HT.out.1.mid.gcd (ZI.cz m0) (Af.cz m0)).rm) (fun _ _ Y a b ha hb=>Yj HT.out.1 HT.out.1 Y a b ha hb)
   (fun _ _ hpq h1 _ _=>⟨0,Aa,⟨0,(N9 HT.out.1.z HT.out.1.f HT.out.1.n0 hpq h1 0).2 rfl⟩,fun j hj=>absurd hj Aa⟩) HI.out.2.2.1 HI.out.2.2.2 HI.out.2.2.1 HI.out.2.2.2 Aa
 have f4:∀ X,Ext w X->Ba 18 #[.slice A0 m0.length c0,.agg #[.bool b1,.slice A1 n1 c1,.bool b2,.slice A2 n2 c2,.bool b3,.slice A3 n3 c3,.bool b4,.slice A4 n4 c4]] X (fun r _=>r = .int .i64 (if q<=p then 0 else rc (AY (cz m0)) p q)):=fun X x =>
  Gg _ _ m0 p q 12 X (PB.out.ext x) (hiv X x) HT.out.1.mid Aa HI.out.2.2.1 HI.out.2.2.2 Aa
 by_cases hone:p < q/\rc (AY (cz m0)) p q=1
 ·obtain⟨P,hP⟩:∃ P,P=BZ (rc (AY (cz m0))) p q N:=⟨_,rfl⟩
  have f5:∀ X,Ext w X->Ba 35 #[.slice A0 m0.length c0,.agg #[.bool b1,.slice A1 n1 c1,.bool b2,.slice A2 n2 c2,.bool b3,.slice A3 n3 c3,.bool b4,.slice A4 n4 c4],.int .i64 (N:Nat)] X (fun r w'=>G7 w' r P.1 P.2):=fun X x=>by
   rw[hP];exact OU _ _ m0 p q N 1000 X (PB.out.ext x) (hiv X x) (Cu HT.out.1.z HT.out.1.f HT.out.1.n0) hone.1 hone.2 (fun k hk=>by
    have:=Ff (R:=rc (AY (cz m0))) HI.out.2.2.1 HI.out.2.2.2 k;exact⟨Nat.le_trans this.1 Aa,Nat.le_trans this.2.1 Aa,Nat.le_trans this.2.2 Aa⟩) Aa Aa
    (fun Y y z P Q hz hP hQ=>Gg _ z m0 P Q 1000 Y (PB.out.ext (x.trans y)) hz HT.out.1.mid Aa hP hQ Aa)
  have f6:∀ X,Ext w X->∀ z,Cv 0 X z [0,1]->Ba 41 #[z,.slice A0 m0.length c0,.agg #[.bool b1,.slice A1 n1 c1,.bool b2,.slice A2 n2 c2,.bool b3,.slice A3 n3 c3,.bool b4,.slice A4 n4 c4]] X (fun r _=>∃ s,r = .int .i64 s/\K5 (cz m0) (cz [0,1]) p q s):=fun X x z hz =>
   TD z _ _ [0,1] m0 p q 12 X hz (PB.out.ext x) (hiv X x) Ab hl12 HT.out.1 (fun _=>L6) hD13 HI.out.2.2.1 HI.out.2.2.2 Aa (GK HI.out.2.2.1) (GK HI.out.2.2.2) hone.1 hone.2
  have f4':∀ X,Ext w X->Ba 18 #[.slice A0 m0.length c0,.agg #[.bool b1,.slice A1 n1 c1,.bool b2,.slice A2 n2 c2,.bool b3,.slice A3 n3 c3,.bool b4,.slice A4 n4 c4]] X (fun r _=>r = .int .i64 1):=fun X x=>by
   have:=f4 X x;rw[if_neg (show ¬ q<=p by have:=hone.1;grind),hone.2]at this;exact this
  obtain⟨s0,hs0⟩:=Xn HT.out.1.mid L6.mid hD13 hone.1 (GK HI.out.2.2.1) (GK HI.out.2.2.2) hone.2;have f2':∀ X,Ext w X->∀ z,Cv 0 X z [0,1]->Ba 40 #[z,.slice A0 m0.length c0,.agg #[.bool b1,.slice A1 n1 c1,.bool b2,.slice A2 n2 c2,.bool b3,.slice A3 n3 c3,.bool b4,.slice A4 n4 c4]] X (fun r _=>r = .tuple #[.int .i64 s0,.int .i64 0]):=fun X x z hz =>
   Ae.imp (f2 X x z hz) fun r _ ⟨s,E,e1,_,e3,e4⟩=>by
    rw[if_neg (fun h=>h HT.out.1.err),L6.err,if_neg Ab,if_pos hone]at e4;subst e4;rw[e1,(e3 rfl).uniq hs0]
  have f6':∀ X,Ext w X->∀ z,Cv 0 X z [0,1]->Ba 41 #[z,.slice A0 m0.length c0,.agg #[.bool b1,.slice A1 n1 c1,.bool b2,.slice A2 n2 c2,.bool b3,.slice A3 n3 c3,.bool b4,.slice A4 n4 c4]] X (fun r _=>r = .int .i64 s0):=fun X x z hz =>
   Ae.imp (f6 X x z hz) fun r _ ⟨s,e1,e2⟩=>by rw[e1,e2.uniq hs0]
  have HF:=Ad (Ah f1 (Ah f2' (Ah f3 (Ah f4' (Ah f5 f6')))));have HO:=Ad hone;have HPP:=Ad hP;have HE:=Ad HT.out.1.err;clear hP f1 f2 f2' f3 f4 f4' f5 f6 f6' hs0 hiv hone hD13 hD20 hl12;have cei:=ei.cells8;have fei:=ei.frozen
  go_wp2_with fail
  refine Calls.mono (HF.out.1 _ hx) ?_;rintro e w8 ⟨r8,rfl,⟨z8,E8,rfl,hz8,-,hE8⟩,hx8⟩;rw[if_neg (fun h=>h HE.out),if_neg HNN.out,if_pos HO.out]at hE8;subst hE8;obtain⟨d1,D1,e1,t1,d2,D2,e2,t2,d3,D3,e3,t3,d4,D4,e4,t4,rfl,j1,j2⟩:=(show G7 w8 z8 P.1 P.2 from(by rw[HPP.out];exact hz8 rfl));have HJ:=Ad (Ah j1 j2);clear hz8 j1 j2
  clear cei fei;replace ei:=ei.ext hx8;replace hx:=hx.trans hx8;clear hx8;obtain⟨W9,eW9,er,y9⟩:=Bf.made w8 30 #[.bool d1,.slice D1 e1 t1,.bool d2,.slice D2 e2 t2,.bool d3,.slice D3 e3 t3,.bool d4,.slice D4 e4 t4] (by simp[Ag]);replace HJ:=Ad (Ah (HJ.out.1.ext y9) (HJ.out.2.ext y9));replace ei:=ei.ext y9;replace hx:=hx.trans y9;clear y9
  go_upto_region 6 with(fail)
  rw[<-eW9];clear eW9;generalize w8.heap.size=gr at *;have cei:=ei.cells8;have fei:=ei.frozen
  go_wp2_with fail
  refine CE 9 [46,47,48,49,50,45,51,52,9] [0,4] [_,_] [(fun γ=>γ 0),(fun γ=>γ 1),(kv ?_),(kv ?_),(kv (.tuple #[.int .i64 s0,.int .i64 0])),(kv ?_),(kv ?_),(kv ?_),(kv ?_)] (fun γ w'=>[ES w' (γ 0) [0,1],Cv 0 w' (γ 1) [0,1],True,True,True,True,True,True,True]) ?s1 ?_ ?m1
  case s1 =>
   iterate 9 refine⟨?_,?_⟩
   trivial
   ·refine AV fun _ w' he R hR=>?_
    go_simp;exact hR _ _ ((Ext.refl _).alloc _) rfl (ES.new w' _ [0,1] Ab)
   ·refine Ei fun γ w' he hf R hR=>?_;have f0:ES w' (γ 0) [0,1]:=hf 0 Ab;clear hf
    go_simp;exact Be (F:=fun r w''=>Cv 0 w'' (r) [0,1]) (Ae.imp (ZU _ [0,1] w' f0 Ab Ab) fun _ _ h=>h.has (fun x hx=>by have:=K1.out x hx;omega)) hR
   iterate 2 focus
    refine AV fun _ w' he R hR=>?_;have hc:=he.cells;have cq0:=(ei.ext he).cells8;go_simp;exact Bj hR
   ·refine Ei fun γ w' he hf R hR=>?_;have f1:Cv 0 w' (γ 1) [0,1]:=hf 1 Ab;clear hf
    go_simp;exact JN (HF.out.2.1 w' (hx.trans he) _ f1) hR
   iterate 4 focus
    refine AV fun _ w' he R hR=>?_;have hc:=he.cells;go_simp;(try go_ints);(try(rw[if_neg Aa]));(try(rw[if_pos Aa]));(try go_simp);(try go_ints)
    exact Bj hR
  case m1 =>
   exact⟨⟨⟨⟨⟨⟨⟨⟨⟨trivial,(fun γ w w' e h=>NT h e)⟩,(fun γ wA w' e h=>(show Cv 0 wA (γ 1) [0,1]from h).ext e)⟩,(fun γ wA w' e h=>h)⟩,(fun γ wA w' e h=>h)⟩,(fun γ wA w' e h=>h)⟩,(fun γ wA w' e h=>h)⟩,(fun γ wA w' e h=>h)⟩,(fun γ wA w' e h=>h)⟩,(fun γ wA w' e h=>h)⟩
  intro γ w10 hx10 hF;have p0:ES w10 (γ 0) [0,1]:=Ak.get hF 0 Ab;have p1:Cv 0 w10 (γ 1) [0,1]:=Ak.get hF 1 Ab;clear hF;simp only[Bg,Nat.reduceAdd];generalize γ 0=g0 at *;generalize γ 1=g1 at *;clear γ;clear p0 p1;clear cei fei;replace HJ:=Ad (Ah (HJ.out.1.ext hx10) (HJ.out.2.ext hx10));replace ei:=ei.ext hx10;replace er:=er.ext hx10;replace hx:=hx.trans hx10;clear hx10;have cei:=ei.cells8;have fei:=ei.frozen
  go_wp2_with fail
  refine Calls.mono (HF.out.2.2.1 _ hx) ?_;rintro e w12 ⟨r12,rfl,⟨s12,E12,rfl,-,hs12,hE12⟩,hx12⟩;rw[if_neg (fun h=>h HE.out),if_neg (fun h=>h HO.out),if_neg (fun h=>h HE.out),if_pos HO.out]at hE12;subst hE12;obtain rfl:=Tz HT.out.1.z HT.out.1.f HT.out.1.n0 HO.out.1 HO.out.2 (hs12 rfl);clear hs12;clear cei fei;replace HJ:=Ad (Ah (HJ.out.1.ext hx12) (HJ.out.2.ext hx12));replace ei:=ei.ext hx12;replace er:=er.ext hx12
  replace hx:=hx.trans hx12;clear hx12;have cei:=ei.cells8;have fei:=ei.frozen
  go_wp2_with fail
  refine AA (HF.out.2.2.2.1 _ hx) ?_;rintro r13 w13 rfl hx13;clear cei fei;replace HJ:=Ad (Ah (HJ.out.1.ext hx13) (HJ.out.2.ext hx13));replace ei:=ei.ext hx13;replace er:=er.ext hx13;replace hx:=hx.trans hx13;clear hx13;have f7:∀ X,Ext w13 X->∀ v,G7 X v P.1 P.2->Ba 33 #[.agg #[.bool d1,.slice D1 e1 t1,.bool d2,.slice D2 e2 t2,.bool d3,.slice D3 e3 t3,.bool d4,.slice D4 e4 t4],v] X (fun r _=>r = .bool true):=fun X x v hv =>
   Ae.imp (QE _ v P.1 P.2 P.1 P.2 X ⟨_,_,_,_,_,_,_,_,_,_,_,_,_,_,_,_,rfl,HJ.out.1.ext x,HJ.out.2.ext x⟩ hv) fun _ _ h=>by rw[h,decide_eq_true ⟨rfl,rfl⟩]
  have F7:=Ad f7;clear f7;have cei:=ei.cells8;have fei:=ei.frozen;have cer:=er.cells8;have fer:=er.frozen
  go_wp2_with fail
  refine CE 29 [109,110,111,112,113,114,115,116,117,118,119,120,121,122,123,124,125,126,127,128,129,130,131,132,133,134,135,136,137] [8,10,12,11,7,0,4,2,9] [_,_,_,_,_,_,_,_,_] [(kv ?_),(kv ?_),(kv ?_),(kv ?_),(kv ?_),(kv ?_),(kv ?_),(kv ?_),(kv ?_),(kv ?_),(kv ?_),(kv ?_),(kv ?_),(kv ?_),(kv ?_),(kv ?_),(kv ?_),(kv ?_),(kv ?_),(fun γ=>γ 19),(kv (.bool true)),(kv ?_),(kv ?_),(kv ?_),(fun γ=>γ 24),(fun γ=>γ 25),(kv ?_),(kv ?_),(kv (.int .i64 s0))] (fun γ w'=>[True,True,True,True,True,True,True,True,True,True,True,True,True,True,True,True,True,True,True,G7 w' (γ 19) P.1 P.2,True,True,True,True,ES w' (γ 24) [0,1],Cv 0 w' (γ 25) [0,1],True,True,True]) ?s2 ?_ ?m2
  case s2 =>
   iterate 29 refine⟨?_,?_⟩
   trivial
   iterate 3 focus
    refine AV fun _ w' he R hR=>?_;have hc:=he.cells;go_simp;(try go_ints);(try(rw[if_neg Aa]));(try(rw[if_pos Aa]));(try go_simp);(try go_ints)
    exact Bj hR
   iterate 2 focus
    intro γ w' he hf;clear hf;refine⟨by trivial,?_⟩;intro R hR;have hc:=he.cells;go_simp;(try go_ints);(try(rw[if_neg Aa]));(try(rw[if_pos Aa]));(try go_simp);(try go_ints)
    exact Bj hR
   iterate 2 focus
    refine AV fun _ w' he R hR=>?_;have hc:=he.cells;go_simp;(try go_ints);(try(rw[if_neg Aa]));(try(rw[if_pos Aa]));(try go_simp);(try go_ints)
    exact Bj hR
   iterate 2 focus
    intro γ w' he hf;clear hf;refine⟨by trivial,?_⟩;intro R hR;have hc:=he.cells;go_simp;(try go_ints);(try(rw[if_neg Aa]));(try(rw[if_pos Aa]));(try go_simp);(try go_ints)
    exact Bj hR
   iterate 2 focus
    refine AV fun _ w' he R hR=>?_;have hc:=he.cells;go_simp;(try go_ints);(try(rw[if_neg Aa]));(try(rw[if_pos Aa]));(try go_simp);(try go_ints)
    exact Bj hR
   iterate 2 focus
    intro γ w' he hf;clear hf;refine⟨by trivial,?_⟩;intro R hR;have hc:=he.cells;go_simp;(try go_ints);(try(rw[if_neg Aa]));(try(rw[if_pos Aa]));(try go_simp);(try go_ints)
    exact Bj hR
   iterate 2 focus
    refine AV fun _ w' he R hR=>?_;have hc:=he.cells;go_simp;(try go_ints);(try(rw[if_neg Aa]));(try(rw[if_pos Aa]));(try go_simp);(try go_ints)
    exact Bj hR
   iterate 4 focus
    intro γ w' he hf;clear hf;refine⟨by trivial,?_⟩;intro R hR;have hc:=he.cells;have cq0:=(ei.ext he).cells8;have cq1:=(er.ext he).cells8;go_simp;exact Bj hR
   ·intro γ w' he hf;clear hf;refine⟨rfl,?_⟩;intro R hR
    have h9:=HF.out.2.2.2.2.1 w' (hx.trans he);go_simp;refine AA h9 ?_;rintro v w2 hv hx;exact⟨v,rfl,hR v w2 hx rfl hv⟩
   ·intro γ w' he hf;have f19:G7 w' (γ 19) P.1 P.2:=hf 19 Ab;clear hf;refine⟨rfl,?_⟩;intro R hR
    go_simp;exact JN (F7.out w' he _ f19) hR
   iterate 2 focus
    refine AV fun _ w' he R hR=>?_;have hc:=he.cells;go_simp;(try go_ints);(try(rw[if_neg Aa]));(try(rw[if_pos Aa]));(try go_simp);(try go_ints)
    exact Bj hR
   iterate 1 focus
    intro γ w' he hf;clear hf;refine⟨by trivial,?_⟩;intro R hR;have hc:=he.cells;go_simp;exact Bj hR
   ·intro γ w' he hf;clear hf;refine⟨rfl,?_⟩;intro R hR
    go_simp;exact hR _ _ ((Ext.refl _).alloc _) rfl (ES.new w' _ [0,1] Ab)
   ·intro γ w' he hf;have f24:ES w' (γ 24) [0,1]:=hf 24 Ab;clear hf;refine⟨rfl,?_⟩;intro R hR
    have h9:=ZU _ [0,1] w' f24 Ab Ab;go_simp;refine AA h9 ?_;rintro v w2 hv hx;exact⟨v,rfl,hR v w2 hx rfl (hv.has (fun x hx=>by have:=K1.out x hx;omega))⟩
   iterate 2 focus
    intro γ w' he hf;clear hf;refine⟨by trivial,?_⟩;intro R hR;have hc:=he.cells;have cq0:=(ei.ext he).cells8;have cq1:=(er.ext he).cells8;go_simp;exact Bj hR
   ·intro γ w' he hf;have f25:Cv 0 w' (γ 25) [0,1]:=hf 25 Ab;clear hf;refine⟨rfl,?_⟩;intro R hR
    go_simp;exact JN (HF.out.2.2.2.2.2 w' (hx.trans he) _ f25) hR
  case m2 =>
   exact⟨⟨⟨⟨⟨⟨⟨⟨⟨⟨⟨⟨⟨⟨⟨⟨⟨⟨⟨⟨⟨⟨⟨⟨⟨⟨⟨⟨⟨trivial,(fun γ wA w' e h=>h)⟩,(fun γ wA w' e h=>h)⟩,(fun γ wA w' e h=>h)⟩,(fun γ wA w' e h=>h)⟩,(fun γ wA w' e h=>h)⟩,(fun γ wA w' e h=>h)⟩,(fun γ wA w' e h=>h)⟩,(fun γ wA w' e h=>h)⟩,(fun γ wA w' e h=>h)⟩,(fun γ wA w' e h=>h)⟩,(fun γ wA w' e h=>h)⟩,(fun γ wA w' e h=>h)⟩,(fun γ wA w' e h=>h)⟩,(fun γ wA w' e h=>h)⟩,(fun γ wA w' e h=>h)⟩,(fun γ wA w' e h=>h)⟩,(fun γ wA w' e h=>h)⟩,(fun γ wA w' e h=>h)⟩,(fun γ wA w' e h=>h)⟩,(fun γ wA w' e h=>(show G7 wA (γ 19) P.1 P.2 from h).ext e)⟩,(fun γ wA w' e h=>h)⟩,(fun γ wA w' e h=>h)⟩,(fun γ wA w' e h=>h)⟩,(fun γ wA w' e h=>h)⟩,(fun γ w w' e h=>NT h e)⟩,(fun γ wA w' e h=>(show Cv 0 wA (γ 25) [0,1]from h).ext e)⟩,(fun γ wA w' e h=>h)⟩,(fun γ wA w' e h=>h)⟩,(fun γ wA w' e h=>h)⟩
  intro γ w14 hx14 hF;have p19:G7 w14 (γ 19) P.1 P.2:=Ak.get hF 19 Ab;have p24:ES w14 (γ 24) [0,1]:=Ak.get hF 24 Ab;have p25:Cv 0 w14 (γ 25) [0,1]:=Ak.get hF 25 Ab;clear hF;simp only[Bg,Nat.reduceAdd];generalize γ 19=g19 at *;generalize γ 24=g24 at *;generalize γ 25=g25 at *;clear γ;clear p19 p24 p25;have hx15:=hx.trans hx14;go_wp2
  go_ret
  exact Ae.mk rfl hx15
 ·have f4':∃ V,V≠1/\∀ X,Ext w X->Ba 18 #[.slice A0 m0.length c0,.agg #[.bool b1,.slice A1 n1 c1,.bool b2,.slice A2 n2 c2,.bool b3,.slice A3 n3 c3,.bool b4,.slice A4 n4 c4]] X (fun r _=>r = .int .i64 V):=by
   refine⟨_,?_,f4⟩;by_cases hqp:q<=p
   ·rw[if_pos hqp];decide
   ·rw[if_neg hqp];exact fun h=>hone ⟨Aj,h⟩
  obtain⟨V,hV1,f4'⟩:=f4';have hbV:(V==1)=false:=beq_eq_false_iff_ne.2 hV1;have f2':∀ X,Ext w X->∀ z,Cv 0 X z [0,1]->Ba 40 #[z,.slice A0 m0.length c0,.agg #[.bool b1,.slice A1 n1 c1,.bool b2,.slice A2 n2 c2,.bool b3,.slice A3 n3 c3,.bool b4,.slice A4 n4 c4]] X (fun r _=>r = .tuple #[.int .i64 0,.int .i64 12]):=fun X x z hz =>
   Ae.imp (f2 X x z hz) fun r _ ⟨s,E,e1,e2,_,e4⟩=>by
    rw[if_neg (fun h=>h HT.out.1.err),L6.err,if_neg Ab,if_neg hone]at e4;subst e4;rw[e1,e2 Ab]
  have HF:=Ad (Ah f1 (Ah f2' (Ah f3 (Ah f4' trivial))));have HO:=Ad hone;have HE:=Ad HT.out.1.err;clear f1 f2 f2' f3 f4 f4' hiv hone hD13 hD20 hl12 hV1;have cei:=ei.cells8;have fei:=ei.frozen
  go_wp2_with fail
  refine Calls.mono (HF.out.1 _ hx) ?_;rintro e w8 ⟨r8,rfl,⟨z8,E8,rfl,-,hz8,hE8⟩,hx8⟩;rw[if_neg (fun h=>h HE.out),if_neg HNN.out,if_neg HO.out]at hE8;subst hE8;obtain rfl:=hz8 Ab;clear hz8;clear cei fei;replace ei:=ei.ext hx8;replace hx:=hx.trans hx8;clear hx8;obtain⟨W9,eW9,er,y9⟩:=Bf.made w8 30 #[.bool false,.slice none 0 0,.bool false,.slice none 0 0,.bool false,.slice none 0 0,.bool false,.slice none 0 0] (by simp[Ag])
  skip;replace ei:=ei.ext y9;replace hx:=hx.trans y9;clear y9
  go_upto_region 6 with(fail)
  rw[<-eW9];clear eW9;generalize w8.heap.size=gr at *;have cei:=ei.cells8;have fei:=ei.frozen
  go_wp2_with fail
  refine CE 9 [46,47,48,49,50,45,51,52,9] [0,4] [_,_] [(fun γ=>γ 0),(fun γ=>γ 1),(kv ?_),(kv ?_),(kv (.tuple #[.int .i64 0,.int .i64 12])),(kv ?_),(kv ?_),(kv ?_),(kv ?_)] (fun γ w'=>[ES w' (γ 0) [0,1],Cv 0 w' (γ 1) [0,1],True,True,True,True,True,True,True]) ?s3 ?_ ?m3
  case s3 =>
   iterate 9 refine⟨?_,?_⟩
   trivial
   ·refine AV fun _ w' he R hR=>?_
    go_simp;exact hR _ _ ((Ext.refl _).alloc _) rfl (ES.new w' _ [0,1] Ab)
   ·refine Ei fun γ w' he hf R hR=>?_;have f0:ES w' (γ 0) [0,1]:=hf 0 Ab;clear hf
    go_simp;exact Be (F:=fun r w''=>Cv 0 w'' (r) [0,1]) (Ae.imp (ZU _ [0,1] w' f0 Ab Ab) fun _ _ h=>h.has (fun x hx=>by have:=K1.out x hx;omega)) hR
   iterate 2 focus
    refine AV fun _ w' he R hR=>?_;have hc:=he.cells;have cq0:=(ei.ext he).cells8;go_simp;exact Bj hR
   ·refine Ei fun γ w' he hf R hR=>?_;have f1:Cv 0 w' (γ 1) [0,1]:=hf 1 Ab;clear hf
    go_simp;exact JN (HF.out.2.1 w' (hx.trans he) _ f1) hR
   iterate 4 focus
    refine AV fun _ w' he R hR=>?_;have hc:=he.cells;go_simp;(try go_ints);(try(rw[if_neg Aa]));(try(rw[if_pos Aa]));(try go_simp);(try go_ints)
    exact Bj hR
  case m3 =>
   exact⟨⟨⟨⟨⟨⟨⟨⟨⟨trivial,(fun γ w w' e h=>NT h e)⟩,(fun γ wA w' e h=>(show Cv 0 wA (γ 1) [0,1]from h).ext e)⟩,(fun γ wA w' e h=>h)⟩,(fun γ wA w' e h=>h)⟩,(fun γ wA w' e h=>h)⟩,(fun γ wA w' e h=>h)⟩,(fun γ wA w' e h=>h)⟩,(fun γ wA w' e h=>h)⟩,(fun γ wA w' e h=>h)⟩
  intro γ w10 hx10 hF;have p0:ES w10 (γ 0) [0,1]:=Ak.get hF 0 Ab;have p1:Cv 0 w10 (γ 1) [0,1]:=Ak.get hF 1 Ab;clear hF;simp only[Bg,Nat.reduceAdd];generalize γ 0=g0 at *;generalize γ 1=g1 at *;clear γ;clear p0 p1;clear cei fei;skip;replace ei:=ei.ext hx10;replace er:=er.ext hx10;replace hx:=hx.trans hx10;clear hx10;have cei:=ei.cells8;have fei:=ei.frozen
  go_wp2_with fail
  refine Calls.mono (HF.out.2.2.1 _ hx) ?_;rintro e w12 ⟨r12,rfl,⟨s12,E12,rfl,hs12,-,hE12⟩,hx12⟩;rw[if_neg (fun h=>h HE.out),if_pos HO.out]at hE12;subst hE12;obtain rfl:=hs12 Ab;clear hs12;clear cei fei;skip;replace ei:=ei.ext hx12;replace er:=er.ext hx12;replace hx:=hx.trans hx12;clear hx12;have cei:=ei.cells8;have fei:=ei.frozen
  go_wp2_with fail
  refine AA (HF.out.2.2.2.1 _ hx) ?_;rintro r13 w13 rfl hx13;clear cei fei;skip;replace ei:=ei.ext hx13;replace er:=er.ext hx13;replace hx:=hx.trans hx13;clear hx13;have cer:=er.cells8;have fer:=er.frozen;go_wp2
  go_ret
  exact Ae.mk rfl hx
open Go.ChangeShapes Go.WideShapes Go.ChangeAt
open Go.ChangeMaps (open_string shut_string)
theorem own_:ownKnob Tryz.prog.godebug=none:=by kernel_rfl
theorem laidOut_:laidOutB Tryz.prog=true:=by kernel_rfl
set_option maxRecDepth 100000 in
theorem realrootsMembers_lifted(os:Os)(started:os.Started)(H:Type)(enc:TypeId×Value->H)(F:Stop.Interp) :
  ReturnsInHanded {} Tryz.checked os 10 .any ((Rows.OpenSpec.upto Rows.realrootsMembersSpec).pre6 enc Tryz.prog Tryz.f10 Rows.realrootsMembersUptoRow.domain false) (((Rows.OpenSpec.upto Rows.realrootsMembersSpec).at F).post enc Tryz.prog Tryz.f10 false true false false):=by
 refine returnsInHanded_of_cond (C:=Tryz.checked) (s:=Rows.OpenSpec.upto Rows.realrootsMembersSpec) (k:=Rows.uptoSmall) rfl own_ started Fh Tryz.func10
  (OpenSpec.witness (enc:=enc) (C:=Tryz.checked) (s:=Rows.OpenSpec.upto Rows.realrootsMembersSpec) (k:=Rows.uptoSmall) rfl false ⟨#[],#[.slice none 0 0,.agg #[.bool false,.slice none 0 0,.bool false,.slice none 0 0,.bool false,.slice none 0 0,.bool false,.slice none 0 0],.int .i64 0],[]⟩ 8 Fh Fh Fh
   (x:=([.nil,.agg [.agg [.agg [.lit (.bool false),.nil],.agg [.lit (.bool false),.nil]],.agg [.agg [.lit (.bool false),.nil],.agg [.lit (.bool false),.nil]]],.lit (.int .i64 0)],[],[])) Fh rfl Fh) ?_
 intro W base args ds gs before hval hW _ hk _;have hW':=hW;obtain⟨p,q,hA0,hV,rfl,hfz,hnd⟩:=hW;have hA:DataW.TrodAll enc Tryz.prog W 0 (fun _=>true) true Tryz.f10.params.toList args.toList ds p:=hA0;rw[Tryz.params10]at hA hval;obtain⟨v0,v1,v2,d0,d1,d2,p0,p1,p2,hargs,rfl,rfl,h0,h1,h2⟩:=trodAll_three hA;obtain rfl:args=#[v0,v1,v2]:=by cases args;simp_all
 obtain⟨rfl,rfl⟩:=trodVars_none hV;have lt0:∀ x∈p0,x.block < W.heap.size:=by obtain⟨m,hm⟩:=h0;exact DataW.trod_lt m _ _ _ hm
 have lt1:∀ x∈p1,x.block < W.heap.size:=by obtain⟨m,hm⟩:=h1;exact DataW.trod_lt m _ _ _ hm
 have hkk:=of_decide_eq_true hk;have hb0:Rows.uptoBulk d0<=1048576:=Nat.le_trans (Ew (d:=d0) (l:=[d0,d1,d2] ++ []) Ac) hkk;have hb1:Rows.uptoBulk d1<=1048576:=Nat.le_trans (Ew (d:=d1) (l:=[d0,d1,d2] ++ []) Ac) hkk;obtain⟨l0,w0,b0⟩:∃ l,Eo W v0 l/\TM l:=by
  obtain⟨m,hm⟩:=h0;have hs:=okWide_slice Tryz.underlying23 (hval 0 23 v0 rfl rfl);obtain⟨l,hl⟩:=U5 Tryz.underlying23 hm hs;exact⟨l,hl,Wi Tryz.underlying23 hm hs hl hb0⟩
 obtain⟨x1,y1,w1,b1⟩:∃ x y,Zi W v1 x y/\x.2.1.length<=1048576/\x.2.2.2.length<=1048576/\y.2.1.length<=1048576/\y.2.2.2.length<=1048576:=by
  obtain⟨m,hm⟩:=h1;obtain⟨x,y,cs,e1,e2,e3,e4⟩:=bK hm;exact⟨x,y,by rw[OL e1 e2];exact e3,by have hq:Rows.uptoBulk (d1,p1).fst<=1048576:=hb1;omega⟩
 obtain⟨a2,rfl,rfl,rfl,w2⟩:=open_int Tryz.underlying3 (hval 2 3 v2 rfl rfl) h2;clear hA0 hkk hk;refine(RL v0 v1 a2 l0 x1 y1 W w0 w1 b0 b1).mono fun e W' ⟨v,he,hv,bel⟩=>?_;subst he hv;exact⟨_,rfl,_,_,_,[],_,[],hW',trodAll_mk1 (shut_bool Tryz.underlying4 _),(trodAll_cons_mk (Below.trod laidOut_ Fh (of_decide_eq_true Fh) h0 bel lt0) (trodAll_cons_mk (Below.trod laidOut_ Fh (of_decide_eq_true Fh) h1 bel lt1) (trodAll_cons_mk (shut_int Tryz.underlying3 w2) trodAll_mk0))),rfl,bel.frame _,fun h=>by cases h⟩
theorem realrootsMembers_over:Rows.realrootsMembersUptoRow.holds Tryz.pinned (Rows.OpenSpec.upto Rows.realrootsMembersSpec):=
 OpenClaim.holds_of_cond 10 Tryz.f10 rfl rfl rfl rfl rfl rfl rfl ⟨rfl,rfl,rfl,rfl,rfl⟩ rfl rfl rfl rfl rfl Fh Tryz.func10 Fh
  (of_decide_eq_true Fh) (by unfold Func.isWrapper;first | (rw[if_pos (by decide +kernel)];kernel_rfl) | (rw[if_neg (by decide +kernel)];exact⟨rfl,rfl⟩))
  (fun os started H enc _ F=>realrootsMembers_lifted os started H enc F)
theorem realrootsMembers_proved:Rows.RealrootsMembersUptoSaid:=realrootsMembers_over
end Go.Proofs.YtmhgnigpmompmaaGreat
