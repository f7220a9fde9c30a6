/- Lemmas. -/
import Derived.Test.YtmhgnigpmompmaaGreatRf1
import Derived.Test.YtmhgnigpmompmaaGreatRf2
import Derived.Test.YtmhgnigpmompmaaGreatRf3
import Derived.Deep.RegionHeld3
import Derived.Test.YtmhgnigpmompmaaGreatRows
import Derived.WalkKit
import Derived.ProofKit
import Derived.OpenShut
import Derived.ShutString
import Derived.ChangeOld
import Derived.Below
import Derived.JoinedCond
set_option linter.unusedVariables false
set_option linter.unusedSimpArgs false
set_option maxHeartbeats 16000000
namespace Go.Hp
/-! ### absolute values -/
def ab(q:Rat):Rat:=if q < 0 then -q else q
theorem Ak(q:Rat):0≤ab q:=by unfold ab;split<;>grind
theorem Lh(q:Rat):ab (-q)=ab q:=by unfold ab;split<;>split<;>grind
theorem ER{q t:Rat}:ab q≤t ↔ -t≤q∧q≤t:=by unfold ab;split<;>grind
theorem Sr(q:Rat):q≤ab q:=by unfold ab;split<;>grind
theorem Sv{q:Rat}:ab q=0↔q=0:=by unfold ab;split<;>grind
theorem EX(p q:Rat):ab (p+q)≤ab p+ab q:=by unfold ab;split<;>split<;>split<;>grind
theorem X5(p q:Rat):ab (p - q)≤ab p+ab q:=by unfold ab;split<;>split<;>split<;>grind
theorem WE{q:Rat}:0 < ab q↔q≠0:=by unfold ab;split<;>grind
theorem Dj{q:Rat}(h:0≤q):ab q=q:=by unfold ab;split<;>grind
theorem Pq{p q:Rat}(hp:p < 0)(hq:q < 0):0 < p*q:=by
 have:=Rat.mul_pos (a:=-p) (b:=-q) Ag Ag;grind
theorem IX{p q:Rat}(hp:0 < p)(hq:q < 0):p*q < 0:=by
 have:=Rat.mul_pos (a:=p) (b:=-q) hp Ag;grind
theorem Cc(p q:Rat):ab (p*q)=ab p*ab q:=by
 have z0:ab 0=0:=rfl;by_cases p0:p=0
 ·rw[p0,Rat.zero_mul,z0,Rat.zero_mul]
 by_cases q0:q=0
 ·rw[q0,Rat.mul_zero,z0,Rat.mul_zero]
 by_cases a:p < 0<;>by_cases b:q < 0
 ·have:=Pq a b;unfold ab;rw[if_neg (show ¬ p*q < 0 by grind),if_pos a,if_pos b];grind
 ·have:=IX (show 0 < q by grind) a;unfold ab;rw[if_pos (show p*q < 0 by grind),if_pos a,if_neg b];grind
 ·have:=IX (show 0 < p by grind) b;unfold ab;rw[if_pos (show p*q < 0 by grind),if_neg a,if_pos b];grind
 ·have:=Rat.mul_pos (show 0 < p by grind) (show 0 < q by grind);unfold ab;rw[if_neg (show ¬ p*q < 0 by grind),if_neg a,if_neg b]
theorem Em{a b c d:Rat}(h1:a≤b)(h2:c≤d)(hc:0≤c)(hb:0≤b):a*c≤b*d:=by
 have e1:a*c≤b*c:=Rat.mul_le_mul_of_nonneg_right h1 hc;have e2:b*c≤b*d:=Rat.mul_le_mul_of_nonneg_left h2 hb;grind
/-! ### signs -/
def Bl(q:Rat):Int:=if 0 < q then 1 else if q < 0 then -1 else 0
theorem Db{q:Rat}:Bl q=0↔q=0:=by unfold Bl;split<;>(try split)<;>grind
theorem DL(q:Rat):Bl q=0∨Bl q=1∨Bl q = -1:=by unfold Bl;split<;>(try split)<;>simp
def JU:Int→List Int→Nat
 | _,[]=>0
 | last,s::l=>if s=0 then JU last l else(if last = -s then 1 else 0)+JU s l
inductive IA:Int→List (Int×Int)→Prop
 | nil (σ:Int):IA σ []
 | tight (σ p:Int) (l:List (Int×Int)) (hp:p≠0) (h:IA p l):IA σ ((p,p)::l)
 | loose (σ p q:Int) (l:List (Int×Int)) (h:IA (-σ) l):IA σ ((p,q)::(-σ,-σ)::l)
theorem OH{σ p:Int}(hσ:σ=1∨σ = -1)(hp:p=0∨p=1∨p = -1)(l:List Int):JU σ (p :: -σ::l)=1+JU (-σ) l:=by
 rcases hσ with rfl | rfl<;>rcases hp with rfl | rfl | rfl<;>simp[JU]
theorem Pt{σ:Int}{l:List (Int×Int)}(h:IA σ l):(σ=1∨σ = -1)→(∀ x∈l,(x.1=0∨x.1=1∨x.1 = -1)∧(x.2=0∨x.2=1∨x.2 = -1))→JU σ (l.map (·.1))=JU σ (l.map (·.2)):=by
 induction h with
 | nil σ=>intro _ _;rfl
 | tight σ p l hp h ih =>
  intro hσ hx;have hpq:=(hx (p,p) Ac).1;have hp1:p=1∨p = -1:=by rcases hpq with a | a | a;exact absurd a hp;exact .inl a;exact .inr a
  have:=ih hp1 (fun x hm=>hx x (by simp[hm]));simp only[List.map_cons,JU,if_neg hp,this]
 | loose σ p q l h ih =>
  intro hσ hx;have hpq:=hx (p,q) Ac;have hσ' : -σ=1 ∨ -σ = -1:=by rcases hσ with rfl | rfl;exact .inr rfl;exact .inl rfl
  have:=ih hσ' (fun x hm=>hx x (by simp[hm]));simp only[List.map_cons];rw[OH hσ hpq.1,OH hσ hpq.2,this]
structure Jw(m:Nat)(a b:Nat→Rat)(T d:Rat):Prop where
 t1:1≤T
 d0:0 < d
 sm:4*(T*(T*(T*(T*d)))) < 1
 lip:∀ i,i≤m→ab (a i - b i)≤T*d
 beza:∀ i,i < m→∃ U W,U*a i+W*a (i+1)=1∧ab U≤T∧ab W≤T
 bezb:∀ i,i < m→∃ U W,U*b i+W*b (i+1)=1∧ab U≤T∧ab W≤T
 reca:∀ i,i+2≤m→∃ q c,a i=q*a (i+1) - c*a (i+2)∧ab q≤T∧0 < c∧1≤T*c
 recb:∀ i,i+2≤m→∃ q c,b i=q*b (i+1) - c*b (i+2)∧ab q≤T∧0 < c∧1≤T*c
 lst:a m=b m∧a m≠0
 top:1≤m→∃ k r,b 0 - a 0=d*(k*a 1+d*r)∧0 < k∧1≤T*k∧ab r≤T
section
variable{m:Nat}{a b:Nat→Rat}{T d:Rat}
theorem Jw.small(h:Jw m a b T d):0 < T∧2*(T*d) < 1∧2*(T*(T*d)) < 1∧2*(T*(T*(T*d))) < 1∧0 < T*d∧0 < T*(T*d)∧T*d≤T*(T*d):=by
 have hT:0 < T:=by have:=h.t1;grind
 have hd:=h.d0;have e1:0 < T*d:=Rat.mul_pos hT hd;have e2:0 < T*(T*d):=Rat.mul_pos hT e1;have e3:0 < T*(T*(T*d)):=Rat.mul_pos hT e2;have f1:1*(T*(T*(T*d)))≤T*(T*(T*(T*d))):=Rat.mul_le_mul_of_nonneg_right h.t1 Ag;have f2:1*(T*(T*d))≤T*(T*(T*d)):=Rat.mul_le_mul_of_nonneg_right h.t1 Ag;have f3:1*(T*d)≤T*(T*d):=Rat.mul_le_mul_of_nonneg_right h.t1 Ag;have:=h.sm;refine⟨hT,?_,?_,?_,e1,e2,?_⟩<;>grind
theorem Fq{p q t:Rat}(h:ab (p - q)≤t)(hn:¬ (Bl p=Bl q∧Bl p≠0)):ab p≤t∧ab q≤t:=by
 rw[ER]at h;rw[ER,ER];unfold Bl at hn;by_cases a1:0 < p<;>by_cases a2:p < 0<;>by_cases b1:0 < q<;>by_cases b2:q < 0<;>simp_all<;>grind
theorem SC{x y U W T d:Rat}(hT:0 < T)(h2:2*(T*(T*d)) < 1)(e:U*x+W*y=1)(hU:ab U≤T)(hW:ab W≤T)(hx:ab x≤T*d):1 < 2*(T*ab y):=by
 have h1:ab (U*x)≤T*(T*d):=by rw[Cc];exact Em hU hx (Ak _) Ag
 have h3:ab (W*y)≤T*ab y:=by rw[Cc];exact Em hW Ag (Ak _) Ag
 have h4:=Sr (U*x);have h5:=Sr (W*y);grind
theorem Og{p q:Rat}(h:ab (p - q) < ab p):Bl p=Bl q∧Bl p≠0:=by
 unfold ab at h;unfold Bl
 split at h<;>split at h<;>(split<;>(try split)<;>(try split)<;>(try split))<;>grind
theorem Jw.next_tight(h:Jw m a b T d){i:Nat}(hi:i < m)(hn:¬ (Bl (a i)=Bl (b i)∧Bl (a i)≠0)) :
  (Bl (a (i+1))=Bl (b (i+1))∧Bl (a (i+1))≠0)∧1 < 2*(T*ab (a (i+1)))∧1 < 2*(T*ab (b (i+1)))∧ab (a i)≤T*d∧ab (b i)≤T*d:=by
 obtain⟨hT,s1,s2,s3,p1,p2,p3⟩:=h.small;obtain⟨l1,l2⟩:=Fq (h.lip i Aa) hn;obtain⟨U,W,e,hU,hW⟩:=h.beza i hi;obtain⟨U',W',e',hU',hW'⟩:=h.bezb i hi;have b1:=SC hT s2 e hU hW l1;have b2:=SC hT s2 e' hU' hW' l2;have hl:=h.lip (i+1) Aa;refine⟨Og ?_,b1,b2,l1,l2⟩;refine Std.lt_of_le_of_lt hl ?_;rcases Std.lt_trichotomy (T*d) (ab (a (i+1)))with c | c | c
 ·exact c
 ·exfalso;rw[←c]at b1;grind
 ·exfalso
  have:=Rat.mul_lt_mul_of_pos_left c hT;grind
theorem RZ{x y z q c T d:Rat}(hT:0 < T)(hc:0 < c)(hTc:1≤T*c)(hq:ab q≤T)(hy:ab y≤T*d)(hz:1 < 2*(T*ab z))(hs:4*(T*(T*(T*(T*d)))) < 1)(e:x=q*y - c*z)(hd:0 < T*d):Bl z = - Bl x∧Bl x≠0:=by
 have h1:ab (q*y)≤T*(T*d):=by rw[Cc];exact Em hq hy (Ak _) Ag
 have h2:T*(T*d) < c*ab z:=by
  -- 1 < 2 T |z| and 1≤T c
  have hz0:0≤ab z:=Ak z;have k1:1*(T*ab z)≤(T*c)*(T*ab z):=Rat.mul_le_mul_of_nonneg_right hTc (by have:=Rat.mul_nonneg (show 0≤T by grind) hz0;grind);have k2:2*(T*(T*(c*ab z))) > 1:=by grind
  have k3:T*(T*(T*(T*d))) < T*(T*(c*ab z)):=by grind
  rcases Std.lt_trichotomy (T*(T*d)) (c*ab z)with a | a | a
  ·exact a
  ·exfalso;rw[a]at k3;grind
  ·exfalso
   have m1:=Rat.mul_lt_mul_of_pos_left a hT;have m2:=Rat.mul_lt_mul_of_pos_left m1 hT;grind
 have h3:=ER.1 h1;have hzne:z≠0:=fun e0=>by rw[e0]at hz;have:ab 0=0:=rfl;rw[this]at hz;grind
 rcases Std.lt_trichotomy z 0 with a | a | a
 ·have e1:ab z = -z:=by unfold ab;rw[if_pos a]
  rw[e1]at h2;have hx:0 < x:=by grind
  unfold Bl;rw[if_neg (show ¬ 0 < z by grind),if_pos a,if_pos hx];exact⟨rfl,Ab⟩
 ·exact absurd a hzne
 ·have e1:ab z=z:=by unfold ab;rw[if_neg Ag]
  rw[e1]at h2;have hx:x < 0:=by grind
  unfold Bl;rw[if_pos a,if_neg (show ¬ 0 < x by grind),if_pos hx];exact⟨rfl,Ab⟩
def QW(a b:Nat→Rat)(i n:Nat):List (Int×Int):=(List.range n).map fun j=>(Bl (a (i+j)),Bl (b (i+j)))
theorem JJ(a b:Nat→Rat)(i n:Nat):QW a b i (n+1)=(Bl (a i),Bl (b i))::QW a b (i+1) n:=by
 unfold QW;rw[List.range_succ_eq_map,List.map_cons,List.map_map,Nat.add_zero];congr 1;refine List.map_congr_left fun j _=>?_;show(Bl (a (i+(j+1))),Bl (b (i+(j+1))))=(Bl (a (i+1+j)),Bl (b (i+1+j)));rw[show i+(j+1)=i+1+j by omega]
theorem Jw.good(h:Jw m a b T d):∀(n i:Nat),i+n=m→(Bl (a i)=Bl (b i)∧Bl (a i)≠0)→IA (Bl (a i)) (QW a b (i+1) n):=by
 intro n;induction n using Nat.strongRecOn with
 | ind n ih =>
  intro i hi ht
  match n,ih,hi with
  | 0,_,_=>exact IA.nil _
  | n+1,ih,hi =>
   rw[JJ];by_cases hn:Bl (a (i+1))=Bl (b (i+1))∧Bl (a (i+1))≠0
   ·rw[←hn.1]
    exact IA.tight _ _ _ hn.2 (ih n Aa (i+1) Aa hn)
   ·have hlt:i+1 < m:=by
     rcases Nat.lt_or_ge (i+1) m with c | c
     ·exact c
     ·exfalso
      have e:i+1=m:=by omega
      rw[e]at hn;exact hn ⟨by rw[h.lst.1],fun z=>h.lst.2 (Db.1 z)⟩
    obtain⟨hT,s1,s2,s3,p1,p2,p3⟩:=h.small;obtain⟨t1,t2,t3,t4,t5⟩:=h.next_tight hlt hn;obtain⟨q,c,e,hq,hc,hTc⟩:=h.reca i Aa;obtain⟨q',c',e',hq',hc',hTc'⟩:=h.recb i Aa;have o1:=(RZ hT hc hTc hq t4 t2 h.sm e p1).1;have o2:=(RZ hT hc' hTc' hq' t5 t3 h.sm e' p1).1
    match n,ih,hi with
    | 0,_,hi=>omega
    | n+1,ih,hi =>
     rw[JJ];have ob:Bl (b (i+1+1)) = - Bl (a i):=by rw[ht.1];exact o2
     have oa:Bl (a (i+1+1)) = - Bl (a i):=o1;rw[ob,oa];refine IA.loose _ _ _ _ ?_;rw[←oa];exact ih n Aa (i+1+1) Aa t1
theorem MS(a b:Nat→Rat)(i n:Nat):∀ x∈QW a b i n,(x.1=0∨x.1=1∨x.1 = -1)∧(x.2=0∨x.2=1∨x.2 = -1):=fun x hx=>by
 obtain⟨j,-,rfl⟩:=List.mem_map.1 hx;exact⟨DL _,DL _⟩
def U5(a:Nat→Rat)(n:Nat):Nat:=JU 0 ((List.range n).map fun j=>Bl (a j))
theorem Y0(a b:Nat→Rat)(n:Nat):(QW a b 0 n).map (·.1)=(List.range n).map fun j=>Bl (a j):=by
 unfold QW;rw[List.map_map];refine List.map_congr_left fun j _=>?_;simp
theorem XR(a b:Nat→Rat)(n:Nat):(QW a b 0 n).map (·.2)=(List.range n).map fun j=>Bl (b j):=by
 unfold QW;rw[List.map_map];refine List.map_congr_left fun j _=>?_;simp
theorem Jw.sturm(h:Jw m a b T d):U5 a (m+1)=U5 b (m+1)+(if Bl (a 0)≠0∧Bl (b 0)≠Bl (a 0)then 1 else 0):=by
 have k1:U5 a (m+1)=JU 0 ((QW a b 0 (m+1)).map (·.1)):=by rw[Y0];rfl
 have k2:U5 b (m+1)=JU 0 ((QW a b 0 (m+1)).map (·.2)):=by rw[XR];rfl
 rw[k1,k2,JJ];simp only[List.map_cons];by_cases ht:Bl (a 0)=Bl (b 0)∧Bl (a 0)≠0
 ·have hg:=h.good m 0 Aa ht
  have hσ:Bl (a 0)=1∨Bl (a 0) = -1:=by rcases DL (a 0)with c | c | c;exact absurd c ht.2;exact .inl c;exact .inr c
  have:=Pt hg hσ (MS _ _ _ _);rw[if_neg (fun q=>q.2 ht.1.symm)];simp only[JU,←ht.1,if_neg ht.2,this];rfl
 ·have hm:0 < m:=by
   rcases Nat.eq_zero_or_pos m with c | c
   ·subst c;exact absurd ⟨by rw[h.lst.1],fun z=>h.lst.2 (Db.1 z)⟩ ht
   ·exact c
  obtain⟨n,rfl⟩:∃ n,m=n+1:=⟨m - 1,Aa⟩
  obtain⟨hT,s1,s2,s3,p1,p2,p3⟩:=h.small;obtain⟨t1,t2,t3,t4,t5⟩:=h.next_tight hm ht;have hg:=h.good n 1 Aa t1;have hσ:Bl (a 1)=1∨Bl (a 1) = -1:=by rcases DL (a 1)with c | c | c;exact absurd c t1.2;exact .inl c;exact .inr c
  have hv:=Pt hg hσ (MS _ _ _ _);rw[JJ];simp only[List.map_cons]
  -- the direction
  obtain⟨k,r,e,hk,hTk,hr⟩:=h.top Aa;have hd:=h.d0;have hdir:0 < ab (a 1)∧d*ab r < k*ab (a 1):=by
   have ha:0 < ab (a 1):=WE.2 fun z=>t1.2 (Db.2 z);refine⟨ha,?_⟩;have g1:d*ab r≤d*T:=Rat.mul_le_mul_of_nonneg_left hr Ag;have k1:1*(T*ab (a 1))≤(T*k)*(T*ab (a 1)):=Rat.mul_le_mul_of_nonneg_right hTk (by have:=Rat.mul_pos hT ha;grind);have k2:2*(T*(T*(k*ab (a 1)))) > 1:=by have:=t2;grind
   have k3:T*(T*(T*d)) < T*(T*(k*ab (a 1))):=by grind
   rcases Std.lt_trichotomy (T*d) (k*ab (a 1))with c | c | c
   ·grind
   ·exfalso;rw[c]at k3;grind
   ·exfalso
    have m1:=Rat.mul_lt_mul_of_pos_left c hT;have m2:=Rat.mul_lt_mul_of_pos_left m1 hT;grind
  have hup:(0 < a 1→a 0 < b 0)∧(a 1 < 0→b 0 < a 0):=by
   have hr2:=ER.1 (Std.le_refl (ab r));have hdr:d*r≤d*ab r∧d*(-r)≤d*ab r:=⟨Rat.mul_le_mul_of_nonneg_left hr2.2 Ag,Rat.mul_le_mul_of_nonneg_left Ag Ag⟩
   refine⟨fun hp=>?_,fun hp=>?_⟩
   ·have e1:ab (a 1)=a 1:=by unfold ab;rw[if_neg Ag]
    rw[e1]at hdir;have:=Rat.mul_pos hd (show 0 < k*a 1+d*r by grind);grind
   ·have e1:ab (a 1) = - a 1:=by unfold ab;rw[if_pos hp]
    rw[e1]at hdir;have:=IX hd (show k*a 1+d*r < 0 by grind);grind
  have hcase:(Bl (a 0) = - Bl (a 1)∧Bl (b 0) ≠ - Bl (a 1))∨(Bl (a 0)=0∧Bl (b 0)=Bl (a 1)):=by
   rcases hσ with c | c
   ·have hp:0 < a 1:=by unfold Bl at c;split at c;assumption;split at c<;>simp at c
    have h1:=hup.1 hp;rw[c];unfold Bl at ht ⊢;by_cases a1:0 < a 0<;>by_cases a2:a 0 < 0<;>by_cases b1:0 < b 0<;>by_cases b2:b 0 < 0<;>simp_all<;>grind
   ·have hp:a 1 < 0:=by unfold Bl at c;split at c;simp at c;split at c;assumption;simp at c
    have h1:=hup.2 hp;rw[c];unfold Bl at ht ⊢;by_cases a1:0 < a 0<;>by_cases a2:a 0 < 0<;>by_cases b1:0 < b 0<;>by_cases b2:b 0 < 0<;>simp_all<;>grind
  have key:∀ p,(p=0∨p=1∨p = -1)→JU 0 (p::Bl (a 1)::(QW a b (0+1+1) n).map (·.2))=(if p = - Bl (a 1)then 1 else 0)+JU (Bl (a 1)) ((QW a b (0+1+1) n).map (·.2)):=by
   intro p hp;rcases hσ with c | c<;>rw[c]<;>rcases hp with rfl | rfl | rfl<;>simp[JU]
  have e1:(0+1+1)=1+1:=rfl;have ez:Bl (b (0+1))=Bl (a 1):=t1.1.symm;rw[ez];have kb:=key (Bl (b 0)) (DL _);have ka:=key (Bl (a 0)) (DL _);have hx:JU 0 (Bl (a 0)::Bl (a (0+1))::(QW a b (0+1+1) n).map (·.1))=JU 0 (Bl (a 0)::Bl (a 1)::(QW a b (0+1+1) n).map (·.2)):=by
   have:Bl (a (0+1))=Bl (a 1):=rfl;rw[this];rcases hσ with c | c<;>rw[c]at hv ⊢ <;> rcases DL (a 0)with q | q | q<;>rw[q]<;>simp only[JU]<;>simp[e1,hv]
  rw[hx,ka,kb];rcases hcase with⟨c1,c2⟩ | ⟨c1,c2⟩
  ·have n1:Bl (a 0)≠0:=by rw[c1];rcases hσ with q | q<;>rw[q]<;>decide
   rw[if_pos c1,if_neg c2,if_pos ⟨n1,fun q=>c2 (q.trans c1)⟩];omega
  ·have n1:¬ (Bl (a 0) = - Bl (a 1)):=by rw[c1];rcases hσ with q | q<;>rw[q]<;>decide
   have n2:¬ (Bl (b 0) = - Bl (a 1)):=by rw[c2];rcases hσ with q | q<;>rw[q]<;>decide
   rw[if_neg n1,if_neg n2,if_neg (fun q=>q.1 c1)];omega
end
open Go.RowKit
theorem KO(q:Rat):FM q=Bl q:=by
 unfold Bl
 split
 ·rename_i h;exact RU h
 ·split
  ·rename_i h1 h
   have h2:=JG (q:=-q);have h3:(-q).num = -q.num:=rfl;have h4:0 < -q:=by grind
   have:=h2.2 h4;exact Int.sign_eq_neg_one_of_neg Aa
  ·rename_i h1 h2
   have:q=0:=by grind
   rw[this];rfl
noncomputable def V(l:List (Nat→Rat))(x:Rat):Nat:=JU 0 (l.map fun F=>Bl (ev F x))
theorem UQ(l:List Int):∀ σ,JU σ l≤l.length:=by
 induction l with
 | nil=>intro σ;exact Nat.le_refl _
 | cons s l ih =>
  intro σ;rw[JU]
  split
  ·have:=ih σ;simp;omega
  ·have:=ih s
   split<;>simp<;>omega
end Go.Hp
namespace Go.Proofs.YtmhgnigpmompmaaGreat
open Go.RowKit Go.Hp
theorem Q5(v u:Value)(F:Nat→Rat)(x:Rat)(s t n:Nat)(w:World)(hv:AL 0 w v F)(hu:BG w u x)(hs:∀ i,qsz (F i)≤s)(ht:qsz x≤t)(hn:pl F≤n)(hK:1+n*(s+t+1)+s+t+1≤274877906944)(hn9:n≤1000) :
  Bi 90 #[v,u] w (fun r w'=>Cb w' r (ev F x)):=by
 obtain⟨l,a1,a2,-,a4⟩:=hv.hz (fun i=>by have:=hs i;omega);have hK2:l.length*(s+t+1)≤n*(s+t+1):=Nat.mul_le_mul_right _ Aa;have:=XI v u l x s t w a1 hu (by rw[a4];exact hs) ht Aa Aa;rw[←Es (Cw l),a4]at this;exact this
set_option maxRecDepth 20000 in
theorem TA(v u:Value)(us:List Value)(l:List (Nat→Rat))(x:Rat){eb:Nat}(base s t n:Nat)(w:World)(hv:Ir base eb 23 w v us l)(hu:BG w u x)(hs:∀ F∈l,(∀ i,qsz (F i)≤s)∧pl F≤n∧Ae F)(ht:qsz x≤t)
  (hK:1+n*(s+t+1)+s+t+1≤274877906944) (hn9:n≤1000) (hl:l.length≤1000) :
  Bi 101 #[v,u] w (fun r _=>r = .int .i64 (V l x:Nat)):=by
 have HV:=Ad hv;have HU:=Ad hu;obtain⟨A0,c0,rfl⟩:=hv.shape;obtain⟨b,B,n1,c1,b',B',n1',c1',x0,y0,rfl,-⟩:=hu.form;clear hv hu;have hev:∀ W (x1:Ext w W) i (h:i < l.length) u,AL 0 W u l[i]→Bi 90 #[u,.agg #[.bool b,.slice B n1 c1,.bool b',.slice B' n1' c1']] W (fun r w'=>Cb w' r (ev l[i] x)):=fun W x1 i h u hu =>
  Q5 u _ l[i] x s t n W hu (HU.out.ext x1) (hs _ (List.getElem_mem h)).1 ht (hs _ (List.getElem_mem h)).2.1 hK hn9
 have hqz:∀ i (h:i < l.length),qsz (ev l[i] x)≤274877906944:=fun i h=>by
  obtain⟨h1,h2,h3⟩:=hs _ (List.getElem_mem h);have h4:=Oh ((AC h3).mono h2) h1 ht;omega
 obtain⟨sg,hsg⟩:∃ sg,sg=l.map fun F=>Bl (ev F x):=⟨_,rfl⟩
 have hsl:sg.length=l.length:=by rw[hsg,List.length_map]
 have hsi:∀ i (h:i < l.length) (h':i < sg.length),FM (ev l[i] x)=sg[i]:=fun i h h'=>by
  rw[KO];simp[hsg]
 have hsc:∀ i (h':i < sg.length),sg[i]=0∨sg[i]=1∨sg[i] = -1:=fun i h'=>by
  simp only[hsg,List.getElem_map];exact DL _
 have hV:V l x=JU 0 sg:=by unfold V;rw[hsg]
 rw[hV];have HC:=Ad (Au hev (Au hqz (Au hsi hsc)));clear hev hqz hsi hsc hs ht hK hsg hV
 go_enter Tryz.func101,Tryz.ntmps101
 have ea:=AU.new w 28 #[.bool b,.slice B n1 c1,.bool b',.slice B' n1' c1'] (by simp[Aj]);have hx:=(Ext.refl w).alloc (.cells #[.bool b,.slice B n1 c1,.bool b',.slice B' n1' c1'] 28)
 go_upto_region 1 with(fail)
 generalize w.alloc (.cells #[.bool b,.slice B n1 c1,.bool b',.slice B' n1' c1'] 28)=W0 at *;go_wp2
 go_loopw [5,6,12] (fun cv lv iv wr=>∃ (i cc:Nat) (la:Int),i≤l.length∧iv = .int .i64 (i:Nat)∧cv = .int .i64 (cc:Nat)∧cc≤i∧lv = .int .i64 la∧(la=0∨la=1∨la = -1)∧cc+JU la (sg.drop i)=JU 0 sg∧AU wr w.heap.size 28 #[.bool b,.slice B n1 c1,.bool b',.slice B' n1' c1']∧Ext w wr) (fun _ _ iv _=>l.length - (intOf iv).toNat)
 case atStart=>exact⟨0,0,0,Nat.zero_le _,rfl,rfl,Nat.le_refl _,rfl,.inl rfl,Ac,ea,hx⟩
 case round =>
  clear ea hx;obtain⟨i,cc,la,hi,rfl,rfl,hcc,rfl,hla,hval,ea,hx⟩:=hrel;have Hval:=Ad hval;clear hval;by_cases hil:i < l.length
  ·obtain⟨g,o,E,d,rfl,hc,h5⟩:=(HV.out.ext hx).at_ hil
   have H5:=Ad h5;clear h5;obtain⟨cea0,cea1,cea2,cea3⟩:=ea.cells4;have fea:=ea.frozen
   go_wp2_with fail
   refine AO (HC.out.1 _ hx i hil _ H5.out) ?_;rintro r2 w2 hr2 hx2
   go_wp2_with fail
   refine AO (Ki _ _ _ (hr2.has (HC.out.2.1 i hil))) ?_;rintro r3 w3 rfl hx3;rw[HC.out.2.2.1 i hil Aa];have hdrop:sg.drop i=sg[i]'(Aa)::sg.drop (i+1):=List.drop_eq_getElem_cons Aa;have hsc:=HC.out.2.2.2 i Aa;have hval:=Hval.out;rw[hdrop,JU]at hval;obtain⟨sv,hsv⟩:∃ sv,sv=sg[i]'(Aa):=⟨_,rfl⟩
   simp only[←hsv]at hval hsc ⊢;clear hsv hdrop Hval hc H5 hr2 cea0 cea1 cea2 cea3 fea;have x23:=hx2.trans hx3;replace ea:=ea.ext x23;replace hx:=hx.trans x23;clear x23;clear hx2 hx3;rcases hsc with rfl | hs1
   ·rw[if_pos rfl]at hval
    have Hval:=Ad hval;clear hval;go_wp2
    go_roundw
    case rel=>exact⟨i+1,cc,la,Aa,by go_num,rfl,Aa,rfl,hla,Hval.out,ea,hx⟩
    case measure=>simp[intOf]<;>omega
   ·have hs0:sv≠0:=by rcases hs1 with h | h<;>rw[h]<;>decide
    rw[if_neg hs0]at hval;have hsb:(sv==0)=false:=by simpa using hs0
    by_cases hch:la = -sv
    ·rw[if_pos hch]at hval
     have Hval:=Ad hval;clear hval;have hneg:la*sv = -1:=by rw[hch];rcases hs1 with h | h<;>rw[h]<;>decide
     have HS:=Ad hs1;clear hs0 hch hs1;go_wp2
     go_roundw
     case rel=>exact⟨i+1,cc+1,sv,Aa,by go_num,by go_num,Aa,rfl,.inr HS.out,by have:=Hval.out;omega,ea,hx⟩
     case measure=>simp[intOf]<;>omega
    ·rw[if_neg hch]at hval
     have Hval:=Ad hval;clear hval;have hneg:decide (la*sv < 0)=false:=by
      rcases hla with rfl | rfl | rfl<;>rcases hs1 with rfl | rfl<;>first | rfl | (exact absurd rfl hch)
     have HS:=Ad hs1;have hw:wrap64 (la*sv)=la*sv:=by
      rcases hla with rfl | rfl | rfl<;>rcases hs1 with rfl | rfl<;>exact IntWalk.wrap64_in _ ⟨Aa,Aa⟩
     clear hs0 hch hs1;go_wp2
     go_roundw
     case rel=>exact⟨i+1,cc,sv,Aa,by go_num,rfl,Aa,rfl,.inr HS.out,by have:=Hval.out;omega,ea,hx⟩
     case measure=>simp[intOf]<;>omega
  ·obtain rfl:i=l.length:=by omega
   have hval:=Hval.out;rw[List.drop_eq_nil_of_le Aa]at hval;have hv2:cc=JU 0 sg:=hval;have Hv2:=Ad hv2;clear hv2 hval Hval;go_wp2
   go_ret
   exact Ah.mk (by rw[←Hv2.out];rfl) hx
set_option maxRecDepth 20000 in
theorem ZK(v u:Value)(l m:List Int)(S M:Nat)(w:World)(hv:EO 0 w v l)(hu:EO 0 w u m)(hs:∀ i,qsz (cz l i)≤S)(ht:∀ i,qsz (cz m i)≤S)(hn:l.length≤549755813888)(hm:m.length≤549755813888)(hM:(S+1)*2^(pl (cz l)+pl (cz m))≤M)(hB:M+(pl (cz l)+pl (cz m)+1)*(M+1)+M≤549755813888) :
  Bi 42 #[v,u] w (fun r w'=>AL 0 w' r (D8 (cz l) (cz m))):=by
 have HV:=Ad hv;have HU:=Ad hu;obtain⟨A0,c0,rfl⟩:=hv.len;obtain⟨A1,c1,rfl⟩:=hu.len;clear hv hu;have hc1:=BR (Cw l);have hc2:=BR (Cw m);have hSM:S+1≤M:=by
  have h:0 < 2^(pl (cz l)+pl (cz m)):=Nat.pow_pos Ab;have:=Nat.le_mul_of_pos_right (S+1) h;omega
 have hcn:sz (cn (cz l))≤S∧sz (cn (cz m))≤S:=⟨IE hs _,IE ht _⟩
 have hst:=Gu.start (Ae.cz l) (Ae.cz m) (ZI.cz l) (ZI.cz m) hs ht;have hP1:=fun W (x:Ext w W)=>EH _ l W (HV.out.ext x) Aa;have hP2:=fun W (x:Ext w W)=>EH _ m W (HU.out.ext x) Aa;have hC1:=IY _ l w HV.out Aa;have hC2:=fun W (x:Ext w W)=>IY _ m W (HU.out.ext x) Aa;have hz:=(show(∀ A,Gu (cz l) (cz m) (pl (cz l)+pl (cz m)) S A pz→psc ((Nat.gcd (cn (cz l)) (cn (cz m)):Nat):Rat) A=D8 (cz l) (cz m))from
  fun A h=>(VZ (h.end_ (Ae.cz l) (Ae.cz m) (ZI.cz l) (ZI.cz m) rfl)).symm)
 have hpl:pl (cz l)+pl (cz m)≤1099511627776:=by omega
 obtain⟨F,hF⟩:∃ F,F=cz l:=⟨_,rfl⟩
 obtain⟨G,hG⟩:∃ G,G=cz m:=⟨_,rfl⟩
 rw[←hF]at hcn hC1;rw[←hG]at hcn;rw[←hF,←hG]at hM hB hst hz hpl ⊢;simp only[←hF]at hP1;simp only[←hG]at hP2 hC2;have HC:=Ad (Au hC1 (Au hC2 (Au hP1 hP2)));have HX:=Ad (Au hM (Au hB (Au hz (Au hcn hSM))));have HSt:=Ad (Au hst hpl);clear hs ht hn hm hM hB hc1 hc2 hSM hcn hst hP1 hP2 hC1 hC2 hz hF hG hpl HV HU
 go_enter Tryz.func42,Tryz.ntmps42
 go_wp2_with fail
 refine AO HC.out.1 ?_;rintro r1 w1 hr1 hx
 go_wp2_with fail
 refine AO (HC.out.2.1 w1 hx) ?_;rintro r2 w2 hr2 hx2;have H12:=Ad (Au ((hr1.kd hx2.kd).has (by have h1:=HX.out.2.2.2.1.1;have h2:=HX.out.2.2.2.2;have h3:=HX.out.2.1;simp;omega)) (hr2.has (by have h1:=HX.out.2.2.2.1.2;have h2:=HX.out.2.2.2.2;have h3:=HX.out.2.1;simp;omega)));replace hx:=hx.trans hx2;clear hr1 hr2 hx2
 go_wp2_with fail
 refine AO (Sy _ _ (cn F:Nat) (cn G:Nat) _ H12.out.1 H12.out.2) ?_;rintro r3 w3 hr3 hx3;obtain⟨b5,A5,n5,c5,rfl⟩:=hr3.cells;obtain⟨cc,hcc⟩:∃ cc:Nat,cc=Nat.gcd (cn F) (cn G):=⟨_,rfl⟩
 replace hr3:AQ w3 (.agg #[.bool b5,.slice A5 n5 c5]) (cc:Nat):=by rw[hcc];exact hr3
 obtain⟨W4,eW4,e4,x4⟩:=AU.made w3 26 #[.bool b5,.slice A5 n5 c5] (by simp[Aj]);have ec:=Be.mk e4 (hr3.kd x4.kd);replace hx:=(hx.trans hx3).trans x4;have HCC:=Ad hcc;clear hx3 x4 hr3 e4 H12 hcc
 go_wp2_with fail
 rw[←eW4];clear eW4;generalize w3.heap.size=gc at *;refine AO (HC.out.2.2.1 W4 hx) ?_;rintro r5 w5 hr5 hx5;have ec5:=ec.ext hx5;replace hx:=hx.trans hx5;have H5:=Ad (hr5.base_le (Nat.zero_le _));clear hr5 hx5
 go_wp2_with fail
 refine AO (HC.out.2.2.2 w5 hx) ?_;rintro r6 w6 hr6 hx6;replace ec5:=ec5.ext hx6;replace hx:=hx.trans hx6;have h5:=H5.out.ext hx6;have h6:=hr6.base_le (Nat.zero_le _);clear hr6 hx6 H5;go_wp2
 go_loopw [0,1] (fun fv gv wr=>∃ A B,AL 0 wr fv A∧AL 0 wr gv B∧Gu F G (pl F+pl G) S A B∧Be wr gc 26 (cc:Nat)∧Ext w wr) (fun _ gv _=>XU gv)
 case atStart=>exact⟨_,_,h5,h6,HSt.out.1,ec5,hx⟩
 case round =>
  clear h5 h6 ec5 hx ec;obtain⟨A,B,hA,hB,hst,ec,hx⟩:=hrel;obtain⟨A2,c2,rfl,-⟩:=hA.shape;obtain⟨A3,c3,rfl,-⟩:=hB.shape;have HA:=Ad (Au hA hB);clear hA hB;have HS:=Ad hst;clear hst;by_cases h0:0 < pl B
  ·have hbn:B≠pz:=fun e=>by rw[e,C8]at h0;omega
   have hroom:=HS.out.room rfl;have hpl:=HS.out.deg;have HR:=Ad (show(∀ i,qsz (A i)≤M)∧(∀ i,qsz (B i)≤M)∧M+(pl A+1)*(M+1)+M≤549755813888∧B≠pz∧pl A≤1099511627776∧pl B≤1099511627776 from by
    refine⟨fun i=>Nat.le_trans (hroom.1 i) HX.out.1,fun i=>Nat.le_trans (hroom.2.1 i) HX.out.1,?_,hbn,by have:=HSt.out.2;omega,by have:=HSt.out.2;omega⟩;have h1:=HX.out.2.1;have h2:(pl A+1)*(M+1)≤(pl F+pl G+1)*(M+1):=Nat.mul_le_mul_right _ Aa;omega)
   have hst2:=HS.out.step hbn (R:=CR A B (pl A+1 - pl B)) rfl;have HS2:=Ad (Au hst2.1 (Au hst2.2 hroom.2.2));clear hst2 hbn hroom hpl
   go_wp2_with fail
   refine Calls.mono (Zj _ _ A B M _ HA.out.1 HA.out.2 HR.out.1 HR.out.2.1 HR.out.2.2.2.1 (by have h1:=HR.out.2.2.1;have:(pl A+1)*1≤(pl A+1)*(M+1):=Nat.mul_le_mul_left _ Aa;omega) (by
    have h1:=HX.out.2.1;have h2:=HS.out.deg;have:(pl F+pl G+1)*1≤(pl F+pl G+1)*(M+1):=Nat.mul_le_mul_left _ Aa;omega) HR.out.2.2.1) ?_
   rintro e w7 ⟨r7,rfl,⟨qv,rv,rfl,hq,hr⟩,hx7⟩;have hrr:=hr.base_le (b:=0) (Nat.zero_le _);have hB7:=HA.out.2.ext hx7;have ec7:=ec.ext hx7;replace hx:=hx.trans hx7;have H7:=Ad (Au hrr hB7);clear hr hrr hB7 hq hx7 ec
   go_wp2_with fail
   refine Calls.mono (GR _ _ _ H7.out.1 (fun i=>by
    have h1:=HS2.out.2.2 i;have h2:=HX.out.1;have h3:(S+1)*2^(pl F+pl G - (pl A+pl B)+(pl A+1 - pl B))≤(S+1)*2^(pl F+pl G)*2:=by
     have e1:(S+1)*2^(pl F+pl G)*2=(S+1)*2^(pl F+pl G+1):=by rw[Nat.pow_succ,Nat.mul_assoc]
     rw[e1];refine Nat.mul_le_mul_left _ (Nat.pow_le_pow_right Ab ?_);have:=HS.out.deg;omega
    have h4:=HX.out.2.1;omega) (by have:=SQ HS.out.fA HS.out.fB HR.out.2.2.2.1;have:=HR.out.2.2.2.2.2;omega)) ?_
   rintro e w8 ⟨r8,rfl,hr8,hx8⟩;have hB8:=H7.out.2.ext hx8;have hp8:=hr8.base_le (b:=0) (Nat.zero_le _);have ec8:=ec7.ext hx8;replace hx:=hx.trans hx8;obtain⟨A4,c4,rfl,-⟩:=hr8.shape;have H8:=Ad (Au hB8 hp8);clear hB8 hp8 hr8 hx8 ec7 H7;go_wp2
   go_roundw
   case rel=>exact⟨_,_,H8.out.1,H8.out.2,HS2.out.1,ec8,hx⟩
   case measure=>exact HS2.out.2.1
  ·have hbz:B=pz:=(Bw HS.out.fB).1 Aa
   have hroom:=HS.out.room rfl;subst hbz;have hz:=HX.out.2.2.1 A HS.out;have HZ:=Ad (Au hz (Au hroom.1 (show pl A≤1099511627776 by have:=HS.out.deg;have:=HSt.out.2;omega)));have h0:pl pz=0:=C8;rw[h0];clear hz hroom;obtain⟨b,Bv,bn,bc,e8,hb8⟩:=ec;have Hb:=Ad hb8;clear hb8;obtain⟨ce80,ce81⟩:=e8.cells2;have fe8:=e8.frozen
   go_wp2_with fail
   refine Calls.mono (Tz _ _ A (cc:Nat) _ HA.out.1 (fun i=>by have h1:=HZ.out.2.1 i;have h2:=HX.out.1;have h3:=HX.out.2.1;omega) (Hb.out.has (by
    rw[HCC.out];have h1:=HX.out.2.2.2.1;have h2:sz (Nat.gcd (cn F) (cn G))≤S:=by
     by_cases e:cn F=0
     ·rw[e,Nat.gcd_zero_left];exact h1.2
     ·exact Nat.le_trans (Bq (Nat.gcd_le_left _ (Nat.pos_of_ne_zero e))) h1.1
    have h3:=HX.out.2.2.2.2;have h4:=HX.out.2.1;simp only[Int.natAbs_natCast];omega)) HZ.out.2.2) ?_
   rintro e w9 ⟨r9,rfl,hr9,hx9⟩;have h9:AL 0 w9 r9 (D8 F G):=by
    rw[←HZ.out.1,←HCC.out];exact hr9
   have H9:=Ad h9;clear h9 hr9;go_wp2
   go_ret
   exact Ah.mk H9.out (hx.trans hx9)
theorem Zz(v u:Value)(F G:Nat→Rat)(S M:Nat)(w:World)(hv:AL 0 w v F)(hu:AL 0 w u G)(hs:∀ i,qsz (F i)≤S)(ht:∀ i,qsz (G i)≤S)(hn:pl F≤549755813888)(hm:pl G≤549755813888)(hM:(S+1)*2^(pl F+pl G)≤M)(hB:M+(pl F+pl G+1)*(M+1)+M≤549755813888) :
  Bi 42 #[v,u] w (fun r w'=>AL 0 w' r (D8 F G)):=by
 have hSM:S+1≤M:=by
  have h:0 < 2^(pl F+pl G):=Nat.pow_pos Ab;have:=Nat.le_mul_of_pos_right (S+1) h;omega
 obtain⟨l,h1,h2,-,rfl⟩:=hv.hz (fun i=>by have:=hs i;omega);obtain⟨m,k1,k2,-,rfl⟩:=hu.hz (fun i=>by have:=ht i;omega);exact ZK v u l m S M w h1 k1 hs ht Aa Aa hM hB
end Go.Proofs.YtmhgnigpmompmaaGreat
namespace Go.Hp
open Go.RowKit
theorem XQ{g:Nat→Rat}{n s:Nat}(h:Bz g)(hn:pl g≤n)(hn9:n≤16)(hs:∀ i,qsz (g i)≤s)(hs9:s≤5)(k:Nat) :
  (∀ i,qsz ((yw (y0 g) (yc g) k).1 i)≤36000)∧(∀ i,qsz ((yw (y0 g) (yc g) k).2 i)≤36000)∧pl (yw (y0 g) (yc g) k).1+pl (yw (y0 g) (yc g) k).2≤n+1:=by
 obtain⟨hC,hW,e,d1,-⟩:=Fb h;obtain⟨p1,p2⟩:=Ou hW hC k;obtain⟨e1,e2⟩:=UT hW hC k;have dW:Il g (y0 g):=⟨yc g,hC.z,hC.f,by rw[Bc];exact e⟩
 have l1:=Dv.le p1.f hW.f hW.n (M4 e1);have l2:=Dv.le p2.f hC.f hC.n (M4 e2);have l3:=FV hW.f hC.f hW.n hC.n;rw[←e]at l3;have:=hW.pos;exact⟨SY h.z h.f h.n p1.z p1.f (I5 dW e1) hn hn9 hs hs9,SY h.z h.f h.n p2.z p2.f (I5 d1 e2) hn hn9 hs hs9,Aa⟩
theorem Ya{g:Nat→Rat}{n s:Nat}(h:Bz g)(hn:pl g≤n)(hn9:n≤16)(hs:∀ i,qsz (g i)≤s)(hs9:s≤5)(i:Nat):qsz (yc g i)≤36000:=(XQ h hn hn9 hs hs9 0).2.1 i
def bR(g:Nat→Rat)(K:Nat):Prop:=pl (yw (y0 g) (yc g) K).1≤1∧∀ j,j < K→1 < pl (yw (y0 g) (yc g) j).1
theorem bR.uniq{g:Nat→Rat}{K L:Nat}(h:bR g K)(k:bR g L):K=L:=by
 rcases Nat.lt_trichotomy K L with a | a | a
 ·have:=k.2 K a;have:=h.1;omega
 ·exact a
 ·have:=h.2 L a;have:=k.1;omega
end Go.Hp
namespace Go.Proofs.YtmhgnigpmompmaaGreat
open Go.RowKit Go.Hp
end Go.Proofs.YtmhgnigpmompmaaGreat
namespace Go.Hp
end Go.Hp
namespace Go.Proofs.YtmhgnigpmompmaaGreat
open Go.RowKit Go.Hp
end Go.Proofs.YtmhgnigpmompmaaGreat
namespace Go.Hp
open Go.RowKit
theorem AU.put1{w:World}{g:Nat}{t:TypeId}{a:Value}(h:AU w g t #[a])(u:Value)(hu:Aj u=false):∃ W,W=w.setCell ⟨g,0,none⟩ u∧AU W g t #[u]∧Cj [g] w W:=
 ⟨_,rfl,h.set_ 0 hu,Cj.set_ h.nodig 0 u⟩
theorem AU.cells1{w:World}{g:Nat}{t:TypeId}{a:Value}(h:AU w g t #[a]):w.cell? ⟨g,0,none⟩=some a:=h.cell rfl
theorem AL.own{b:Nat}{A B:World}{row:Option Nat}{v:Value}{F:Nat→Rat}(h:AL b A v F)(hg:A.grownBy B row)(hr:∀ r,row=some r→∃ o:Obj,A.heap[r]? = some o∧o.isCells=false):AL b B v F:=by
 obtain⟨l,⟨A',c,h1,h2,h3,h4⟩,h5,rfl⟩:=h;refine⟨l,⟨A',c,h1,h2,h3,fun h0=>?_⟩,h5,rfl⟩;obtain⟨g,o,ha,hb,hc⟩:=h4 h0;refine⟨g,o,ha,hb,fun j hj=>?_⟩;obtain⟨cs,q1,q2,q3⟩:=hc j hj;refine⟨cs,q1,fun i hi=>?_,q3.kd (KD.own hg hr)⟩;have e:cs[i]? = some (cs[i]'(Aa)):=Array.getElem?_eq_getElem Aa;rw[e];exact cell_kept ((q2 i hi).trans e) hg hr
end Go.Hp
namespace Go.Proofs.YtmhgnigpmompmaaGreat
open Go.RowKit Go.Hp Go.Shelf
end Go.Proofs.YtmhgnigpmompmaaGreat
namespace Go.Hp
open Go.RowKit
structure Ue(F:Nat→Rat)(S n M T:Nat):Prop where
 z:ZI F
 f:Ae F
 n0:F≠pz
 s:∀ i,qsz (F i)≤S
 d:∀ i,qsz (pd (pp F) i)≤S
 t:∀ i,qsz (yc (pp F) i)≤T
 p:pl F≤n
 n9:n≤16
 m:(S+1)*2^(n+(n - 1))≤M
 b:M+(n+(n - 1)+1)*(M+1)+M≤549755813888
 k:S+(n+2)*(T+1)+T≤1099511627776
theorem Ue.sS{F:Nat→Rat}{S n M T:Nat}(h:Ue F S n M T):S≤M:=by
 have:=Nat.mul_le_mul_left (S+1) (Nat.one_le_two_pow (n:=n+(n - 1)));have:=h.m;omega
structure Kc(W:Nat→Rat)(S D M:Nat):Prop where
 z:ZI W
 f:Ae W
 s:∀ i,qsz (W i)≤S
 d:∀ i,qsz (pd W i)≤S
 e:pl W+pl (pd W)=D
 m:(S+1)*2^D≤M
 b:M+(D+1)*(M+1)≤1000000
 D9:D≤900
def GG(base:Nat)(t:TypeId)(w:World)(v:Value)(W:Nat→Rat):Prop:=∃ c us K,v = .agg #[c]∧MC W (pd W) K∧K≤pl (pd W)+1∧Ir base base t w c us (EL W (pd W) K)
theorem GG.ext{base:Nat}{t:TypeId}{w w':World}{v:Value}{W:Nat→Rat}(h:GG base t w v W)(x:Ext w w'):GG base t w' v W:=by
 obtain⟨c,us,K,h1,h2,h3,h4⟩:=h;exact⟨c,us,K,h1,h2,h3,h4.ext x⟩
theorem Kc.SM{W:Nat→Rat}{S D M:Nat}(h:Kc W S D M):S < M:=by
 have:=Nat.mul_le_mul_left (S+1) (Nat.one_le_two_pow (n:=D));have:=h.m;omega
theorem Ir.upd1{base eb g:Nat}{t t':TypeId}{w w':World}{v x:Value}{us:List Value}{l:List (Nat→Rat)}(h:Ir base eb t w v us l)(hx:Rc x=false)(e:AU w g t' #[x])(hg:g < base)(U:Cj [g] w w'):Ir base eb t w' v us l:=by
 have hb:=BD.blk_ge h.out;have hne:∀ g'∈blk v,g'∉[g]:=fun g' hg' hm=>by
  have:=hb g' hg';have:g'=g:=by simpa using hm
  omega
 have hN:MK w (.slice (some ⟨g,0,none⟩) 1 1):=O4 e.1 (by simpa using hx);refine⟨BD.upd h.out U hne fun _ _ q=>q,h.len,fun g' hg' i c hc=>?_,fun i a b=>(h.el i a b).updB U fun g' hg'=>hN g' (by simpa[blk,Value.ownBlock] using hg')⟩;obtain⟨o,ho⟩:∃ o,w.heap[g']? = some o:=⟨_,Array.getElem?_eq_getElem (hb g' hg').2⟩
 have hk:=U.1 g' o (hne g' hg') ho;rw[World.cell?_of_block (hk.trans ho.symm)]at hc;exact h.nb g' hg' i c hc
theorem Kc.mem{W:Nat→Rat}{S D M K:Nat}(h:Kc W S D M)(hK:MC W (pd W) K):∀ F∈EL W (pd W) K,(∀ i,qsz (F i)≤M)∧pl F≤D∧Ae F:=by
 intro F hF;obtain⟨k,hk,rfl⟩:∃ k,k < K∧F=Cu W (pd W) k:=by
  unfold EL at hF;obtain⟨k,h1,h2⟩:=List.mem_map.1 hF;exact⟨k,List.mem_range.1 h1,h2.symm⟩
 have hst:∀ j,(∀ i,1≤i→i≤j→Cu W (pd W) i≠pz)→EY W (pd W) D S (Cu W (pd W) j) (Cu W (pd W) (j+1)):=fun j hj=>by
  rw[←h.e];exact K7 h.f (BJ h.f) h.z (Ee h.z) h.s h.d j hj
 obtain⟨f1,f2,z1,z2,hd,q1,q2⟩:=(hst k fun i a b=>hK.2.2 i a Aa).facts;exact⟨fun i=>Nat.le_trans (q1 i) h.m,Aa,f1⟩
end Go.Hp
namespace Go.Proofs.YtmhgnigpmompmaaGreat
open Go.RowKit Go.Hp
theorem Wo(v:Value)(F:Nat→Rat)(S n M T:Nat)(w:World)(hv:AL 0 w v F)(hR:Ue F S n M T) :
  Bi 100 #[v] w (fun r w'=>AL 0 w' r (y0 (pp F))):=by
 have hg:=Bz.pp hR.z hR.f hR.n0;have hpg:pl (pp F)=pl F:=EW hR.z hR.f;have hsg:∀ i,qsz (pp F i)≤S:=Gc hR.z hR.f hR.s;have hSM:=hR.sS;have hp:=hR.p;have hn:=hR.n9;have hM:=hR.m;have hB:=hR.b;have hKk:=hR.k;have hM9:M≤549755813888:=by omega
 have hpr:Bi 85 #[v] w (fun r w'=>AL w.heap.size w' r (pp F)):=GR v _ w hv (fun i=>by have:=hR.s i;omega) Aa;have hde:∀ W u,AL 0 W u (pp F)→Bi 66 #[u] W (fun r w'=>AL 0 w' r (pd (pp F))):=fun W u hu=>by
  obtain⟨m,g1,g2,-,g4⟩:=hu.hz (fun i=>by have:=hsg i;omega);rw[←g4];exact Ah.imp (FB _ m W g1 Aa) fun _ _ h=>h.base_le (Nat.zero_le _)
 have hpd:pl (pd (pp F))≤n - 1:=by rw[Kv hg.f];omega
 have hg1:∀ W u z,AL 0 W u (pp F)→AL 0 W z (pd (pp F))→Bi 42 #[u,z] W (fun r w'=>AL 0 w' r (yc (pp F))):=fun W u z hu hz=>by
  have e:2^(pl (pp F)+pl (pd (pp F)))≤2^(n+(n - 1)):=Nat.pow_le_pow_right Ab Aa;have e2:(S+1)*2^(pl (pp F)+pl (pd (pp F)))≤(S+1)*2^(n+(n - 1)):=Nat.mul_le_mul_left _ e;have e3:(pl (pp F)+pl (pd (pp F))+1)*(M+1)≤(n+(n - 1)+1)*(M+1):=Nat.mul_le_mul_right _ Aa;exact Zz u z _ _ S M W hu hz hsg hR.d Aa Aa Aa Aa
 obtain⟨hC,hW,eg,dC,-⟩:=Fb hg;have hcl:pl (yc (pp F))≤pl (pp F):=Dv.le hC.f hg.f hg.n (M4 dC);have hd1:∀ W u z,AL 0 W u (pp F)→AL 0 W z (yc (pp F))→Bi 88 #[u,z] W (fun r w'=>∃ q,r = .tuple #[q,.int .i64 0]∧AL 0 w' q (y0 (pp F))):=fun W u z hu hz=>by
  have e3:(pl (pp F)+2)*(T+1)≤(n+2)*(T+1):=Nat.mul_le_mul_right _ Aa;refine Ah.imp (TJ u z _ _ S T W hu hz hsg hR.t Aa Aa hC.n Aa) fun r w' hr=>?_;obtain⟨q,e1,e2⟩:=hr.1 dC;exact⟨q,e1,e2.base_le (Nat.zero_le _)⟩
 obtain⟨A0,c0,rfl,-⟩:=hv.shape;have HC:=Ad (Au hpr (Au hde (Au hg1 hd1)));clear hpr hde hg1 hd1 hv hR hg hpg hsg hSM hp hn hM hB hKk hM9 hpd hC hW eg dC hcl
 go_enter Tryz.func100,Tryz.ntmps100
 go_wp2_with fail
 refine AO HC.out.1 ?_;rintro r1 w1 hr1 hx1;replace hr1:=hr1.base_le (b:=0) (Nat.zero_le _)
 go_wp2_with fail
 refine AO (HC.out.2.1 _ _ hr1) ?_;rintro r2 w2 hr2 hx2;replace hr1:=hr1.ext hx2;replace hx1:=hx1.trans hx2
 go_wp2_with fail
 refine AO (HC.out.2.2.1 _ _ _ hr1 hr2) ?_;rintro r3 w3 hr3 hx3;replace hr1:=hr1.ext hx3;replace hx1:=hx1.trans hx3
 go_wp2_with fail
 refine AO (HC.out.2.2.2 _ _ _ hr1 hr3) ?_;rintro r4 w4 ⟨q,rfl,hq⟩ hx4;go_wp2
 go_ret
 exact Ah.mk hq (hx1.trans hx4)
theorem XD(v:Value)(F W:Nat→Rat)(S n M T S2 D M2:Nat)(w:World)(hv:AL 0 w v F)(hR:Ue F S n M T)(hW:W=y0 (pp F))(hC:Kc W S2 D M2) :
  Bi 50 #[v] w (fun r w'=>GG w.heap.size 23 w' r W):=by
 have h1:=fun X (x:Ext w X)=>Wo v F S n M T X (hv.ext x) hR;simp only[←hW]at h1;have hSM:=hC.SM;have hM9:M2≤1000000:=by have:=hC.b;omega
 have hde:∀ X u,AL 0 X u W→Bi 66 #[u] X (fun r w'=>AL 0 w' r (pd W)):=fun X u hu=>by
  obtain⟨m,g1,g2,-,g4⟩:=hu.hz (fun i=>by have:=hC.s i;omega);rw[←g4];exact Ah.imp (FB _ m X g1 (by have:=hC.e;have:=hC.D9;omega)) fun _ _ h=>h.base_le (Nat.zero_le _)
 have hch:∀ X u z,AL 0 X u W→AL 0 X z (pd W)→Bi 65 #[u,z] X (fun r w'=>∃ us K,MC W (pd W) K∧K≤pl (pd W)+1∧Ir X.heap.size X.heap.size 23 w' r us (EL W (pd W) K)):=fun X u z hu hz =>
  Sa u z W (pd W) S2 D M2 X hu hz hC.z (Ee hC.z) hC.f (BJ hC.f) hC.s hC.d hC.e hC.m hC.b hC.D9
 obtain⟨A0,c0,rfl,-⟩:=hv.shape;have HC:=Ad (Au h1 (Au hde hch));clear h1 hde hch hv hR hW hC hSM hM9
 go_enter Tryz.func50,Tryz.ntmps50
 have ez:=AU.new w 92 #[.slice none 0 0] (by simp[Aj]);have hx:=(Ext.refl w).alloc (.cells #[.slice none 0 0] 92)
 go_upto_region 1 with(fail)
 generalize w.alloc (.cells #[.slice none 0 0] 92)=W0 at *
 go_wp2_with fail
 refine AO (HC.out.1 _ hx) ?_;rintro r1 w1 hr1 hx1;obtain⟨A1,c1,rfl,-⟩:=hr1.shape;replace ez:=ez.ext hx1;replace hx:=hx.trans hx1;have H1:=Ad hr1;clear hr1 hx1
 go_wp2_with fail
 refine AO (HC.out.2.1 _ _ H1.out) ?_;rintro r2 w2 hr2 hx2;replace ez:=ez.ext hx2;replace hx:=hx.trans hx2;have H2:=Ad (Au (H1.out.ext hx2) hr2);clear hr2 hx2 H1
 go_wp2_with fail
 refine AO (HC.out.2.2 _ _ _ H2.out.1 H2.out.2) ?_;rintro r3 w3 ⟨us,K,hK,hK9,hP⟩ hx3;have hlt:=ez.lt;replace ez:=ez.ext hx3;replace hx:=hx.trans hx3;obtain⟨A3,c3,rfl⟩:=hP.shape;have hl:(EL W (pd W) K).length=K:=Dw _ _ _;rw[hl]at hP ⊢;have H3:=Ad (Au hK (Au hK9 hP));clear hK hK9 hP hx3 H2;have cz0:=ez.cells1;have fz:=ez.frozen;go_wp2;obtain⟨W4,eW,ez',U⟩:=ez.put1 (.slice A3 K c3) rfl;rw[←eW];have hP4:=H3.out.2.2.upd1 rfl ez hlt U
 replace hx:=U.from_ hx Ac;clear eW cz0 fz ez;have cz0:=ez'.cells1;have fz:=ez'.frozen;refine bodyPost_ret (v := .agg #[.slice A3 K c3]) (by simp[results,Tryz.results50,go_sem,cz0]) rfl ?_;exact Ah.mk ⟨_,us,K,rfl,H3.out.1,H3.out.2.1,(hP4.base_le (Nat.le_of_lt hlt)).el_le (Nat.le_of_lt hlt)⟩ hx
end Go.Proofs.YtmhgnigpmompmaaGreat
namespace Go.Hp
open Go.RowKit
def Nq(F:Nat→Rat):Prop:=∃ i b,BL (F i).num.natAbs b∧4096 < b
noncomputable def Bf(F:Nat→Rat):Int:=open Classical in if F=pz then 5 else if 33 < pl F∨Nq F then 7 else 0
theorem JZ{F:Nat→Rat}(h:F=pz):Bf F=5:=by unfold Bf;rw[if_pos h]
theorem FY{F:Nat→Rat}(h0:F≠pz)(h:33 < pl F∨Nq F):Bf F=7:=by unfold Bf;rw[if_neg h0,if_pos h]
theorem KQ{F:Nat→Rat}(h0:F≠pz)(h1:¬ 33 < pl F)(h2:¬ Nq F):Bf F=0:=by unfold Bf;rw[if_neg h0,if_neg (fun q=>q.elim h1 h2)]
theorem Cf(F:Nat→Rat):(F=pz∧Bf F=5)∨(F≠pz∧Bf F=7)∨(F≠pz∧pl F≤33∧¬ Nq F∧Bf F=0):=by
 by_cases h0:F=pz
 ·exact .inl ⟨h0,JZ h0⟩
 by_cases h:33 < pl F∨Nq F
 ·exact .inr (.inl ⟨h0,FY h0 h⟩)
 ·exact .inr (.inr ⟨h0,Aa,fun q=>h (.inr q),KQ h0 (fun q=>h (.inl q)) fun q=>h (.inr q)⟩)
theorem WG{F:Nat→Rat}(z:ZI F)(h:¬ Nq F)(i:Nat):qsz (F i)≤129:=by
 obtain⟨b,hb⟩:=BL.ex (F i).num.natAbs;have h1:b≤4096:=by
  rcases Nat.lt_or_ge 4096 b with q | q
  ·exact absurd ⟨i,b,hb,q⟩ h
  ·exact q
 have h2:(F i).num.natAbs < bp 129:=by
  obtain⟨E,hE⟩:∃ E,E=129:=⟨_,rfl⟩
  rw[←hE,DC];exact Nat.lt_of_lt_of_le hb.1 (Nat.pow_le_pow_right Ab Aa)
 have h3:=Ci h2;rw[z.num i,Bo];omega
def Pp(F:Nat→Rat)(w:World)(r:Value):Prop:=∃ u,r = .tuple #[u,.int .i64 (Bf F)]∧(Bf F=0→AL 0 w u F)∧(Bf F≠0→u = .slice none 0 0)
def bE(b:Nat)(F:Nat→Rat)(w:World)(r:Value):Prop:=∃ u,r = .tuple #[u,.int .i64 (Bf F)]∧(Bf F=0→AL b w u F)∧(Bf F≠0→u = .slice none 0 0)
theorem Pp.ext{F:Nat→Rat}{w w':World}{r:Value}(h:Pp F w r)(x:Ext w w'):Pp F w' r:=by
 obtain⟨u,h1,h2,h3⟩:=h;exact⟨u,h1,fun e=>(h2 e).ext x,h3⟩
end Go.Hp
namespace Go.Proofs.YtmhgnigpmompmaaGreat
open Go.RowKit Go.Hp
theorem XN(v:Value)(l:List Int)(w:World)(hv:EO 0 w v l)(hn:l.length≤1000000):Bi 147 #[v] w (fun r w'=>Pp (cz l) w' r):=by
 have HV:=Ad hv;have hq:∀ i,qsz (cz l i)≤1099511627776:=NZ hv.sz Aa;have hpl:pl (cz l)≤l.length:=BR (Cw l);have fF:Ae (cz l):=⟨_,Cw l⟩
 obtain⟨A,c,rfl⟩:=hv.len;clear hv
 go_enter Tryz.func147,Tryz.ntmps147
 go_wp2_with fail
 refine AO (JX _ l _ HV.out Aa) ?_;rintro r1 w1 hr1 hx1;have HR:=Ad (hr1.base_le (Nat.zero_le _));obtain⟨A1,c1,m,rfl,k1,k2,hA,k3,k4,k5⟩:=hr1.form;have HA:=Ad (Au hA (Au k3 k5));clear hA k3 k4 k5 hr1;have HQ:=Ad hq;clear hq;by_cases h0:cz l=pz
 ·have hp:pl (cz l)=0:=(Bw fF).2 h0
  have hr:=JZ h0;have H:=Ad (Au hr h0);clear hr h0;rw[hp];go_wp2;refine bodyPost_ret (v := .tuple #[.slice none 0 0,.int .i64 5]) (by simp[results,Tryz.results147,go_sem]) rfl ?_;exact Ah.mk ⟨_,by rw[H.out.1],fun e=>by rw[H.out.1]at e;exact absurd e Ab,fun _=>rfl⟩ hx1
 have hp:=AR fF h0;obtain⟨N,hN⟩:∃ N,N=pl (cz l):=⟨_,rfl⟩
 rw[←hN]at hp hpl k1 ⊢;have hb:(((N:Nat):Int)==0)=false:=beq_eq_false_iff_ne.2 Aa;have HN:=Ad (Au hN h0);clear hN h0;by_cases h33:33 < N
 ·have hr:Bf (cz l)=7:=FY HN.out.2 (.inl (by rw[←HN.out.1];exact h33))
  have H:=Ad hr;clear hr;go_wp2;refine bodyPost_ret (v := .tuple #[.slice none 0 0,.int .i64 7]) (by simp[results,Tryz.results147,go_sem]) rfl ?_;exact Ah.mk ⟨_,by rw[H.out],fun e=>by rw[H.out]at e;exact absurd e Ab,fun _=>rfl⟩ hx1
 go_wp2
 go_loopw [17] (fun iv wr=>∃ i:Nat,i≤N∧iv = .int .i64 (i:Nat)∧(∀ j,j < i→∀ b,BL (cz l j).num.natAbs b→b≤4096)∧Ext w1 wr) (fun iv _=>N - (intOf iv).toNat)
 case atStart=>exact⟨0,Aa,rfl,fun j hj=>Aa,Ext.refl _⟩
 case round =>
  obtain⟨i,hi,rfl,hlow,hx⟩:=hrel;have HL:=Ad hlow;clear hlow;by_cases hiN:i < N
  ·have hlt:i < m.length:=by have:=HA.out.2.1;have:=HN.out.1;omega
   have hli:cz l i=(m[i]:Rat):=by rw[←Dn hlt,HA.out.2.2]
   have hqi:=HQ.out i;rw[hli,Bo]at hqi;obtain⟨g,o,b3,A3,n3,c3,e3,-,q0,q1,hq⟩:=HA.out.1.at_ hlt;cases e3;have hqh:=hq.has (by omega:sz (m[i]).natAbs≤1099511627776);obtain⟨y,hy⟩:∃ y,y=m[i]:=⟨_,rfl⟩
   rw[←hy]at hqh hli;have HI:=Ad (Au hqh hli);clear hqh hq hqi hli hy hlt;replace q0:=hx.cell q0;replace q1:=hx.cell q1
   go_wp2_with fail
   refine AO (Rh _ y _ (HI.out.1.ext (hx.alloc _))) ?_;rintro r w2 ⟨b,rfl,hbl⟩ hx2;have hx':=hx2.a1;have HB:=Ad hbl;clear hbl;have hcast:(cz l i).num.natAbs=y.natAbs:=by rw[HI.out.2];rfl
   have HC:=Ad hcast;clear hcast;by_cases hbb:4096 < b
   ·have hr:Bf (cz l)=7:=FY HN.out.2 (.inr ⟨i,b,by rw[HC.out];exact HB.out,hbb⟩)
    have H:=Ad hr;clear hr;go_wp2;refine bodyPost_ret (v := .tuple #[.slice none 0 0,.int .i64 7]) (by simp[results,Tryz.results147,go_sem]) rfl ?_;exact Ah.mk ⟨_,by rw[H.out],fun e=>by rw[H.out]at e;exact absurd e Ab,fun _=>rfl⟩ ((hx1.trans hx).trans hx')
   ·clear hx2
    go_wp2
    go_roundw
    case rel=>exact⟨i+1,Aa,by go_num,fun j hj b' hb'=>by
     rcases Nat.lt_or_ge j i with q | q
     ·exact HL.out j q b' hb'
     ·obtain rfl:j=i:=by omega
      rw[HC.out]at hb';have:=hb'.uniq HB.out;omega,hx.trans hx'⟩
    case measure=>simp[intOf];omega
  ·obtain rfl:i=N:=by omega
   have hnw:¬ Nq (cz l):=fun⟨j,b,h1,h2⟩=>by
    rcases Nat.lt_or_ge j i with q | q
    ·have:=HL.out j q b h1;omega
    ·have hz:cz l j=0:=(AC fF) j (by have:=HN.out.1;omega)
     rw[hz]at h1;have:=h1.uniq BL.zero;omega
   have hr:=KQ HN.out.2 (by rw[←HN.out.1];exact h33) hnw;have H:=Ad hr;clear hr hnw;have HF:=Ad (HR.out.ext hx);rw[←HN.out.1]at HF;go_wp2;refine bodyPost_ret (v := .tuple #[.slice A1 i c1,.int .i64 0]) (by simp[results,Tryz.results147,go_sem]) rfl ?_;exact Ah.mk ⟨_,by rw[H.out],fun _=>HF.out,fun e=>absurd H.out e⟩ (hx1.trans hx)
theorem UN(v:Value)(F:Nat→Rat)(w:World)(hv:AL 0 w v F)(fF:Ae F)(h0:F≠pz)(hn:pl F≤33)(hs:∀ i,qsz (F i)≤129):Bi 148 #[v] w (fun r w'=>∃ x,AQ w' r x):=by
 have hp:=AR fF h0;obtain⟨A,c,l,rfl,k1,k2,hA,k3,k4,k5⟩:=hv.form;have htop:=Ez fF hp;obtain⟨N,hN⟩:∃ N,N=pl F:=⟨_,rfl⟩
 rw[←hN]at hp hn k1 k3 htop ⊢;have HA:=Ad (Au hA (Au k3 (Au k5 (Au htop hs))));clear hA k3 k4 k5 htop hs hv hN
 go_enter Tryz.func148,Tryz.ntmps148
 obtain⟨W1,eW1,ez,y1⟩:=AU.made w 26 #[.bool false,.slice none 0 0] (by simp[Aj])
 go_upto_region 1 with(fail)
 rw[←eW1];clear eW1;have hx:=y1
 go_wp2_with fail
 refine AO (Iq 0 _ Aa Aa) ?_;rintro r2 w2 hr2 hx2;obtain⟨b5,A5,n5,c5,rfl⟩:=hr2.cells;replace ez:=ez.ext hx2;replace hx:=hx.trans hx2;clear hx2;obtain⟨W3,eW3,es,y3⟩:=AU.made w2 26 #[.bool b5,.slice A5 n5 c5] (by simp[Aj]);have hsm:=Be.mk es (hr2.kd y3.kd);have hgs:=ez.lt;replace ez:=ez.ext y3;replace hx:=hx.trans y3;clear y3;clear hr2 es
 go_upto_region 2 with(fail)
 rw[←eW3];clear eW3;generalize w2.heap.size=gs at *;go_wp2
 go_loopw [14] (fun iv wr=>∃ (i:Nat) (x:Int),i≤N∧iv = .int .i64 (i:Nat)∧0≤x∧sz x.natAbs≤260+i∧((∃ j,j < i∧F j≠0)→0 < x)∧Be wr gs 26 x∧AU wr w.heap.size 26 #[.bool false,.slice none 0 0]∧Ext w wr) (fun iv _=>N - (intOf iv).toNat)
 case atStart=>exact⟨0,0,Aa,rfl,Aa,Ab,fun⟨j,hj,_⟩=>Aa,hsm,ez,hx⟩
 case round =>
  clear hsm ez hx;obtain⟨i,x,hi,rfl,hx0,hxs,hxp,⟨b1,A1,n1,c1,es,hsz⟩,ez,hx⟩:=hrel;have HX:=Ad (Au hx0 (Au hxs (Au hxp hsz)));clear hx0 hxs hxp hsz;by_cases hiN:i < N
  ·have hlt:i < l.length:=by have:=HA.out.2.1;omega
   have hli:F i=(l[i]:Rat):=by rw[←Dn hlt,HA.out.2.2.1]
   have hqi:=HA.out.2.2.2.2 i;rw[hli,Bo]at hqi;obtain⟨g,o,b3,A3,n3,c3,e3,-,q0,q1,hq⟩:=HA.out.1.at_ hlt;cases e3;obtain⟨y,hy⟩:∃ y,y=l[i]:=⟨_,rfl⟩
   rw[←hy]at hq hli hqi;have HI:=Ad (Au (hq.has Aa) (Au hli (show sz y.natAbs≤129 by omega)));clear hq hqi hli hy hlt;replace q0:=hx.cell q0;replace q1:=hx.cell q1;obtain⟨W7,eW7,e6,y7⟩:=AU.made wr 26 #[.bool b3,.slice A3 n3 c3] (by simp[Aj]);have hg6:=es.lt;have hgz:=ez.lt
   go_upto_region 5 with(fail)
   rw[←eW7];clear eW7 q0 q1;replace HX:=Ad (Au HX.out.1 (Au HX.out.2.1 (Au HX.out.2.2.1 (HX.out.2.2.2.ext_ y7))));replace ez:=ez.ext y7;replace es:=es.ext y7;replace hx:=hx.trans y7;clear y7;generalize wr.heap.size=g6 at *;obtain⟨ce60,ce61⟩:=e6.cells2;have fe6:=e6.frozen;obtain⟨ces0,ces1⟩:=es.cells2;have fes:=es.frozen;refine Ai 4 [18,19,20,21] [[],[],[],[1,2],[0,1,2,3],[0,1,2,3,4]] [3,5] [_,_] [(kv ?_),(kv ?_),(kv ?_),(fun γ=>γ 3)] (fun γ w'=>[True,True,True,AQ w' (γ 3) (y*y)]) BQ Av Av BS Av BU C9 ?hstep1 ?_
   case hstep1 =>
    iterate 4 refine⟨?_,?_⟩
    trivial
    iterate 3 focus
     intro γ w' he hf;clear hf;refine⟨by trivial,?_⟩;intro R hR;have hc:=he.cells;have cq0:=he.cell ce60;have cq1:=he.cell ce61;have cq2:=he.cell ces0;have cq3:=he.cell ces1;go_simp;refine hR _ _ (Ext.refl _) ?_ trivial;rfl
    ·intro γ w' he hf;clear hf;refine⟨trivial,?_⟩;intro R hR
     go_simp;exact BB (De _ _ y y w' (HI.out.1.ext (hx.trans he)) (HI.out.1.ext (hx.trans he))) hR
   intro γ w8 hx8 hF;have p3:AQ w8 (γ 3) (y*y):=AJ.get hF 3 Ab;clear hF;simp only[Br,Nat.reduceAdd];generalize γ 3=g3 at *;clear γ;have hyy:sz (y*y).natAbs≤258:=by
    rw[Int.natAbs_mul];have:=BV y.natAbs y.natAbs;have:=HI.out.2.2;omega
   have hsum:sz (x+y*y).natAbs≤260+(i+1):=by
    have h1:=Bq (Int.natAbs_add_le x (y*y));have h2:=Gl x.natAbs (y*y).natAbs;have:=HX.out.2.1;omega
   have hyn:0≤y*y:=by
    rcases Int.le_total 0 y with h | h
    ·exact Int.mul_nonneg h h
    ·have:=Int.mul_nonneg (show 0 ≤ -y by omega) (show 0 ≤ -y by omega)
     rw[Int.neg_mul_neg]at this;exact this
   have hyp:F i≠0→0 < y*y:=fun hne=>by
    have hy0:y≠0:=fun e=>hne (by rw[HI.out.2.1,e];rfl);have:y*y≠0:=fun e=>by rcases Int.mul_eq_zero.1 e with q | q<;>exact hy0 q
    omega
   have HS:=Ad (Au hsum (Au hyn (Au hyp (Au hyy HX.out.2.1))));clear hsum hyn hyp hyy
   go_wp2_with fail
   refine AO (Lv _ _ x (y*y) _ ((HX.out.2.2.2.ext_ hx8).has (by have:=HS.out.2.2.2.2;omega)) (p3.has (by have:=HS.out.2.2.2.1;omega))) ?_;rintro r9 w9 hr9 hx9;obtain⟨b9,A9,n9,c9,rfl⟩:=hr9.cells;have x89:=hx8.trans hx9;clear ce60 ce61 ces0 ces1 fe6 fes p3 e6;replace ez:=ez.ext x89;replace es:=es.ext x89;replace hx:=hx.trans x89;clear x89;clear hx8 hx9;obtain⟨ces0,ces1⟩:=es.cells2;have fes:=es.frozen
   go_upto_region 6 with(fail)
   obtain⟨W10,eW,es',U⟩:=es.put2 (.bool b9) (.slice A9 n9 c9) rfl rfl;rw[←eW];clear eW es;replace hr9:=hr9.kd U.kd;replace ez:=ez.upd U Af;replace hx:=U.from_ hx Af;have es:=es';clear U es';clear ces0 ces1 fes;go_wp2
   go_roundw
   case rel=>exact⟨i+1,x+y*y,Aa,by go_num,by have:=HX.out.1;have:=HS.out.2.1;omega,HS.out.1,fun⟨j,hj,hne⟩=>by
    have h1:=HX.out.1;have h2:=HS.out.2.1;rcases Nat.lt_or_ge j i with q | q
    ·have:=HX.out.2.2.1 ⟨j,q,hne⟩;omega
    ·obtain rfl:j=i:=by omega
     have:=HS.out.2.2.1 hne;omega,Be.mk es hr9,ez,hx⟩
   case measure=>simp[intOf];omega
  ·obtain rfl:i=N:=by omega
   have hpos:0 < x:=HX.out.2.2.1 ⟨i - 1,Aa,HA.out.2.2.2.1⟩;have HP:=Ad (Au hpos (show sz x.natAbs≤1000 by have:=HX.out.2.1;omega));clear hpos;have hgz:=ez.lt;obtain⟨ces0,ces1⟩:=es.cells2;have fes:=es.frozen
   go_wp2_with fail
   refine AO (UF _ x _ (HX.out.2.2.2.has (by have:=HP.out.2;omega)) HP.out.1 HP.out.2) ?_;rintro r11 w11 ⟨r0,q,bq,rfl,hr0,hq0,hqs⟩ hx11;obtain⟨b12,A12,n12,c12,rfl⟩:=hr0.cells;have HQ:=Ad hqs;clear hqs hq0 ces0 ces1 fes es;replace ez:=ez.ext hx11;replace hx:=hx.trans hx11;clear hx11;obtain⟨W12,eW12,er,y12⟩:=AU.made w11 26 #[.bool b12,.slice A12 n12 c12] (by simp[Aj]);have hrr:=Be.mk er (hr0.kd y12.kd)
   have hgr:=ez.lt;replace ez:=ez.ext y12;replace hx:=hx.trans y12;clear y12;clear er hr0
   go_upto_region 8 with(fail)
   rw[←eW12];clear eW12;generalize w11.heap.size=gr at *
   go_wp2_with fail
   refine AO (Iq 2 _ Aa Aa) ?_;rintro r13 w13 hr13 hx13;replace ez:=ez.ext hx13;replace hrr:=hrr.ext hx13;replace hx:=hx.trans hx13;clear hx13;obtain⟨k,hk⟩:∃ k,i=k+1:=⟨i - 1,Aa⟩
   have hki:((i:Nat):Int) - 1=(k:Nat):=by omega
   go_wp2_with fail
   refine Calls.mono (show Bi 176 _ _ (fun r w'=>Ey w' r (2^k) 0)from by
    first
     | (rw[hki];exact Ri _ k _ (hr13.has Ab) Aa)
     | exact Ri _ k _ (hr13.has Ab) Aa) ?_
   rintro e w14 ⟨r14,rfl,⟨r15,rfl,hr15⟩,hx14⟩;obtain⟨b15,A15,n15,c15,rfl⟩:=hr15.cells;clear hr13;replace ez:=ez.ext hx14;replace hrr:=hrr.ext hx14;replace hx:=hx.trans hx14;clear hx14;obtain⟨W16,eW16,et,y16⟩:=AU.made w14 26 #[.bool b15,.slice A15 n15 c15] (by simp[Aj]);have htt:=hr15.kd y16.kd;have hgt:=hrr.lt;replace ez:=ez.ext y16;replace hrr:=hrr.ext y16;replace hx:=hx.trans y16;clear y16;clear hr15
   go_upto_region 9 with(fail)
   rw[←eW16];clear eW16;generalize w14.heap.size=gt at *;obtain⟨b17,A17,n17,c17,er,hrz⟩:=hrr;have hk9:=Ii k;have HT:=Ad (Au htt (Au hrz (show sz ((2:Int)^k).natAbs≤1099511627776 by omega)));clear htt hrz hk9;have hs1:sz (q+1).natAbs≤1099511627776:=by
    have h1:=Bq (Int.natAbs_add_le q 1);have h2:=Gl q.natAbs (1:Int).natAbs;have h3:sz (1:Int).natAbs=1:=by decide
    have:=HQ.out;omega
   have HS1:=Ad hs1;clear hs1;obtain⟨cet0,cet1⟩:=et.cells2;have fet:=et.frozen;obtain⟨cer0,cer1⟩:=er.cells2;have fer:=er.frozen;obtain⟨cez0,cez1⟩:=ez.cells2;have fez:=ez.frozen;refine Ai 4 [38,39,40,41] [[],[],[],[1,2],[0,1,2,3],[0,1,2,3,4]] [9,6] [_,_] [(kv ?_),(kv ?_),(fun γ=>γ 2),(fun γ=>γ 3)] (fun γ w'=>[True,True,AQ w' (γ 2) 1,AQ w' (γ 3) (q+1)]) BQ Av Av BS Av BU C9 ?hstep2 ?_
   case hstep2 =>
    iterate 4 refine⟨?_,?_⟩
    trivial
    iterate 2 focus
     intro γ w' he hf;clear hf;refine⟨by trivial,?_⟩;intro R hR;have hc:=he.cells;have cq0:=he.cell cet0;have cq1:=he.cell cet1;have cq2:=he.cell cer0;have cq3:=he.cell cer1;go_simp;refine hR _ _ (Ext.refl _) ?_ trivial;rfl
    ·intro γ w' he hf;clear hf;refine⟨trivial,?_⟩;intro R hR
     go_simp;exact BB (Iq 1 w' Aa Aa) hR
    ·intro γ w' he hf;have f2:AQ w' (γ 2) 1:=hf 2 Ab;clear hf;refine⟨trivial,?_⟩;intro R hR
     go_simp;exact BB (Lv _ _ q 1 w' ((HT.out.2.1.ext_ he).has (by have:=HQ.out;omega)) (f2.has Ab)) hR
   intro γ w18 hx18 hF;have p2:AQ w18 (γ 2) 1:=AJ.get hF 2 Ab;have p3:AQ w18 (γ 3) (q+1):=AJ.get hF 3 Ab;clear hF;simp only[Br,Nat.reduceAdd];generalize γ 2=g2 at *;generalize γ 3=g3 at *;clear γ
   go_wp2_with fail
   refine AO (De _ _ (2^k) (q+1) _ ((HT.out.1.ext_ hx18).has HT.out.2.2) (p3.has HS1.out)) ?_;rintro r19 w19 hr19 hx19;obtain⟨b19,A19,n19,c19,rfl⟩:=hr19.cells;have x1819:=hx18.trans hx19;clear cet0 cet1 cer0 cer1 cez0 cez1 fet fer fez p2 p3;replace ez:=ez.ext x1819;replace hx:=hx.trans x1819;clear x1819;clear hx18 hx19;obtain⟨cez0,cez1⟩:=ez.cells2;have fez:=ez.frozen;go_wp2;obtain⟨W20,eW,ez',U⟩:=ez.put2 (.bool b19) (.slice A19 n19 c19) rfl rfl
   rw[←eW];clear eW ez;replace hr19:=hr19.kd U.kd;replace hx:=U.from_ hx Af;have ez:=ez';clear U ez';clear cez0 cez1 fez;obtain⟨cez0,cez1⟩:=ez.cells2;have fez:=ez.frozen;refine bodyPost_ret (v := .agg #[.bool b19,.slice A19 n19 c19]) (by simp[results,Tryz.results148,go_sem,cez0,cez1]) rfl ?_;exact Ah.mk ⟨_,hr19⟩ hx
end Go.Proofs.YtmhgnigpmompmaaGreat
namespace Go.Hp
def aW(F:Nat→Rat)(r:Value):Prop:=∃ b A n c,r = .tuple #[.agg #[.bool b,.slice A n c],.int .i64 (Bf F)]
end Go.Hp
namespace Go.Proofs.YtmhgnigpmompmaaGreat
open Go.RowKit Go.Hp
theorem Xc(v:Value)(l:List Int)(w:World)(hv:EO 0 w v l)(hn:l.length≤1000000):Bi 98 #[v] w (fun r _=>aW (cz l) r):=by
 have HV:=Ad hv;have fF:Ae (cz l):=⟨_,Cw l⟩
 have zF:ZI (cz l):=ZI.cz l;obtain⟨A,c,rfl⟩:=hv.len;clear hv
 go_enter Tryz.func98,Tryz.ntmps98
 obtain⟨W1,eW1,ez,y1⟩:=AU.made w 26 #[.bool false,.slice none 0 0] (by simp[Aj])
 go_upto_region 1 with(fail)
 rw[←eW1];clear eW1;have hx:=y1;clear y1
 go_wp2_with fail
 refine AO (XN _ l _ (HV.out.ext hx) hn) ?_;rintro r2 w2 ⟨u,rfl,hu1,hu2⟩ hx2;replace ez:=ez.ext hx2;replace hx:=hx.trans hx2;clear hx2;have hgz:=ez.lt;obtain⟨E,hE⟩:∃ E,E=Bf (cz l):=⟨_,rfl⟩
 have hc:=Cf (cz l);rw[←hE]at hu1 hu2 hc ⊢;have HE:=Ad hE;clear hE;have fin:∀(W:World) (b:Bool) (A:Option Addr) (n c:Nat),Ext w W→Ah w (fun r _=>aW (cz l) r) (.returned (.tuple #[.agg #[.bool b,.slice A n c],.int .i64 E])) W:=fun W b A n c h=>Ah.mk ⟨_,_,_,_,by rw[HE.out]⟩ h;have Hfin:=Ad fin;clear fin;rcases hc with⟨-,hc⟩ | ⟨-,hc⟩ | ⟨h0,hp,hw,hc⟩
 ·subst hc
  clear hu1 hu2;obtain⟨cez0,cez1⟩:=ez.cells2;have fez:=ez.frozen;go_wp2;obtain⟨W3,eW,ez',U⟩:=ez.put2 (.bool false) (.slice none 0 0) rfl rfl;rw[←eW];clear eW ez;replace hx:=U.from_ hx Af;have ez:=ez';clear U ez';clear cez0 cez1 fez;obtain⟨cez0,cez1⟩:=ez.cells2;have fez:=ez.frozen;refine bodyPost_ret (v := .tuple #[.agg #[.bool false,.slice none 0 0],.int .i64 5]) (by simp[results,Tryz.results98,go_sem,cez0,cez1]) rfl ?_
  exact Hfin.out _ _ _ _ _ hx
 ·subst hc
  clear hu1 hu2;obtain⟨cez0,cez1⟩:=ez.cells2;have fez:=ez.frozen;go_wp2;obtain⟨W3,eW,ez',U⟩:=ez.put2 (.bool false) (.slice none 0 0) rfl rfl;rw[←eW];clear eW ez;replace hx:=U.from_ hx Af;have ez:=ez';clear U ez';clear cez0 cez1 fez;obtain⟨cez0,cez1⟩:=ez.cells2;have fez:=ez.frozen;refine bodyPost_ret (v := .tuple #[.agg #[.bool false,.slice none 0 0],.int .i64 7]) (by simp[results,Tryz.results98,go_sem,cez0,cez1]) rfl ?_
  exact Hfin.out _ _ _ _ _ hx
 ·subst hc
  have hq:=WG zF hw;have hu:=hu1 rfl;obtain⟨A1,c1,rfl,-⟩:=hu.shape;clear hu1 hu2
  go_wp2_with fail
  refine AO (UN _ (cz l) _ hu fF h0 hp hq) ?_;rintro r4 w4 ⟨x4,hr4⟩ hx4;obtain⟨b5,A5,n5,c5,rfl⟩:=hr4.cells;clear hu;replace ez:=ez.ext hx4;replace hx:=hx.trans hx4;clear hx4;obtain⟨cez0,cez1⟩:=ez.cells2;have fez:=ez.frozen;go_wp2;obtain⟨W3,eW,ez',U⟩:=ez.put2 (.bool b5) (.slice A5 n5 c5) rfl rfl;rw[←eW];clear eW ez;replace hx:=U.from_ hx Af;have ez:=ez';clear U ez';clear cez0 cez1 fez;obtain⟨cez0,cez1⟩:=ez.cells2
  have fez:=ez.frozen;refine bodyPost_ret (v := .tuple #[.agg #[.bool b5,.slice A5 n5 c5],.int .i64 0]) (by simp[results,Tryz.results98,go_sem,cez0,cez1]) rfl ?_;exact Hfin.out _ _ _ _ _ hx
theorem Su(v:Value)(l:List Int)(w:World)(hv:EO 0 w v l)(hn:l.length≤1000000):Bi 48 #[v] w (fun r w'=>bE w.heap.size (cz l) w' r):=by
 have HV:=Ad hv;obtain⟨A,c,rfl⟩:=hv.len;clear hv
 go_enter Tryz.func48,Tryz.ntmps48
 go_wp2_with fail
 refine AO (Xc _ l _ HV.out hn) ?_;rintro r2 w2 ⟨b5,A5,n5,c5,rfl⟩ hx2;obtain⟨W1,eW1,-,y1⟩:=AU.made w2 26 #[.bool b5,.slice A5 n5 c5] (by simp[Aj]);have hx:=hx2.trans y1;clear hx2 y1
 go_upto_region 2 with(fail)
 rw[←eW1];clear eW1;obtain⟨E,hE⟩:∃ E,E=Bf (cz l):=⟨_,rfl⟩
 have hc:=Cf (cz l);rw[←hE]at hc ⊢;have HE:=Ad hE;clear hE;rcases hc with⟨-,hc⟩ | ⟨-,hc⟩ | ⟨-,-,-,hc⟩
 ·subst hc
  go_wp2;refine bodyPost_ret (v := .tuple #[.slice none 0 0,.int .i64 5]) (by simp[results,Tryz.results48,go_sem]) rfl ?_;exact Ah.mk ⟨_,by rw[←HE.out],fun e=>by rw[←HE.out]at e;exact absurd e Ab,fun _=>rfl⟩ hx
 ·subst hc
  go_wp2;refine bodyPost_ret (v := .tuple #[.slice none 0 0,.int .i64 7]) (by simp[results,Tryz.results48,go_sem]) rfl ?_;exact Ah.mk ⟨_,by rw[←HE.out],fun e=>by rw[←HE.out]at e;exact absurd e Ab,fun _=>rfl⟩ hx
 ·subst hc
  go_wp2_with fail
  refine AO (JX _ l _ (HV.out.ext hx) Aa) ?_;rintro r4 w4 hr4 hx4;obtain⟨A1,c1,rfl,-⟩:=hr4.shape;have hx5:=hx.trans hx4;have HR:=Ad (hr4.base_le hx.size);clear hr4;go_wp2;refine bodyPost_ret (v := .tuple #[.slice A1 (pl (cz l)) c1,.int .i64 0]) (by simp[results,Tryz.results48,go_sem]) rfl ?_;exact Ah.mk ⟨_,by rw[←HE.out],fun _=>HR.out,fun e=>by rw[←HE.out]at e;exact absurd rfl e⟩ hx5
theorem Gj(v:Value)(l:List Int)(w:World)(hv:EO 0 w v l)(hn:l.length≤1000000):Bi 48 #[v] w (fun r w'=>Pp (cz l) w' r):=
 Ah.imp (Su v l w hv hn) fun _ _ ⟨u,h1,h2,h3⟩=>⟨u,h1,fun e=>(h2 e).base_le (Nat.zero_le _),h3⟩
end Go.Proofs.YtmhgnigpmompmaaGreat
namespace Go.Hp
open Go.RowKit
theorem Zw(l:List (Nat→Rat))(x:Rat):V l x≤l.length:=by
 unfold V;have:=UQ (l.map fun F=>Bl (ev F x)) 0;simpa using this
end Go.Hp
namespace Go.Proofs.YtmhgnigpmompmaaGreat
open Go.RowKit Go.Hp
theorem TZ(v u z:Value)(W:Nat→Rat)(p q:Rat)(base S D M t K:Nat)(w:World)(hv:GG base 23 w v W)(hu:BG w u p)(hz:BG w z q)(hC:Kc W S D M)(hK:MC W (pd W) K)(hp:qsz p≤t)(hq:qsz q≤t)
  (ht:1+D*(M+t+1)+M+t+1≤274877906944) :
  Bi 51 #[v,u,z] w (fun r _=>r = .int .i64 ((V (EL W (pd W) K) p:Nat) - (V (EL W (pd W) K) q:Nat):Int)):=by
 obtain⟨c,us,K',rfl,h1,h2,h3⟩:=hv;obtain rfl:=h1.uniq hK;have hl:(EL W (pd W) K').length=K':=Dw _ _ _;have hK9:K'≤1000:=by have:=hC.e;have:=hC.D9;omega
 have hch:∀ X (x:Ext w X) a r,BG X a r→qsz r≤t→Bi 101 #[c,a] X (fun o _=>o = .int .i64 (V (EL W (pd W) K') r:Nat)):=fun X x a r ha hr =>
  TA c a us _ r base M t D X (h3.ext x) ha (hC.mem h1) hr ht (by have:=hC.D9;omega) (by rw[hl];omega)
 have b1:=Zw (EL W (pd W) K') p;have b2:=Zw (EL W (pd W) K') q;rw[hl]at b1 b2;obtain⟨Vp,hVp⟩:∃ n,n=V (EL W (pd W) K') p:=⟨_,rfl⟩
 obtain⟨Vq,hVq⟩:∃ n,n=V (EL W (pd W) K') q:=⟨_,rfl⟩
 have hc1:∀ X (x:Ext w X),Bi 101 #[c,u] X (fun o _=>o = .int .i64 (Vp:Nat)):=fun X x=>by rw[hVp];exact hch X x u p (hu.ext x) hp
 have hc2:∀ X (x:Ext w X),Bi 101 #[c,z] X (fun o _=>o = .int .i64 (Vq:Nat)):=fun X x=>by rw[hVq];exact hch X x z q (hz.ext x) hq
 rw[←hVp]at b1 ⊢;rw[←hVq]at b2 ⊢;have HP:=Ad (Au hc1 hc2);obtain⟨A0,c0,rfl⟩:=h3.shape;rw[hl]at HP ⊢;obtain⟨b,B,n1,c1,b',B',n1',c1',x0,y0,rfl,-⟩:=hu.form;obtain⟨d,E,n2,c2,d',E',n2',c2',x1,y1,rfl,-⟩:=hz.form;clear hch hu hz hp hq h1 h2 h3 hC hK ht hl hc1 hc2 hVp hVq
 go_enter Tryz.func51,Tryz.ntmps51
 go_upto_region 1 with(fail)
 refine Ai 8 [7,8,9,10,11,12,13,14] [[],[0],[],[0,1,2],[],[4],[],[0,1,2,3,4,5,6],[0,1,2,3,4,5,6,7],[0,1,2,3,4,5,6,7,8]] [3,4,5] [_,_,_] [(kv ?_),(kv ?_),(kv ?_),(kv (.int .i64 (Vp:Nat))),(kv ?_),(kv ?_),(kv ?_),(kv (.int .i64 (Vq:Nat)))] (fun γ w'=>[True,True,True,True,True,True,True,True]) BQ Av Av BS Av BU C9 ?hstep1 ?_
 case hstep1 =>
  iterate 8 refine⟨?_,?_⟩
  trivial
  iterate 3 focus
   intro γ w' he hf;clear hf;refine⟨by trivial,?_⟩;intro R hR;have hc:=he.cells;go_simp;refine hR _ _ (Ext.refl _) ?_ trivial;rfl
  ·intro γ w' he hf;clear hf;refine⟨trivial,?_⟩;intro R hR
   go_simp;exact Po (HP.out.1 w' he.a3) hR
  iterate 3 focus
   intro γ w' he hf;clear hf;refine⟨by trivial,?_⟩;intro R hR;have hc:=he.cells;go_simp;refine hR _ _ (Ext.refl _) ?_ trivial;rfl
  ·intro γ w' he hf;clear hf;refine⟨trivial,?_⟩;intro R hR
   go_simp;exact Po (HP.out.2 w' he.a3) hR
 intro γ w1 hx1 hF;clear hF;simp only[Br,Nat.reduceAdd];clear γ;go_wp2
 go_ret
 exact Ah.mk rfl hx1.a3
end Go.Proofs.YtmhgnigpmompmaaGreat

namespace Go.Hp
open Go.RowKit
def UZ(w:World)(v:Value)(x y:Int):Prop:=∃ a b,v = .tuple #[a,b]∧AQ w a x∧AQ w b y
theorem UZ.ext{w w':World}{v:Value}{x y:Int}(h:UZ w v x y)(k:Ext w w'):UZ w' v x y:=by
 obtain⟨a,b,h1,h2,h3⟩:=h;exact⟨a,b,h1,h2.kd k.kd,h3.kd k.kd⟩
theorem EI.lower{F G:Nat→Rat}{n s t i j:Nat}{Q R:Nat→Rat}(h:EI F G n s t i Q R)(hj:j≤i)(hs:Bg (j+pl G - 1) R):EI F G n s t j Q R:=
 ⟨fun m hm=>h.1 m Aa,h.2.1,hs,h.2.2.2.1,h.2.2.2.2.1,h.2.2.2.2.2.1,fun m=>by
  have h1:=h.2.2.2.2.2.2 m;have h2:(n - i)*(t+1)≤(n - j)*(t+1):=Nat.mul_le_mul_right _ Aa;omega⟩
end Go.Hp
namespace Go.Proofs.YtmhgnigpmompmaaGreat
open Go.RowKit Go.Hp
end Go.Proofs.YtmhgnigpmompmaaGreat
namespace Go.Hp
open Go.RowKit
structure QR(F G:Nat→Rat)(n s t j:Nat)(Q R:Nat→Rat):Prop where
 eq:psc (ld G^j) F=pad (cv Q G) R
 zQ:ZI Q
 zR:ZI R
 fQ:Bg n Q
 fR:Ae R
 deg:pl R+j≤pl F
 qQ:∀ i,qsz (Q i)≤s+j*(t+1)
 qR:∀ i,qsz (R i)≤s+j*(t+1)
theorem QR.start{F G:Nat→Rat}{n s t:Nat}(hF:Ae F)(hz:ZI F)(hs:∀ i,qsz (F i)≤s):QR F G n s t 0 pz F where
 eq:=by rw[Rat.pow_zero,Cq,Ct];funext m;simp only[pad,pz];grind
 zQ:=ZI.pz
 zR:=hz
 fQ:=Bg.pz n
 fR:=hF
 deg:=Nat.le_refl _
 qQ:=fun i=>by have h1:=D5 (F 0);have h2:=hs 0;show qsz 0≤_;have:qsz (0:Rat)=1:=Ab;omega
 qR:=fun i=>by have:=hs i;omega
theorem QR.step{F G:Nat→Rat}{n s t j:Nat}{Q R:Nat→Rat}(h:QR F G n s t j Q R)(hn:n=pl F+1 - pl G)(fG:Ae G)(h0:G≠pz)(zG:ZI G)(ht:∀ i,qsz (G i)≤t)(hl:pl G≤pl R){k:Nat}(hk:k=pl R - pl G){x:Int}(hx:(x:Rat)=R (pl R - 1)) :
  QR F G n s t (j+1) (pad (psc (ld G) Q) (mono k (x:Rat))) (psb (psc (ld G) R) (cv (mono k (x:Rat)) G))∧pl (psb (psc (ld G) R) (cv (mono k (x:Rat)) G)) < pl R:=by
 have hp:=AR fG h0;have hld:=CV fG h0;have zl:∃ y:Int,ld G=(y:Rat):=zG _;obtain⟨y,hy⟩:=zl;have hsup:Bg (k+pl G) (psc (ld G) R):=((AC h.fR).mono Aa).psc _;have e1:(x:Rat)=psc (ld G) R (k+pl G - 1) / ld G:=by
  show _=ld G*R (k+pl G - 1) / ld G;rw[show k+pl G - 1=pl R - 1 from Aa,←hx];grind
 have hs2:Bg (k+pl G - 1) (psb (psc (ld G) R) (cv (mono k (x:Rat)) G)):=by
  rw[e1];exact Ew fG h0 hsup
 have hle:=BR hs2;have hxq:qsz (x:Rat)≤s+j*(t+1):=by rw[hx];exact h.qR _
 have hlq:qsz (ld G)≤t:=ht _;have hj:(j+1)*(t+1)=j*(t+1)+(t+1):=Nat.succ_mul _ _;have o1:qsz (0:Rat)=1:=by decide
 have zsR:ZI (psc (ld G) R):=by rw[hy];exact h.zR.psc y
 have zsQ:ZI (psc (ld G) Q):=by rw[hy];exact h.zQ.psc y
 refine⟨⟨?_,zsQ.pad (ZI.mono k x),zsR.psb ((ZI.mono k x).cv zG),(h.fQ.psc _).pad ((Eo k _).mono (by have:=h.deg;omega)),⟨_,hs2⟩,by have:=h.deg;omega,fun i=>?_,fun i=>?_⟩,Aa⟩
 ·have e2:psc (ld G^(j+1)) F=psc (ld G) (psc (ld G^j) F):=by
   rw[Cg,Rat.pow_succ,Rat.mul_comm]
  rw[e2,h.eq,CU,CJ]
  funext m;simp only[psc,pad,psb];grind
 ·have a1:=VF zsQ (ZI.mono k x) i i
  have a2:qsz (psc (ld G) Q i)≤qsz (ld G)+qsz (Q i):=CO _ _;have a3:=h.qQ i;have a4:qsz (mono k (x:Rat) i)≤s+j*(t+1):=by
   unfold mono;split
   ·exact hxq
   ·have:=D5 (x:Rat);omega
  show qsz (psc (ld G) Q i+mono k (x:Rat) i)≤_;omega
 ·have a1:=Mg zsR ((ZI.mono k x).cv zG) i i
  have a2:qsz (psc (ld G) R i)≤qsz (ld G)+qsz (R i):=CO _ _;have a3:=h.qR i;have a4:qsz (cv (mono k (x:Rat)) G i)≤qsz (x:Rat)+t:=by
   rw[Fy];show qsz ((x:Rat)*sh k G i)≤_;have b1:=CO (x:Rat) (sh k G i);have b2:qsz (sh k G i)≤t:=by
    unfold sh;split
    ·have:=D5 (ld G);omega
    ·exact ht _
   omega
  show qsz (psc (ld G) R i - cv (mono k (x:Rat)) G i)≤_;omega
theorem PK(a:Rat)(m:Nat):∀ n:Nat,a^(m+n)=a^m*a^n
 | 0=>by rw[Nat.add_zero,Rat.pow_zero,Rat.mul_one]
 | n+1=>by rw[←Nat.add_assoc,Rat.pow_succ,PK a m n,Rat.pow_succ,Rat.mul_assoc]
theorem QR.end_{F G:Nat→Rat}{n s t j:Nat}{Q R:Nat→Rat}(h:QR F G n s t j Q R)(hn:n=pl F+1 - pl G)(fF:Ae F)(fG:Ae G)(h0:G≠pz)(hl:pl R < pl G)(hj:j≤n) :
  psc (ld G^(n - j)) Q=FJ F G n∧psc (ld G^(n - j)) R=CR F G n:=by
 have hp:=AR fG h0;have e1:psc (ld G^n) F=pad (cv (psc (ld G^(n - j)) Q) G) (psc (ld G^(n - j)) R):=by
  have e2:ld G^n=ld G^(n - j)*ld G^j:=by rw[←PK];congr 1;omega
  rw[e2,←Cg,h.eq,CJ]
  funext m;simp only[psc,pad];grind
 have e3:psc (ld G^n) F=pad (cv (psc (ld G^n) (pq F G)) G) (psc (ld G^n) (pr F G)):=by
  rw[CJ];have h1:=Jt F G
  funext m
  have h2:=congrFun h1 m;simp only[psc,pad]at h2 ⊢;rw[h2];grind
 have h1:=LH fG (Ae.psc _ ⟨n,h.fQ⟩) ((D6 F G).psc _) h0 e1 e3 (((AC h.fR).mono Aa).psc _) ((DV fF fG h0).psc _);have h2:=Jq fF fG h0;rw[←hn]at h2;exact⟨h1.1.trans h2.1.symm,h1.2.trans h2.2.symm⟩
end Go.Hp
namespace Go.Proofs.YtmhgnigpmompmaaGreat
open Go.RowKit Go.Hp
end Go.Proofs.YtmhgnigpmompmaaGreat
namespace Go.Hp
open Go.RowKit
def JS(w:World)(v:Value)(p q:Rat):Prop:=∃ b1 A1 n1 c1 b2 A2 n2 c2 b3 A3 n3 c3 b4 A4 n4 c4,v = .agg #[.bool b1,.slice A1 n1 c1,.bool b2,.slice A2 n2 c2,.bool b3,.slice A3 n3 c3,.bool b4,.slice A4 n4 c4]∧BG w (.agg #[.bool b1,.slice A1 n1 c1,.bool b2,.slice A2 n2 c2]) p∧BG w (.agg #[.bool b3,.slice A3 n3 c3,.bool b4,.slice A4 n4 c4]) q
theorem JS.ext{w w':World}{v:Value}{p q:Rat}(h:JS w v p q)(e:Ext w w'):JS w' v p q:=by
 obtain⟨b1,A1,n1,c1,b2,A2,n2,c2,b3,A3,n3,c3,b4,A4,n4,c4,h1,h2,h3⟩:=h;exact⟨b1,A1,n1,c1,b2,A2,n2,c2,b3,A3,n3,c3,b4,A4,n4,c4,h1,h2.ext e,h3.ext e⟩
theorem AU.cells8{w:World}{g:Nat}{t:TypeId}{x0 x1 x2 x3 x4 x5 x6 x7:Value}(h:AU w g t #[x0,x1,x2,x3,x4,x5,x6,x7]) :
  w.cell? ⟨g,0,none⟩=some x0∧w.cell? ⟨g,1,none⟩=some x1∧w.cell? ⟨g,2,none⟩=some x2∧w.cell? ⟨g,3,none⟩=some x3∧w.cell? ⟨g,4,none⟩=some x4∧w.cell? ⟨g,5,none⟩=some x5∧w.cell? ⟨g,6,none⟩=some x6∧w.cell? ⟨g,7,none⟩=some x7:=
 ⟨h.cell rfl,h.cell rfl,h.cell rfl,h.cell rfl,h.cell rfl,h.cell rfl,h.cell rfl,h.cell rfl⟩
noncomputable def rts(W:Nat→Rat)(K:Nat)(p q:Rat):Int:=(V (EL W (pd W) K) p:Nat) - (V (EL W (pd W) K) q:Nat)
end Go.Hp
namespace Go.Proofs.YtmhgnigpmompmaaGreat
open Go.RowKit Go.Hp
set_option maxRecDepth 20000 in
theorem OQ(v:Value)(p q:Rat)(t:Nat)(w:World)(hv:JS w v p q)(hp:qsz p≤t)(hq:qsz q≤t)(ht:t≤100000000000) :
  Bi 112 #[v] w (fun r w'=>Cb w' r ((p+q) / 2)):=by
 have hsum:qsz (p+q)≤274877906944:=by have:=EF p q;omega
 obtain⟨d1,A1,n1,c1,d2,A2,n2,c2,d3,A3,n3,c3,d4,A4,n4,c4,rfl,hu1,hu2⟩:=hv;have HC:=Ad (Au hu1 (Au hu2 hsum));clear hu1 hu2 hsum hp hq ht
 go_enter Tryz.func112,Tryz.ntmps112
 have ea:=(AU.new w 30 #[.bool d1,.slice A1 n1 c1,.bool d2,.slice A2 n2 c2,.bool d3,.slice A3 n3 c3,.bool d4,.slice A4 n4 c4] (by simp[Aj])).alloc (.cells #[.bool false,.slice none 0 0,.bool false,.slice none 0 0] 28);have ez:=AU.new (w.alloc (.cells #[.bool d1,.slice A1 n1 c1,.bool d2,.slice A2 n2 c2,.bool d3,.slice A3 n3 c3,.bool d4,.slice A4 n4 c4] 30)) 28 #[.bool false,.slice none 0 0,.bool false,.slice none 0 0] (by simp[Aj])
 rw[World.size_alloc]at ez;have hx:=((Ext.refl w).alloc (.cells #[.bool d1,.slice A1 n1 c1,.bool d2,.slice A2 n2 c2,.bool d3,.slice A3 n3 c3,.bool d4,.slice A4 n4 c4] 30)).alloc (.cells #[.bool false,.slice none 0 0,.bool false,.slice none 0 0] 28)
 go_upto_region 1 with(fail)
 generalize (w.alloc (.cells #[.bool d1,.slice A1 n1 c1,.bool d2,.slice A2 n2 c2,.bool d3,.slice A3 n3 c3,.bool d4,.slice A4 n4 c4] 30)).alloc (.cells #[.bool false,.slice none 0 0,.bool false,.slice none 0 0] 28)=W0 at *;obtain⟨cea0,cea1,cea2,cea3,cea4,cea5,cea6,cea7⟩:=ea.cells8;have fea:=ea.frozen
 go_wp2_with fail
 refine AO (RJ _ _ p q _ (HC.out.1.ext hx) (HC.out.2.1.ext hx)) ?_;rintro r1 w1 hr1 hx1;clear cea0 cea1 cea2 cea3 cea4 cea5 cea6 cea7 fea ea;replace ez:=ez.ext hx1;replace hx:=hx.trans hx1
 go_wp2_with fail
 refine AO (Vo 2 _ Aa Aa) ?_;rintro r2 w2 hr2 hx2;replace ez:=ez.ext hx2;replace hx:=hx.trans hx2;have H2:=Ad (Au (hr1.ext hx2) hr2);clear hr1 hr2 hx1 hx2
 go_wp2_with fail
 refine AO (UL _ _ (p+q) ((2:Int):Rat) _ (H2.out.1.has HC.out.2.2) (H2.out.2.has Ab) Ab) ?_;rintro r3 w3 ⟨q3,rfl,hq3⟩ hx3;obtain⟨b5,B5,m5,e5,b6,B6,m6,e6,rfl⟩:=hq3.cells;replace ez:=ez.ext hx3;replace hx:=hx.trans hx3;obtain⟨W4,eW,e4,x4⟩:=AU.made w3 28 #[.bool b5,.slice B5 m5 e5,.bool b6,.slice B6 m6 e6] (by simp[Aj]);have hr:=hq3.ext x4;have hltz:=ez.lt;replace ez:=ez.ext x4;replace hx:=hx.trans x4
 clear hq3 hx3 x4 H2
 go_upto_region 2 with(fail)
 rw[←eW];clear eW;generalize w3.heap.size=gc at *;obtain⟨cez0,cez1,cez2,cez3⟩:=ez.cells4;have fez:=ez.frozen;obtain⟨ce40,ce41,ce42,ce43⟩:=e4.cells4;have fe4:=e4.frozen;go_wp2;obtain⟨W5,eW,ez',U⟩:=ez.put4 (.bool b5) (.slice B5 m5 e5) (.bool b6) (.slice B6 m6 e6) rfl rfl rfl rfl;rw[←eW];clear eW ez;replace hr:=hr.kd U.kd;replace hx:=U.from_ hx Af;have ez:=ez';clear U ez';clear cez0 cez1 cez2 cez3 fez
 obtain⟨cez0,cez1,cez2,cez3⟩:=ez.cells4;have fez:=ez.frozen;refine bodyPost_ret (v := .agg #[.bool b5,.slice B5 m5 e5,.bool b6,.slice B6 m6 e6]) (by simp[results,Tryz.results112,go_sem,cez0,cez1,cez2,cez3]) rfl ?_;exact Ah.mk hr hx
end Go.Proofs.YtmhgnigpmompmaaGreat
namespace Go.Hp
open Go.RowKit
theorem GG.cell{base:Nat}{t:TypeId}{w:World}{v:Value}{W:Nat→Rat}(h:GG base t w v W):∃ A n c,v = .agg #[.slice A n c]:=by
 obtain⟨c,us,K,rfl,h2,h3,h4⟩:=h;obtain⟨A,c,rfl⟩:=h4.shape;exact⟨_,_,_,rfl⟩
theorem AU.put8{w:World}{g:Nat}{t:TypeId}{a b c d a' b' c' d':Value}(h:AU w g t #[a,b,c,d,a',b',c',d'])(x0 x1 x2 x3 x4 x5 x6 x7:Value)(h0:Aj x0=false)(h1:Aj x1=false)(h2:Aj x2=false)(h3:Aj x3=false)(h4:Aj x4=false)(h5:Aj x5=false)(h6:Aj x6=false)(h7:Aj x7=false) :
  ∃ W,W=(((((((w.setCell ⟨g,0,none⟩ x0).setCell ⟨g,1,none⟩ x1).setCell ⟨g,2,none⟩ x2).setCell ⟨g,3,none⟩ x3).setCell ⟨g,4,none⟩ x4).setCell ⟨g,5,none⟩ x5).setCell ⟨g,6,none⟩ x6).setCell ⟨g,7,none⟩ x7∧AU W g t #[x0,x1,x2,x3,x4,x5,x6,x7]∧Cj [g] w W:=by
 have k0:AU (w.setCell ⟨g,0,none⟩ x0) g t #[x0,b,c,d,a',b',c',d']:=h.set_ 0 h0;have k1:AU ((w.setCell ⟨g,0,none⟩ x0).setCell ⟨g,1,none⟩ x1) g t #[x0,x1,c,d,a',b',c',d']:=k0.set_ 1 h1;have k2:AU (((w.setCell ⟨g,0,none⟩ x0).setCell ⟨g,1,none⟩ x1).setCell ⟨g,2,none⟩ x2) g t #[x0,x1,x2,d,a',b',c',d']:=k1.set_ 2 h2;have k3:AU ((((w.setCell ⟨g,0,none⟩ x0).setCell ⟨g,1,none⟩ x1).setCell ⟨g,2,none⟩ x2).setCell ⟨g,3,none⟩ x3) g t #[x0,x1,x2,x3,a',b',c',d']:=k2.set_ 3 h3
 have k4:AU (((((w.setCell ⟨g,0,none⟩ x0).setCell ⟨g,1,none⟩ x1).setCell ⟨g,2,none⟩ x2).setCell ⟨g,3,none⟩ x3).setCell ⟨g,4,none⟩ x4) g t #[x0,x1,x2,x3,x4,b',c',d']:=k3.set_ 4 h4;have k5:AU ((((((w.setCell ⟨g,0,none⟩ x0).setCell ⟨g,1,none⟩ x1).setCell ⟨g,2,none⟩ x2).setCell ⟨g,3,none⟩ x3).setCell ⟨g,4,none⟩ x4).setCell ⟨g,5,none⟩ x5) g t #[x0,x1,x2,x3,x4,x5,c',d']:=k4.set_ 5 h5;have k6:AU (((((((w.setCell ⟨g,0,none⟩ x0).setCell ⟨g,1,none⟩ x1).setCell ⟨g,2,none⟩ x2).setCell ⟨g,3,none⟩ x3).setCell ⟨g,4,none⟩ x4).setCell ⟨g,5,none⟩ x5).setCell ⟨g,6,none⟩ x6) g t #[x0,x1,x2,x3,x4,x5,x6,d']:=k5.set_ 6 h6
 have k7:AU ((((((((w.setCell ⟨g,0,none⟩ x0).setCell ⟨g,1,none⟩ x1).setCell ⟨g,2,none⟩ x2).setCell ⟨g,3,none⟩ x3).setCell ⟨g,4,none⟩ x4).setCell ⟨g,5,none⟩ x5).setCell ⟨g,6,none⟩ x6).setCell ⟨g,7,none⟩ x7) g t #[x0,x1,x2,x3,x4,x5,x6,x7]:=k6.set_ 7 h7;exact⟨_,rfl,k7,(((((((Cj.set_ h.nodig 0 x0).trans (Cj.set_ k0.nodig 1 x1)).trans (Cj.set_ k1.nodig 2 x2)).trans (Cj.set_ k2.nodig 3 x3)).trans (Cj.set_ k3.nodig 4 x4)).trans (Cj.set_ k4.nodig 5 x5)).trans (Cj.set_ k5.nodig 6 x6)).trans (Cj.set_ k6.nodig 7 x7)⟩
theorem Kt{p q:Rat}:decide (FM (p - q) < 0)=decide (p < q):=by
 rw[KO];unfold Bl;by_cases h:p < q
 ·rw[if_neg Ag,if_pos Ag,decide_eq_true h];rfl
 ·rw[decide_eq_false h]
  split
  ·rfl
  ·rw[if_neg Ag];rfl
end Go.Hp
namespace Go.Proofs.YtmhgnigpmompmaaGreat
open Go.RowKit Go.Hp
set_option maxRecDepth 20000 in
theorem aG(v u:Value)(W:Nat→Rat)(p q:Rat)(base S D M t K:Nat)(w:World)(hv:GG base 23 w v W)(hu:JS w u p q)(hC:Kc W S D M)(hK:MC W (pd W) K)(hp:qsz p≤t)(hq:qsz q≤t)
  (ht:1+D*(M+t+1)+M+t+1≤100000000000) :
  Bi 80 #[v,u] w (fun r _=>r = .bool (decide (p < q)&&(rts W K p q==1))):=by
 have hin:∀ X (x:Ext w X) a b,BG X a p→BG X b q→Bi 51 #[v,a,b] X (fun r _=>r = .int .i64 (rts W K p q)):=fun X x a b ha hb =>
  TZ v a b W p q base S D M t K X (hv.ext x) ha hb hC hK hp hq Aa
 have hcm:∀ X a b,BG X a p→BG X b q→Bi 49 #[a,b] X (fun o _=>o = .int .i64 (FM (p - q))):=fun X a b ha hb=>Kq a b p q X ha hb Aa;obtain⟨A0,n0,c0,rfl⟩:=hv.cell;obtain⟨d1,A1,n1,c1,d2,A2,n2,c2,d3,A3,n3,c3,d4,A4,n4,c4,rfl,hu1,hu2⟩:=hu;obtain⟨R,hR⟩:∃ R,R=rts W K p q:=⟨_,rfl⟩
 simp only[←hR]at hin ⊢;have HC:=Ad (Au hin (Au hcm (Au hu1 hu2)));clear hin hcm hu1 hu2 hv hC hK hp hq ht hR;have hsd:=Kt (p:=p) (q:=q);obtain⟨res,hres⟩:∃ res,res=(decide (p < q)&&(R==1)):=⟨_,rfl⟩
 rw[←hres];have Hres:=Ad hres;clear hres
 go_enter Tryz.func80,Tryz.ntmps80
 have ec:=(AU.new w 92 #[.slice A0 n0 c0] (by simp[Aj])).alloc (.cells #[.bool d1,.slice A1 n1 c1,.bool d2,.slice A2 n2 c2,.bool d3,.slice A3 n3 c3,.bool d4,.slice A4 n4 c4] 30);have ea:=AU.new (w.alloc (.cells #[.slice A0 n0 c0] 92)) 30 #[.bool d1,.slice A1 n1 c1,.bool d2,.slice A2 n2 c2,.bool d3,.slice A3 n3 c3,.bool d4,.slice A4 n4 c4] (by simp[Aj]);rw[World.size_alloc]at ea;have hx:=((Ext.refl w).alloc (.cells #[.slice A0 n0 c0] 92)).alloc (.cells #[.bool d1,.slice A1 n1 c1,.bool d2,.slice A2 n2 c2,.bool d3,.slice A3 n3 c3,.bool d4,.slice A4 n4 c4] 30)
 go_upto_region 1 with(fail)
 generalize (w.alloc (.cells #[.slice A0 n0 c0] 92)).alloc (.cells #[.bool d1,.slice A1 n1 c1,.bool d2,.slice A2 n2 c2,.bool d3,.slice A3 n3 c3,.bool d4,.slice A4 n4 c4] 30)=W0 at *;obtain⟨cea0,cea1,cea2,cea3,cea4,cea5,cea6,cea7⟩:=ea.cells8;have fea:=ea.frozen;have cec0:=ec.cells1;by_cases hpq:p < q
 ·have hd:decide (p < q)=true:=decide_eq_true hpq
  rw[hd]at hsd;have HF:=Ad (show res=(R==1) by rw[Hres.out,hd];rfl);clear hpq hd
  go_wp2_with fail
  refine AO (HC.out.2.1 _ _ _ (HC.out.2.2.1.ext hx) (HC.out.2.2.2.ext hx)) ?_;rintro r1 w1 rfl hx1;clear cea0 cea1 cea2 cea3 cea4 cea5 cea6 cea7 fea cec0;replace ea:=ea.ext hx1;replace ec:=ec.ext hx1;replace hx:=hx.trans hx1;clear hx1;obtain⟨cea0,cea1,cea2,cea3,cea4,cea5,cea6,cea7⟩:=ea.cells8;have fea:=ea.frozen;have cec0:=ec.cells1
  go_wp2_with fail
  refine AO (HC.out.1 _ hx _ _ (HC.out.2.2.1.ext hx) (HC.out.2.2.2.ext hx)) ?_;rintro r2 w2 rfl hx2;go_wp2
  go_ret
  exact Ah.mk (by rw[HF.out];rfl) (hx.trans hx2)
 ·have hd:decide (p < q)=false:=decide_eq_false hpq
  rw[hd]at hsd;have HF:=Ad (show res=false by rw[Hres.out,hd];rfl);clear hpq hd
  go_wp2_with fail
  refine AO (HC.out.2.1 _ _ _ (HC.out.2.2.1.ext hx) (HC.out.2.2.2.ext hx)) ?_;rintro r1 w1 rfl hx1;go_wp2
  go_ret
  exact Ah.mk (by rw[HF.out];rfl) (hx.trans hx1)
set_option maxRecDepth 20000 in
theorem Zf(v u:Value)(W:Nat→Rat)(p q:Rat)(base S D M t K:Nat)(w:World)(hv:GG base 23 w v W)(hu:JS w u p q)(hC:Kc W S D M)(hK:MC W (pd W) K)(hp:qsz p≤t)(hq:qsz q≤t)(hm:qsz ((p+q) / 2)≤t)
  (ht:1+D*(M+t+1)+M+t+1≤100000000000) :
  Bi 81 #[v,u] w (fun r w'=>if rts W K p ((p+q) / 2)=1 then JS w' r p ((p+q) / 2)else JS w' r ((p+q) / 2) q):=by
 obtain⟨m,hmm⟩:∃ m,m=(p+q) / 2:=⟨_,rfl⟩
 have hin:∀ X (x:Ext w X) a b,BG X a p→BG X b m→Bi 51 #[v,a,b] X (fun r _=>r = .int .i64 (rts W K p m)):=fun X x a b ha hb =>
  TZ v a b W p m base S D M t K X (hv.ext x) ha hb hC hK hp (by rw[hmm];exact hm) Aa
 have hmid:=fun X (x:Ext w X)=>OQ u p q t X (hu.ext x) hp hq Aa;simp only[←hmm]at hmid hm ⊢;have hm9:qsz m≤274877906944:=by omega
 obtain⟨A0,n0,c0,rfl⟩:=hv.cell;obtain⟨d1,A1,n1,c1,d2,A2,n2,c2,d3,A3,n3,c3,d4,A4,n4,c4,rfl,hu1,hu2⟩:=hu;obtain⟨R,hR⟩:∃ R,R=rts W K p m:=⟨_,rfl⟩
 simp only[←hR]at hin ⊢;have HC:=Ad (Au hin (Au hmid (Au hu1 (Au hu2 hm9))));clear hin hmid hu1 hu2 hv hC hK hp hq ht hR hm hm9 hmm
 go_enter Tryz.func81,Tryz.ntmps81
 obtain⟨W1,eW1,ec,y1⟩:=AU.made w 92 #[.slice A0 n0 c0] (by simp[Aj]);obtain⟨W2,eW2,ea,y2⟩:=AU.made W1 30 #[.bool d1,.slice A1 n1 c1,.bool d2,.slice A2 n2 c2,.bool d3,.slice A3 n3 c3,.bool d4,.slice A4 n4 c4] (by simp[Aj]);obtain⟨W3,eW3,ez,y3⟩:=AU.made W2 30 #[.bool false,.slice none 0 0,.bool false,.slice none 0 0,.bool false,.slice none 0 0,.bool false,.slice none 0 0] (by simp[Aj]);have s1:W1.heap.size=w.heap.size+1:=by rw[eW1,World.size_alloc]
 have s2:W2.heap.size=w.heap.size+1+1:=by rw[eW2,World.size_alloc,s1]
 rw[s1]at ea;rw[s2]at ez;have hx:=(y1.trans y2).trans y3;replace ec:=ec.ext (y2.trans y3);replace ea:=ea.ext y3
 go_upto_region 1 with(fail)
 rw[←eW1,←eW2,←eW3];clear eW1 eW2 eW3 y1 y2 y3 s1 s2;obtain⟨cea0,cea1,cea2,cea3,cea4,cea5,cea6,cea7⟩:=ea.cells8;have fea:=ea.frozen
 go_wp2_with fail
 refine AO (HC.out.2.1 _ hx) ?_;rintro r4 w4 hr4 hx4;obtain⟨b5,B5,m5,e5,b6,B6,m6,e6,rfl⟩:=hr4.cells;obtain⟨W5,eW,e4,x4⟩:=AU.made w4 28 #[.bool b5,.slice B5 m5 e5,.bool b6,.slice B6 m6 e6] (by simp[Aj]);have Hr:=Ad ((hr4.ext x4).has HC.out.2.2.2.2);clear cea0 cea1 cea2 cea3 cea4 cea5 cea6 cea7 fea hr4;have x45:=hx4.trans x4;replace ea:=ea.ext x45;replace ez:=ez.ext x45;replace ec:=ec.ext x45;replace hx:=hx.trans x45
 clear x45;clear hx4 x4
 go_upto_region 2 with(fail)
 rw[←eW];clear eW;generalize w4.heap.size=gc at *;obtain⟨cea0,cea1,cea2,cea3,cea4,cea5,cea6,cea7⟩:=ea.cells8;have fea:=ea.frozen;obtain⟨ce40,ce41,ce42,ce43⟩:=e4.cells4;have fe4:=e4.frozen;have cec0:=ec.cells1
 go_wp2_with fail
 refine AO (HC.out.1 _ hx _ _ (HC.out.2.2.1.ext hx) Hr.out) ?_;rintro r6 w6 rfl hx6;have Hr6:=Ad (Hr.out.ext hx6);clear cea0 cea1 cea2 cea3 cea4 cea5 cea6 cea7 fea ce40 ce41 ce42 ce43 fe4 cec0 Hr;replace ea:=ea.ext hx6;replace ez:=ez.ext hx6;replace ec:=ec.ext hx6;replace e4:=e4.ext hx6;replace hx:=hx.trans hx6;clear hx6;obtain⟨cea0,cea1,cea2,cea3,cea4,cea5,cea6,cea7⟩:=ea.cells8;have fea:=ea.frozen
 obtain⟨ce40,ce41,ce42,ce43⟩:=e4.cells4;have fe4:=e4.frozen;obtain⟨cez0,cez1,cez2,cez3,cez4,cez5,cez6,cez7⟩:=ez.cells8;have fez:=ez.frozen;by_cases h1:R=1
 ·have hb:(R==1)=true:=by simpa using h1
  have H1:=Ad h1;clear h1;have Q1:=HC.out.2.2.1.ext hx;have Q2:=Hr6.out;have HQ:=Ad (Au Q1 Q2);clear Q1 Q2;go_wp2;obtain⟨W6,eW6,ez',U⟩:=ez.put8 (.bool d1) (.slice A1 n1 c1) (.bool d2) (.slice A2 n2 c2) (.bool b5) (.slice B5 m5 e5) (.bool b6) (.slice B6 m6 e6) rfl rfl rfl rfl rfl rfl rfl rfl;rw[←eW6];have hr1:=BG.kd HQ.out.1 U.kd;have hr2:=BG.kd HQ.out.2 U.kd;replace hx:=U.from_ hx CY;clear eW6 ez cez0 cez1 cez2 cez3 cez4 cez5 cez6 cez7 fez
  have ez:=ez';obtain⟨cez0,cez1,cez2,cez3,cez4,cez5,cez6,cez7⟩:=ez.cells8;have fez:=ez.frozen;refine bodyPost_ret (v := .agg #[.bool d1,.slice A1 n1 c1,.bool d2,.slice A2 n2 c2,.bool b5,.slice B5 m5 e5,.bool b6,.slice B6 m6 e6]) (by simp[results,Tryz.results81,go_sem,cez0,cez1,cez2,cez3,cez4,cez5,cez6,cez7]) rfl ?_;exact Ah.mk (by first | exact⟨_,_,_,_,_,_,_,_,_,_,_,_,_,_,_,_,rfl,hr1,hr2⟩ | (rw[(if_pos H1.out)];exact⟨_,_,_,_,_,_,_,_,_,_,_,_,_,_,_,_,rfl,hr1,hr2⟩)) hx
 ·have hb:(R==1)=false:=by simpa using h1
  have H1:=Ad h1;clear h1;have Q1:=Hr6.out;have Q2:=HC.out.2.2.2.1.ext hx;have HQ:=Ad (Au Q1 Q2);clear Q1 Q2;go_wp2;obtain⟨W6,eW6,ez',U⟩:=ez.put8 (.bool b5) (.slice B5 m5 e5) (.bool b6) (.slice B6 m6 e6) (.bool d3) (.slice A3 n3 c3) (.bool d4) (.slice A4 n4 c4) rfl rfl rfl rfl rfl rfl rfl rfl;rw[←eW6];have hr1:=BG.kd HQ.out.1 U.kd;have hr2:=BG.kd HQ.out.2 U.kd;replace hx:=U.from_ hx CY;clear eW6 ez cez0 cez1 cez2 cez3 cez4 cez5 cez6 cez7 fez
  have ez:=ez';obtain⟨cez0,cez1,cez2,cez3,cez4,cez5,cez6,cez7⟩:=ez.cells8;have fez:=ez.frozen;refine bodyPost_ret (v := .agg #[.bool b5,.slice B5 m5 e5,.bool b6,.slice B6 m6 e6,.bool d3,.slice A3 n3 c3,.bool d4,.slice A4 n4 c4]) (by simp[results,Tryz.results81,go_sem,cez0,cez1,cez2,cez3,cez4,cez5,cez6,cez7]) rfl ?_;exact Ah.mk (by first | exact⟨_,_,_,_,_,_,_,_,_,_,_,_,_,_,_,_,rfl,hr1,hr2⟩ | (rw[(if_neg H1.out)];exact⟨_,_,_,_,_,_,_,_,_,_,_,_,_,_,_,_,rfl,hr1,hr2⟩)) hx
end Go.Proofs.YtmhgnigpmompmaaGreat
namespace Go.Hp
open Go.RowKit
def Jb(w:World)(v:Value)(p q:Rat):Prop:=∃ b1 A1 n1 c1 b2 A2 n2 c2 b3 A3 n3 c3 b4 A4 n4 c4,v = .agg #[.bool b1,.slice A1 n1 c1,.bool b2,.slice A2 n2 c2,.bool b3,.slice A3 n3 c3,.bool b4,.slice A4 n4 c4]∧Cb w (.agg #[.bool b1,.slice A1 n1 c1,.bool b2,.slice A2 n2 c2]) p∧Cb w (.agg #[.bool b3,.slice A3 n3 c3,.bool b4,.slice A4 n4 c4]) q
theorem Jb.ext{w w':World}{v:Value}{p q:Rat}(h:Jb w v p q)(e:Ext w w'):Jb w' v p q:=by
 obtain⟨b1,A1,n1,c1,b2,A2,n2,c2,b3,A3,n3,c3,b4,A4,n4,c4,h1,h2,h3⟩:=h;exact⟨b1,A1,n1,c1,b2,A2,n2,c2,b3,A3,n3,c3,b4,A4,n4,c4,h1,h2.ext e,h3.ext e⟩
theorem Jb.has{w:World}{v:Value}{p q:Rat}(h:Jb w v p q)(hp:qsz p≤274877906944)(hq:qsz q≤274877906944):JS w v p q:=by
 obtain⟨b1,A1,n1,c1,b2,A2,n2,c2,b3,A3,n3,c3,b4,A4,n4,c4,h1,h2,h3⟩:=h;exact⟨b1,A1,n1,c1,b2,A2,n2,c2,b3,A3,n3,c3,b4,A4,n4,c4,h1,h2.has hp,h3.has hq⟩
end Go.Hp
namespace Go.Proofs.YtmhgnigpmompmaaGreat
open Go.RowKit Go.Hp
set_option maxRecDepth 20000 in
theorem PV(v u:Value)(p q:Rat)(w:World)(hv:BG w v p)(hu:BG w u q) :
  Bi 82 #[v,u] w (fun r w'=>Jb w' r p q):=by
 have HC:=Ad (Au hv hu);obtain⟨b,B,m1,e1,b',B',m1',e1',x0,y0,rfl,-⟩:=hv.form;obtain⟨d,E,m2,e2,d',E',m2',e2',x1,y1,rfl,-⟩:=hu.form;clear hv hu
 go_enter Tryz.func82,Tryz.ntmps82
 obtain⟨W1,eW1,ea,y1⟩:=AU.made w 28 #[.bool b,.slice B m1 e1,.bool b',.slice B' m1' e1'] (by simp[Aj]);obtain⟨W2,eW2,ec,y2⟩:=AU.made W1 28 #[.bool d,.slice E m2 e2,.bool d',.slice E' m2' e2'] (by simp[Aj]);obtain⟨W3,eW3,ez,y3⟩:=AU.made W2 30 #[.bool false,.slice none 0 0,.bool false,.slice none 0 0,.bool false,.slice none 0 0,.bool false,.slice none 0 0] (by simp[Aj]);have s1:W1.heap.size=w.heap.size+1:=by rw[eW1,World.size_alloc]
 have s2:W2.heap.size=w.heap.size+1+1:=by rw[eW2,World.size_alloc,s1]
 rw[s1]at ec;rw[s2]at ez;have hx:=(y1.trans y2).trans y3;replace ea:=ea.ext (y2.trans y3);replace ec:=ec.ext y3
 go_upto_region 1 with(fail)
 rw[←eW1,←eW2,←eW3];clear eW1 eW2 eW3 y1 y2 y3 s1 s2;obtain⟨cea0,cea1,cea2,cea3⟩:=ea.cells4;have fea:=ea.frozen;obtain⟨cec0,cec1,cec2,cec3⟩:=ec.cells4;have fec:=ec.frozen
 go_wp2_with fail
 refine Ai 4 [5,6,7,8] [[],[0],[],[0,1,2],[0,1,2,3],[0,1,2,3,4]] [2,3] [_,_] [(kv ?_),(fun γ=>γ 1),(kv ?_),(fun γ=>γ 3)] (fun γ w'=>[True,Cb w' (γ 1) p,True,Cb w' (γ 3) q]) BQ Av Av BS Av BU C9 ?hstep1 ?_
 case hstep1 =>
  iterate 4 refine⟨?_,?_⟩
  trivial
  iterate 1 focus
   intro γ w' he hf;clear hf;refine⟨by trivial,?_⟩;intro R hR;have hc:=he.cells;have cq0:=he.cell cea0;have cq1:=he.cell cea1;have cq2:=he.cell cea2;have cq3:=he.cell cea3;have cq4:=he.cell cec0;have cq5:=he.cell cec1;have cq6:=he.cell cec2;have cq7:=he.cell cec3;go_simp;refine hR _ _ (Ext.refl _) ?_ trivial;rfl
  ·intro γ w' he hf;clear hf;refine⟨trivial,?_⟩;intro R hR
   go_simp;exact BB (FU _ p w' (HC.out.1.ext (hx.trans he))) hR
  iterate 1 focus
   intro γ w' he hf;clear hf;refine⟨by trivial,?_⟩;intro R hR;have hc:=he.cells;have cq0:=he.cell cea0;have cq1:=he.cell cea1;have cq2:=he.cell cea2;have cq3:=he.cell cea3;have cq4:=he.cell cec0;have cq5:=he.cell cec1;have cq6:=he.cell cec2;have cq7:=he.cell cec3;go_simp;refine hR _ _ (Ext.refl _) ?_ trivial;rfl
  ·intro γ w' he hf;clear hf;refine⟨trivial,?_⟩;intro R hR
   go_simp;exact BB (FU _ q w' (HC.out.2.ext (hx.trans he))) hR
 intro γ w8 hx8 hF;have p1:Cb w8 (γ 1) p:=AJ.get hF 1 Ab;have p3:Cb w8 (γ 3) q:=AJ.get hF 3 Ab;clear hF;simp only[Br,Nat.reduceAdd];generalize γ 1=g1 at *;generalize γ 3=g3 at *;clear γ;obtain⟨b5,A5,n5,c5,b6,A6,n6,c6,rfl⟩:=p1.cells;obtain⟨b7,A7,n7,c7,b8,A8,n8,c8,rfl⟩:=p3.cells;have HQ:=Ad (Au p1 p3);replace hx:=hx.trans hx8;replace ez:=ez.ext hx8;clear p1 p3 cea0 cea1 cea2 cea3 cec0 cec1 cec2 cec3 fea fec
 obtain⟨cez0,cez1,cez2,cez3,cez4,cez5,cez6,cez7⟩:=ez.cells8;have fez:=ez.frozen;go_wp2;obtain⟨W6,eW6,ez',U⟩:=ez.put8 (.bool b5) (.slice A5 n5 c5) (.bool b6) (.slice A6 n6 c6) (.bool b7) (.slice A7 n7 c7) (.bool b8) (.slice A8 n8 c8) rfl rfl rfl rfl rfl rfl rfl rfl;rw[←eW6];have hr1:=Cb.kd HQ.out.1 U.kd;have hr2:=Cb.kd HQ.out.2 U.kd;replace hx:=U.from_ hx Af;clear eW6 ez cez0 cez1 cez2 cez3 cez4 cez5 cez6 cez7 fez
 have ez:=ez';obtain⟨cez0,cez1,cez2,cez3,cez4,cez5,cez6,cez7⟩:=ez.cells8;have fez:=ez.frozen;refine bodyPost_ret (v := .agg #[.bool b5,.slice A5 n5 c5,.bool b6,.slice A6 n6 c6,.bool b7,.slice A7 n7 c7,.bool b8,.slice A8 n8 c8]) (by simp[results,Tryz.results82,go_sem,cez0,cez1,cez2,cez3,cez4,cez5,cez6,cez7]) rfl ?_;exact Ah.mk ⟨_,_,_,_,_,_,_,_,_,_,_,_,_,_,_,_,rfl,hr1,hr2⟩ hx
end Go.Proofs.YtmhgnigpmompmaaGreat
namespace Go.Hp
/-! ### bounds of values -/
theorem Ig(B:Rat)(hB:0≤B):∀(n:Nat) (F:Nat→Rat),∃ M,0≤M∧∀ x,ab x≤B→ab (CE n F x)≤M
 | 0,F=>⟨0,Ab,fun x _=>by show ab 0≤0;decide⟩
 | n+1,F=>by
  obtain⟨M,h0,h⟩:=Ig B hB n (tl F);refine⟨ab (F 0)+B*M,by have:=Ak (F 0);have:=Rat.mul_nonneg hB h0;grind,fun x hx=>?_⟩;rw[Dk];have h1:=EX (F 0) (x*CE n (tl F) x);have h2:ab (x*CE n (tl F) x)≤B*M:=by rw[Cc];exact Em hx (h x hx) (Ak _) hB
  grind
theorem Sg(B:Rat)(hB:0≤B):∀(n:Nat) (F:Nat→Rat),∃ L,0≤L∧∀ x y,ab x≤B→ab y≤B→ab (CE n F x - CE n F y)≤L*ab (x - y)
 | 0,F=>⟨0,Ab,fun x y _ _=>by show ab (0 - 0)≤0*_;rw[Rat.zero_mul,show(0:Rat) - 0=0 by grind];decide⟩
 | n+1,F=>by
  obtain⟨L,h0,h⟩:=Sg B hB n (tl F);obtain⟨M,m0,hM⟩:=Ig B hB n (tl F);refine⟨M+B*L,by have:=Rat.mul_nonneg hB h0;grind,fun x y hx hy=>?_⟩;rw[Dk,Dk];have e:F 0+x*CE n (tl F) x - (F 0+y*CE n (tl F) y)=(x - y)*CE n (tl F) x+y*(CE n (tl F) x - CE n (tl F) y):=by grind
  rw[e];have h1:=EX ((x - y)*CE n (tl F) x) (y*(CE n (tl F) x - CE n (tl F) y));have h2:ab ((x - y)*CE n (tl F) x)≤M*ab (x - y):=by
   rw[Cc];have:=Em (Std.le_refl (ab (x - y))) (hM x hx) (Ak _) (Ak _);grind
  have h3:ab (y*(CE n (tl F) x - CE n (tl F) y))≤B*(L*ab (x - y)):=by rw[Cc];exact Em hy (h x y hx hy) (Ak _) hB
  grind
theorem aK(F:Nat→Rat):pd F=pad (tl F) (cs 0 (pd (tl F))):=by
 funext i
 match i with
 | 0=>show((0+1:Nat):Rat)*F 1=F 1+0;have:((0+1:Nat):Rat)=1:=rfl;rw[this];grind
 | i+1 =>
  show((i+1+1:Nat):Rat)*F (i+1+1)=F (i+1+1)+((i+1:Nat):Rat)*F (i+1+1);have:((i+1+1:Nat):Rat)=((i+1:Nat):Rat)+1:=by push_cast;rfl
  rw[this];grind
theorem UU(n:Nat){F:Nat→Rat}(x:Rat):CE (n+1) (pd F) x=CE (n+1) (tl F) x+x*CE n (pd (tl F)) x:=by
 conv=>lhs;rw[aK F,Sw]
 congr 1;rw[Dk];show 0+x*CE n (pd (tl F)) x=_;grind
theorem SN(B:Rat)(hB:0≤B):∀(n:Nat) (F:Nat→Rat),Bg n F→∃ R,0≤R∧∀ x y,ab x≤B→ab y≤B→∃ r,ab r≤R∧CE n F y - CE n F x=(y - x)*(CE n (pd F) x+(y - x)*r)
 | 0,F,_=>⟨0,Ab,fun x y _ _=>⟨0,Ab,by show(0:Rat) - 0=_*(0+_*0);grind⟩⟩
 | n+1,F,hs=>by
  obtain⟨R,h0,h⟩:=SN B hB n (tl F) hs.tl;obtain⟨M,m0,hM⟩:=Ig B hB n (pd (tl F));refine⟨M+B*R,by have:=Rat.mul_nonneg hB h0;grind,fun x y hx hy=>?_⟩;obtain⟨r,hr,e⟩:=h x y hx hy;refine⟨CE n (pd (tl F)) x+y*r,?_,?_⟩
  ·have h1:=EX (CE n (pd (tl F)) x) (y*r)
   have h2:ab (y*r)≤B*R:=by rw[Cc];exact Em hy hr (Ak _) hB
   have h3:=hM x hx;grind
  ·have e1:CE (n+1) (pd F) x=CE n (tl F) x+x*CE n (pd (tl F)) x:=by
    rw[UU];congr 1;exact KN hs.tl (Nat.le_succ n) x
   rw[e1,Dk,Dk];grind
theorem FQ{F:Nat→Rat}(h:Ae F){B:Rat}(hB:0≤B):∃ M,0≤M∧∀ x,ab x≤B→ab (ev F x)≤M:=Ig B hB (pl F) F
theorem Nn{F:Nat→Rat}(h:Ae F){B:Rat}(hB:0≤B):∃ L,0≤L∧∀ x y,ab x≤B→ab y≤B→ab (ev F x - ev F y)≤L*ab (x - y):=Sg B hB (pl F) F
theorem ZB{F:Nat→Rat}(h:Ae F){B:Rat}(hB:0≤B):∃ R,0≤R∧∀ x y,ab x≤B→ab y≤B→∃ r,ab r≤R∧ev F y - ev F x=(y - x)*(ev (pd F) x+(y - x)*r):=by
 obtain⟨R,h0,k⟩:=SN B hB (pl F) F (AC h);refine⟨R,h0,fun x y hx hy=>?_⟩;obtain⟨r,hr,e⟩:=k x y hx hy;refine⟨r,hr,?_⟩;have e1:ev (pd F) x=CE (pl F) (pd F) x:=Es (O6 ((AC h).mono (Nat.le_succ _))) x;rw[e1];exact e
theorem SX(P:Nat→Rat→Prop)(mono:∀ i s t,P i s→s≤t→P i t):∀ m,(∀ i,i < m→∃ T,P i T)→∃ T,1≤T∧∀ i,i < m→P i T
 | 0,_=>⟨1,Ab,fun i hi=>Aa⟩
 | m+1,h=>by
  obtain⟨T,h1,h2⟩:=SX P mono m fun i hi=>h i Aa;obtain⟨S,hS⟩:=h m Aa;refine⟨T+ab S,by have:=Ak S;grind,fun i hi=>?_⟩;by_cases e:i=m
  ·subst e;exact mono _ _ _ hS (by have:=Sr S;grind)
  ·exact mono _ _ _ (h2 i Aa) (by have:=Ak S;grind)
/-! ### the chain -/
theorem NM{F:Nat→Rat}(zF:ZI F)(fF:Ae F)(h0:F≠pz):∃ c:Rat,0 < c∧rd F=psc c F:=by
 have h1:=JL zF fF h0;have h2:(0:Rat) < ((cn F:Nat):Rat):=by
  have:0 < cn F:=Nat.pos_of_ne_zero h1;exact_mod_cast this
 refine⟨1 / ((cn F:Nat):Rat),?_,rfl⟩;have h3:((cn F:Nat):Rat)*(1 / ((cn F:Nat):Rat))=1:=by grind
 rcases Std.lt_trichotomy 0 (1 / ((cn F:Nat):Rat))with a | a | a
 ·exact a
 ·rw[←a,Rat.mul_zero]at h3;exact absurd h3 Ab
 ·exfalso
  have:=IX h2 a;grind
theorem ZV{A B:Nat→Rat}(fA:Ae A)(fB:Ae B)(h0:B≠pz):nx A B=pz↔pr A B=pz:=by
 constructor
 ·intro h
  have:=(Kj fA fB h0).2.2.1;rw[h,C8]at this;exact(Bw (ED fA fB)).1 this.symm
 ·exact Jm
theorem EY.dv{F0 G0 A B:Nat→Rat}{D S:Nat}(h:EY F0 G0 D S A B){E:Nat→Rat}(hE:Ae E):(Dv E A∧Dv E B)↔(Dv E F0∧Dv E G0):=by
 obtain⟨A',B',e,d,h,rfl,rfl,he,hd⟩:=h;rw[F7 (Jz he),F7 (Jz hd)];exact h.dv E hE
theorem Kh{F G E:Nat→Rat}(c:CX F G)(hE:Ae E)(h1:Dv E F)(h2:Dv E G):pl E=1:=CX.self hE ((c.dv h1).symm.dv h2)
theorem EY.cop{F0 G0 A B:Nat→Rat}{D S:Nat}(h:EY F0 G0 D S A B)(c:CX F0 G0):CX A B:=by
 obtain⟨fA,fB,-⟩:=h.facts;obtain⟨U,V,E,fU,fV,hg,e⟩:=Vb (pl B) fA fB (Nat.le_refl _);obtain⟨d1,d2⟩:=(h.dv hg.1).1 ⟨hg.2.2.1,hg.2.2.2.1⟩;have h1:=Kh c hg.1 d1 d2;have hne:E≠pz:=fun q=>by rw[q,C8]at h1;omega
 have hl:=hg.2.1 hne;have hE:E=pone:=by
  funext i
  match i with
  | 0 =>
   have:ld E=E 0:=by unfold ld;rw[h1]
   rw[←this,hl];rfl
  | i+1=>exact(AC hg.1) (i+1) Aa
 exact⟨U,V,fU,fV,by rw[e,hE]⟩
noncomputable def vx(F:Nat→Rat)(K:Nat)(x:Rat):Nat:=U5 (fun i=>ev (Cu F (pd F) i) x) K
noncomputable def Gy(F:Nat→Rat)(x y:Rat):Nat:=open Classical in if ev F x≠0∧Bl (ev F y)≠Bl (ev F x)then 1 else 0
theorem Fz{c q:Rat}(h:0 < c):Bl (c*q)=Bl q:=by
 unfold Bl;rcases Std.lt_trichotomy q 0 with a | a | a
 ·have:=IX h a
  rw[if_neg (show ¬ 0 < c*q by grind),if_pos this,if_neg (show ¬ 0 < q by grind),if_pos a]
 ·rw[a,Rat.mul_zero]
 ·have:=Rat.mul_pos h a
  rw[if_pos this,if_pos a]
section
variable{F:Nat→Rat}{K:Nat}
structure DT(F:Nat→Rat)(K:Nat):Prop where
 z:ZI F
 f:Ae F
 n:F≠pz
 c:CX F (pd F)
 k:MC F (pd F) K
theorem DT.st(h:DT F K){S:Nat}(hS:∀ i,qsz (F i)≤S)(hS2:∀ i,qsz (pd F i)≤S)(i:Nat)(hi:i < K):EY F (pd F) (pl F+pl (pd F)) S (Cu F (pd F) i) (Cu F (pd F) (i+1)):=
 K7 h.f (BJ h.f) h.z (Ee h.z) hS hS2 i fun j a b=>h.k.2.2 j a Aa
theorem DT.room(h:DT F K):∃ S,(∀ i,qsz (F i)≤S)∧∀ i,qsz (pd F i)≤S:=by
 obtain⟨S,hS⟩:=Cz h.f;obtain⟨T,hT⟩:=Cz (BJ h.f);exact⟨max S T,fun i=>Nat.le_trans (hS i) (Nat.le_max_left _ _),fun i=>Nat.le_trans (hT i) (Nat.le_max_right _ _)⟩
theorem DT.ne0(h:DT F K):Cu F (pd F) 0≠pz:=by
 obtain⟨c,hc,e⟩:=NM h.z h.f h.n;intro q;have e2:Cu F (pd F) 0=rd F:=rfl;rw[e2,e]at q;have:=Dy (show c≠0 by grind) h.f;rw[q,C8]at this;exact h.n ((Bw h.f).1 this.symm)
theorem DT.ne(h:DT F K){i:Nat}(hi:i < K):Cu F (pd F) i≠pz:=by
 match i with
 | 0=>exact h.ne0
 | i+1=>exact h.k.2.2 (i+1) Aa hi
theorem DT.fin(h:DT F K){i:Nat}(hi:i < K):Ae (Cu F (pd F) i):=by
 obtain⟨S,a,b⟩:=h.room;exact(h.st a b i hi).facts.1
theorem DT.last(h:DT F K):pl (Cu F (pd F) (K - 1))=1:=by
 obtain⟨S,a,b⟩:=h.room;have hK:=h.k.1;have h1:=h.st a b (K - 1) Aa;have e:K - 1+1=K:=by omega
 rw[e,h.k.2.1]at h1;obtain⟨fA,-⟩:=h1.facts;exact Kh h.c fA ((h1.dv fA).1 ⟨Dv.refl _,Dv.zero _⟩).1 ((h1.dv fA).1 ⟨Dv.refl _,Dv.zero _⟩).2
theorem DT.recr(h:DT F K){i:Nat}(hi:i+2 < K):∃ q c,Ae q∧0 < c∧∀ x,ev (Cu F (pd F) i) x=ev q x*ev (Cu F (pd F) (i+1)) x - c*ev (Cu F (pd F) (i+2)) x:=by
 have f0:=h.fin (show i < K by omega);have f1:=h.fin (show i+1 < K by omega);have n1:=h.ne (show i+1 < K by omega);have n2:=h.ne hi;have hp:pr (Cu F (pd F) i) (Cu F (pd F) (i+1))≠pz:=fun q=>n2 ((ZV f0 f1 n1).2 q);obtain⟨-,fx,-,-,hc⟩:=Kj f0 f1 n1;obtain⟨c,hc0,e⟩:=hc hp;refine⟨pq (Cu F (pd F) i) (Cu F (pd F) (i+1)),c,D6 _ _,hc0,fun x=>?_⟩;have e2:=Jt (Cu F (pd F) i) (Cu F (pd F) (i+1));have e3:ev (Cu F (pd F) i) x=ev (pad (cv (pq (Cu F (pd F) i) (Cu F (pd F) (i+1))) (Cu F (pd F) (i+1))) (pr (Cu F (pd F) i) (Cu F (pd F) (i+1)))) x:=by rw[←e2]
 rw[e3,IZ ((D6 _ _).cv f1) (ED f0 f1),Fp (D6 _ _) f1,e,FE _ fx];show _ + -c*ev (nx (Cu F (pd F) i) (Cu F (pd F) (i+1))) x=_ - c*ev (Cu F (pd F) (i+2)) x;rw[Ld];grind
theorem Gr{c:Rat}(h:0 < c):0 < 1 / c∧1 / c*c=1:=by
 have e:1 / c*c=1:=by grind
 refine⟨?_,e⟩;rcases Std.lt_trichotomy 0 (1 / c)with p | p | p
 ·exact p
 ·rw[←p,Rat.zero_mul]at e;exact absurd e Ab
 ·have:=IX h p;grind
theorem OX{p q t s:Rat}(h1:p≤t*q)(h2:0≤q)(h3:t≤s):p≤s*q:=Std.le_trans h1 (Rat.mul_le_mul_of_nonneg_right h3 h2)
theorem Xz{a b c d:Rat}(ha:1≤a)(hb:1≤b)(hc:1≤c):a≤a+b+c+ab d∧b≤a+b+c+ab d∧c≤a+b+c+ab d∧d≤a+b+c+ab d∧1≤a+b+c+ab d:=by
 have h1:=Ak d;have h2:=Sr d;refine⟨?_,?_,?_,?_,?_⟩<;>grind
theorem Eb{a b c:Rat}(h:a≤b)(hc:0≤c):a≤b+c:=by grind
theorem Df{a b c:Rat}(h:a≤c)(hb:0≤b):a≤b+c:=by grind
theorem DT.lipT(h:DT F K){B:Rat}(hB:0≤B):∃ T,1≤T∧∀ i,i < K→∀ x y,ab x≤B→ab y≤B→ab (ev (Cu F (pd F) i) x - ev (Cu F (pd F) i) y)≤T*ab (x - y):=
 SX (fun i T=>∀ x y,ab x≤B→ab y≤B→ab (ev (Cu F (pd F) i) x - ev (Cu F (pd F) i) y)≤T*ab (x - y)) (fun i s t p q x y hx hy=>OX (p x y hx hy) (Ak _) q) K fun i hi=>by
  obtain⟨L,-,hL⟩:=Nn (h.fin hi) hB;exact⟨L,hL⟩
theorem DT.bezT(h:DT F K){B:Rat}(hB:0≤B):∃ T,1≤T∧∀ i,i < K→∃ U W,Ae U∧Ae W∧pad (cv U (Cu F (pd F) i)) (cv W (Cu F (pd F) (i+1)))=pone∧∀ x,ab x≤B→ab (ev U x)≤T∧ab (ev W x)≤T:=by
 obtain⟨S,a,b⟩:=h.room;refine SX (fun i T=>∃ U W,Ae U∧Ae W∧pad (cv U (Cu F (pd F) i)) (cv W (Cu F (pd F) (i+1)))=pone∧∀ x,ab x≤B→ab (ev U x)≤T∧ab (ev W x)≤T) (fun i s t p q=>?_) K fun i hi=>?_
 ·obtain⟨U,W,c1,c2,c3,c4⟩:=p
  exact⟨U,W,c1,c2,c3,fun x hx=>⟨Std.le_trans (c4 x hx).1 q,Std.le_trans (c4 x hx).2 q⟩⟩
 ·obtain⟨U,W,c1,c2,c3⟩:=(h.st a b i hi).cop h.c
  obtain⟨M,m0,hM⟩:=FQ c1 hB;obtain⟨N,n0,hN⟩:=FQ c2 hB;exact⟨M+N,U,W,c1,c2,c3,fun x hx=>⟨Eb (hM x hx) n0,Df (hN x hx) m0⟩⟩
theorem DT.recT(h:DT F K){B:Rat}(hB:0≤B):∃ T,1≤T∧∀ i,i < K→i+2 < K→∃ q c,Ae q∧0 < c∧(∀ x,ev (Cu F (pd F) i) x=ev q x*ev (Cu F (pd F) (i+1)) x - c*ev (Cu F (pd F) (i+2)) x)∧(∀ x,ab x≤B→ab (ev q x)≤T)∧1≤T*c:=by
 refine SX (fun i T=>i+2 < K→∃ q c,Ae q∧0 < c∧(∀ x,ev (Cu F (pd F) i) x=ev q x*ev (Cu F (pd F) (i+1)) x - c*ev (Cu F (pd F) (i+2)) x)∧(∀ x,ab x≤B→ab (ev q x)≤T)∧1≤T*c) (fun i s t p q hi=>?_) K fun i hi=>?_
 ·obtain⟨u,c,c1,c2,c3,c4,c5⟩:=p hi
  exact⟨u,c,c1,c2,c3,fun x hx=>Std.le_trans (c4 x hx) q,OX c5 (Std.le_of_lt c2) q⟩
 ·by_cases hi2:i+2 < K
  ·obtain⟨q,c,c1,c2,c3⟩:=h.recr hi2
   obtain⟨M,m0,hM⟩:=FQ c1 hB;obtain⟨hp,e⟩:=Gr c2;refine⟨M+1 / c,fun _=>⟨q,c,c1,c2,c3,fun x hx=>Eb (hM x hx) (Std.le_of_lt hp),?_⟩⟩;have h1:=Rat.mul_nonneg m0 (Std.le_of_lt c2);rw[Rat.add_mul,e];exact Df (Std.le_refl _) h1
  ·exact⟨0,fun q=>absurd q hi2⟩
theorem DT.topT(h:DT F K){B:Rat}(hB:0≤B)(hK1:1 < K):∃ k T4:Rat,0 < k∧1≤T4*k∧∀ x y,ab x≤B→ab y≤B→∃ r,ab r≤T4∧ev (Cu F (pd F) 0) y - ev (Cu F (pd F) 0) x=(y - x)*(k*ev (Cu F (pd F) 1) x+(y - x)*r):=by
 obtain⟨c0,hc0,e0⟩:=NM h.z h.f h.n;obtain⟨R,hR0,hR⟩:=ZB h.f hB;have e00:Cu F (pd F) 0=rd F:=rfl;have e01:Cu F (pd F) 1=rd (pd F):=rfl;have n1:pd F≠pz:=fun q=>h.ne hK1 (by rw[e01,q,Yx]);obtain⟨c1,hc1,e1⟩:=NM (Ee h.z) (BJ h.f) n1;obtain⟨hp1,i1⟩:=Gr hc1;have hk:0 < c0*(1 / c1):=Rat.mul_pos hc0 hp1;obtain⟨hp2,i2⟩:=Gr hk;have hcR:=Rat.mul_nonneg (Std.le_of_lt hc0) hR0;obtain⟨k,hkd⟩:∃ k,k=c0*(1 / c1):=⟨_,rfl⟩
 rw[←hkd]at hk hp2 i2;refine⟨k,1 / k+c0*R,hk,?_,fun x y hx hy=>?_⟩
 ·rw[Rat.add_mul,i2]
  exact Eb (Std.le_refl _) (Rat.mul_nonneg hcR (Std.le_of_lt hk))
 ·obtain⟨r,hr,e⟩:=hR x y hx hy
  refine⟨c0*r,?_,?_⟩
  ·rw[Cc,Dj (Std.le_of_lt hc0)]
   exact Df (Rat.mul_le_mul_of_nonneg_left hr (Std.le_of_lt hc0)) (Std.le_of_lt hp2)
  ·rw[e00,e01,e0,e1,FE _ h.f,FE _ h.f,FE _ (BJ h.f)]
   obtain⟨P,hP⟩:∃ P,P=ev (pd F) x:=⟨_,rfl⟩
   rw[←hP]at e ⊢;have e6:c0*ev F y - c0*ev F x=c0*(ev F y - ev F x):=by rw[Rat.sub_eq_add_neg,Rat.sub_eq_add_neg,Rat.mul_add,Rat.mul_neg]
   rw[e6,e,hkd];clear hR hr e hx hy hcR h hk hp2 i2 e6;have e7:c0*(1 / c1)*(c1*P)=c0*P*(1 / c1*c1):=by grind
   rw[e7,i1];grind
theorem DT.cells(h:DT F K){B:Rat}(hB:0≤B):∃ T,1≤T∧∀ x y,ab x≤B→ab y≤B→x < y→4*(T*(T*(T*(T*(y - x))))) < 1→Jw (K - 1) (fun i=>ev (Cu F (pd F) i) x) (fun i=>ev (Cu F (pd F) i) y) T (y - x):=by
 have hK:=h.k.1;obtain⟨T1,t1,h1⟩:=h.lipT hB;obtain⟨T2,t2,h2⟩:=h.bezT hB;obtain⟨T3,t3,h3⟩:=h.recT hB;obtain⟨k,T4,h4⟩:∃ k T4:Rat,1 < K→0 < k∧1≤T4*k∧∀ x y,ab x≤B→ab y≤B→∃ r,ab r≤T4∧ev (Cu F (pd F) 0) y - ev (Cu F (pd F) 0) x=(y - x)*(k*ev (Cu F (pd F) 1) x+(y - x)*r):=by
  by_cases hK1:1 < K
  ·obtain⟨k,T4,q⟩:=h.topT hB hK1;exact⟨k,T4,fun _=>q⟩
  ·exact⟨0,0,fun q=>absurd q hK1⟩
 obtain⟨l1,l2,l3,l4,l5⟩:=Xz (d:=T4) t1 t2 t3;obtain⟨T,hT⟩:∃ T,T=T1+T2+T3+ab T4:=⟨_,rfl⟩
 rw[←hT]at l1 l2 l3 l4 l5;refine⟨T,l5,fun x y hx hy hxy hsm=>?_⟩;have hlast:=h.last;have hcl:∀ z,ev (Cu F (pd F) (K - 1)) z=Cu F (pd F) (K - 1) 0:=fun z=>by
  unfold ev;rw[hlast,Dk];show _+z*0=_;rw[Rat.mul_zero,Rat.add_zero]
 have hd0:0 < y - x:=by clear hsm h1 h2 h3 h4 hcl;grind
 have hdxy:ab (x - y)=y - x:=by
  clear hsm h1 h2 h3 h4 hcl;unfold ab;rw[if_pos Ag];grind
 have hfin:∀ i,i < K→Ae (Cu F (pd F) i):=fun i hi=>h.fin hi;have hne:=CV (hfin (K - 1) Aa) (h.ne (show K - 1 < K by omega));have hbz:∀ z,ab z≤B→∀ i,i+1 < K→∃ U W,U*ev (Cu F (pd F) i) z+W*ev (Cu F (pd F) (i+1)) z=1∧ab U≤T∧ab W≤T:=fun z hz i hi=>by
  obtain⟨U,W,c1,c2,c3,c4⟩:=h2 i Aa;refine⟨ev U z,ev W z,?_,Std.le_trans (c4 z hz).1 l2,Std.le_trans (c4 z hz).2 l2⟩;rw[←Fp c1 (hfin i Aa),←Fp c2 (hfin (i+1) hi),←IZ (c1.cv (hfin i Aa)) (c2.cv (hfin (i+1) hi)),c3,Nw]
 have hrc:∀ z,ab z≤B→∀ i,i+2 < K→∃ q c,ev (Cu F (pd F) i) z=q*ev (Cu F (pd F) (i+1)) z - c*ev (Cu F (pd F) (i+2)) z∧ab q≤T∧0 < c∧1≤T*c:=fun z hz i hi=>by
  obtain⟨q,c,c1,c2,c3,c4,c5⟩:=h3 i Aa hi;exact⟨ev q z,c,c3 z,Std.le_trans (c4 z hz) l3,c2,OX c5 (Std.le_of_lt c2) l3⟩
 refine⟨l5,hd0,hsm,fun i hi=>?_,fun i hi=>hbz x hx i Aa,fun i hi=>hbz y hy i Aa,fun i hi=>hrc x hx i Aa,fun i hi=>hrc y hy i Aa,⟨by rw[hcl,hcl],?_⟩,fun hm=>?_⟩
 ·have:=h1 i Aa x y hx hy
  rw[hdxy]at this;exact OX this (Std.le_of_lt hd0) l1
 ·show ev (Cu F (pd F) (K - 1)) x≠0
  rw[hcl];unfold ld at hne;rw[hlast]at hne;exact hne
 ·obtain⟨g1,g2,g3⟩:=h4 Aa
  obtain⟨r,hr,e⟩:=g3 x y hx hy;exact⟨k,r,e,g1,OX g2 (Std.le_of_lt g1) l4,Std.le_trans hr l4⟩
theorem QI{T:Rat}(hT:1≤T):∃ δ:Rat,0 < δ∧∀ d,d≤δ→4*(T*(T*(T*(T*d)))) < 1:=by
 have hT0:0 < T:=by grind
 have p2:=Rat.mul_pos hT0 hT0;have p3:=Rat.mul_pos hT0 p2;have p4:=Rat.mul_pos hT0 p3;obtain⟨P,hP⟩:∃ P,P=T*(T*(T*T)):=⟨_,rfl⟩
 rw[←hP]at p4;obtain⟨hδ,hi⟩:=Gr (show 0 < 8*P by grind);refine⟨1 / (8*P),hδ,fun d hd=>?_⟩;have e:T*(T*(T*(T*d)))=P*d:=by rw[hP];grind
 rw[e];have h1:=Rat.mul_le_mul_of_nonneg_left hd (show 0≤P by grind);obtain⟨X,hX⟩:∃ X,X=1 / (8*P):=⟨_,rfl⟩
 rw[←hX]at h1 hi;have h2:X*(8*P)=8*(P*X):=by grind
 rw[h2]at hi;clear h2 hX e hP p2 p3 hδ;grind
theorem DT.local_(h:DT F K){B:Rat}(hB:0≤B):∃ δ:Rat,0 < δ∧∀ x y,ab x≤B→ab y≤B→x < y→y - x≤δ→vx F K x=vx F K y+Gy F x y:=by
 obtain⟨T,hT,hc⟩:=h.cells hB;obtain⟨δ,hδ,hs⟩:=QI hT;refine⟨δ,hδ,fun x y hx hy hxy hd=>?_⟩;have hs:=(hc x y hx hy hxy (hs _ hd)).sturm;have hK:=h.k.1;rw[show K - 1+1=K by omega]at hs;obtain⟨c0,hc0,e0⟩:=NM h.z h.f h.n;have e00:∀ z,ev (Cu F (pd F) 0) z=c0*ev F z:=fun z=>by
  show ev (rd F) z=_;rw[e0,FE _ h.f]
 have e2:(if Bl (ev (Cu F (pd F) 0) x)≠0∧Bl (ev (Cu F (pd F) 0) y)≠Bl (ev (Cu F (pd F) 0) x)then 1 else 0)=Gy F x y:=by
  rw[e00,e00,Fz hc0,Fz hc0];unfold Gy;have hz:Bl (ev F x)≠0↔ev F x≠0:=by rw[Ne,Db]
  by_cases c:ev F x≠0∧Bl (ev F y)≠Bl (ev F x)
  ·rw[if_pos ⟨hz.2 c.1,c.2⟩,if_pos c]
  ·rw[if_neg (fun q=>c ⟨hz.1 q.1,q.2⟩),if_neg c]
 rw[e2]at hs;exact hs
end
theorem bL(q:Rat):∃ n:Nat,0 < n∧q≤(n:Rat):=by
 refine⟨q.num.natAbs+1,Aa,?_⟩;have h1:(0:Rat)≤((q.num.natAbs:Nat):Rat):=by exact_mod_cast Nat.zero_le _
 have h2:(((q.num.natAbs+1:Nat)):Rat)=((q.num.natAbs:Nat):Rat)+1:=by push_cast;rfl
 rw[h2];rcases Std.lt_trichotomy 0 q with a | a | a
 ·have hd:(1:Rat)≤((q.den:Nat):Rat):=by
   have:=q.den_pos;exact_mod_cast this
  have e:q*((q.den:Nat):Rat)=((q.num:Int):Rat):=by
   have h3:=IL q;have hd0:((q.den:Nat):Rat)≠0:=Iy q.den_pos
   conv=>lhs;rw[h3]
   grind
  have h4:q*1≤q*((q.den:Nat):Rat):=Rat.mul_le_mul_of_nonneg_left hd (Std.le_of_lt a);have h5:((q.num:Int):Rat)≤((q.num.natAbs:Nat):Rat):=by
   have h6:q.num≤((q.num.natAbs:Nat):Int):=by omega
   have h7:((q.num:Int):Rat)≤((((q.num.natAbs:Nat):Int)):Rat):=by exact_mod_cast h6
   exact h7
  grind
 ·rw[←a];grind
 ·grind
theorem En{a b z B:Rat}(ha:ab a≤B)(hb:ab b≤B)(h1:a≤z)(h2:z≤b):ab z≤B:=by
 rw[ER]at *;exact⟨Std.le_trans ha.1 h1,Std.le_trans h2 hb.2⟩
noncomputable def TK(F:Nat→Rat)(a s:Rat):Nat→Nat
 | 0=>0
 | n+1=>TK F a s n+Gy F (a+((n:Nat):Rat)*s) (a+((n+1:Nat):Rat)*s)
section
variable{F:Nat→Rat}{K:Nat}
theorem Cx(n:Nat):((n+1:Nat):Rat)=((n:Nat):Rat)+1:=by push_cast;rfl
theorem DJ(n:Nat):(0:Rat)≤((n:Nat):Rat):=by exact_mod_cast Nat.zero_le n
theorem Vj{V:Rat→Nat}{B δ:Rat}(hl:∀ x y,ab x≤B→ab y≤B→x < y→y - x≤δ→V x=V y+Gy F x y){a s:Rat}(hs:0 < s)(hsδ:s≤δ):∀ n,(∀ j,j≤n→ab (a+((j:Nat):Rat)*s)≤B)→V a=V (a+((n:Nat):Rat)*s)+TK F a s n
 | 0,_=>by
  have e:a+((0:Nat):Rat)*s=a:=by show a+0*s=a;rw[Rat.zero_mul,Rat.add_zero]
  rw[e];rfl
 | n+1,hj=>by
  have h1:=Vj hl hs hsδ n fun j h=>hj j Aa;have e:a+((n+1:Nat):Rat)*s=a+((n:Nat):Rat)*s+s:=by rw[Cx];grind
  have h2:=hl (a+((n:Nat):Rat)*s) (a+((n+1:Nat):Rat)*s) (hj n Aa) (hj (n+1) (Nat.le_refl _)) (by rw[e];grind) (by rw[e];grind);rw[h1,h2];show _=_+(TK F a s n+Gy F _ _);omega
theorem cut{a b δ:Rat}(hab:a < b)(hδ:0 < δ):∃ n s,0 < n∧0 < s∧s≤δ∧a+((n:Nat):Rat)*s=b∧∀ j,j≤n→a≤a+((j:Nat):Rat)*s∧a+((j:Nat):Rat)*s≤b:=by
 obtain⟨hi,ei⟩:=Gr hδ;obtain⟨n,hn,hq⟩:=bL ((b - a)*(1 / δ));have hn0:(0:Rat) < ((n:Nat):Rat):=by exact_mod_cast hn
 obtain⟨hm,em⟩:=Gr hn0;have hba:0 < b - a:=by grind
 obtain⟨s,hs⟩:∃ s,s=(b - a)*(1 / ((n:Nat):Rat)):=⟨_,rfl⟩
 have hs0:0 < s:=by rw[hs];exact Rat.mul_pos hba hm
 have ens:((n:Nat):Rat)*s=b - a:=by rw[hs];grind
 refine⟨n,s,hn,hs0,?_,by rw[ens];grind,fun j hj=>?_⟩
 ·-- b - a≤n δ
  have h1:=Rat.mul_le_mul_of_nonneg_right hq (show 0≤δ by grind);have e1:(b - a)*(1 / δ)*δ=b - a:=by grind
  rw[e1,←ens]at h1;rcases Std.lt_trichotomy s δ with c | c | c
  ·exact Std.le_of_lt c
  ·rw[c];exact Std.le_refl _
  ·exfalso
   have:=Rat.mul_lt_mul_of_pos_left c hn0;grind
 ·have h0:=Rat.mul_nonneg (DJ j) (Std.le_of_lt hs0)
  have hjn:((j:Nat):Rat)≤((n:Nat):Rat):=by exact_mod_cast hj
  have h1:=Rat.mul_le_mul_of_nonneg_right hjn (Std.le_of_lt hs0);rw[ens]at h1;refine⟨Ag,Ag⟩
theorem DT.sums(h:DT F K){a b:Rat}(hab:a < b){ε:Rat}(hε:0 < ε):∃ n s,0 < n∧0 < s∧s≤ε∧a+((n:Nat):Rat)*s=b∧(∀ j,j≤n→a≤a+((j:Nat):Rat)*s∧a+((j:Nat):Rat)*s≤b)∧vx F K a=vx F K b+TK F a s n:=by
 have hB:0≤ab a+ab b:=by have:=Ak a;have:=Ak b;grind
 obtain⟨δ,hδ,hl⟩:=h.local_ hB;have hm:∃ μ:Rat,0 < μ∧μ≤δ∧μ≤ε:=by
  rcases Std.lt_trichotomy δ ε with c | c | c
  ·exact⟨δ,hδ,Std.le_refl _,Std.le_of_lt c⟩
  ·exact⟨δ,hδ,Std.le_refl _,by rw[c];exact Std.le_refl _⟩
  ·exact⟨ε,hε,Std.le_of_lt c,Std.le_refl _⟩
 obtain⟨μ,hμ,h1,h2⟩:=hm;obtain⟨n,s,hn,hs,hsμ,e,hj⟩:=cut hab hμ;refine⟨n,s,hn,hs,Std.le_trans hsμ h2,e,hj,?_⟩;have:=Vj hl hs (Std.le_trans hsμ h1) n fun j hjn=>En (Eb (Std.le_refl _) (Ak b)) (Df (Std.le_refl _) (Ak a)) (hj j hjn).1 (hj j hjn).2;rw[e]at this;exact this
theorem DT.mono(h:DT F K){a b:Rat}(hab:a≤b):vx F K b≤vx F K a:=by
 rcases Std.lt_trichotomy a b with c | c | c
 ·obtain⟨n,s,-,-,-,-,-,e⟩:=h.sums c (ε:=1) Ab
  omega
 ·rw[c];exact Nat.le_refl _
 ·exfalso;grind
theorem MP{a s:Rat}:∀ n,(∀ j,j < n→Gy F (a+((j:Nat):Rat)*s) (a+((j+1:Nat):Rat)*s)=0)→TK F a s n=0
 | 0,_=>rfl
 | n+1,hj=>by
  show TK F a s n+Gy F _ _=0;rw[MP n fun j h=>hj j Aa,hj n Aa]
theorem DT.flat(h:DT F K){a b ε:Rat}(hab:a≤b)(hε:0 < ε)(hf:∀ z,a≤z→z≤b→ε≤ab (ev F z)):vx F K a=vx F K b:=by
 rcases Std.lt_trichotomy a b with c | c | c
 ·have hB:0≤ab a+ab b:=by have:=Ak a;have:=Ak b;grind
  obtain⟨L,hL0,hL⟩:=Nn h.f hB;obtain⟨hi,ei⟩:=Gr (show 0 < L+1 by grind);have hμ:0 < ε*(1 / (L+1))*(1 / 2):=Rat.mul_pos (Rat.mul_pos hε hi) Ag;obtain⟨n,s,hn,hs,hsμ,e,hj,hv⟩:=h.sums c hμ;have hLs:L*s < ε:=by
   have h1:=Rat.mul_le_mul_of_nonneg_left hsμ (show 0≤L+1 by grind);have e1:(L+1)*(ε*(1 / (L+1))*(1 / 2))=ε*(1 / 2):=by grind
   rw[e1]at h1;grind
  have hz:=MP (F:=F) (a:=a) (s:=s) n fun j hjn=>by
   unfold Gy;refine if_neg fun q=>?_;obtain⟨x1,x2⟩:=hj j Aa;obtain⟨y1,y2⟩:=hj (j+1) Aa;have bx:=En (Eb (Std.le_refl (ab a)) (Ak b)) (Df (Std.le_refl _) (Ak a)) x1 x2;have by_:=En (Eb (Std.le_refl (ab a)) (Ak b)) (Df (Std.le_refl _) (Ak a)) y1 y2;have hl:=hL _ _ bx by_;have ed:ab (a+((j:Nat):Rat)*s - (a+((j+1:Nat):Rat)*s))=s:=by
    have:a+((j:Nat):Rat)*s - (a+((j+1:Nat):Rat)*s) = - s:=by rw[Cx];grind
    rw[this,Lh,Dj (Std.le_of_lt hs)]
   rw[ed]at hl;have:=(Fq hl (fun t=>q.2 t.1.symm)).1;have h3:=hf _ x1 x2;grind
  rw[hz]at hv;exact hv
 ·rw[c]
 ·exfalso;grind
theorem Zr{f:Nat→Rat}(hf:Ae f)(h0:f≠pz){B z:Rat}(hB:1≤B)(hc:∀ i,i < pl f - 1→ab (f i)≤ab (ld f)*(B - 1))(hz:B≤ab z):ab (ld f)≤ab (ev f z):=by
 have hp:=AR hf h0;have hl:=Ak (ld f);have key:∀ k,k < pl f→ab (ld f)≤ab (hor f z (pl f) (pl f - 1 - k)):=by
  intro k;induction k with
  | zero =>
   intro _;have e:=Mr f z (show pl f - 1 < pl f by omega);rw[show pl f - 1+1=pl f by omega,SG,Rat.zero_mul,Rat.zero_add]at e;rw[Nat.sub_zero,e];exact Std.le_refl _
  | succ k ih =>
   intro hk;have h1:=ih Aa;have e:=Mr f z (show pl f - 1 - (k+1) < pl f by omega);rw[show pl f - 1 - (k+1)+1=pl f - 1 - k by omega]at e;have h2:=hc (pl f - 1 - (k+1)) Aa;have h3:ab (ld f)*ab z≤ab (hor f z (pl f) (pl f - 1 - k)*z):=by rw[Cc];exact Rat.mul_le_mul_of_nonneg_right h1 (Ak _)
   have h4:ab (hor f z (pl f) (pl f - 1 - k)*z)≤ab (hor f z (pl f) (pl f - 1 - (k+1)))+ab (f (pl f - 1 - (k+1))):=by
    have:=X5 (hor f z (pl f) (pl f - 1 - (k+1))) (f (pl f - 1 - (k+1)));have e2:hor f z (pl f) (pl f - 1 - (k+1)) - f (pl f - 1 - (k+1))=hor f z (pl f) (pl f - 1 - k)*z:=by rw[e];grind
    rw[e2]at this;exact this
   have h5:ab (ld f)*B≤ab (ld f)*ab z:=Rat.mul_le_mul_of_nonneg_left hz hl;have h6:ab (ld f)*(B - 1)=ab (ld f)*B - ab (ld f):=by grind
   rw[h6]at h2;clear hc ih e h0 hf;grind
 have:=key (pl f - 1) Aa;rw[show pl f - 1 - (pl f - 1)=0 by omega,Px]at this;exact this
theorem DT.beyond(h:DT F K){f q:Nat→Rat}(hf:Ae f)(h0:f≠pz)(fq:Ae q)(e:f=cv q F){B:Rat}(hB:1≤B)(hc:∀ i,i < pl f - 1→ab (f i)≤ab (ld f)*(B - 1)){a b:Rat}(hab:a≤b)(hout:∀ z,a≤z→z≤b→B≤ab z):vx F K a=vx F K b:=by
 have hBn:0≤ab a+ab b:=by have:=Ak a;have:=Ak b;grind
 obtain⟨M,hM0,hM⟩:=FQ fq hBn;obtain⟨hi,ei⟩:=Gr (show 0 < M+1 by grind);have hl:0 < ab (ld f):=WE.2 (CV hf h0);refine h.flat hab (Rat.mul_pos hl hi) fun z h1 h2=>?_;have hc1:=Zr hf h0 hB hc (hout z h1 h2);have hb:=hM z (En (Eb (Std.le_refl (ab a)) (Ak b)) (Df (Std.le_refl _) (Ak a)) h1 h2);rw[e,Fp fq h.f,Cc,←e]at hc1;have hz:=Ak (ev F z);have h3:ab (ev q z)*ab (ev F z)≤(M+1)*ab (ev F z):=Rat.mul_le_mul_of_nonneg_right Ag hz
 have h4:=Std.le_trans hc1 h3;have h5:=Rat.mul_le_mul_of_nonneg_right h4 (Std.le_of_lt hi);have e2:(M+1)*ab (ev F z)*(1 / (M+1))=ab (ev F z):=by grind
 rw[e2]at h5;exact h5
end
theorem LJ{P:Rat→Rat→Prop}{a b δ:Rat}(hδ:0 < δ)(hab:a < b)(hc:∀ x y,a≤x→x < y→y≤b→y - x≤δ→P x y)
  (ht:∀ x y z,a≤x→x < y→y < z→z≤b→P x y→P y z→P x z):P a b:=by
 obtain⟨n,s,hn,hs,hsδ,e,hj⟩:=cut hab hδ;have key:∀ k,k < n→P a (a+((k+1:Nat):Rat)*s):=by
  intro k;induction k with
  | zero =>
   intro h;have e1:a+((0+1:Nat):Rat)*s=a+s:=by rw[Cx];show a+(0+1)*s=_;grind
   have:=(hj 1 Aa).2;rw[show((1:Nat):Rat)=((0+1:Nat):Rat)from rfl]at this;rw[e1]at this ⊢;exact hc a (a+s) (Std.le_refl _) Ag this Ag
  | succ k ih =>
   intro h;have e1:a+((k+1+1:Nat):Rat)*s=a+((k+1:Nat):Rat)*s+s:=by rw[Cx];grind
   have h1:=hj (k+1) Aa;have h2:=hj (k+1+1) Aa;have h3:a < a+((k+1:Nat):Rat)*s:=by
    have:=Rat.mul_nonneg (DJ k) (Std.le_of_lt hs);rw[Cx];grind
   refine ht a (a+((k+1:Nat):Rat)*s) _ (Std.le_refl _) h3 (by rw[e1];grind) h2.2 (ih Aa) ?_;exact hc _ _ h1.1 (by rw[e1];grind) h2.2 (by rw[e1];grind)
 have:=key (n - 1) Aa;rw[show n - 1+1=n by omega,e]at this;exact this
noncomputable def rt(F:Nat→Rat)(K:Nat)(p q:Rat):Int:=(vx F K p:Int) - (vx F K q:Int)
section
variable{F:Nat→Rat}{K:Nat}
theorem GL(F:Nat→Rat)(K:Nat)(p q r:Rat):rt F K p q+rt F K q r=rt F K p r:=by unfold rt;omega
theorem NR(F:Nat→Rat)(K:Nat)(p:Rat):rt F K p p=0:=by unfold rt;omega
theorem DT.rt_nonneg(h:DT F K){p q:Rat}(hpq:p≤q):0≤rt F K p q:=by have:=h.mono hpq;unfold rt;omega
theorem DT.rt_sub(h:DT F K){p x y q:Rat}(h1:p≤x)(h2:x≤y)(h3:y≤q):rt F K x y≤rt F K p q:=by
 have:=h.rt_nonneg h1;have:=h.rt_nonneg h3;have:=GL F K p x y;have:=GL F K p y q;omega
theorem DT.loc(h:DT F K)(a b:Rat):∃ δ:Rat,0 < δ∧∀ x y,a≤x→x < y→y≤b→y - x≤δ→rt F K x y=Gy F x y:=by
 have hB:0≤ab a+ab b:=by have:=Ak a;have:=Ak b;grind
 obtain⟨δ,hδ,hl⟩:=h.local_ hB;refine⟨δ,hδ,fun x y h1 h2 h3 h4=>?_⟩;have:=hl x y (En (Eb (Std.le_refl (ab a)) (Ak b)) (Df (Std.le_refl _) (Ak a)) h1 Ag)
  (En (Eb (Std.le_refl (ab a)) (Ak b)) (Df (Std.le_refl _) (Ak a)) Ag h3) h2 h4
 unfold rt;omega
theorem GY{q:Rat}(h:Bl q≠0):q≠0:=fun e=>h (Db.2 e)
theorem O0{q:Rat}(h:q≠0):Bl q≠0:=fun e=>h (Db.1 e)
theorem WK{x y:Rat}(h:(Gy F x y:Int)=0)(hx:ev F x≠0):Bl (ev F y)=Bl (ev F x):=by
 unfold Gy at h
 split at h
 ·omega
 ·rename_i c
  exact Classical.byContradiction fun e=>c ⟨hx,e⟩
theorem XF{x y:Rat}(hx:ev F x≠0)(h:Bl (ev F y)≠Bl (ev F x)):(Gy F x y:Int)=1:=by
 unfold Gy;rw[if_pos ⟨hx,h⟩];rfl
theorem YV(F:Nat→Rat)(x y:Rat):0≤(Gy F x y:Int)∧(Gy F x y:Int)≤1:=by
 unfold Gy;split<;>simp
theorem DT.sg_const(h:DT F K){p q:Rat}(hpq:p≤q)(h0:rt F K p q=0)(hp:ev F p≠0):Bl (ev F q)=Bl (ev F p):=by
 rcases Std.lt_trichotomy p q with c | c | c
 ·obtain⟨δ,hδ,hl⟩:=h.loc p q
  refine LJ (P:=fun x y=>rt F K x y=0→ev F x≠0→Bl (ev F y)=Bl (ev F x)) hδ c (fun x y a b c d e f=>?_) (fun x y z a b c d e f g k=>?_) h0 hp
  ·rw[hl x y a b c d]at e
   exact WK e f
  ·have h1:=h.rt_nonneg (Std.le_of_lt b)
   have h2:=h.rt_nonneg (Std.le_of_lt c);have h3:=GL F K x y z;have e1:=e Aa k;have e2:=f Aa (GY (by rw[e1];exact O0 k));rw[e2,e1]
 ·rw[c]
 ·exfalso;grind
theorem Mw(hf:Ae F)(h0:F≠pz){p z δ:Rat}(hp:p < z)(hδ:0 < δ):∃ x,p < x∧x < z∧z - x≤δ∧ev F x≠0:=by
 obtain⟨μ,hμ,m1,m2⟩:∃ μ:Rat,0 < μ∧μ≤δ∧μ < z - p:=by
  rcases Std.lt_trichotomy δ (z - p)with c | c | c
  ·exact⟨δ,hδ,Std.le_refl _,c⟩
  ·exact⟨δ / 2,Ag,Ag,Ag⟩
  ·exact⟨(z - p) / 2,Ag,Ag,Ag⟩
 refine Classical.byContradiction fun hn=>?_;have hz:∀ x,z - μ≤x→x < z→ev F x=0:=fun x a b=>Classical.byContradiction fun e=>hn ⟨x,Ag,b,Ag,e⟩;have hpl:=AR hf h0;obtain⟨n,hn'⟩:∃ n,n=pl F:=⟨_,rfl⟩
 have hn0:(0:Rat) < ((n:Nat):Rat):=by rw[hn'];exact_mod_cast hpl
 obtain⟨hi,ei⟩:=Gr hn0;obtain⟨s,hs⟩:∃ s,s=μ*(1 / ((n:Nat):Rat)):=⟨_,rfl⟩
 have hs0:0 < s:=by rw[hs];exact Rat.mul_pos hμ hi
 have ens:((n:Nat):Rat)*s=μ:=by rw[hs];grind
 have hlist:((List.range n).map fun j:Nat=>z - μ+((j:Nat):Rat)*s).Nodup:=by
  rw[List.nodup_iff_pairwise_ne,List.pairwise_map];refine List.Pairwise.imp ?_ List.pairwise_lt_range;intro i j hij e;have hij':((i:Nat):Rat)+1≤((j:Nat):Rat):=by rw[←Cx];exact_mod_cast hij
  have:=Rat.mul_le_mul_of_nonneg_right hij' (Std.le_of_lt hs0);grind
 refine h0 (Gd (l:=(List.range n).map fun j:Nat=>z - μ+((j:Nat):Rat)*s) (by rw[List.length_map,List.length_range,hn'];exact AC hf) hlist ?_);intro x hx;obtain⟨j,hj,rfl⟩:=List.mem_map.1 hx;have hj:=List.mem_range.1 hj;have h1:=Rat.mul_nonneg (DJ j) (Std.le_of_lt hs0);have hij':((j:Nat):Rat)+1≤((n:Nat):Rat):=by rw[←Cx];exact_mod_cast hj
 have:=Rat.mul_le_mul_of_nonneg_right hij' (Std.le_of_lt hs0);exact hz _ Ag Ag
theorem DT.zero_counts(h:DT F K){p z q:Rat}(h1:p < z)(h2:z≤q)(hz:ev F z=0):1≤rt F K p q:=by
 obtain⟨δ,hδ,hl⟩:=h.loc p z;obtain⟨x,a,b,c,d⟩:=Mw h.f h.n h1 hδ;have e1:=hl x z (Std.le_of_lt a) b (Std.le_refl _) c;rw[XF d (by rw[hz,Db.2 rfl];exact fun e=>O0 d e.symm)]at e1;have:=h.rt_sub (Std.le_of_lt a) (Std.le_of_lt b) h2;omega
theorem DT.change_counts(h:DT F K){p q:Rat}(hpq:p≤q)(hp:ev F p≠0)(hc:Bl (ev F q)≠Bl (ev F p)):1≤rt F K p q:=by
 have h1:=h.rt_nonneg hpq;rcases Int.lt_or_le 0 (rt F K p q)with a | a
 ·exact a
 ·exact absurd (h.sg_const hpq Aa hp) hc
theorem DT.free(h:DT F K){p q x y:Rat}(h0:rt F K p q=0)(h1:p < x)(h2:x≤y)(h3:y≤q):ev F x≠0∧Bl (ev F y)=Bl (ev F x):=by
 have hx:ev F x≠0:=fun e=>by
  have:=h.zero_counts h1 (Std.le_trans h2 h3) e;omega
 have:=h.rt_sub (Std.le_of_lt h1) h2 h3;have:=h.rt_nonneg h2;exact⟨hx,h.sg_const h2 Aa hx⟩
end
theorem KR(p q:Rat):Bl (p*q)=Bl p*Bl q:=by
 rcases Std.lt_trichotomy p 0 with a | a | a
 ·rcases Std.lt_trichotomy q 0 with b | b | b
  ·have:=Pq a b
   unfold Bl;rw[if_pos this,if_neg Ag,if_pos a,if_neg Ag,if_pos b];rfl
  ·rw[b,Rat.mul_zero,show Bl 0=0 from Db.2 rfl];simp
  ·have:=IX b a
   rw[Rat.mul_comm]at this;unfold Bl;rw[if_neg Ag,if_pos this,if_neg Ag,if_pos a,if_pos b];rfl
 ·rw[a,Rat.zero_mul,show Bl 0=0 from Db.2 rfl];simp
 ·rw[Fz a]
  unfold Bl;rw[if_pos a];simp
theorem CX.cell{A B:Nat→Rat}(fA:Ae A)(fB:Ae B)(c:CX A B)(a b:Rat):∃ δ:Rat,0 < δ∧∀ x y,a≤x→x < y→y≤b→y - x≤δ →
  (Bl (ev A y)=Bl (ev A x)∧ev A x≠0)∨(Bl (ev B y)=Bl (ev B x)∧ev B x≠0):=by
 obtain⟨U,W,fU,fW,e⟩:=c;have hB:0≤ab a+ab b:=by have:=Ak a;have:=Ak b;grind
 obtain⟨M,hM0,hM⟩:=FQ fU hB;obtain⟨N,hN0,hN⟩:=FQ fW hB;obtain⟨L,hL0,hL⟩:=Nn fA hB;obtain⟨R,hR0,hR⟩:=Nn fB hB;obtain⟨T,hT⟩:∃ T,T=M*L+N*R+1:=⟨_,rfl⟩
 have hML:=Rat.mul_nonneg hM0 hL0;have hNR:=Rat.mul_nonneg hN0 hR0;obtain⟨hi,ei⟩:=Gr (show 0 < T by grind);refine⟨1 / T*(1 / 2),Ag,fun x y h1 h2 h3 h4=>?_⟩;have bx:=En (Eb (Std.le_refl (ab a)) (Ak b)) (Df (Std.le_refl _) (Ak a)) h1 (show x≤b by grind);have by_:=En (Eb (Std.le_refl (ab a)) (Ak b)) (Df (Std.le_refl _) (Ak a)) (show a≤y by grind) h3;have eab:ab (x - y)=y - x:=by rw[show x - y = -(y - x) by grind,Lh,Dj Ag]
 have l1:=hL x y bx by_;have l2:=hR x y bx by_;rw[eab]at l1 l2;by_cases c1:Bl (ev A x)=Bl (ev A y)∧Bl (ev A x)≠0
 ·exact .inl ⟨c1.1.symm,GY c1.2⟩
 by_cases c2:Bl (ev B x)=Bl (ev B y)∧Bl (ev B x)≠0
 ·exact .inr ⟨c2.1.symm,GY c2.2⟩
 exfalso;have s1:=(Fq l1 c1).1;have s2:=(Fq l2 c2).1;have e1:ev U x*ev A x+ev W x*ev B x=1:=by
  rw[←Fp fU fA,←Fp fW fB,←IZ (fU.cv fA) (fW.cv fB),e];have:ev pone x=CE 1 pone x:=Es DY x;rw[this];show pone 0+x*0=1;show(1:Rat)+x*0=1;grind
 have h5:ab (ev U x*ev A x)≤M*(L*(y - x)):=by rw[Cc];exact Em (hM x bx) s1 (Ak _) hM0
 have h6:ab (ev W x*ev B x)≤N*(R*(y - x)):=by rw[Cc];exact Em (hN x bx) s2 (Ak _) hN0
 have h7:=EX (ev U x*ev A x) (ev W x*ev B x);rw[e1,show ab 1=1 from by decide]at h7;have h8:=Rat.mul_le_mul_of_nonneg_left h4 (show 0≤T by grind);have e8:T*(1 / T*(1 / 2))=1 / 2:=by grind
 rw[e8]at h8;have e9:M*(L*(y - x))+N*(R*(y - x))=T*(y - x) - (y - x):=by rw[hT];grind
 grind
theorem DT.rt_mul{A B:Nat→Rat}{K L M:Nat}(hA:DT A K)(hB:DT B L)(hC:DT (cv A B) M)(c:CX A B){p q:Rat}(hpq:p≤q):rt (cv A B) M p q=rt A K p q+rt B L p q:=by
 rcases Std.lt_trichotomy p q with hlt | heq | hgt
 ·obtain⟨d1,g1,l1⟩:=hA.loc p q
  obtain⟨d2,g2,l2⟩:=hB.loc p q;obtain⟨d3,g3,l3⟩:=hC.loc p q;obtain⟨d4,g4,l4⟩:=c.cell hA.f hB.f p q;obtain⟨d,hd,q1,q2,q3,q4⟩:∃ d:Rat,0 < d∧d≤d1∧d≤d2∧d≤d3∧d≤d4:=by
   have two:∀ u v:Rat,0 < u→0 < v→∃ w,0 < w∧w≤u∧w≤v:=fun u v hu hv=>by
    rcases Std.lt_trichotomy u v with c | c | c
    ·exact⟨u,hu,Std.le_refl _,Std.le_of_lt c⟩
    ·exact⟨u,hu,Std.le_refl _,Ag⟩
    ·exact⟨v,hv,Std.le_of_lt c,Std.le_refl _⟩
   obtain⟨u,hu,u1,u2⟩:=two d1 d2 g1 g2;obtain⟨v,hv,v1,v2⟩:=two d3 d4 g3 g4;obtain⟨w,hw,w1,w2⟩:=two u v hu hv;exact⟨w,hw,Ag,Ag,Ag,Ag⟩
  refine LJ (P:=fun x y=>rt (cv A B) M x y=rt A K x y+rt B L x y) hd hlt (fun x y a1 a2 a3 a4=>?_) (fun x y z a1 a2 a3 a4 e f=>?_)
  ·rw[l1 x y a1 a2 a3 Ag,l2 x y a1 a2 a3 Ag,l3 x y a1 a2 a3 Ag]
   have e1:=Fp hA.f hB.f x;have e2:=Fp hA.f hB.f y;rcases l4 x y a1 a2 a3 Ag with⟨s,n⟩ | ⟨s,n⟩
   ·have j1:Gy A x y=0:=by unfold Gy;exact if_neg fun q=>q.2 s
    have j2:Gy (cv A B) x y=Gy B x y:=by
     unfold Gy;rw[e1,e2,KR,KR,s];have hs:=O0 n;have:(ev A x*ev B x≠0∧Bl (ev A x)*Bl (ev B y)≠Bl (ev A x)*Bl (ev B x))↔(ev B x≠0∧Bl (ev B y)≠Bl (ev B x)):=by
      refine and_congr ⟨fun h e=>h (by rw[e,Rat.mul_zero]),fun h e=>?_⟩ ⟨fun h e=>h (by rw[e]),fun h e=>h (Int.eq_of_mul_eq_mul_left hs e)⟩;rcases Rat.mul_eq_zero.1 e with k | k
      ·exact n k
      ·exact h k
     simp only[this]
    omega
   ·have j1:Gy B x y=0:=by unfold Gy;exact if_neg fun q=>q.2 s
    have j2:Gy (cv A B) x y=Gy A x y:=by
     unfold Gy;rw[e1,e2,KR,KR,s];have hs:=O0 n;have:(ev A x*ev B x≠0∧Bl (ev A y)*Bl (ev B x)≠Bl (ev A x)*Bl (ev B x))↔(ev A x≠0∧Bl (ev A y)≠Bl (ev A x)):=by
      refine and_congr ⟨fun h e=>h (by rw[e,Rat.zero_mul]),fun h e=>?_⟩ ⟨fun h e=>h (by rw[e]),fun h e=>h (Int.eq_of_mul_eq_mul_right hs e)⟩;rcases Rat.mul_eq_zero.1 e with k | k
      ·exact h k
      ·exact n k
     simp only[this]
    omega
  ·have h1:=GL (cv A B) M x y z;have h2:=GL A K x y z;have h3:=GL B L x y z
   omega
 ·rw[heq,NR,NR,NR];rfl
 ·exfalso;grind
def Iu(B:Rat)(F:Nat→Rat):Prop:=∀ i,ab (F i)≤B
theorem CP{a b c:Rat}(h:a≤b)(hc:0≤c):a*c≤b*c:=Rat.mul_le_mul_of_nonneg_right h hc
theorem Cr{a b c:Rat}(h:a≤b)(hc:0≤c):c*a≤c*b:=Rat.mul_le_mul_of_nonneg_left h hc
theorem Iu.lin{F:Nat→Rat}{B R a:Rat}(h:Iu B F)(ha:ab a≤R):Iu (B*(1+R)) (cv F (Hp.lin a)):=by
 intro i;have hB:0≤B:=by have:=h 0;have:=Ak (F 0);grind
 have e:cv F (Hp.lin a)=pad (psc (-a) F) (cs 0 F):=by rw[Bc];unfold Hp.lin;rw[Jo,CL]
 have e2:cv F (Hp.lin a) i = -a*F i+cs 0 F i:=by rw[e];rfl
 have h1:ab (cs 0 F i)≤B:=by
  cases i with
  | zero=>show ab 0≤B;rw[show ab 0=0 from by decide];exact hB
  | succ i=>exact h i
 rw[e2];have h2:=EX (-a*F i) (cs 0 F i);have h3:ab (-a*F i)=ab a*ab (F i):=by rw[Cc,Lh]
 have h4:ab a*ab (F i)≤R*B:=by
  have:=CP ha (Ak (F i));have h0:0≤R:=by have:=Ak a;grind
  have:=Cr (h i) h0;grind
 grind
theorem Zb:ab 1=1:=by decide
theorem Da:ab 0=0:=by decide
theorem Iu.lgp{X:Nat→Rat}{R:Rat}(i:Nat)(h0:0≤R):∀ n,(∀ k,k < n→ab (X k)≤R)→Iu ((1+R)^n) (lgp X i n)
 | 0,_=>fun j=>by
  rw[Rat.pow_zero];show ab (pone j)≤1;unfold pone;cases j with
  | zero=>show ab 1≤1;rw[Zb];grind
  | succ j=>show ab 0≤1;rw[Da];grind
 | n+1,h=>by
  have ih:=Iu.lgp i h0 n fun k hk=>h k Aa;rw[F9,Rat.pow_succ]
  split
  ·intro j
   have h1:=ih j;have h2:0≤(1+R)^n:=by have:=ih 0;have:=Ak (Hp.lgp X i n 0);grind
   have h3:(1+R)^n*0≤(1+R)^n*R:=Cr h0 h2;grind
  ·exact ih.lin (h n Aa)
theorem Ta{a b:Rat}(h0:0≤a)(h:a≤b):∀ n:Nat,0≤a^n∧a^n≤b^n
 | 0=>by rw[Rat.pow_zero,Rat.pow_zero];exact⟨Ab,Ag⟩
 | n+1=>by
  have ih:=Ta h0 h n;rw[Rat.pow_succ,Rat.pow_succ];have h1:=CP ih.2 h0;have h2:0≤b^n:=by grind
  have h3:=Cr h h2;have h4:=CP ih.1 h0;exact⟨Ag,Ag⟩
theorem Iu.psc{F:Nat→Rat}{B:Rat}(h:Iu B F){a A:Rat}(ha:ab a≤A):Iu (A*B) (psc a F):=fun i=>by
 show ab (a*F i)≤_;rw[Cc];have h1:=CP ha (Ak (F i));have h0:0≤A:=by have:=Ak a;grind
 have h2:=Cr (h i) h0;grind
theorem Iu.pad{F G:Nat→Rat}{A B:Rat}(h:Iu A F)(k:Iu B G):Iu (A+B) (pad F G):=fun i=>by
 show ab (F i+G i)≤_;have:=EX (F i) (G i);have:=h i;have:=k i;grind
theorem Np{F:Nat→Rat}{B R x:Rat}(h:Iu B F)(h0:0≤R)(hx:ab x≤R):∀ n,ab (CE n F x)≤B*(n:Rat)*(1+R)^n
 | 0=>by
  have hB:0≤B:=by have:=h 0;have:=Ak (F 0);grind
  show ab 0≤_;rw[Da,Rat.pow_zero];show(0:Rat)≤B*0*1;grind
 | n+1=>by
  have hB:0≤B:=by have:=h 0;have:=Ak (F 0);grind
  have ih:=Np (F:=tl F) (fun i=>h (i+1)) h0 hx n;rw[Dk,Rat.pow_succ];have h1:=EX (F 0) (x*CE n (tl F) x);have h2:=h 0;have h3:ab (x*CE n (tl F) x)=ab x*ab (CE n (tl F) x):=Cc _ _;have h4:=CP hx (Ak (CE n (tl F) x));have h5:=Cr ih h0;have hp:=Ta (a:=1) (b:=1+R) Ab Ag n;have hp2:(1:Rat)^n=1:=by
   clear ih h1 h2 h3 h4 h5 hp;induction n with
   | zero=>rfl
   | succ n ih=>rw[Rat.pow_succ,ih];grind
  rw[hp2]at hp;have hn0:(0:Rat)≤(n:Rat):=by exact_mod_cast Nat.zero_le n
  obtain⟨P,hP⟩:∃ P,P=(1+R)^n:=⟨_,rfl⟩
  rw[←hP]at h5 hp ⊢;have hc:(((n+1:Nat):Rat))=(n:Rat)+1:=by push_cast;rfl
  rw[hc];have hBn:0≤B*(n:Rat):=by have:=Cr hn0 hB;grind
  have q1:R*(B*(n:Rat)*P)≤B*(n:Rat)*P*(1+R):=by
   have:0≤B*(n:Rat)*P:=by have:=Cr (show(0:Rat)≤P by grind) hBn;grind
   grind
  have q2:B*1≤B*(P*(1+R)):=Cr (by
   have:=CP hp.2 (show 0≤1+R by grind);grind) hB
  grind
theorem IQ(x:Int):ab (x:Rat)=((x.natAbs:Nat):Rat):=by
 unfold ab
 split
 ·rename_i h
  have:x < 0:=by exact_mod_cast h
  have e:((x.natAbs:Nat):Int) = -x:=by omega
  rw[show((x.natAbs:Nat):Rat)=(((x.natAbs:Nat):Int):Rat)from rfl,e];simp
 ·rename_i h
  have:0≤x:=Int.not_lt.1 fun h'=>h (by exact_mod_cast h');have e:((x.natAbs:Nat):Int)=x:=by omega
  rw[show((x.natAbs:Nat):Rat)=(((x.natAbs:Nat):Int):Rat)from rfl,e]
theorem Tq{y z Y:Rat}(hy:ab y≤Y)(hz:1≤ab z):ab (y / z)≤Y:=by
 have hne:z≠0:=fun e=>by rw[e,Da]at hz;exact absurd hz Ab
 have h1:ab (y / z)*ab z=ab y:=by rw[←Cc,show y / z*z=y by grind]
 have h2:=Cr hz (Ak (y / z));grind
theorem ZI.lgp{X:Nat→Rat}(i:Nat):∀ n,(∀ k,k < n→∃ m:Int,X k=(m:Rat))→ZI (lgp X i n)
 | 0,_=>fun j=>by cases j with | zero=>exact⟨1,rfl⟩ | succ j=>exact⟨0,rfl⟩
 | n+1,h=>by
  have ih:=ZI.lgp i n fun k hk=>h k Aa;rw[F9]
  split
  ·exact ih
  ·obtain⟨m,hm⟩:=h n Aa
   have e:Hp.cv (Hp.lgp X i n) (lin (X n))=Hp.pad (Hp.psc (-X n) (Hp.lgp X i n)) (cs 0 (Hp.lgp X i n)):=by rw[Bc];unfold lin;rw[Jo,CL]
   intro j;rw[e];obtain⟨a,ha⟩:=ih j;obtain⟨b,hb⟩:∃ b:Int,cs 0 (Hp.lgp X i n) j=(b:Rat):=by
    cases j with
    | zero=>exact⟨0,rfl⟩
    | succ j=>exact ih j
   refine⟨-m*a+b,?_⟩;show -X n*Hp.lgp X i n j+cs 0 (Hp.lgp X i n) j=_;rw[ha,hb,hm]
   push_cast
   rfl
theorem Yh{F D:Nat→Rat}{n:Nat}{B:Rat}(zF:ZI F)(fF:Ae F)(h0:F≠pz)(zD:ZI D)(fD:Ae D)(hd:Il F D)(hn:pl F≤n)(hB:Iu B F) :
  Iu ((n:Rat)*(B*(n:Rat)*(1+2*(n:Rat))^n*(1+2*(n:Rat))^n)) D:=by
 obtain⟨X,hA,hX⟩:=MZ fF h0 hn;obtain⟨Q,zQ,fQ,e⟩:=hd;obtain⟨R,hR⟩:∃ R:Rat,R=2*(n:Rat):=⟨_,rfl⟩
 have hR0:0≤R:=by
  have:(0:Rat)≤(n:Rat):=by exact_mod_cast Nat.zero_le n
  grind
 rw[←hR];have hXi:∀ k,k < n→∃ m:Int,X k=(m:Rat):=fun k hk=>by obtain⟨-,m,-,h2⟩:=hX k hk;exact⟨m,h2⟩
 have hXR:∀ k,k < n→ab (X k)≤R:=fun k hk=>by
  obtain⟨-,m,h1,h2⟩:=hX k hk;rw[h2,IQ,hR];have:((((m:Nat):Int).natAbs:Nat):Rat)=((m:Nat):Rat):=by simp
  rw[this];have h3:((m:Nat):Rat)≤((2*n:Nat):Rat):=by exact_mod_cast Nat.le_of_lt h1
  have h4:((2*n:Nat):Rat)=2*(n:Rat):=by push_cast;rfl
  grind
 obtain⟨YY,hYY⟩:∃ YY,YY=B*(n:Rat)*(1+R)^n:=⟨_,rfl⟩
 rw[←hYY];have hY:∀ k,k < n→ab (ev D (X k))≤YY:=fun k hk=>by
  obtain⟨h3,m,-,h4⟩:=hX k hk;have h1:=Np hB hR0 (hXR k hk) n;rw[←Es ((AC fF).mono hn),←hYY]at h1;have h5:ev F (X k)=ev Q (X k)*ev D (X k):=by rw[e,Fp fQ fD]
  rw[h4]at h1 h3 h5 ⊢;obtain⟨a,ha⟩:=M6 zF (m:Int);obtain⟨b,hb⟩:=M6 zQ (m:Int);obtain⟨c,hc⟩:=M6 zD (m:Int);rw[ha]at h1 h3;rw[ha,hb,hc]at h5;rw[hc];have h6:a=b*c:=by exact_mod_cast h5
  have h7:a≠0:=fun e=>h3 (by rw[e];rfl);have h8:c.natAbs≤a.natAbs:=Nat.le_of_dvd Aa (Int.natAbs_dvd_natAbs.2 ⟨b,by rw[h6,Int.mul_comm]⟩);rw[IQ]at h1 ⊢;have:((c.natAbs:Nat):Rat)≤((a.natAbs:Nat):Rat):=by exact_mod_cast h8
  grind
 have hDn:D≠pz:=fun e2=>h0 (by rw[e,e2,Ku]);have hDl:pl D≤pl F:=Dv.le fD fF h0 ⟨Q,fQ,e⟩;obtain⟨Y,hYe⟩:∃ Y,Y=fun k=>ev D (X k):=⟨_,rfl⟩
 have hD:D=XT X Y n n:=JH hA ((AC fD).mono Aa) (NL X Y n n (Nat.le_refl _)) fun k hk=>by
  rw[WI hA hk n (Nat.le_refl _),if_pos hk,hYe]
 have hc:∀ j,j < n→Iu (YY*(1+R)^n) (ZN X Y n j):=fun j hj=>by
  refine(Iu.lgp (R:=R) j hR0 n hXR).psc (Tq (by rw[hYe];exact hY j hj) ?_);have h1:=UW X (i:=j) (n:=n) (x:=X j) fun k hk hne=>hA.ne hj hk hne;obtain⟨m,hm⟩:=hXi j hj;rw[hm]at h1 ⊢;obtain⟨y,hy⟩:=M6 (ZI.lgp j n hXi) m;rw[hy]at h1 ⊢;rw[IQ];have:y≠0:=fun e=>h1 (by rw[e];rfl);have h2:1≤y.natAbs:=by omega
  exact_mod_cast h2
 have hl:∀ m,m≤n→Iu ((m:Rat)*(YY*(1+R)^n)) (XT X Y n m):=by
  intro m;induction m with
  | zero =>
   intro _ i;show ab 0≤(0:Rat)*_;rw[Da];grind
  | succ m ih =>
   intro h i;have h1:=((ih Aa).pad (hc m h)) i;have hc:(((m+1:Nat):Rat))=(m:Rat)+1:=by push_cast;rfl
   rw[hc];show ab (Hp.pad (XT X Y n m) (ZN X Y n m) i)≤_;grind
 rw[hD];exact hl n (Nat.le_refl _)
noncomputable def Gx(F:Nat→Rat):Nat→Rat
 | 0=>0
 | k+1=>if Gx F k < ab (F k / ld F)then ab (F k / ld F)else Gx F k
theorem IV(F:Nat→Rat):∀ k,0≤Gx F k
 | 0=>by show(0:Rat)≤0;decide
 | k+1=>by
  rw[Gx]
  split
  ·exact Ak _
  ·exact IV F k
theorem Ll(q:Rat):qsz (ab q)=qsz q:=by
 unfold ab
 split
 ·exact Io q
 ·rfl
theorem KT{F:Nat→Rat}{s:Nat}(h:∀ i,qsz (F i)≤s)(hs:1≤s):∀ k,qsz (Gx F k)≤2*s
 | 0=>by show qsz 0≤_;rw[JF];omega
 | k+1=>by
  rw[Gx]
  split
  ·rw[Ll]
   have h1:=I9 (F k) (ld F);have h2:=h k;have h3:qsz (ld F)≤s:=h _;omega
  ·exact KT h hs k
def P2(r:Rat)(j:Nat):Prop:=r < 2^j∧∀ i,i < j→(2:Rat)^i≤r
theorem P2.uniq{r:Rat}{i j:Nat}(h:P2 r i)(k:P2 r j):i=j:=by
 rcases Nat.lt_trichotomy i j with a | a | a
 ·have:=k.2 i a;have:=h.1;grind
 ·exact a
 ·have:=h.2 j a;have:=k.1;grind
theorem Bh(n:Nat):((2:Rat)^n)=((2^n:Nat):Rat):=by
 induction n with
 | zero=>rfl
 | succ n ih=>rw[Rat.pow_succ,ih,Nat.pow_succ];push_cast;rfl
theorem P2.ex{r:Rat}{N:Nat}(h:r≤(N:Rat)):∃ j,P2 r j∧j≤N:=by
 have hN:r < 2^N:=by
  have h1:N < 2^N:=Nat.lt_two_pow_self;have h2:(N:Rat) < ((2^N:Nat):Rat):=by exact_mod_cast h1
  rw[Bh];grind
 have key:∀ n,r < 2^n→∃ j,P2 r j∧j≤n:=by
  intro n;induction n with
  | zero=>intro h;exact⟨0,⟨h,fun i hi=>Aa⟩,Nat.le_refl _⟩
  | succ n ih =>
   intro hn;by_cases h1:r < 2^n
   ·obtain⟨j,a,b⟩:=ih h1
    exact⟨j,a,Aa⟩
   ·refine⟨n+1,⟨hn,fun i hi=>?_⟩,Nat.le_refl _⟩
    have h3:(2:Nat)^i≤2^n:=Nat.pow_le_pow_right Ab Aa;have h4:((2^i:Nat):Rat)≤((2^n:Nat):Rat):=by exact_mod_cast h3
    rw[←Bh,←Bh]at h4;grind
 exact key N hN
theorem L6{m n:Nat}(h:m≤n):((m:Nat):Rat)≤((n:Nat):Rat):=by exact_mod_cast h
theorem BX(n:Nat):(0:Rat) < 2^n:=by rw[Bh];exact_mod_cast Nat.two_pow_pos n
theorem LC(n:Nat):(1:Rat)≤2^n:=by rw[Bh];exact_mod_cast Nat.one_le_two_pow
theorem JR{m n:Nat}(h:m≤n):(2:Rat)^m≤2^n:=by rw[Bh,Bh];exact_mod_cast Nat.pow_le_pow_right Ab h
theorem CW(m n:Nat):(2:Rat)^(m+n)=2^m*2^n:=by rw[Bh,Bh,Bh,Nat.pow_add];push_cast;rfl
theorem Ni(n:Nat):((n:Nat):Rat)≤2^n:=by rw[Bh];exact_mod_cast Nat.le_of_lt Nat.lt_two_pow_self
theorem QC{a b c d:Rat}(h1:a≤b)(h2:c≤d)(hc:0≤c)(hb:0≤b):a*c≤b*d:=Em h1 h2 hc hb
theorem LK{q:Rat}{s:Nat}(h:qsz q≤s):ab q≤2^(32*s)∧(q≠0→1≤ab q*2^(32*s)):=by
 have hn:q.num.natAbs≤2^(32*s):=by
  have:=Eg.1 (Nat.le_trans (RI q) h);rw[DC]at this;omega
 have hd:q.den≤2^(32*s):=by
  have:=Eg.1 (Nat.le_trans (Nr q) h);rw[DC,Int.natAbs_natCast]at this;omega
 have hd0:(0:Rat) < ((q.den:Nat):Rat):=by exact_mod_cast q.den_pos
 have hd1:(1:Rat)≤((q.den:Nat):Rat):=by exact_mod_cast q.den_pos
 have e:q*((q.den:Nat):Rat)=(q.num:Rat):=by
  have:=IL q;have h0:((q.den:Nat):Rat)≠0:=by grind
  grind
 have e2:ab q*((q.den:Nat):Rat)=((q.num.natAbs:Nat):Rat):=by
  rw[←IQ,←e,Cc,Dj (Std.le_of_lt hd0)]
 have hq:=Ak q;rw[Bh];constructor
 ·have h1:((q.num.natAbs:Nat):Rat)≤((2^(32*s):Nat):Rat):=L6 hn
  have h2:=QC (Std.le_refl (ab q)) hd1 Ab hq;grind
 ·intro hq0
  have h1:(1:Rat)≤((q.num.natAbs:Nat):Rat):=by
   have:1≤q.num.natAbs:=by
    have:q.num≠0:=fun e=>hq0 (Rat.num_eq_zero.1 e);omega
   exact_mod_cast this
  have h2:=QC (Std.le_refl (ab q)) (L6 hd) (Std.le_of_lt hd0) hq;grind
theorem ZJ{F:Nat→Rat}(z:ZI F){i:Nat}(h:F i≠0):1≤ab (F i):=by
 obtain⟨m,hm⟩:=z i;rw[hm,IQ];have:m≠0:=fun e=>h (by rw[hm,e];rfl);have:1≤m.natAbs:=by omega
 exact_mod_cast this
theorem Xv{F:Nat→Rat}(h:F≠pz):∃ i,F i≠0:=Classical.byContradiction fun e=>h (funext fun i=>Classical.byContradiction fun k=>e ⟨i,k⟩)
theorem JV(m:Nat):∀ n:Nat,((m:Nat):Rat)^n=((m^n:Nat):Rat)
 | 0=>rfl
 | n+1=>by rw[Rat.pow_succ,JV m n,Nat.pow_succ];push_cast;rfl
theorem QU{F:Nat→Rat}{a b n:Nat}(h:Iu (2^a) F){x:Rat}(hx:ab x≤2^b - 1):ab (CE n F x)≤2^(a+n+b*n):=by
 have h1:=Np h (show(0:Rat)≤2^b - 1 by have:=LC b;grind) hx n;have e:(1:Rat)+(2^b - 1)=2^b:=by grind
 have e2:((2:Rat)^b)^n=2^(b*n):=by
  rw[Bh,Bh,Nat.pow_mul];exact JV (2^b) n
 rw[e,e2]at h1;rw[CW,CW];have h2:=QC (QC (Std.le_refl ((2:Rat)^a)) (Ni n) (DJ n) (Std.le_of_lt (BX a))) (Std.le_refl ((2:Rat)^(b*n))) (Std.le_of_lt (BX _)) (Rat.mul_nonneg (Std.le_of_lt (BX a)) (Std.le_of_lt (BX n)));exact Std.le_trans h1 h2
theorem Iu.tl{F:Nat→Rat}{B:Rat}(h:Iu B F):Iu B (Hp.tl F):=fun i=>h (i+1)
theorem Qg{a b:Nat}{x y:Rat}(hx:ab x≤2^b - 1)(hy:ab y≤2^b - 1):∀(n:Nat) (F:Nat→Rat),Iu (2^a) F→ab (CE n F x - CE n F y)≤2^(a+2*n+b*n)*ab (x - y)
 | 0,F,_=>by
  show ab (0 - 0)≤_;rw[show(0:Rat) - 0=0 by grind,Da];exact Rat.mul_nonneg (Std.le_of_lt (BX _)) (Ak _)
 | n+1,F,h=>by
  have ih:=Qg hx hy n (tl F) h.tl;have hv:=QU (n:=n) h.tl hx;have hd:=Ak (x - y);have e:F 0+x*CE n (tl F) x - (F 0+y*CE n (tl F) y)=(x - y)*CE n (tl F) x+y*(CE n (tl F) x - CE n (tl F) y):=by grind
  rw[Dk,Dk,e];have h1:=EX ((x - y)*CE n (tl F) x) (y*(CE n (tl F) x - CE n (tl F) y));have h2:ab ((x - y)*CE n (tl F) x)≤2^(a+n+b*n)*ab (x - y):=by
   rw[Cc,Rat.mul_comm];exact CP hv hd
  have hy2:ab y≤2^b:=by grind
  have h3:ab (y*(CE n (tl F) x - CE n (tl F) y))≤2^b*(2^(a+2*n+b*n)*ab (x - y)):=by
   rw[Cc];exact QC hy2 ih (Ak _) (Std.le_of_lt (BX b))
  have h4:(2:Rat)^(a+n+b*n)≤2^(a+2*n+b*n+b):=JR Aa;have h5:=CP h4 hd;have e3:(2:Rat)^b*(2^(a+2*n+b*n)*ab (x - y))=2^(a+2*n+b*n+b)*ab (x - y):=by rw[CW _ b];grind
  have e4:(2:Rat)^(a+2*(n+1)+b*(n+1))=4*2^(a+2*n+b*n+b):=by
   rw[show a+2*(n+1)+b*(n+1)=2+(a+2*n+b*n+b) by rw[Nat.mul_succ,Nat.mul_succ];omega,CW 2];congr 1
  rw[e4];have h6:=Rat.mul_nonneg (Std.le_of_lt (BX (a+2*n+b*n+b))) hd;grind
theorem Iu.pd{F:Nat→Rat}{a n:Nat}(h:Iu (2^a) F)(hs:Bg (n+1) F):Iu (2^(a+n)) (Hp.pd F):=fun i=>by
 show ab (((i+1:Nat):Rat)*F (i+1))≤_;by_cases hi:i+1≤n
 ·rw[Cc,Dj (DJ _),CW,Rat.mul_comm ((2:Rat)^a)]
  refine QC (Std.le_trans (L6 hi) (Ni n)) (h _) (Ak _) (Std.le_of_lt (BX n))
 ·rw[hs (i+1) Aa,Rat.mul_zero,Da]
  exact Std.le_of_lt (BX _)
theorem Qa{a b:Nat}{x y:Rat}(hx:ab x≤2^b - 1)(hy:ab y≤2^b - 1):∀(n:Nat) (F:Nat→Rat),Iu (2^a) F→Bg n F →
  ∃ r,ab r≤2^(a+3*n+b*n)∧CE n F y - CE n F x=(y - x)*(CE n (pd F) x+(y - x)*r)
 | 0,F,_,_=>⟨0,by rw[Da];exact Std.le_of_lt (BX _),by show(0:Rat) - 0=_*(0+_*0);grind⟩
 | n+1,F,h,hs=>by
  obtain⟨r,hr,e⟩:=Qa hx hy n (tl F) h.tl hs.tl;have hpd:Iu (2^(a+n)) (pd (tl F)):=Iu.pd h.tl (hs.tl.mono (Nat.le_succ n));have hv:=QU (n:=n) hpd hx;refine⟨CE n (pd (tl F)) x+y*r,?_,?_⟩
  ·have h1:=EX (CE n (pd (tl F)) x) (y*r)
   have hy2:ab y≤2^b:=by grind
   have h2:ab (y*r)≤2^b*2^(a+3*n+b*n):=by rw[Cc];exact QC hy2 hr (Ak _) (Std.le_of_lt (BX b))
   have h3:(2:Rat)^(a+n+n+b*n)≤2^(a+3*n+b*n+b):=JR Aa;have e3:(2:Rat)^b*2^(a+3*n+b*n)=2^(a+3*n+b*n+b):=by rw[CW _ b];grind
   have e4:(2:Rat)^(a+3*(n+1)+b*(n+1))=8*2^(a+3*n+b*n+b):=by
    rw[show a+3*(n+1)+b*(n+1)=3+(a+3*n+b*n+b) by rw[Nat.mul_succ,Nat.mul_succ];omega,CW 3];congr 1
   have h6:=BX (a+3*n+b*n+b);grind
  ·have e1:CE (n+1) (pd F) x=CE n (tl F) x+x*CE n (pd (tl F)) x:=by
    rw[UU];congr 1;exact KN hs.tl (Nat.le_succ n) x
   rw[e1,Dk,Dk];grind
/-! ### two polynomials without a common root are not small together -/
def Gw(S D b:Nat):Nat:=96*(2*((S+1)*2^D)+(D+1)*((S+1)*2^D+1))+(D+1)+b*(D+1)+1
section
variable{F0 G0 A B:Nat→Rat}{D S:Nat}
theorem EY.low1(h:EY F0 G0 D S A B)(h0:B≠pz){b:Nat}{x e:Rat}(hx:ab x≤2^b - 1)(hA:ab (ev A x)≤e)(hB:ab (ev B x)≤e):ab (ev (nx A B) x)≤e*2^(Gw S D b):=by
 obtain⟨fA,fB,zA,zB,hd,qA,qB⟩:=h.facts;obtain⟨M,hM⟩:∃ M,M=(S+1)*2^D:=⟨_,rfl⟩
 have he0:0≤e:=Std.le_trans (Ak _) hA;obtain⟨cA,cB,cR⟩:=h.clear h0 (M:=M) Aa;obtain⟨zN,fN,-,-,hN⟩:=Kj fA fB h0;by_cases hR:pr A B=pz
 ·rw[Jm hR,OB,Da]
  exact Rat.mul_nonneg he0 (Std.le_of_lt (BX _))
 obtain⟨c,hc,ec⟩:=hN hR;have hq:∀ i,qsz (pq A B i)≤2*M+(D+1)*(M+1):=fun i=>by
  have h1:=NI (n:=pl A+1 - pl B) ((AC fA).mono (by have:=AR fB h0;omega)) fB h0 cA cB i;have h2:(pl A+1 - pl B)*(M+1)≤(D+1)*(M+1):=Nat.mul_le_mul_right _ Aa;omega
 obtain⟨X,hX⟩:∃ X,X=2*M+(D+1)*(M+1):=⟨_,rfl⟩
 rw[←hX]at hq
 -- the factor c
 have hcl:1≤c*2^(64*X):=by
  obtain⟨i,hi⟩:=Xv hR;have e1:pr A B i = -c*nx A B i:=by rw[ec];rfl
  have hni:nx A B i≠0:=fun q=>hi (by rw[e1,q,Rat.mul_zero]);have h1:=(LK (Nat.le_trans (cR.elem i) (show _≤X by omega))).2 hi;have h2:ab (nx A B i)≤2^(32*X):=(LK (Nat.le_trans ((h.step h0).facts.2.2.2.2.2.2 i) (show _≤X by omega))).1;rw[e1,Cc,Lh,Dj (Std.le_of_lt hc)]at h1;have h3:=QC (QC (Std.le_refl c) h2 (Ak _) (Std.le_of_lt hc)) (Std.le_refl ((2:Rat)^(32*X))) (Std.le_of_lt (BX _)) (Rat.mul_nonneg (Std.le_of_lt hc) (Std.le_of_lt (BX _)))
  rw[show 64*X=32*X+32*X by omega,CW];grind
 -- the quotient's value
 have hqv:ab (ev (pq A B) x)≤2^(32*X+(D+1)+b*(D+1)):=by
  have hsup:Bg (D+1) (pq A B):=(K3 (n:=pl A+1 - pl B) ((AC fA).mono (by have:=AR fB h0;omega)) fB h0).mono Aa;rw[Es hsup];exact QU (fun i=>(LK (hq i)).1) hx
 have e2:c*ev (nx A B) x=ev (pq A B) x*ev B x - ev A x:=by
  have e3:ev A x=ev (pq A B) x*ev B x+ev (pr A B) x:=by
   conv=>lhs;rw[Jt A B]
   rw[IZ ((D6 A B).cv fB) (ED fA fB),Fp (D6 A B) fB]
  rw[ec,FE _ fN]at e3;grind
 obtain⟨Q,hQ⟩:∃ Q:Rat,Q=2^(32*X+(D+1)+b*(D+1)):=⟨_,rfl⟩
 rw[←hQ]at hqv;have hQ1:1≤Q:=by rw[hQ];exact LC _
 have h5:c*ab (ev (nx A B) x)≤2*(Q*e):=by
  have h6:=X5 (ev (pq A B) x*ev B x) (ev A x);rw[←e2,Cc,Dj (Std.le_of_lt hc),Cc]at h6;have h7:=QC hqv hB (Ak _) Ag;have h8:=QC hQ1 (Std.le_refl e) he0 Ag;grind
 have h9:=QC (Std.le_refl (ab (ev (nx A B) x))) hcl Ab (Ak _);have h10:=CP h5 (Std.le_of_lt (BX (64*X)));have e11:(2:Rat)^(Gw S D b)=2*Q*2^(64*X):=by
  rw[hQ,show Gw S D b=1+(32*X+(D+1)+b*(D+1))+64*X by unfold Gw;rw[←hM,←hX];omega,CW,CW 1];congr 1
 rw[e11];grind
theorem EY.low(c:CX F0 G0){b:Nat}{x:Rat}(hx:ab x≤2^b - 1):∀(n:Nat) {A B:Nat→Rat} {e:Rat},EY F0 G0 D S A B→pl B≤n→ab (ev A x)≤e→ab (ev B x)≤e→1≤e*2^(n*Gw S D b):=by
 intro n;induction n with
 | zero =>
  intro A B e h hn hA hB;obtain⟨fA,fB,zA,zB,hd,qA,qB⟩:=h.facts;have hBz:B=pz:=(Bw fB).1 Aa;have hc:=h.cop c;rw[hBz]at hc;have hA1:pl A=1:=Kh hc fA (Dv.refl A) (Dv.zero A);have e1:ev A x=A 0:=by unfold ev;rw[hA1];show A 0+x*0=A 0;grind
  have hA0:A 0≠0:=by have:=Ez fA Aa;rwa[hA1]at this
  have h1:=ZJ zA hA0;rw[e1]at hA;rw[Nat.zero_mul,Rat.pow_zero];grind
 | succ n ih =>
  intro A B e h hn hA hB;have hY:=LC (Gw S D b);have he0:0≤e:=Std.le_trans (Ak _) hA;have hgrow:e≤e*2^Gw S D b:=by have:=QC (Std.le_refl e) hY Ab he0;grind
  have e3:(2:Rat)^((n+1)*Gw S D b)=2^Gw S D b*2^(n*Gw S D b):=by rw[Nat.succ_mul,Nat.add_comm,CW]
  by_cases h0:B=pz
  ·have:=ih h (by rw[h0,C8];omega) hA hB
   have h2:=CP hgrow (Std.le_of_lt (BX (n*Gw S D b)));rw[e3];grind
  ·have hN:=h.low1 h0 hx hA hB
   obtain⟨fA,fB,zA,zB,hd,qA,qB⟩:=h.facts;have hlt:=(Kj fA fB h0).2.2.2.1;have:=ih (h.step h0) Aa (Std.le_trans hB hgrow) hN;rw[e3];grind
end
theorem YK{F:Nat→Rat}(zF:ZI F)(fF:Ae F)(x:Rat):ab (ev (rd F) x)≤ab (ev F x):=by
 unfold rd;rw[FE _ fF,Cc];have h1:ab (1 / ((cn F:Nat):Rat))≤1:=by
  rcases Nat.eq_zero_or_pos (cn F)with h | h
  ·rw[h,show(1:Rat) / ((0:Nat):Rat)=0 from by rw[Rat.div_def];show 1*(0:Rat)⁻¹ = 0;rw[Rat.inv_zero,Rat.mul_zero],Da];decide
  ·have hp:(0:Rat) < ((cn F:Nat):Rat):=by exact_mod_cast h
   have h1':(1:Rat)≤((cn F:Nat):Rat):=by exact_mod_cast h
   obtain⟨hi,ei⟩:=Gr hp;rw[Dj (Std.le_of_lt hi)];have:=QC (Std.le_refl (1 / ((cn F:Nat):Rat))) h1' Ab (Std.le_of_lt hi);grind
 have:=CP h1 (Ak (ev F x));grind
def Uc(S D b:Nat):Nat:=D*Gw S D b
theorem CX.low{F G:Nat→Rat}{S D b:Nat}(c:CX F G)(fF:Ae F)(fG:Ae G)(zF:ZI F)(zG:ZI G)(qF:∀ i,qsz (F i)≤S)(qG:∀ i,qsz (G i)≤S)(hD:pl F+pl G=D)
  {x e:Rat} (hx:ab x≤2^b - 1) (h1:ab (ev F x)≤e) (h2:ab (ev G x)≤e):1≤e*2^(Uc S D b):=by
 have hs:=EY.start fF fG zF zG qF qG;rw[hD]at hs;have he0:0≤e:=Std.le_trans (Ak _) h1;refine hs.low c hx D ?_ (Std.le_trans (YK zF fF x) h1) (Std.le_trans (YK zG fG x) h2);have:=hs.facts.2.2.2.2.1;omega
structure SF(F:Nat→Rat):Prop where
 p:Bz F
 c:CX F (pd F)
theorem Bz.eq_dv{F G:Nat→Rat}(h:Bz F)(k:Bz G)(a:Dv F G)(b:Dv G F):F=G:=by
 have e:mn F=mn G:=RN (Ka h.f) (Ka k.f) (fun _=>Tc h.f h.n) (fun _=>Tc k.f k.n) ((GK h.f).trans (a.trans (Iz G))) ((GK k.f).trans (b.trans (Iz F)));have hl:=CV h.f h.n;have kl:=CV k.f k.n;have e1:F=psc (ld F) (mn F):=by unfold mn;rw[Cg,show ld F*(1 / ld F)=1 by grind,Cq]
 have e2:mn G=psc (1 / ld G) G:=rfl;have e3:F=psc (ld F*(1 / ld G)) G:=by
  conv=>lhs;rw[e1,e,e2,Cg]
 have e4:Hp.pp F=Hp.pp G:=Sq h.z k.z k.f k.n (by
  intro q;have:=Mk kl;rcases Rat.mul_eq_zero.1 q with x | x
  ·exact hl x
  ·exact this x) e3
 rw[h.self,k.self]at e4;exact e4
theorem aX{H A B:Nat→Rat}(h:Dv H A)(k:Dv H B):Dv (cv H H) (cv A B):=by
 obtain⟨Q1,f1,rfl⟩:=h;obtain⟨Q2,f2,rfl⟩:=k;refine⟨cv Q1 Q2,f1.cv f2,?_⟩;rw[AA,AA,←AA H Q2 H,Bc H Q2,AA]
theorem aZ{g:Nat→Rat}(h:Bz g):SF (y0 g):=by
 obtain⟨hC,hW,e,-,-⟩:=Fb h;refine⟨hW,?_⟩;refine Classical.byContradiction fun hn=>?_;obtain⟨hE,hP,e2,-,-⟩:=Fb hW;have h1:1 < pl (yc (y0 g)):=by
  rcases Nat.lt_or_ge 1 (pl (yc (y0 g)))with a | a
  ·exact a
  ·exact absurd (CX.of_gcd hW (Ee hW.z) (BJ hW.f) a) hn
 obtain⟨N,hN⟩:=YD hW;by_cases hc:pl (D8 (yc (y0 g)) (y0 (y0 g)))≤1
 ·have c1:=CX.of_gcd hE hP.z hP.f hc
  have c2:=(CX.pw hE.f hP.f c1 N).symm.symm;have:=CX.self hE.f (((c2.symm).dv hN));omega
 ·obtain⟨hH,-,-,d1,d2,-⟩:=hE.gcd hP.z hP.f
  have h2:Dv (cv (D8 (yc (y0 g)) (y0 (y0 g))) (D8 (yc (y0 g)) (y0 (y0 g)))) (y0 g):=by
   have:=aX d2 d1;rw[←e2]at this;exact this
  have:=Xf h hH h2;omega
theorem SF.stf{F:Nat→Rat}(h:SF F):∃ K,DT F K:=by
 obtain⟨S,hS⟩:=Cz h.p.f;obtain⟨T,hT⟩:=Cz (BJ h.p.f);obtain⟨K,hK,-⟩:=F6 h.p.f (BJ h.p.f) h.p.z (Ee h.p.z) (S:=max S T) (fun i=>Nat.le_trans (hS i) (Nat.le_max_left _ _)) (fun i=>Nat.le_trans (hT i) (Nat.le_max_right _ _));exact⟨K,h.p.z,h.p.f,h.p.n,h.c,hK⟩
noncomputable def kn(F:Nat→Rat):Nat:=open Classical in if h:∃ K,MC F (pd F) K then Classical.choose h else 0
theorem MC.kn{F:Nat→Rat}{K:Nat}(h:MC F (pd F) K):Hp.kn F=K:=by
 have hx:∃ K,MC F (pd F) K:=⟨K,h⟩
 unfold Hp.kn;rw[dif_pos hx];exact(Classical.choose_spec hx).uniq h
theorem SF.st{F:Nat→Rat}(h:SF F):DT F (kn F):=by
 obtain⟨K,hK⟩:=h.stf;rw[hK.k.kn];exact hK
noncomputable def rc(F:Nat→Rat)(p q:Rat):Int:=rt F (kn F) p q
theorem QV(F:Nat→Rat)(p q r:Rat):rc F p q+rc F q r=rc F p r:=GL F _ p q r
theorem SF.nonneg{F:Nat→Rat}(h:SF F){p q:Rat}(hpq:p≤q):0≤rc F p q:=h.st.rt_nonneg hpq
theorem SF.sub{F:Nat→Rat}(h:SF F){p x y q:Rat}(h1:p≤x)(h2:x≤y)(h3:y≤q):rc F x y≤rc F p q:=h.st.rt_sub h1 h2 h3
theorem SF.free{F:Nat→Rat}(h:SF F){p q x y:Rat}(h0:rc F p q=0)(h1:p < x)(h2:x≤y)(h3:y≤q):ev F x≠0∧Bl (ev F y)=Bl (ev F x):=h.st.free h0 h1 h2 h3
theorem SF.mul{A B:Nat→Rat}(hA:SF A)(hB:SF B)(hC:SF (cv A B))(c:CX A B){p q:Rat}(hpq:p≤q):rc (cv A B) p q=rc A p q+rc B p q:=DT.rt_mul hA.st hB.st hC.st c hpq
theorem SF.split{A B:Nat→Rat}(hA:Bz A)(hB:Bz B)(h:SF (cv A B)):SF A∧SF B∧CX A B:=by
 have half:∀ {A B:Nat→Rat},Bz A→Bz B→CX (cv A B) (pd (cv A B))→CX A (pd A)∧CX A B:=by
  intro A B hA hB ⟨U,V,fU,fV,e⟩;have fA':=BJ hA.f;have fB':=BJ hB.f;rw[Km]at e;constructor
  ·refine⟨pad (cv U B) (cv V (pd B)),cv V B,(fU.cv hB.f).pad (fV.cv fB'),fV.cv hB.f,?_⟩
   rw[←e,CU,EZ];have e1:cv (cv U B) A=cv U (cv A B):=by rw[AA,Bc B A]
   have e2:cv (cv V (pd B)) A=cv V (cv A (pd B)):=by rw[AA,Bc (pd B) A]
   have e3:cv (cv V B) (pd A)=cv V (cv (pd A) B):=by rw[AA,Bc B (pd A)]
   rw[e1,e2,e3]
   funext n;simp only[pad];grind
  ·refine⟨pad (cv U B) (cv V (pd B)),cv V (pd A),(fU.cv hB.f).pad (fV.cv fB'),fV.cv fA',?_⟩
   rw[←e,CU,EZ];have e1:cv (cv U B) A=cv U (cv A B):=by rw[AA,Bc B A]
   have e2:cv (cv V (pd B)) A=cv V (cv A (pd B)):=by rw[AA,Bc (pd B) A]
   have e3:cv (cv V (pd A)) B=cv V (cv (pd A) B):=by rw[AA]
   rw[e1,e2,e3]
   funext n;simp only[pad];grind
 obtain⟨a1,a2⟩:=half hA hB h.c;obtain⟨b1,-⟩:=half hB hA (by rw[Bc];exact h.c);exact⟨⟨hA,a1⟩,⟨hB,b1⟩,a2⟩
theorem SF.factor{W A:Nat→Rat}(h:SF W)(hA:Bz A)(hd:Il W A):SF A∧SF (pq W A)∧CX A (pq W A)∧W=cv A (pq W A):=by
 obtain⟨q1,q2⟩:=h.p.quot hA hd;have e:W=cv A (pq W A):=by rw[Bc];exact q2
 have hs:SF (cv A (pq W A)):=by rw[←e];exact h
 obtain⟨a,b,c⟩:=SF.split hA q1 hs;exact⟨a,b,c,e⟩
theorem Bz.zdv{F D:Nat→Rat}(h:Bz F)(k:Bz D)(hd:Dv D F):Il F D:=by
 obtain⟨Q,fQ,e⟩:=hd;exact⟨Q,RF h.z h.f k.z k.f k.n fQ e (by rw[k.c];exact Nat.one_dvd _),fQ,e⟩
theorem Vr{E D:Nat→Rat}(hE:SF E)(hD:Bz D)(h:Dv E D):Dv E (y0 D):=by
 obtain⟨hC,hW,e,-,-⟩:=Fb hD;obtain⟨N,hN⟩:=YD hD;have h1:Dv E (pw (y0 D) (N+1)):=by
  obtain⟨Q,fQ,eQ⟩:=hN;refine h.trans ⟨Q,fQ,?_⟩;show cv (pw (y0 D) N) (y0 D)=_
  conv=>rhs;rw[e]
  rw[eQ,AA,Bc (yc D)]
 obtain⟨hH,z1,z2,d1,d2,-⟩:=hE.p.gcd hW.z hW.f;obtain⟨f1,f2,f3,f4⟩:=hE.factor hH z1
 -- the rest of E is coprime to the square-free part
 have h2:CX (pq E (D8 E (y0 D))) (y0 D):=by
  refine CX.of_gcd f2.p hW.z hW.f ?_;obtain⟨kG,-,-,g1,g2,-⟩:=f2.p.gcd hW.z hW.f;have g3:Dv (D8 (pq E (D8 E (y0 D))) (y0 D)) E:=g1.trans ⟨D8 E (y0 D),hH.f,f4⟩;have g4:Dv (D8 (pq E (D8 E (y0 D))) (y0 D)) (D8 E (y0 D)):=by
   have:=(J8 hE.p.f hW.f hE.p.z hW.z).2.2.2.2.2.2.2.2 _ kG.f g3 g2;exact this.trans (GK hH.f)
  have:=CX.self kG.f ((f3.dv g4).symm.dv g1);omega
 have h3:=CX.pw f2.p.f hW.f h2 (N+1);have h4:Dv (pq E (D8 E (y0 D))) (pw (y0 D) (N+1)):=Dv.trans ⟨D8 E (y0 D),hH.f,f4⟩ h1;have h5:=f2.p.one (by have:=CX.self f2.p.f (h3.symm.dv h4);omega);rw[h5,Jy]at f4;have:Dv (D8 E (y0 D)) (y0 D):=d2;rw[←f4]at this;exact this
noncomputable def AZ(F:Nat→Rat):Nat→Rat:=y0 (pp F)
theorem Ei{F:Nat→Rat}(z:ZI F)(f:Ae F)(h0:F≠pz):SF (AZ F):=aZ (Bz.pp z f h0)
theorem Kb{F:Nat→Rat}(z:ZI F)(f:Ae F)(h0:F≠pz):Dv (AZ F) F:=by
 obtain⟨hC,hW,e,-,-⟩:=Fb (Bz.pp z f h0);have h1:Dv (AZ F) (pp F):=⟨yc (pp F),hC.f,by rw[Bc];exact e⟩
 conv=>arg 2;rw[Nc z f h0]
 exact h1.psc _
theorem Ob{E F:Nat→Rat}(z:ZI F)(f:Ae F)(h0:F≠pz)(hE:SF E)(h:Dv E F):Dv E (AZ F):=
 Vr hE (Bz.pp z f h0) ((Ic z f).2 h)
theorem UX{F G:Nat→Rat}(zF:ZI F)(fF:Ae F)(zG:ZI G)(fG:Ae G)(h0:F≠pz):D8 F G≠pz:=fun e=>by
 have h:=(J8 fF fG zF zG).2.2.2.2.2.2.1;rw[e,KC]at h;exact h0 (Ky h)
theorem Xu{F G:Nat→Rat}(zF:ZI F)(fF:Ae F)(hF:F≠pz)(zG:ZI G)(fG:Ae G)(hG:G≠pz):AZ (D8 F G)=D8 (AZ F) (AZ G):=by
 have k:=J8 fF fG zF zG;have n:=UX zF fF zG fG hF;have s1:=Ei zF fF hF;have s2:=Ei zG fG hG;have s3:=Ei k.2.1 k.1 n;obtain⟨p4,z1,z2,d1,d2,-⟩:=s1.p.gcd s2.p.z s2.p.f;have s4:=(s1.factor p4 z1).1;have dF:Dv (D8 F G) F:=(Iz _).trans k.2.2.2.2.2.2.1;have dG:Dv (D8 F G) G:=(Iz _).trans k.2.2.2.2.2.2.2.1;have hd:=Kb k.2.1 k.1 n;refine s3.p.eq_dv p4 ?_ ?_
 ·have a1:=Ob zF fF hF s3 (hd.trans dF)
  have a2:=Ob zG fG hG s3 (hd.trans dG);exact((J8 s1.p.f s2.p.f s1.p.z s2.p.z).2.2.2.2.2.2.2.2 _ s3.p.f a1 a2).trans (GK p4.f)
 ·refine Ob k.2.1 k.1 n s4 ?_
  exact(k.2.2.2.2.2.2.2.2 _ p4.f (d1.trans (Kb zF fF hF)) (d2.trans (Kb zG fG hG))).trans (GK k.1)
theorem SF.meet{W X:Nat→Rat}(hW:SF W)(hX:SF X):∃ U V,SF (D8 W X)∧SF U∧SF V∧W=cv (D8 W X) U∧X=cv (D8 W X) V∧CX (D8 W X) U∧CX (D8 W X) V∧CX U V∧CX U X ∧
  (∀ p q:Rat,p≤q→rc W p q=rc (D8 W X) p q+rc U p q)∧(∀ p q:Rat,p≤q→rc X p q=rc (D8 W X) p q+rc V p q):=by
 obtain⟨p1,z1,z2,d1,d2,-⟩:=hW.p.gcd hX.p.z hX.p.f;obtain⟨a1,a2,a3,a4⟩:=hW.factor p1 z1;obtain⟨b1,b2,b3,b4⟩:=hX.factor p1 z2;have k:=J8 hW.p.f hX.p.f hW.p.z hX.p.z;have cUV:CX (pq W (D8 W X)) (pq X (D8 W X)):=by
  refine CX.of_gcd a2.p b2.p.z b2.p.f ?_;obtain⟨kG,-,-,g1,g2,-⟩:=a2.p.gcd b2.p.z b2.p.f;have g3:=k.2.2.2.2.2.2.2.2 _ kG.f (g1.trans ⟨D8 W X,p1.f,a4⟩) (g2.trans ⟨D8 W X,p1.f,b4⟩);have:=CX.self kG.f ((a3.dv (g3.trans (GK p1.f))).symm.dv g1);omega
 refine⟨pq W (D8 W X),pq X (D8 W X),a1,a2,b2,a4,b4,a3,b3,cUV,?_,fun p q hpq=>?_,fun p q hpq=>?_⟩
 ·have:=CX.mul a2.p.f p1.f b2.p.f a3.symm cUV
  rw[←b4]at this;exact this
 ·have h1:=SF.mul a1 a2 (by rw[←a4];exact hW) a3 hpq
  rw[←a4]at h1;exact h1
 ·have h1:=SF.mul b1 b2 (by rw[←b4];exact hX) b3 hpq
  rw[←b4]at h1;exact h1
def NK(S D b:Nat):Nat:=32*S+(3+b)*D
def Lu(S D b:Nat):Nat:=NK S D b+Uc S D b+2
theorem SL{F:Nat→Rat}{S:Nat}(h:∀ i,qsz (F i)≤S):Iu (2^(32*S)) F:=fun i=>(LK (h i)).1
theorem Rl{F:Nat→Rat}{S D b:Nat}(qF:∀ i,qsz (F i)≤S)(hD:pl F≤D){x y:Rat}(hx:ab x≤2^b - 1)(hy:ab y≤2^b - 1):ab (ev F x - ev F y)≤2^(NK S D b)*ab (x - y):=by
 have h:=Qg hx hy (pl F) F (SL qF);refine Std.le_trans h (CP (JR ?_) (Ak _));unfold NK;have h1:b*pl F≤b*D:=Nat.mul_le_mul_left _ hD;rw[Nat.add_mul];omega
theorem Zm{F:Nat→Rat}{S D b:Nat}(fF:Ae F)(qF:∀ i,qsz (F i)≤S)(hD:pl F≤D){x y:Rat}(hx:ab x≤2^b - 1)(hy:ab y≤2^b - 1):∃ r,ab r≤2^(NK S D b)∧ev F y - ev F x=(y - x)*(ev (pd F) x+(y - x)*r):=by
 obtain⟨r,hr,e⟩:=Qa hx hy (pl F) F (SL qF) (AC fF);refine⟨r,Std.le_trans hr (JR ?_),?_⟩
 ·unfold NK
  have h1:b*pl F≤b*D:=Nat.mul_le_mul_left _ hD;rw[Nat.add_mul];omega
 ·have e1:ev (pd F) x=CE (pl F) (pd F) x:=Es (O6 ((AC fF).mono (Nat.le_succ _))) x
  rw[e1];exact e
theorem DT.small_pt{F:Nat→Rat}{K:Nat}(h:DT F K){x y ε:Rat}(hxy:x≤y)(hε:0 < ε)(hr:1≤rt F K x y):∃ z,x≤z∧z≤y∧ab (ev F z) < ε:=by
 refine Classical.byContradiction fun hn=>?_;have:=h.flat hxy hε fun z a b=>by
  rcases Std.lt_trichotomy ε (ab (ev F z))with c | c | c
  ·exact Std.le_of_lt c
  ·rw[c];exact Std.le_refl _
  ·exact absurd ⟨z,a,b,c⟩ hn
 unfold rt at hr;omega
theorem MI{q:Rat}(h:0 < q):Bl q=1:=by unfold Bl;rw[if_pos h]
theorem N7{q:Rat}(h:q < 0):Bl q = -1:=by unfold Bl;rw[if_neg Ag,if_pos h]
theorem Q8:Bl 0=0:=by decide
theorem Xx{F:Nat→Rat}{u v w:Rat}(h:(ev F u < ev F v∧ev F v < ev F w)∨(ev F w < ev F v∧ev F v < ev F u)):Gy F u w=Gy F u v+Gy F v w:=by
 unfold Gy;generalize ev F u=a at *;generalize ev F v=b at *;generalize ev F w=c at *;rcases Std.lt_trichotomy a 0 with ha | ha | ha<;>rcases Std.lt_trichotomy b 0 with hb | hb | hb<;>rcases Std.lt_trichotomy c 0 with hc | hc | hc
 all_goals first
  | (exfalso;grind)
  | skip
 all_goals(try have ea:=N7 ha);(try have ea:=MI ha);(try have eb:=N7 hb);(try have eb:=MI hb);(try have ec:=N7 hc);(try have ec:=MI hc)
 all_goals(try(have na:a≠0:=by grind));(try(have nb:b≠0:=by grind));(try(have nc:c≠0:=by grind))
 all_goals(try subst ha);(try subst hb);(try subst hc);simp_all [Q8]
theorem DT.sep{F:Nat→Rat}{K S D b:Nat}(h:DT F K)(qF:∀ i,qsz (F i)≤S)(qG:∀ i,qsz (pd F i)≤S)(hD:pl F+pl (pd F)=D){x y:Rat}(hx:ab x≤2^b - 1)(hy:ab y≤2^b - 1)(hxy:x < y)(hd:(y - x)*2^(Lu S D b)≤1):rt F K x y≤1:=by
 refine Classical.byContradiction fun hn=>?_;obtain⟨d,hdd⟩:∃ d,d=y - x:=⟨_,rfl⟩
 have hd0:0 < d:=by grind
 obtain⟨L,hL⟩:∃ L:Rat,L=2^(NK S D b):=⟨_,rfl⟩
 have hL0:0 < L:=by rw[hL];exact BX _
 obtain⟨E,hE⟩:∃ E:Rat,E=2^(Uc S D b):=⟨_,rfl⟩
 have hE0:0 < E:=by rw[hE];exact BX _
 have hLd:=Rat.mul_pos hL0 hd0;have hsmall:4*(L*d*E)≤1:=by
  have e:(2:Rat)^(Lu S D b)=L*E*4:=by
   unfold Lu;rw[CW,CW,←hL,←hE];congr 1
  rw[e,←hdd]at hd;grind
 have hin:∀ z,x≤z→z≤y→ab z≤2^b - 1:=fun z a c=>En hx hy a c;have hdist:∀ z z',x≤z→z≤y→x≤z'→z'≤y→ab (z - z')≤d:=fun z z' a c a' c'=>ER.2 ⟨Ag,Ag⟩;have lF:∀ z z',x≤z→z≤y→x≤z'→z'≤y→ab (ev F z - ev F z')≤L*d:=fun z z' a c a' c'=>by
  have:=Rl qF (show pl F≤D by omega) (hin z a c) (hin z' a' c');rw[←hL]at this;exact Std.le_trans this (Cr (hdist z z' a c a' c') (Std.le_of_lt hL0))
 have lG:∀ z z',x≤z→z≤y→x≤z'→z'≤y→ab (ev (pd F) z - ev (pd F) z')≤L*d:=fun z z' a c a' c'=>by
  have:=Rl qG (show pl (pd F)≤D by omega) (hin z a c) (hin z' a' c');rw[←hL]at this;exact Std.le_trans this (Cr (hdist z z' a c a' c') (Std.le_of_lt hL0))
 obtain⟨z0,z1,z2,z3⟩:=h.small_pt (Std.le_of_lt hxy) hLd Aa;have hall:∀ z,x≤z→z≤y→ab (ev F z)≤2*(L*d):=fun z a c=>by
  have h1:=lF z z0 a c z1 z2;have h2:=EX (ev F z - ev F z0) (ev F z0);have e:ev F z - ev F z0+ev F z0=ev F z:=by grind
  rw[e]at h2;grind
 have hbig:∀ z,x≤z→z≤y→L*d < ab (ev (pd F) z):=fun z a c=>by
  rcases Std.lt_trichotomy (L*d) (ab (ev (pd F) z))with q | q | q
  ·exact q
  all_goals
   exfalso;have:=CX.low h.c h.f (BJ h.f) h.z (Ee h.z) qF qG hD (hin z a c) (hall z a c) (show ab (ev (pd F) z)≤2*(L*d) by grind);rw[←hE]at this;grind
 have hs0:Bl (ev (pd F) x)≠0:=by
  have:=hbig x (Std.le_refl _) (Std.le_of_lt hxy);intro q;rw[Db.1 q,Da]at this;grind
 have hmono:∀ u v,x≤u→u < v→v≤y→Bl (ev F v - ev F u)=Bl (ev (pd F) x):=fun u v a c a'=>by
  have hu:u≤y:=by grind
  have b1:=hbig u a hu;have s1:=Og (p:=ev (pd F) u) (q:=ev (pd F) x) (by
   have:=lG u x a hu (Std.le_refl _) (Std.le_of_lt hxy);grind)
  obtain⟨r,hr,e⟩:=Zm h.f qF (show pl F≤D by omega) (hin u a hu) (hin v Ag a');rw[e,Fz (show 0 < v - u by grind),←s1.1];refine(Og ?_).1.symm;have e2:ev (pd F) u - (ev (pd F) u+(v - u)*r) = -((v - u)*r):=by grind
  rw[e2,Lh,Cc];rw[←hL]at hr;have h4:=QC (show ab (v - u)≤d from ER.2 ⟨Ag,Ag⟩) hr (Ak _) (Std.le_of_lt hd0);grind
 obtain⟨δ,hδ,hl⟩:=h.loc x y;have key:rt F K x y=Gy F x y:=by
  refine LJ (P:=fun u v=>rt F K u v=Gy F u v) hδ hxy (fun u v a1 a2 a3 a4=>hl u v a1 a2 a3 a4) (fun u v w a1 a2 a3 a4 e f=>?_);have m1:=hmono u v a1 a2 Ag;have m2:=hmono v w Ag a3 a4;have m3:=GL F K u v w;have m4:Gy F u w=Gy F u v+Gy F v w:=by
   refine Xx ?_;rcases Std.lt_trichotomy (ev (pd F) x) 0 with c | c | c
   ·rw[N7 c]at m1 m2
    refine .inr ⟨?_,?_⟩
    ·rcases Std.lt_trichotomy (ev F w - ev F v) 0 with q | q | q
     ·grind
     ·rw[q,Q8]at m2;exact absurd m2 Ab
     ·rw[MI q]at m2;exact absurd m2 Ab
    ·rcases Std.lt_trichotomy (ev F v - ev F u) 0 with q | q | q
     ·grind
     ·rw[q,Q8]at m1;exact absurd m1 Ab
     ·rw[MI q]at m1;exact absurd m1 Ab
   ·exact absurd (Db.2 c) hs0
   ·rw[MI c]at m1 m2
    refine .inl ⟨?_,?_⟩
    ·rcases Std.lt_trichotomy (ev F v - ev F u) 0 with q | q | q
     ·rw[N7 q]at m1;exact absurd m1 Ab
     ·rw[q,Q8]at m1;exact absurd m1 Ab
     ·grind
    ·rcases Std.lt_trichotomy (ev F w - ev F v) 0 with q | q | q
     ·rw[N7 q]at m2;exact absurd m2 Ab
     ·rw[q,Q8]at m2;exact absurd m2 Ab
     ·grind
  omega
 have:=(YV F x y).2;omega
theorem CX.sep{A B:Nat→Rat}{S D b:Nat}(hA:SF A)(hB:SF B)(c:CX A B)(qA:∀ i,qsz (A i)≤S)(qB:∀ i,qsz (B i)≤S)(hD:pl A+pl B=D){x y:Rat}(hx:ab x≤2^b - 1)(hy:ab y≤2^b - 1)(hxy:x < y)(hd:(y - x)*2^(Lu S D b)≤1) :
  rc A x y=0∨rc B x y=0:=by
 refine Classical.byContradiction fun hn=>?_;have n1:=hA.nonneg (Std.le_of_lt hxy);have n2:=hB.nonneg (Std.le_of_lt hxy);obtain⟨d,hdd⟩:∃ d,d=y - x:=⟨_,rfl⟩
 have hd0:0 < d:=by grind
 obtain⟨L,hL⟩:∃ L:Rat,L=2^(NK S D b):=⟨_,rfl⟩
 have hL0:0 < L:=by rw[hL];exact BX _
 obtain⟨E,hE⟩:∃ E:Rat,E=2^(Uc S D b):=⟨_,rfl⟩
 have hE0:0 < E:=by rw[hE];exact BX _
 have hLd:=Rat.mul_pos hL0 hd0;have hsmall:4*(L*d*E)≤1:=by
  have e:(2:Rat)^(Lu S D b)=L*E*4:=by
   unfold Lu;rw[CW,CW,←hL,←hE];congr 1
  rw[e,←hdd]at hd;grind
 have one:∀ {P:Nat→Rat},SF P→(∀ i,qsz (P i)≤S)→pl P≤D→1≤rc P x y→ab (ev P x)≤2*(L*d):=fun {P} hP qP hp h1=>by
  obtain⟨z,z1,z2,z3⟩:=hP.st.small_pt (Std.le_of_lt hxy) hLd h1;have h2:=Rl qP hp hx (En hx hy z1 z2);rw[←hL]at h2;have h3:=Cr (show ab (x - z)≤d from ER.2 ⟨Ag,Ag⟩) (Std.le_of_lt hL0);have h4:=EX (ev P x - ev P z) (ev P z);have e:ev P x - ev P z+ev P z=ev P x:=by grind
  rw[e]at h4;grind
 have a1:=one hA qA Aa Aa;have a2:=one hB qB Aa Aa;have:=CX.low c hA.p.f hB.p.f hA.p.z hB.p.z qA qB hD hx a1 a2;rw[←hE]at this;grind
open Go.RowKit
section
variable{P:Program}
theorem MB(w:World)(k base:Nat)(t ty e:TypeId)(i:TypeInfo)(z:Value)(bytes:Nat)(ht:P.underlying t=some (.slice e))(hi:P.info? e=some i)(hz:i.zero=some z)
  (hsize:i.size=k) (hby:i.bytes=bytes) (hzs:z.cells.size=k) (hzd:nodig z.cells=true) (hsz:0 < k)
  (v:Value) (n:Nat) (xs:List Value) (hown:KE k base e w v n xs)
  (a:Addr) (c:Nat) (news:List Value) (hl:news.length=k) (hnews:∀ j u,news[j]? = some u→w.cell? (a.add j)=some u) (h1:∀ u∈news,u.oneCell'=true) (hnd:∀ u∈news,Aj u=false)
  (h63:n+1≤maxLen) (hbytes:(n+1)*bytes≤140737488355328) (hbase:base≤w.heap.size) :
  ∃ v' w',(Builtin.append_ #[t,t] ty #[v,.slice (some a) 1 c]).run P w = .ok v' w'∧KE k base e w' v' (n+1) (xs ++ news)∧Cj (blk v) w w'∧∀ g∈blk v',g∈blk v∨w.heap.size≤g:=by
 subst hsize;subst hby;have hl':news.length=1*i.size:=by rw[Nat.one_mul];exact hl
 have hlen:(xs ++ news).length=(n+1)*i.size:=by rw[List.length_append,hown.1,hl,Nat.succ_mul]
 have hsmall:n+1≤9223372036854775807:=by simp only[maxLen]at h63;omega
 have hzl:=BP.1 hzd;have hzc:∀ m,∀ u∈(Builtin.zeroCells z.cells m).toList,Aj u=false:=by
  intro m u hu;simp only[Builtin.zeroCells,Array.toList_map,Array.toList_range,List.mem_map,List.mem_range]at hu;obtain⟨j,hj,rfl⟩:=hu;have:j % z.cells.size < z.cells.size:=Nat.mod_lt _ Aa;rw[getElem!_pos z.cells _ this];exact hzl _ Ac
 have hxd:∀ u∈xs,Aj u=false:=by
  rcases hown.2 with⟨_,h0⟩ | ⟨g,cap,cur,_,_,hb,_,_,_,htake⟩
  ·intro u hu
   have:xs=[]:=List.eq_nil_of_length_eq_zero (by rw[hown.1,h0,Nat.zero_mul]);rw[this]at hu;cases hu
  ·intro u hu
   rw[←htake]at hu;exact BP.1 hb.2 _ (List.mem_of_mem_take hu)
 have grown:∀(old:Nat),old < n+1 →
   KE i.size base e (w.drew.alloc (.cells (xs.toArray ++ news.toArray ++ Builtin.zeroCells z.cells (grownCap w (n+1) old e - (n+1))) e)) (.slice (some ⟨w.heap.size,0,none⟩) (n+1) (grownCap w (n+1) old e)) (n+1) (xs ++ news) ∧
   ∀ G,Cj G w (w.drew.alloc (.cells (xs.toArray ++ news.toArray ++ Builtin.zeroCells z.cells (grownCap w (n+1) old e - (n+1))) e)):=by
  intro old ho;have hge:=grownCap_ge w (n+1) old e;have hcm:grownCap w (n+1) old e≤maxLen:=grownCap_le_maxLen w (n+1) old e h63;refine⟨⟨hlen,.inr ⟨w.heap.size,_,_,rfl,hbase,⟨heap_alloc_new w.drew _,?_⟩,hge,hcm,?_,?_⟩⟩,fun G=>Cj.of_ext ((Ext.refl w).drew.alloc _)⟩
  ·rw[BP]
   intro u hu;simp only[Array.toList_append,List.mem_append]at hu;rcases hu with(hu | hu) | hu
   ·exact hxd u (by simpa using hu)
   ·exact hnd u (by simpa using hu)
   ·exact hzc _ u hu
  ·simp only[Array.size_append,List.size_toArray,size_zeroCells,hzs,hown.1,hl]
   rw[←Nat.succ_mul,←Nat.add_mul];congr 1;omega
  ·simp only[Array.toList_append,List.append_assoc]
   rw[←List.append_assoc,←hlen];exact List.take_left
 rcases hown.2 with⟨rfl,rfl⟩ | ⟨g,cap,cur,rfl,hbg,hb,hnc,hcm,hcs,htake⟩
 ·have hx:xs=[]:=List.eq_nil_of_length_eq_zero (by simpa using hown.1)
  subst hx;have hr:=run_append_nil (P:=P) w t ty e i z ht hi hz a 1 c news hl' hnews Aa Aa (by have hb:=hbytes;simp only[Nat.zero_add]at hb;omega);have hgr:=grown 0 Aa;simp only[Nat.zero_add,List.nil_append,Array.empty_append]at hgr ⊢;exact⟨_,_,hr,hgr.1,hgr.2 _,fun g' hg' => .inr (by simp[blk,Value.ownBlock]at hg';omega)⟩
 ·have hg:=hb.1
  by_cases hroom:n+1≤cap
  ·have hfit:n*i.size+news.length≤cur.size:=by rw[hl,hcs,←Nat.succ_mul];exact Nat.mul_le_mul_right _ hroom
   have hr:=run_append_room (P:=P) w t ty e i ht hi g n cap cur hg a 1 c news hl' hnews h1 hroom hfit;have hnew:∀ u∈cur.toList.take (n*i.size) ++ news ++ cur.toList.drop (n*i.size+news.length),Aj u=false:=by
    intro u hu;simp only[List.mem_append]at hu;rcases hu with(hu | hu) | hu
    ·exact BP.1 hb.2 _ (List.mem_of_mem_take hu)
    ·exact hnd u hu
    ·exact BP.1 hb.2 _ (List.mem_of_mem_drop hu)
   have hbx:AU (w.setRow g (cur.toList.take (n*i.size) ++ news ++ cur.toList.drop (n*i.size+news.length)).toArray) g e _:=⟨setRow_heap w g cur _ e _ hg,BP.2 (by simpa using hnew)⟩
   refine⟨_,_,hr,⟨hlen,.inr ⟨g,cap,_,rfl,hbg,hbx,hroom,hcm,?_,?_⟩⟩,⟨fun g' o hg' ho=>?_,LY hb fun h hne _=>setRow_other w g h _ hne,fun a' ha hG=>?_⟩,fun g' hg' => .inl hg'⟩
   ·simp only[List.size_toArray,List.length_append,List.length_take,List.length_drop,Array.length_toList]
    omega
   ·rw[htake,←hlen]
    exact List.take_left
   ·rw[setRow_other w g g' _ (fun e=>hg' (by simp[blk,Value.ownBlock,e]))];exact ho
   ·have hga:a'.heap.size≤g:=hG g (by simp[blk,Value.ownBlock])
    exact ha.grown (row:=some g) ⟨rfl,rfl,rfl,by simp[World.setRow],fun k _ hk=>setRow_other w g k _ (fun e=>hk (by rw[e]))⟩ (fun k hk=>by cases hk;exact hga)
  ·have holds:∀ j u,xs[j]? = some u→w.cell? ((⟨g,0,none⟩:Addr).add j)=some u:=hown.owns.cells (g:=g) rfl
   have hr:=run_append_grow (P:=P) w t ty e i z ht hi hz ⟨g,0,none⟩ n cap xs hown.1 holds a 1 c news hl' hnews Aa Aa (growslice_fits Aa hbytes);have hgr:=grown cap Aa;exact⟨_,_,hr,hgr.1,hgr.2 _,fun g' hg' => .inr (by simp[blk,Value.ownBlock]at hg';omega)⟩
end
section
variable{α:Type}{k:Nat}{rd:World→Value→α→Prop}{base:Nat}{e:TypeId}{w w':World}{v:Value}{l:List α}
theorem BD.append_at{P:Program}(h:BD k rd base e w v l)(t ty:TypeId)(i:TypeInfo)(z:Value)(bytes:Nat)(ht:P.underlying t=some (.slice e))(hi:P.info? e=some i)(hz:i.zero=some z)
  (hsize:i.size=k) (hby:i.bytes=bytes) (hzs:z.cells.size=k) (hzd:nodig z.cells=true) (hsz:0 < k) {x:α}
  (a:Addr) (c:Nat) (news:Array Value) (hl:news.size=k) (hx:rd w (.agg news) x) (hnews:∀ j u,news.toList[j]? = some u→w.cell? (a.add j)=some u) (h1:∀ u∈news.toList,u.oneCell'=true) (hnd:nodig news=true)
  (h63:l.length+1≤maxLen) (hbytes:(l.length+1)*bytes≤140737488355328) (hbase:base≤w.heap.size) (hr:∀ w' u y,KD w w'→rd w u y→rd w' u y) :
  ∃ v' w',(Builtin.append_ #[t,t] ty #[v,.slice (some a) 1 c]).run P w = .ok v' w'∧BD k rd base e w' v' (l ++ [x])∧Cj (blk v) w w'∧∀ g∈blk v',g∈blk v∨w.heap.size≤g:=by
 obtain⟨ess,g1,g2,g3,g5⟩:=h;obtain⟨v',w',hrun,hown,hupd,hat⟩:=MB (P:=P) w k base t ty e i z bytes ht hi hz hsize hby hzs hzd hsz v l.length _ g3 a c news.toList (by simpa using hl) hnews h1 (BP.1 hnd) h63 hbytes hbase;refine⟨v',w',hrun,⟨ess ++ [news],by simp[g1],?_,?_,?_⟩,hupd,hat⟩
 ·intro d hd
  rcases List.mem_append.1 hd with hd | hd
  ·exact g2 d hd
  ·simp at hd;subst hd;exact hl
 ·have e1:(ess ++ [news]).flatMap Array.toList=ess.flatMap Array.toList ++ news.toList:=by simp
  rw[e1,List.length_append];exact hown
 ·intro j hj hj'
  rcases Nat.lt_or_ge j l.length with hlt | hge
  ·rw[List.getElem_append_left hlt,List.getElem_append_left Aa]
   exact hr _ _ _ hupd.kd (g5 j hlt Aa)
  ·have:j=l.length:=by simp at hj;omega
   subst this;rw[List.getElem_append_right Aa,List.getElem_append_right Aa];simpa using hr _ _ _ hupd.kd hx
end
theorem Cj.new_trans{G G':List Nat}{w w' w'':World}(h:Cj G w w')(k:Cj G' w' w'')(hG:∀ g∈G',g∈G∨w.heap.size≤g):Cj G w w'':=by
 refine⟨fun g o hg ho=>k.1 g o (fun hm=>?_) (h.1 g o hg ho),h.kd.trans k.kd,fun a e hg=>k.2.2 a (h.2.2 a e hg) fun g hm=>?_⟩
 ·rcases hG g hm with q | q
  ·exact hg q
  ·have:=(Array.getElem?_eq_some_iff.1 ho).1;omega
 ·rcases hG g hm with q | q
  ·exact hg g q
  ·have:=e.size;omega
theorem Cj.none{w w':World}(x:Ext w w')(G:List Nat):Cj G w w':=Cj.of_ext x
theorem Jb.kd{w w':World}{v:Value}{p q:Rat}(h:Jb w v p q)(k:KD w w'):Jb w' v p q:=by
 obtain⟨b1,A1,n1,c1,b2,A2,n2,c2,b3,A3,n3,c3,b4,A4,n4,c4,h1,h2,h3⟩:=h;exact⟨b1,A1,n1,c1,b2,A2,n2,c2,b3,A3,n3,c3,b4,A4,n4,c4,h1,h2.kd k,h3.kd k⟩
theorem JS.kd{w w':World}{v:Value}{p q:Rat}(h:JS w v p q)(k:KD w w'):JS w' v p q:=by
 obtain⟨b1,A1,n1,c1,b2,A2,n2,c2,b3,A3,n3,c3,b4,A4,n4,c4,h1,h2,h3⟩:=h;exact⟨b1,A1,n1,c1,b2,A2,n2,c2,b3,A3,n3,c3,b4,A4,n4,c4,h1,h2.kd k,h3.kd k⟩
def bS:World→Value→Rat×Rat→Prop:=fun w u y=>Jb w u y.1 y.2
def EA(base:Nat)(e:TypeId)(w:World)(v:Value)(l:List (Rat×Rat)):Prop:=BD 8 bS base e w v l
theorem EA.ext{base:Nat}{e:TypeId}{w w':World}{v:Value}{l:List (Rat×Rat)}(h:EA base e w v l)(x:Ext w w'):EA base e w' v l:=BD.ext h x fun _ _ q=>q.ext x
theorem EA.upd{base:Nat}{e:TypeId}{w w':World}{v:Value}{l:List (Rat×Rat)}{G:List Nat}(h:EA base e w v l)(U:Cj G w w')(hg:∀ g∈blk v,g∉G):EA base e w' v l:=
 BD.upd h U hg fun _ _ q=>q.kd U.kd
theorem EA.nil(base:Nat)(e:TypeId)(w:World):EA base e w (.slice none 0 0) []:=BD.nil 8 bS base e w
theorem EA.len{base:Nat}{e:TypeId}{w:World}{v:Value}{l:List (Rat×Rat)}(h:EA base e w v l):∃ A c,v = .slice A l.length c:=BD.len h
theorem Jb.cells{w:World}{v:Value}{p q:Rat}(h:Jb w v p q):∃ b1 A1 n1 c1 b2 A2 n2 c2 b3 A3 n3 c3 b4 A4 n4 c4,v = .agg #[.bool b1,.slice A1 n1 c1,.bool b2,.slice A2 n2 c2,.bool b3,.slice A3 n3 c3,.bool b4,.slice A4 n4 c4]:=by
 obtain⟨b1,A1,n1,c1,b2,A2,n2,c2,b3,A3,n3,c3,b4,A4,n4,c4,h1,h2,h3⟩:=h;exact⟨b1,A1,n1,c1,b2,A2,n2,c2,b3,A3,n3,c3,b4,A4,n4,c4,h1⟩
noncomputable def Iw(R:Rat→Rat→Int):Nat→Rat→Rat→List (Rat×Rat)
 | 0,p,q=>if R p q=0 then [] else [(p,q)]
 | n+1,p,q=>if R p q=0 then [] else if R p q=1 then [(p,q)] else Iw R n p ((p+q) / 2) ++ Iw R n ((p+q) / 2) q
theorem Li{R:Rat→Rat→Int}{p q:Rat}(h:R p q=0):∀ n,Iw R n p q=[]
 | 0=>by unfold Iw;rw[if_pos h]
 | n+1=>by unfold Iw;rw[if_pos h]
theorem JO{R:Rat→Rat→Int}{p q:Rat}(h:R p q=1):∀ n,Iw R n p q=[(p,q)]
 | 0=>by unfold Iw;rw[if_neg Aa]
 | n+1=>by unfold Iw;rw[if_neg Aa,if_pos h]
theorem Lc{R:Rat→Rat→Int}{p q:Rat}{n:Nat}(h0:R p q≠0)(h1:R p q≠1):Iw R (n+1) p q=Iw R n p ((p+q) / 2) ++ Iw R n ((p+q) / 2) q:=by
 rw[Iw,if_neg h0,if_neg h1]
def Node(P Q:Rat)(d:Nat)(p q:Rat):Prop:=∃ k:Nat,k < 2^d∧p=P+(Q - P)*(((k:Nat):Rat) / 2^d)∧q=P+(Q - P)*(((k+1:Nat):Rat) / 2^d)
theorem WU{k d:Nat}(h:k≤2^d):qsz (((k:Nat):Rat) / 2^d)≤d+1:=by
 have e:((k:Nat):Rat) / 2^d=Rat.divInt ((k:Nat):Int) ((2^d:Nat):Int):=by
  rw[Bh,Rat.divInt_eq_div];rfl
 rw[e];have h2:sz (2^d)≤d+1:=by
  have:=I8 2 1 Ab d;rw[Int.natAbs_pow]at this;have e3:((2:Int).natAbs)^d=2^d:=rfl;rw[e3]at this;omega
 refine CZ ?_ ?_ Aa
 ·rw[Int.natAbs_natCast];exact Nat.le_trans (Bq h) h2
 ·rw[Int.natAbs_natCast];exact h2
theorem Node.root(P Q:Rat):Node P Q 0 P Q:=by
 refine⟨0,Ab,?_,?_⟩
 ·rw[show((0:Nat):Rat)=0 from rfl,Rat.pow_zero];grind
 ·rw[show((0+1:Nat):Rat)=1 from rfl,Rat.pow_zero];grind
theorem Node.half{P Q p q:Rat}{d:Nat}(h:Node P Q d p q):Node P Q (d+1) p ((p+q) / 2)∧Node P Q (d+1) ((p+q) / 2) q:=by
 obtain⟨k,hk,rfl,rfl⟩:=h;have h2:(2:Rat)^d≠0:=by have:=BX d;grind
 have e1:(2:Rat)^(d+1)=2^d*2:=Rat.pow_succ _ _;have c1:((2*k:Nat):Rat)=2*((k:Nat):Rat):=by push_cast;rfl
 have c2:((2*k+1:Nat):Rat)=2*((k:Nat):Rat)+1:=by rw[Cx,c1]
 have c3:((2*k+1+1:Nat):Rat)=2*((k:Nat):Rat)+2:=by rw[Cx,c2];grind
 have c4:((k+1:Nat):Rat)=((k:Nat):Rat)+1:=Cx k;have hkk:2*k+1 < 2^(d+1):=by rw[Nat.pow_succ];omega
 constructor
 ·refine⟨2*k,Aa,?_,?_⟩
  ·rw[e1,c1];grind
  ·rw[e1,c2,c4];grind
 ·refine⟨2*k+1,hkk,?_,?_⟩
  ·rw[e1,c2,c4];grind
  ·rw[e1,c3,c4];grind
theorem Node.width{P Q p q:Rat}{d:Nat}(h:Node P Q d p q):(q - p)*2^d=Q - P:=by
 obtain⟨k,hk,rfl,rfl⟩:=h;have h2:(2:Rat)^d≠0:=by have:=BX d;grind
 rw[Cx];grind
theorem Node.within{P Q p q:Rat}{d:Nat}(h:Node P Q d p q)(hPQ:P < Q):P≤p∧p < q∧q≤Q:=by
 obtain⟨k,hk,rfl,rfl⟩:=h;have h2:=BX d;obtain⟨hi,ei⟩:=Gr h2;have hd:0 < Q - P:=by grind
 obtain⟨z,hz⟩:∃ z:Rat,z=1 / 2^d:=⟨_,rfl⟩
 rw[←hz]at hi ei;have e:∀ x:Rat,x / 2^d=x*z:=fun x=>by rw[hz];grind
 rw[e,e];have k0:=DJ k;have k1:((k+1:Nat):Rat)≤((2^d:Nat):Rat):=L6 hk;rw[←Bh]at k1;have a0:=Rat.mul_nonneg (Std.le_of_lt hd) (Rat.mul_nonneg k0 (Std.le_of_lt hi));have a1:=CP k1 (Std.le_of_lt hi);have a2:(2:Rat)^d*z=1:=by grind
 rw[a2]at a1;have a3:=Cr a1 (Std.le_of_lt hd);have a4:=Rat.mul_pos hd hi;rw[Cx]at a3 ⊢;refine⟨Ag,Ag,Ag⟩
theorem Node.qsz{P Q p q:Rat}{d a:Nat}(h:Node P Q d p q)(hP:Hp.qsz P≤a)(hQ:Hp.qsz Q≤a):Hp.qsz p≤3*a+d+4∧Hp.qsz q≤3*a+d+4:=by
 obtain⟨k,hk,rfl,rfl⟩:=h;have key:∀ m:Nat,m≤2^d→Hp.qsz (P+(Q - P)*(((m:Nat):Rat) / 2^d))≤3*a+d+4:=fun m hm=>by
  have h1:=Sm Q P;have h2:=CO (Q - P) (((m:Nat):Rat) / 2^d);have h3:=WU hm;have h4:=EF P ((Q - P)*(((m:Nat):Rat) / 2^d));omega
 exact⟨key k Aa,key (k+1) hk⟩
theorem TN{F:Nat→Rat}(hF:SF F){P Q:Rat}(hPQ:P < Q){N:Nat}(hdeep:∀ d p q,Node P Q d p q→N≤d→rc F p q≤1) :
  ∀(n d:Nat) (p q:Rat),Node P Q d p q→N≤n+d→(∀ x∈Iw (rc F) n p q,rc F x.1 x.2=1∧(∃ d',d≤d'∧d'≤n+d∧Node P Q d' x.1 x.2)∧p≤x.1∧x.2≤q) ∧
   ((Iw (rc F) n p q).length:Int)=rc F p q∧(Iw (rc F) n p q).Pairwise fun x y=>x.2≤y.1:=by
 intro n;induction n with
 | zero =>
  intro d p q hn hN;have h1:=hdeep d p q hn Aa;have hw:=hn.within hPQ;have h0:=hF.nonneg (Std.le_of_lt hw.2.1);by_cases hz:rc F p q=0
  ·rw[Li hz];exact⟨fun x hx=>by simp at hx,by simp[hz],List.Pairwise.nil⟩
  ·rw[JO (show rc F p q=1 by omega)]
   refine⟨fun x hx=>?_,CY,Ac⟩;have:x=(p,q):=by simpa using hx
   subst this;exact⟨show rc F p q=1 by omega,⟨d,Nat.le_refl _,Aa,hn⟩,Std.le_refl _,Std.le_refl _⟩
 | succ n ih =>
  intro d p q hn hN;have hw:=hn.within hPQ;have h0:=hF.nonneg (Std.le_of_lt hw.2.1);by_cases hz:rc F p q=0
  ·rw[Li hz];exact⟨fun x hx=>by simp at hx,by simp[hz],List.Pairwise.nil⟩
  by_cases ho:rc F p q=1
  ·rw[JO ho]
   refine⟨fun x hx=>?_,by simp[ho],Ac⟩;have:x=(p,q):=by simpa using hx
   subst this;exact⟨ho,⟨d,Nat.le_refl _,Aa,hn⟩,Std.le_refl _,Std.le_refl _⟩
  ·rw[Lc hz ho]
   obtain⟨n1,n2⟩:=hn.half;obtain⟨a1,a2,a3⟩:=ih (d+1) _ _ n1 Aa;obtain⟨b1,b2,b3⟩:=ih (d+1) _ _ n2 Aa;have w1:=(n1.within hPQ).2.1;have w2:=(n2.within hPQ).2.1;have hsum:=QV F p ((p+q) / 2) q;refine⟨fun x hx=>?_,?_,?_⟩
   ·rcases List.mem_append.1 hx with hx | hx
    ·obtain⟨c1,⟨d',c2,c3,c4⟩,c5,c6⟩:=a1 x hx
     exact⟨c1,⟨d',Aa,Aa,c4⟩,c5,Ag⟩
    ·obtain⟨c1,⟨d',c2,c3,c4⟩,c5,c6⟩:=b1 x hx
     exact⟨c1,⟨d',Aa,Aa,c4⟩,Ag,c6⟩
   ·rw[List.length_append];push_cast;omega
   ·rw[List.pairwise_append]
    refine⟨a3,b3,fun x hx y hy=>?_⟩;obtain⟨-,-,-,c6⟩:=a1 x hx;obtain⟨-,-,c5,-⟩:=b1 y hy;exact Std.le_trans c6 c5
theorem ZA(W:Nat→Rat)(K:Nat)(p q:Rat):rts W K p q=rt W K p q:=by
 have e:∀ x,V (EL W (pd W) K) x=vx W K x:=fun x=>by
  unfold V vx U5 EL;rw[List.map_map];rfl
 unfold rts rt;rw[e,e]
theorem FI{W:Nat→Rat}{K:Nat}(hK:MC W (pd W) K)(p q:Rat):rts W K p q=rc W p q:=by rw[ZA];unfold rc;rw[hK.kn]
theorem Uv{G:List Nat}{X Y:World}(U:Cj G X Y){g i:Nat}{x:Value}(hg:g∉G)(h:X.cell? ⟨g,i,none⟩=some x):Y.cell? ⟨g,i,none⟩=some x:=by
 have hb:=World.block_lt_of_cell? X _ h;have ho:X.heap[g]? = some X.heap[g]:=Array.getElem?_eq_getElem hb;have:=U.1 g _ hg ho;rw[World.cell?_of_block (this.trans ho.symm)];exact h
def R3(base:Nat)(t:TypeId)(w:World)(o:Value)(l:List (Rat×Rat))(e:Ending)(w':World):Prop:=∃ r,e = .returned r∧EA base t w' r l∧Cj (blk o) w w'∧∀ g∈blk r,g∈blk o∨w.heap.size≤g
end Go.Hp
namespace Go.Proofs.YtmhgnigpmompmaaGreat
open Go.RowKit Go.Hp
theorem Zp:(Tryz.prog.info? 30).map (fun i=>(i.zero,i.size,i.bytes))=some (some (.agg #[.bool false,.slice none 0 0,.bool false,.slice none 0 0,.bool false,.slice none 0 0,.bool false,.slice none 0 0]),8,128):=by kernel_rfl
theorem TH(W:World)(base ty g:Nat)(v:Value)(l:List (Rat×Rat))(p q:Rat){b1 b2 b3 b4:Bool}{A1 A2 A3 A4:Option Addr}{n1 n2 n3 n4 c1 c2 c3 c4:Nat}(h:EA base 30 W v l)
  (hq:Jb W (.agg #[.bool b1,.slice A1 n1 c1,.bool b2,.slice A2 n2 c2,.bool b3,.slice A3 n3 c3,.bool b4,.slice A4 n4 c4]) p q) (hn:l.length≤1000000) (hb:base≤W.heap.size) (hg:g=W.heap.size) :
  ∃ v' w',(Builtin.append_ #[51,51] ty #[v,.slice (some ⟨g,0,none⟩) 1 1]).run Tryz.prog (W.alloc (.cells #[.bool b1,.slice A1 n1 c1,.bool b2,.slice A2 n2 c2,.bool b3,.slice A3 n3 c3,.bool b4,.slice A4 n4 c4] 30)) = .ok v' w' ∧
   (EA base 30 w' v' (l ++ [(p,q)])∧Cj (blk v) W w'∧∀ g∈blk v',g∈blk v∨W.heap.size≤g):=by
 subst hg;obtain⟨i0,hi,hz0,hz1,hz2⟩:=info_parts Zp;have hB:=AU.new W 30 #[.bool b1,.slice A1 n1 c1,.bool b2,.slice A2 n2 c2,.bool b3,.slice A3 n3 c3,.bool b4,.slice A4 n4 c4] (by simp[Aj]);have hx:=(Ext.refl W).alloc (.cells #[.bool b1,.slice A1 n1 c1,.bool b2,.slice A2 n2 c2,.bool b3,.slice A3 n3 c3,.bool b4,.slice A4 n4 c4] 30);obtain⟨v',w',a,b,c,d⟩:=BD.append_at (P:=Tryz.prog) (x:=(p,q)) (EA.ext h hx) 51 ty i0 _ 128 Tryz.underlying51 hi hz0 hz1 hz2 rfl (by simp[nodig,Aj,Value.cells]) Ab ⟨W.heap.size,0,none⟩ 1
  #[.bool b1,.slice A1 n1 c1,.bool b2,.slice A2 n2 c2,.bool b3,.slice A3 n3 c3,.bool b4,.slice A4 n4 c4] rfl (hq.ext hx) hB.news (by simp[Value.oneCell']) (by simp[nodig,Aj]) (by simp only[maxLen];omega) Aa (Nat.le_trans hb hx.size) (fun _ _ _ k hq=>Jb.kd hq k)
 refine⟨v',w',a,b,(Cj.of_ext hx).trans c,fun g hg=>?_⟩;rcases d g hg with q | q
 ·exact .inl q
 ·right;have:=hx.size;omega
set_option maxRecDepth 20000 in
theorem Un(a:World)(v:Value)(W:Nat→Rat)(P Q:Rat)(base S D M K N aP:Nat)(hv:GG base 23 a v W)(hC:Kc W S D M)(hK:MC W (pd W) K)(hPQ:P < Q)(hP:qsz P≤aP)(hQ:qsz Q≤aP)
  (hdeep:∀ d p q,Hp.Node P Q d p q→N≤d→rc W p q≤1) (h0:∀ d p q,Hp.Node P Q d p q→0≤rc W p q) (ht:1+D*(M+(3*aP+N+4)+1)+M+(3*aP+N+4)+1≤100000000000) :
  ∀(n d:Nat) (p q:Rat) (u o:Value) (l:List (Rat×Rat)) (w:World),Hp.Node P Q d p q→N≤n+d→d≤N→Ext a w→JS w u p q→EA a.heap.size 30 w o l→l.length+(Iw (rc W) n p q).length≤1000 →
   Calls Tryz.prog 64 #[v,o,u] w (R3 a.heap.size 30 w o (l ++ Iw (rc W) n p q)):=by
 intro nn;induction nn using Nat.strongRecOn with
 | _ nn ih =>
  intro d p q u o l w hn hN hd hx hu ho hl;obtain⟨hp,hq⟩:=hn.qsz hP hQ;have hin:∀ X (x:Ext w X) y z,BG X y p→BG X z q→Bi 51 #[v,y,z] X (fun r _=>r = .int .i64 (rc W p q)):=fun X x y z hy hz=>by
   have:=TZ v y z W p q base S D M (3*aP+N+4) K X (hv.ext (hx.trans x)) hy hz hC hK Aa Aa Aa;have e:((V (EL W (pd W) K) p:Nat):Int) - (V (EL W (pd W) K) q:Nat)=rc W p q:=FI hK p q;rw[e]at this;exact this
  obtain⟨A0,n0,c0,rfl⟩:=hv.cell;have hu':=hu;obtain⟨d1,A1,n1,c1,d2,A2,n2,c2,d3,A3,n3,c3,d4,A4,n4,c4,rfl,hu1,hu2⟩:=hu;obtain⟨Ao,co,rfl⟩:=ho.len;obtain⟨R,hR⟩:∃ R,R=rc W p q:=⟨_,rfl⟩
  have hR0:=h0 d p q hn;have hRd:=hdeep d p q hn;rw[←hR]at hin hR0 hRd;have HC:=Ad (Au hin (Au hu1 (Au hu2 (Au hR (Au ho (Au hu' hx))))));clear hin hu1 hu2 hR ho hu' hx
  go_enter Tryz.func64,Tryz.ntmps64
  obtain⟨W1,eW1,ec,y1⟩:=AU.made w 92 #[.slice A0 n0 c0] (by simp[Aj]);obtain⟨W2,eW2,ea,y2⟩:=AU.made W1 30 #[.bool d1,.slice A1 n1 c1,.bool d2,.slice A2 n2 c2,.bool d3,.slice A3 n3 c3,.bool d4,.slice A4 n4 c4] (by simp[Aj]);have s1:W1.heap.size=w.heap.size+1:=by rw[eW1,World.size_alloc]
  rw[s1]at ea;have hx:=y1.trans y2;replace ec:=ec.ext y2
  go_upto_region 1 with(fail)
  rw[←eW1,←eW2];clear eW1 eW2 y1 y2 s1;obtain⟨cea0,cea1,cea2,cea3,cea4,cea5,cea6,cea7⟩:=ea.cells8;have fea:=ea.frozen;have cec0:=ec.cells1
  go_wp2_with fail
  refine AO (HC.out.1 _ hx _ _ (HC.out.2.1.ext hx) (HC.out.2.2.1.ext hx)) ?_;rintro r4 w4 rfl hx4;clear cea0 cea1 cea2 cea3 cea4 cea5 cea6 cea7 fea cec0;replace ea:=ea.ext hx4;replace ec:=ec.ext hx4;replace hx:=hx.trans hx4;clear hx4;have fin0:R=0→R3 a.heap.size 30 w (.slice Ao l.length co) (l ++ Iw (rc W) nn p q) (.returned (.slice Ao l.length co)) w4:=fun h=>by
   rw[Li (by rw[←HC.out.2.2.2.1];exact h),List.append_nil];exact⟨_,rfl,HC.out.2.2.2.2.1.ext hx,Cj.of_ext hx,fun g hg => .inl hg⟩
  have H0:=Ad fin0;clear fin0;by_cases hz:R=0
  ·have hb:(R==0)=true:=by simpa using hz
   have HF:=Ad (H0.out hz);clear hz;go_wp2
   go_ret
   exact HF.out
  clear H0;have hb0:(R==0)=false:=by simpa using hz
  by_cases hone:R=1
  ·have hb1:(R==1)=true:=by simpa using hone
   have H1:=Ad hone;have hl9:l.length≤1000000:=by omega
   clear hone hz hl;have hsz4:=hx.size;have has:=HC.out.2.2.2.2.2.2.size;obtain⟨cea0,cea1,cea2,cea3,cea4,cea5,cea6,cea7⟩:=ea.cells8;have fea:=ea.frozen
   go_wp2_with fail
   refine AO (PV _ _ p q _ (HC.out.2.1.ext hx) (HC.out.2.2.1.ext hx)) ?_;rintro r5 w5 hr5 hx5;have hx6:=hx.trans hx5;clear cea0 cea1 cea2 cea3 cea4 cea5 cea6 cea7 fea ea ec hx5 hx;obtain⟨e1,B1,m1,k1,e2,B2,m2,k2,e3,B3,m3,k3,e4,B4,m4,k4,rfl⟩:=hr5.cells;have H5:=Ad hr5;clear hr5;have hsz5:=hx6.size
   go_wp2_with (at_builtin;refine BM rfl _ _ 51 rfl (.slice Ao l.length co) (.slice (some ⟨w5.heap.size,0,none⟩) 1 1) rfl rfl (TH w5 a.heap.size _ _ _ l p q (HC.out.2.2.2.2.1.ext hx6) H5.out hl9 Aa rfl) ?_)
   intro v' w7 hown U hat;have HF:R3 a.heap.size 30 w (.slice Ao l.length co) (l ++ Iw (rc W) nn p q) (.returned v') w7:=by
    rw[JO (by rw[←HC.out.2.2.2.1];exact H1.out)];exact⟨_,rfl,hown,(Cj.of_ext hx6).trans U,fun g hg=>(hat g hg).imp id fun q=>Aa⟩
   have HF:=Ad HF;clear hown U hat;go_wp2
   go_ret
   exact HF.out
  ·have hb1:(R==1)=false:=by simpa using hone
   have hR2:2≤R:=by omega
   have hdN:d < N:=by
    rcases Nat.lt_or_ge d N with q | q
    ·exact q
    ·have:=hRd q;omega
   obtain⟨n,rfl⟩:∃ n,nn=n+1:=⟨nn - 1,Aa⟩
   replace ih:=ih n Aa;obtain⟨m,hm⟩:∃ m,m=(p+q) / 2:=⟨_,rfl⟩
   have hiso:Iw (rc W) (n+1) p q=Iw (rc W) n p m ++ Iw (rc W) n m q:=by
    rw[hm];exact Lc (by rw[←HC.out.2.2.2.1];exact hz) (by rw[←HC.out.2.2.2.1];exact hone)
   obtain⟨n1',n2'⟩:=hn.half;rw[←hm]at n1' n2';obtain⟨hmq,-⟩:=n2'.qsz hP hQ;have hmid:∀ X (x:Ext w X),Bi 112 #[.agg #[.bool d1,.slice A1 n1 c1,.bool d2,.slice A2 n2 c2,.bool d3,.slice A3 n3 c3,.bool d4,.slice A4 n4 c4]] X (fun r w'=>Cb w' r m):=fun X x=>by
    have:=OQ _ p q (3*aP+N+4) X (HC.out.2.2.2.2.2.1.ext x) Aa Aa Aa;rw[←hm]at this;exact this
   have HM:=Ad (Au hmid (Au hiso (Au n1' (Au n2' (show qsz m≤274877906944 by omega)))));clear hmid hiso n1' n2' hmq hm;have HL:=Ad hl;clear hR0 hRd hz hone hl hp hq hn hR2;obtain⟨cea0,cea1,cea2,cea3,cea4,cea5,cea6,cea7⟩:=ea.cells8;have fea:=ea.frozen
   go_wp2_with fail
   refine AO (HM.out.1 _ hx) ?_;rintro r5 w5 hr5 hx5;obtain⟨e1,B1,m1,k1,e2,B2,m2,k2,rfl⟩:=hr5.cells;clear cea0 cea1 cea2 cea3 cea4 cea5 cea6 cea7 fea;replace ea:=ea.ext hx5;replace ec:=ec.ext hx5;replace hx:=hx.trans hx5;clear hx5;obtain⟨W6,eW6,em,y6⟩:=AU.made w5 28 #[.bool e1,.slice B1 m1 k1,.bool e2,.slice B2 m2 k2] (by simp[Aj]);have hmm:=(hr5.ext y6).has HM.out.2.2.2.2;have hgm:=ea.lt;replace ea:=ea.ext y6
   replace ec:=ec.ext y6;replace hx:=hx.trans y6;clear y6
   go_upto_region 7 with(fail)
   rw[←eW6];clear eW6 hr5;generalize w5.heap.size=gm at *;have HX:=Ad (Au hmm hx);clear hmm;have hos:∀ g∈blk (.slice Ao l.length co),g < w.heap.size:=fun g hg=>(BD.blk_ge HC.out.2.2.2.2.1 g hg).2;have HO:=Ad hos;clear hos;have hsz6:=hx.size;have ha6:=HC.out.2.2.2.2.2.2.size;have hlen:(Iw (rc W) n p m).length+(Iw (rc W) n m q).length+l.length≤1000:=by
    have h1:=HL.out;rw[HM.out.2.1,List.length_append]at h1;omega
   have HLn:=Ad hlen;clear hlen;have hcall1:∀ X,Ext W6 X→Calls Tryz.prog 64 #[.agg #[.slice A0 n0 c0],.slice Ao l.length co,.agg #[.bool d1,.slice A1 n1 c1,.bool d2,.slice A2 n2 c2,.bool e1,.slice B1 m1 k1,.bool e2,.slice B2 m2 k2]] X
     (R3 a.heap.size 30 X (.slice Ao l.length co) (l ++ Iw (rc W) n p m)):=fun X x =>
    ih (d+1) p m _ _ l X HM.out.2.2.1 Aa Aa (HC.out.2.2.2.2.2.2.trans (HX.out.2.trans x)) ⟨_,_,_,_,_,_,_,_,_,_,_,_,_,_,_,_,rfl,HC.out.2.1.ext (HX.out.2.trans x),HX.out.1.ext x⟩ (HC.out.2.2.2.2.1.ext (HX.out.2.trans x)) (by have:=HLn.out;omega)
   have hcall2:∀ X r,KD W6 X→Ext a X→EA a.heap.size 30 X r (l ++ Iw (rc W) n p m)→Calls Tryz.prog 64 #[.agg #[.slice A0 n0 c0],r,.agg #[.bool e1,.slice B1 m1 k1,.bool e2,.slice B2 m2 k2,.bool d3,.slice A3 n3 c3,.bool d4,.slice A4 n4 c4]] X
     (R3 a.heap.size 30 X r (l ++ Iw (rc W) n p m ++ Iw (rc W) n m q)):=fun X r k x hr =>
    ih (d+1) m q _ _ _ X HM.out.2.2.2.1 Aa Aa x ⟨_,_,_,_,_,_,_,_,_,_,_,_,_,_,_,_,rfl,HX.out.1.kd k,(HC.out.2.2.1.ext HX.out.2).kd k⟩ hr (by have:=HLn.out;rw[List.length_append];omega)
   have HK:=Ad (Au hcall1 hcall2);clear hcall1 hcall2;obtain⟨cea0,cea1,cea2,cea3,cea4,cea5,cea6,cea7⟩:=ea.cells8;have fea:=ea.frozen;obtain⟨cem0,cem1,cem2,cem3⟩:=em.cells4;have fem:=em.frozen;have cec0:=ec.cells1;have hkeep:∀(G:List Nat) (X Y:World),Cj G X Y→(∀ g∈G,g < w.heap.size∨W6.heap.size≤g)→(X.cell? ⟨w.heap.size+1,0,none⟩=some (.bool d1)∧X.cell? ⟨w.heap.size+1,1,none⟩=some (.slice A1 n1 c1)∧X.cell? ⟨w.heap.size+1,2,none⟩=some (.bool d2)∧X.cell? ⟨w.heap.size+1,3,none⟩=some (.slice A2 n2 c2)∧X.cell? ⟨w.heap.size+1,4,none⟩=some (.bool d3)∧X.cell? ⟨w.heap.size+1,5,none⟩=some (.slice A3 n3 c3)∧X.cell? ⟨w.heap.size+1,6,none⟩=some (.bool d4)∧X.cell? ⟨w.heap.size+1,7,none⟩=some (.slice A4 n4 c4)∧X.cell? ⟨gm,0,none⟩=some (.bool e1)∧X.cell? ⟨gm,1,none⟩=some (.slice B1 m1 k1)∧X.cell? ⟨gm,2,none⟩=some (.bool e2)∧X.cell? ⟨gm,3,none⟩=some (.slice B2 m2 k2)∧X.cell? ⟨w.heap.size,0,none⟩=some (.slice A0 n0 c0))→(Y.cell? ⟨w.heap.size+1,0,none⟩=some (.bool d1)∧Y.cell? ⟨w.heap.size+1,1,none⟩=some (.slice A1 n1 c1)∧Y.cell? ⟨w.heap.size+1,2,none⟩=some (.bool d2)∧Y.cell? ⟨w.heap.size+1,3,none⟩=some (.slice A2 n2 c2)∧Y.cell? ⟨w.heap.size+1,4,none⟩=some (.bool d3)∧Y.cell? ⟨w.heap.size+1,5,none⟩=some (.slice A3 n3 c3)∧Y.cell? ⟨w.heap.size+1,6,none⟩=some (.bool d4)∧Y.cell? ⟨w.heap.size+1,7,none⟩=some (.slice A4 n4 c4)∧Y.cell? ⟨gm,0,none⟩=some (.bool e1)∧Y.cell? ⟨gm,1,none⟩=some (.slice B1 m1 k1)∧Y.cell? ⟨gm,2,none⟩=some (.bool e2)∧Y.cell? ⟨gm,3,none⟩=some (.slice B2 m2 k2)∧Y.cell? ⟨w.heap.size,0,none⟩=some (.slice A0 n0 c0)):=fun G X Y U hG ⟨a0,a1,a2,a3,a4,a5,a6,a7,b0,b1,b2,b3,c0⟩=>by
    have gl1:=ea.lt;have gl2:=em.lt;have gl3:=ec.lt;have q:∀ g i x,(w.heap.size≤g∧g < W6.heap.size)→X.cell? ⟨g,i,none⟩=some x→Y.cell? ⟨g,i,none⟩=some x:=fun g i x hg hc=>Uv U (fun hm=>by rcases hG g hm with z | z<;>omega) hc;exact⟨q _ _ _ Aa a0,q _ _ _ Aa a1,q _ _ _ Aa a2,q _ _ _ Aa a3,q _ _ _ Aa a4,q _ _ _ Aa a5,q _ _ _ Aa a6,q _ _ _ Aa a7,q _ _ _ Aa b0,q _ _ _ Aa b1,q _ _ _ Aa b2,q _ _ _ Aa b3,q _ _ _ Aa c0⟩
   have HE:=Ad hkeep;clear hkeep;have hS0:W6.cell? ⟨w.heap.size+1,0,none⟩=some (.bool d1)∧W6.cell? ⟨w.heap.size+1,1,none⟩=some (.slice A1 n1 c1)∧W6.cell? ⟨w.heap.size+1,2,none⟩=some (.bool d2)∧W6.cell? ⟨w.heap.size+1,3,none⟩=some (.slice A2 n2 c2)∧W6.cell? ⟨w.heap.size+1,4,none⟩=some (.bool d3)∧W6.cell? ⟨w.heap.size+1,5,none⟩=some (.slice A3 n3 c3)∧W6.cell? ⟨w.heap.size+1,6,none⟩=some (.bool d4)∧W6.cell? ⟨w.heap.size+1,7,none⟩=some (.slice A4 n4 c4)∧W6.cell? ⟨gm,0,none⟩=some (.bool e1)∧W6.cell? ⟨gm,1,none⟩=some (.slice B1 m1 k1)∧W6.cell? ⟨gm,2,none⟩=some (.bool e2)∧W6.cell? ⟨gm,3,none⟩=some (.slice B2 m2 k2)∧W6.cell? ⟨w.heap.size,0,none⟩=some (.slice A0 n0 c0):=⟨cea0,cea1,cea2,cea3,cea4,cea5,cea6,cea7,cem0,cem1,cem2,cem3,cec0⟩
   have hS1:W6.drew.cell? ⟨w.heap.size+1,0,none⟩=some (.bool d1)∧W6.drew.cell? ⟨w.heap.size+1,1,none⟩=some (.slice A1 n1 c1)∧W6.drew.cell? ⟨w.heap.size+1,2,none⟩=some (.bool d2)∧W6.drew.cell? ⟨w.heap.size+1,3,none⟩=some (.slice A2 n2 c2)∧W6.drew.cell? ⟨w.heap.size+1,4,none⟩=some (.bool d3)∧W6.drew.cell? ⟨w.heap.size+1,5,none⟩=some (.slice A3 n3 c3)∧W6.drew.cell? ⟨w.heap.size+1,6,none⟩=some (.bool d4)∧W6.drew.cell? ⟨w.heap.size+1,7,none⟩=some (.slice A4 n4 c4)∧W6.drew.cell? ⟨gm,0,none⟩=some (.bool e1)∧W6.drew.cell? ⟨gm,1,none⟩=some (.slice B1 m1 k1)∧W6.drew.cell? ⟨gm,2,none⟩=some (.bool e2)∧W6.drew.cell? ⟨gm,3,none⟩=some (.slice B2 m2 k2)∧W6.drew.cell? ⟨w.heap.size,0,none⟩=some (.slice A0 n0 c0):=HE.out [] W6 W6.drew (Cj.of_ext (Ext.refl W6).drew) (fun g hg=>by cases hg) hS0
   clear hS0 cea0 cea1 cea2 cea3 cea4 cea5 cea6 cea7 cem0 cem1 cem2 cem3 cec0 fea fem;clear ih hC hK hPQ hP hQ hdeep h0 ht hN hd hdN hv
   go_region_held3 (fun w'=>w'.cell? ⟨w.heap.size+1,0,none⟩=some (.bool d1)∧w'.cell? ⟨w.heap.size+1,1,none⟩=some (.slice A1 n1 c1)∧w'.cell? ⟨w.heap.size+1,2,none⟩=some (.bool d2)∧w'.cell? ⟨w.heap.size+1,3,none⟩=some (.slice A2 n2 c2)∧w'.cell? ⟨w.heap.size+1,4,none⟩=some (.bool d3)∧w'.cell? ⟨w.heap.size+1,5,none⟩=some (.slice A3 n3 c3)∧w'.cell? ⟨w.heap.size+1,6,none⟩=some (.bool d4)∧w'.cell? ⟨w.heap.size+1,7,none⟩=some (.slice A4 n4 c4)∧w'.cell? ⟨gm,0,none⟩=some (.bool e1)∧w'.cell? ⟨gm,1,none⟩=some (.slice B1 m1 k1)∧w'.cell? ⟨gm,2,none⟩=some (.bool e2)∧w'.cell? ⟨gm,3,none⟩=some (.slice B2 m2 k2)∧w'.cell? ⟨w.heap.size,0,none⟩=some (.slice A0 n0 c0))
    (first | (exact HE.out _ _ _ U2 hG2 (by assumption)) | (exact HE.out _ _ _ U1 hG1 (by assumption)) | (exact hS1))
    ((first
     | (have hU1:=U1;clear hU1;go_at_call 64;refine Calls.mono (HK.out.2 _ _ (((KD.refl W6).drew).trans U1.kd) (U1.from_ (HC.out.2.2.2.2.2.2.trans hx).drew fun g hg=>(BD.blk_ge HC.out.2.2.2.2.1 g hg).1) hown1) ?_;rintro e w2 ⟨r2,rfl,hown2,U2,hat2⟩;have hG2:∀ g∈blk r1,g < w.heap.size∨W6.heap.size≤g:=fun g hg=>(hat1 g hg).imp (HO.out g) id)
     | (go_at_call 64;refine Calls.mono (HK.out.1 W6.drew (Ext.refl W6).drew) ?_;rintro e w1 ⟨r1,rfl,hown1,U1,hat1⟩;have hG1:∀ g∈blk (.slice Ao l.length co),g < w.heap.size∨W6.heap.size≤g:=fun g hg=>Or.inl (HO.out g hg))))
   have hgm1:w1.heap.size > gm:=by
    have hne:gm∉blk (.slice Ao l.length co):=fun hm=>by have:=HO.out _ hm;omega
    exact(Array.getElem?_eq_some_iff.1 (U1.1 gm _ hne em.1)).1
   have UA:Cj (blk (.slice Ao l.length co)) w w1:=(Cj.of_ext hx.drew).trans U1;have HF:R3 a.heap.size 30 w (.slice Ao l.length co) (l ++ Iw (rc W) (n+1) p q) (.returned r2) w2:=by
    rw[HM.out.2.1,←List.append_assoc];refine⟨r2,rfl,hown2,UA.new_trans U2 fun g hg=>(hat1 g hg).imp id fun z=>Nat.le_trans hsz6 z,fun g hg=>?_⟩;rcases hat2 g hg with z | z
    ·exact(hat1 g z).imp id fun z=>Nat.le_trans hsz6 z
    ·right;omega
   have HFF:=Ad HF;clear HF UA hown1 hown2 U1 U2 hat1 hat2 hG1 hG2;go_wp2
   go_ret
   exact HFF.out
end Go.Proofs.YtmhgnigpmompmaaGreat
namespace Go.Hp
open Go.RowKit
theorem Ze(q:Rat):(ab q).num=(q.num.natAbs:Nat)∧(ab q).den=q.den:=by
 unfold ab
 split
 ·rename_i h
  have h1:=JG (q:=-q);have h2:(-q).num = -q.num:=rfl;have h3:0 < -q:=by grind
  have:=h1.2 h3;exact⟨Aa,rfl⟩
 ·rename_i h
  have:0≤q.num:=Rat.num_nonneg.2 Ag;exact⟨Aa,rfl⟩
theorem AU.put42{w:World}{g:Nat}{t:TypeId}{a b c d:Value}(h:AU w g t #[a,b,c,d])(u v:Value)(hu:Aj u=false)(hv:Aj v=false) :
  ∃ W,W=(w.setCell ⟨g,0,none⟩ u).setCell ⟨g,1,none⟩ v∧AU W g t #[u,v,c,d]∧Cj [g] w W:=
 ⟨_,rfl,(h.set_ 0 hu).set_ 1 hv,(Cj.set_ h.nodig 0 u).trans (Cj.set_ (h.set_ 0 hu).nodig 1 v)⟩
end Go.Hp
namespace Go.Proofs.YtmhgnigpmompmaaGreat
open Go.RowKit Go.Hp
set_option maxRecDepth 20000 in
theorem Yq(v:Value)(q:Rat)(w:World)(hv:BG w v q)(hs:qsz q≤274877906944):Bi 121 #[v] w (fun r w'=>Cb w' r (ab q)):=by
 have HV:=Ad hv;obtain⟨b,B,m1,e1,b',B',m1',e1',x0,y0,rfl,-⟩:=hv.form;clear hv;have hsn:sz q.num.natAbs≤274877906944:=by have:=ET q;omega
 have HS:=Ad hsn;clear hs hsn
 go_enter Tryz.func121,Tryz.ntmps121
 obtain⟨W1,eW1,ea,y1⟩:=AU.made w 28 #[.bool b,.slice B m1 e1,.bool b',.slice B' m1' e1'] (by simp[Aj]);obtain⟨W2,eW2,ez,y2⟩:=AU.made W1 28 #[.bool false,.slice none 0 0,.bool false,.slice none 0 0] (by simp[Aj]);have s1:W1.heap.size=w.heap.size+1:=by rw[eW1,World.size_alloc]
 rw[s1]at ez;have hx:=y1.trans y2;replace ea:=ea.ext y2
 go_upto_region 1 with(fail)
 rw[←eW1,←eW2];clear eW1 eW2 y1 y2 s1;obtain⟨cea0,cea1,cea2,cea3⟩:=ea.cells4;have fea:=ea.frozen
 go_wp2_with fail
 refine AO (FU _ q _ (HV.out.ext hx)) ?_;rintro r3 w3 hr3 hx3;obtain⟨b5,A5,n5,c5,b6,A6,n6,c6,rfl⟩:=hr3.cells;clear cea0 cea1 cea2 cea3 fea;replace ea:=ea.ext hx3;replace ez:=ez.ext hx3;replace hx:=hx.trans hx3;clear hx3;obtain⟨cea0,cea1,cea2,cea3⟩:=ea.cells4;have fea:=ea.frozen
 go_upto_region 2 with(fail)
 obtain⟨W4,eW,ea',U⟩:=ea.put4 (.bool b5) (.slice A5 n5 c5) (.bool b6) (.slice A6 n6 c6) rfl rfl rfl rfl;rw[←eW];clear eW ea;replace hr3:=hr3.kd U.kd;replace ez:=ez.upd U Af;replace hx:=U.from_ hx Af;have ea:=ea';clear U ea';have hnd:AQ W4 (.agg #[.bool b5,.slice A5 n5 c5]) q.num∧AQ W4 (.agg #[.bool b6,.slice A6 n6 c6]) (q.den:Nat):=by
  obtain⟨_,_,_,_,_,_,_,_,e,h1,h2⟩:=hr3;cases e;exact⟨h1,h2⟩
 have HN:=Ad hnd;clear hnd hr3;clear cea0 cea1 cea2 cea3 fea;obtain⟨cea0,cea1,cea2,cea3⟩:=ea.cells4;have fea:=ea.frozen
 go_wp2_with fail
 refine AO (bF _ q.num _ (HN.out.1.has (by have:=HS.out;omega))) ?_;rintro r5 w5 hr5 hx5;obtain⟨b7,A7,n7,c7,rfl⟩:=hr5.cells;have HD:=Ad (Au hr5 (HN.out.2.ext hx5));clear cea0 cea1 cea2 cea3 fea HN hr5;replace ea:=ea.ext hx5;replace ez:=ez.ext hx5;replace hx:=hx.trans hx5;clear hx5;obtain⟨cea0,cea1,cea2,cea3⟩:=ea.cells4;have fea:=ea.frozen
 go_upto_region 3 with(fail)
 obtain⟨W6,eW6,ea',U⟩:=ea.put42 (.bool b7) (.slice A7 n7 c7) rfl rfl;rw[←eW6];have HE:=Ad (Au (HD.out.1.kd U.kd) (HD.out.2.kd U.kd));replace ez:=ez.upd U Ac;replace hx:=U.from_ hx Ac;clear eW6 ea cea0 cea1 cea2 cea3 fea HD U;have ea:=ea';clear ea';obtain⟨cea0,cea1,cea2,cea3⟩:=ea.cells4;have fea:=ea.frozen;obtain⟨cez0,cez1,cez2,cez3⟩:=ez.cells4;have fez:=ez.frozen;have hq:Cb W6 (.agg #[.bool b7,.slice A7 n7 c7,.bool b6,.slice A6 n6 c6]) (ab q):=by
  obtain⟨h1,h2⟩:=Ze q;exact⟨_,_,_,_,_,_,_,_,rfl,by rw[h1];exact HE.out.1,by rw[h2];exact HE.out.2⟩
 have Hq:=Ad hq;clear hq HE;go_wp2;have hr:=Hq.out;obtain⟨W8,eW,ez',U⟩:=ez.put4 (.bool b7) (.slice A7 n7 c7) (.bool b6) (.slice A6 n6 c6) rfl rfl rfl rfl;rw[←eW];clear eW ez;replace hr:=hr.kd U.kd;replace hx:=U.from_ hx Af;have ez:=ez';clear U ez';clear cez0 cez1 cez2 cez3 fez;obtain⟨cez0,cez1,cez2,cez3⟩:=ez.cells4;have fez:=ez.frozen;refine bodyPost_ret (v := .agg #[.bool b7,.slice A7 n7 c7,.bool b6,.slice A6 n6 c6]) (by simp[results,Tryz.results121,go_sem,cez0,cez1,cez2,cez3]) rfl ?_
 exact Ah.mk hr hx
end Go.Proofs.YtmhgnigpmompmaaGreat
namespace Go.Hp
open Go.RowKit
end Go.Hp
namespace Go.Proofs.YtmhgnigpmompmaaGreat
open Go.RowKit Go.Hp
end Go.Proofs.YtmhgnigpmompmaaGreat
namespace Go.Hp
theorem Vw(p q:Rat):ab (p / q)=ab p / ab q:=by
 by_cases h:q=0
 ·rw[h,Da,Rat.div_def,Rat.div_def,Rat.inv_zero,Rat.mul_zero,Rat.mul_zero];decide
 ·have h1:p / q*q=p:=by grind
  have h2:ab (p / q)*ab q=ab p:=by rw[←Cc,h1]
  have h3:ab q≠0:=fun e=>h (Sv.1 e);grind
theorem Qt{p q:Rat}:decide (FM (p - q)≤0)=decide (p≤q):=by
 rw[KO];unfold Bl;by_cases h:p≤q
 ·rw[if_neg Ag,decide_eq_true h]
  split<;>rfl
 ·rw[decide_eq_false h,if_pos Ag];rfl
theorem JD(n:Nat):(((2:Int)^n:Int):Rat)=2^n:=by push_cast;rfl
theorem Ep{p q:Rat}:decide (FM (p - q) > 0)=decide (q < p):=by
 rw[KO];unfold Bl;by_cases h:q < p
 ·rw[if_pos Ag,decide_eq_true h];rfl
 ·rw[decide_eq_false h,if_neg Ag]
  split<;>rfl
theorem P2.qsz{r:Rat}{s:Nat}(h0:0≤r)(h:Hp.qsz r≤s):∃ J,P2 r J∧J≤32*s+1:=by
 have h1:=(LK h).1;rw[Dj h0,Bh]at h1;have key:∀ m,r < 2^m→∃ J,P2 r J∧J≤m:=by
  intro m;induction m with
  | zero=>intro h;exact⟨0,⟨h,fun i hi=>Aa⟩,Nat.le_refl _⟩
  | succ m ih =>
   intro h;by_cases h2:r < 2^m
   ·obtain⟨J,a,b⟩:=ih h2;exact⟨J,a,Aa⟩
   ·exact⟨m+1,⟨h,fun i hi=>by have:=JR (show i≤m by omega);grind⟩,Nat.le_refl _⟩
 refine key (32*s+1) ?_;rw[Rat.pow_succ];have:=BX (32*s);rw[Bh]at this ⊢;grind
end Go.Hp
namespace Go.Proofs.YtmhgnigpmompmaaGreat
open Go.RowKit Go.Hp
set_option maxRecDepth 20000 in
theorem Y5(v:Value)(F:Nat→Rat)(s:Nat)(w:World)(hv:AL 0 w v F)(zF:ZI F)(fF:Ae F)(h0:F≠pz)(hs:∀ i,qsz (F i)≤s)(hs9:s≤1000000)(hn:pl F≤1000) :
  Bi 67 #[v] w (fun r w'=>∃ j,P2 (Gx F (pl F - 1)+1) j∧AQ w' r (2^j)):=by
 have hp:=AR fF h0;obtain⟨A,c,l,rfl,k1,k2,hA,k3,k4,k5⟩:=hv.form;have HA:=Ad (Au hA (Au k3 k5));clear hA k3 k4 k5 hv
 go_enter Tryz.func67,Tryz.ntmps67
 obtain⟨W1,eW1,ez,y1⟩:=AU.made w 26 #[.bool false,.slice none 0 0] (by simp[Aj])
 go_upto_region 1 with(fail)
 rw[←eW1];clear eW1;have hx:=y1
 go_wp2_with fail
 refine AO (Vo 1 _ Aa Aa) ?_;rintro r2 w2 hr2 hx2;obtain⟨b5,A5,n5,c5,b6,A6,n6,c6,rfl⟩:=hr2.cells;replace ez:=ez.ext hx2;replace hx:=hx.trans hx2;clear hx2;obtain⟨W3,eW3,el,y3⟩:=AU.made w2 28 #[.bool b5,.slice A5 n5 c5,.bool b6,.slice A6 n6 c6] (by simp[Aj]);have hl:=Dr.mk el (hr2.ext y3);have hgl:=ez.lt;replace ez:=ez.ext y3;replace hx:=hx.trans y3;clear y3;clear hr2 el
 go_upto_region 2 with(fail)
 rw[←eW3];clear eW3;generalize w2.heap.size=gl at *;have hld:ld F=(l[pl F - 1]'(by have:=HA.out.2.1;omega):Rat):=by rw[←Dn,HA.out.2.2];rfl
 have hls:=hs (pl F - 1);obtain⟨g,o,b,A2,n2,c2,rfl,h64,q0,q1,hq⟩:=HA.out.1.at_ (j:=pl F - 1) (by have:=HA.out.2.1;omega);have hqh:Bp w (.agg #[.bool b,.slice A2 n2 c2]) (l[pl F - 1]'(by have:=HA.out.2.1;omega)):=hq.has (by
  have h1:F (pl F - 1)=(l[pl F - 1]'(by have:=HA.out.2.1;omega):Rat):=hld;rw[h1,Bo]at hls;omega)
 have hqq:qsz ((l[pl F - 1]'(by have:=HA.out.2.1;omega):Rat))≤274877906944:=by
  have h1:F (pl F - 1)=(l[pl F - 1]'(by have:=HA.out.2.1;omega):Rat):=hld;rw[h1]at hls;omega
 obtain⟨y,hy⟩:∃ y,y=(l[pl F - 1]'(by have:=HA.out.2.1;omega)):=⟨_,rfl⟩
 rw[←hy]at hld hqh hqq;have HQ:=Ad (Au hqh (Au hqq hld));clear hqh hqq hld hy hq hls;replace q0:=hx.cell q0;replace q1:=hx.cell q1
 go_wp2_with fail
 refine AO (G7 _ y _ (HQ.out.1.ext hx)) ?_;rintro r4 w4 hr4 hx4;clear q0 q1;replace ez:=ez.ext hx4;replace hl:=hl.ext hx4;replace hx:=hx.trans hx4;clear hx4
 go_wp2_with fail
 refine AO (Yq _ _ _ (hr4.has HQ.out.2.1) HQ.out.2.1) ?_;rintro r5 w5 hr5 hx5;obtain⟨b7,A7,n7,c7,b8,A8,n8,c8,rfl⟩:=hr5.cells;replace ez:=ez.ext hx5;replace hl:=hl.ext hx5;replace hx:=hx.trans hx5;clear hx5;obtain⟨W6,eW6,ed,y6⟩:=AU.made w5 28 #[.bool b7,.slice A7 n7 c7,.bool b8,.slice A8 n8 c8] (by simp[Aj]);have hd:=Dr.mk ed (hr5.ext y6);rw[←HQ.out.2.2]at hd;have hgd:=hl.lt;replace ez:=ez.ext y6;replace hl:=hl.ext y6
 replace hx:=hx.trans y6;clear y6;clear hr4 hr5 ed
 go_upto_region 3 with(fail)
 rw[←eW6];clear eW6;generalize w5.heap.size=gd at *;obtain⟨N,hN⟩:∃ N,pl F=N+1:=⟨pl F - 1,Aa⟩
 have e1:Gx F 0+1=((1:Int):Rat):=by show(0:Rat)+1=1;grind
 rw[←e1]at hl;have HN:=Ad hN;rw[hN]at hn k1 ⊢;rw[Nat.add_sub_cancel,show(((N+1:Nat):Int))=(N:Int)+1 from Aa,show((N:Int)+1 - 1)=(N:Int)from by omega];clear hN hp e1;go_wp2
 go_loopw [25] (fun iv wr=>∃ i:Nat,i≤N∧iv = .int .i64 (i:Nat)∧Dr wr gl 28 (Gx F i+1)∧Dr wr gd 28 (ab (ld F))∧AU wr w.heap.size 26 #[.bool false,.slice none 0 0]∧Ext w wr) (fun iv _=>N - (intOf iv).toNat)
 case atStart=>exact⟨0,Aa,rfl,hl,hd,ez,hx⟩
 case round =>
  clear hl hd ez hx;obtain⟨i,hi,rfl,hl,hd,ez,hx⟩:=hrel;by_cases hiN:i < N
  ·have hls:=hs i
   have hlt:i < l.length:=by have:=HA.out.2.1;have:=HN.out;omega
   have hli:F i=(l[i]:Rat):=by rw[←Dn hlt,HA.out.2.2]
   obtain⟨g',o',b3,A3,n3,c3,e3,-,q0,q1,hq⟩:=HA.out.1.at_ hlt;cases e3;have hqh:Bp w (.agg #[.bool b3,.slice A3 n3 c3]) l[i]:=hq.has (by rw[hli,Bo]at hls;omega);have hqq:qsz (l[i]:Rat)≤s:=by rw[hli]at hls;exact hls
   obtain⟨yi,hy⟩:∃ y,y=l[i]:=⟨_,rfl⟩
   rw[←hy]at hli hqh hqq;have HI:=Ad (Au hqh (Au hqq hli));clear hqh hqq hli hy hq hls hlt;replace q0:=hx.cell q0;replace q1:=hx.cell q1;obtain⟨W7,eW7,e6,y7⟩:=AU.made wr 26 #[.bool b3,.slice A3 n3 c3] (by simp[Aj])
   go_upto_region 6 with(fail)
   rw[←eW7];clear eW7 q0 q1;have hg6:=ez.lt;replace ez:=ez.ext y7;replace hl:=hl.ext y7;replace hd:=hd.ext y7;replace hx:=hx.trans y7;clear y7;generalize wr.heap.size=g6 at *;have HDq:=Ad hd;obtain⟨b9,A9,n9,c9,b10,A10,n10,c10,ed,hdq⟩:=hd;have hqa:qsz (ab (ld F))≤274877906944:=by rw[Ll];have:qsz (ld F)≤s:=hs _;omega
   have hqi:qsz (ab (yi:Rat))≤274877906944:=by rw[Ll];have:=HI.out.2.1;omega
   have hne:ab (ld F)≠0:=fun e=>CV fF h0 (Sv.1 e);have HB:=Ad (Au (hdq.has hqa) (Au hqi hne));clear hqa hqi hne;have hgd2:=ed.lt;obtain⟨ce60,ce61⟩:=e6.cells2;have fe6:=e6.frozen;obtain⟨ced0,ced1,ced2,ced3⟩:=ed.cells4;have fed:=ed.frozen
   go_cut [7,8] (fun pv ev wx=>∃ gc,pv = .pointer (some ⟨gc,0,none⟩)∧ev = .int .i64 0∧Dr wx gc 28 (ab (yi:Rat) / ab (ld F))∧W7.heap.size≤gc∧Ext W7 wx)
   case first =>
    refine BC 9 [7] (fun x=>10) [30,31,32,33,34,29,35,36,7] [[],[0],[0,1],[],[0,1,2,3],[0,1,2,3,4],[0,1,2,3,4,5],[0,1,2,3,4,5],[],[0,1,2,3,4,5,6,8],[0,1,2,3,4,5,6,7,8,9]] [6,4] [_,_] [(kv ?_),(fun γ=>γ 1),(fun γ=>γ 2),(kv ?_),(fun γ=>γ 4),(fun γ=>γ 4),(fun γ=>γ 6),(kv ?_),(fun γ=>γ 8)] (fun γ w'=>[True,Cb w' (γ 1) (yi:Rat),Cb w' (γ 2) (ab (yi:Rat)),True,IK w' (γ 4) (ab (yi:Rat) / ab (ld F)),True,Cb w' (γ 6) (ab (yi:Rat) / ab (ld F)),True,Bj w' (γ 8) W7.heap.size #[.bool false,.slice none 0 0,.bool false,.slice none 0 0] 28]) BQ Av Av Av Av Av BS Av BU ?hmono1 ?hstep1 ?_ ?hlate1
    case hstep1 =>
     iterate 9 refine⟨?_,?_⟩
     trivial
     iterate 1 focus
      intro γ w' he hf;clear hf;refine⟨by trivial,?_⟩;intro R hR;have hc:=he.cells;have cq0:=he.cell ce60;have cq1:=he.cell ce61;have cq2:=he.cell ced0;have cq3:=he.cell ced1;have cq4:=he.cell ced2;have cq5:=he.cell ced3;go_simp;refine hR _ _ (Ext.refl _) ?_ trivial;rfl
     ·intro γ w' he hf;clear hf;refine⟨trivial,?_⟩;intro R hR
      go_simp;exact BB (G7 _ yi w' (HI.out.1.ext (hx.trans he))) hR
     ·intro γ w' he hf;have f1:Cb w' (γ 1) (yi:Rat):=hf 1 Ab;clear hf;refine⟨trivial,?_⟩;intro R hR
      go_simp;exact BB (Yq _ _ w' (f1.has (by have:=HI.out.2.1;omega)) (by have:=HI.out.2.1;omega)) hR
     iterate 1 focus
      intro γ w' he hf;clear hf;refine⟨by trivial,?_⟩;intro R hR;have hc:=he.cells;have cq0:=he.cell ce60;have cq1:=he.cell ce61;have cq2:=he.cell ced0;have cq3:=he.cell ced1;have cq4:=he.cell ced2;have cq5:=he.cell ced3;go_simp;refine hR _ _ (Ext.refl _) ?_ trivial;rfl
     ·intro γ w' he hf;have f2:Cb w' (γ 2) (ab (yi:Rat)):=hf 2 Ab;clear hf;refine⟨trivial,?_⟩;intro R hR
      go_simp;exact BB (UL _ _ _ _ w' (f2.has HB.out.2.1) (HB.out.1.ext he) HB.out.2.2) hR
     ·intro γ w' he hf;clear hf;refine⟨trivial,?_⟩;intro R hR
      have hc:=he.cells;go_simp
      (try go_ints);(try(rw[if_neg Aa]));(try(rw[if_pos Aa]));(try go_simp);(try go_ints)
      refine hR _ _ (Ext.refl _) ?_ trivial;rfl
     ·intro γ w' he hf;have f4:IK w' (γ 4) (ab (yi:Rat) / ab (ld F)):=hf 4 Ab;clear hf;refine⟨trivial,?_⟩;intro R hR
      obtain⟨a,e,ha⟩:=f4;go_simp;exact hR _ _ (Ext.refl _) rfl ha
     ·intro γ w' he hf;have f4:IK w' (γ 4) (ab (yi:Rat) / ab (ld F)):=hf 4 Ab;clear hf;refine⟨trivial,?_⟩;intro R hR
      obtain⟨a,e,ha⟩:=f4;have hc:=he.cells;go_simp
      (try go_ints);(try(rw[if_neg Aa]));(try(rw[if_pos Aa]));(try go_simp);(try go_ints)
      refine hR _ _ (Ext.refl _) ?_ trivial;rfl
     ·intro γ w' he hf;clear hf;refine⟨trivial,?_⟩;intro R hR
      go_simp;exact hR _ _ ((Ext.refl _).alloc _) rfl (Bj.mk (Nat.le_trans Ac he.size) (by simp[Aj]))
    case hmono1 =>
     exact⟨⟨⟨⟨⟨⟨⟨⟨⟨trivial,(fun γ wA w' e h=>h)⟩,(fun γ wA w' e h=>(show Cb wA (γ 1) (yi:Rat)from h).ext e)⟩,(fun γ wA w' e h=>(show Cb wA (γ 2) (ab (yi:Rat))from h).ext e)⟩,(fun γ wA w' e h=>h)⟩,(fun γ wA w' e h=>(show IK wA (γ 4) (ab (yi:Rat) / ab (ld F))from h).ext e)⟩,(fun γ wA w' e h=>h)⟩,(fun γ w w' e h=>Cb.ext h e)⟩,(fun γ wA w' e h=>h)⟩,(fun γ wA w' e h=>(show Bj wA (γ 8) W7.heap.size #[.bool false,.slice none 0 0,.bool false,.slice none 0 0] 28 from h).ext e)⟩
    case hlate1 =>
     intro Pn hPs hPn;obtain rfl:=IB hPs hPn;clear hPs hPn
     ·intro γ w8 hx8 hF hA
      clear hA;have p1:Cb w8 (γ 1) (yi:Rat):=(AJ.get hF 1 Ab).resolve_left Ab;have p2:Cb w8 (γ 2) (ab (yi:Rat)):=(AJ.get hF 2 Ab).resolve_left Ab;have p4:IK w8 (γ 4) (ab (yi:Rat) / ab (ld F)):=(AJ.get hF 4 Ab).resolve_left Ab;have p6:Cb w8 (γ 6) (ab (yi:Rat) / ab (ld F)):=(AJ.get hF 6 Ab).resolve_left Ab;have p8:Bj w8 (γ 8) W7.heap.size #[.bool false,.slice none 0 0,.bool false,.slice none 0 0] 28:=(AJ.get hF 8 Ab).resolve_left Ab
      clear hF;show AB _ _ _ _ 3 [7] 9 _ _;simp only[Br,Nat.reduceAdd,Co,Array.getD_eq_getD_getElem?,List.getElem?_toArray,List.getElem?_cons_succ,List.getElem?_cons_zero,Option.getD_some];generalize γ 1=g1 at *;generalize γ 2=g2 at *;generalize γ 4=g4 at *;generalize γ 6=g6 at *;generalize γ 8=g8 at *;clear γ;obtain⟨a4,rfl,-⟩:=p4;obtain⟨gc,rfl,hgc,ec⟩:=p8;obtain⟨bx,Ax,nx',cx,by',Ay,ny,cy,rfl⟩:=p6.cells
      clear ce60 ce61 ced0 ced1 ced2 ced3 p1 p2;obtain⟨cec0,cec1,cec2,cec3⟩:=ec.cells4;have fec:=ec.frozen;refine AB.mk 2 ⟨?_,trivial⟩ (fun _=>?_)
      ·simp only[AX,List.toList_toArray,List.drop_succ_cons,List.drop_zero,List.take_succ_cons,List.take_zero]
       go_wp2;show AB _ _ _ _ _ [] _ _ _;refine AB.nil ?_;simp only[List.toList_toArray,List.drop_succ_cons,List.drop_zero];go_wp2;skip;obtain⟨W9,eW,ec',U⟩:=ec.put4 (.bool bx) (.slice Ax nx' cx) (.bool by') (.slice Ay ny cy) rfl rfl rfl rfl;rw[←eW];clear eW ec;replace p6:=p6.kd U.kd;replace hx8:=U.from_ hx8 Af;have ec:=ec';clear U ec'
       go_meet
       case rel=>exact⟨gc,rfl,rfl,Dr.mk ec p6,hgc,hx8⟩
      ·simp only[AX,List.toList_toArray,List.drop_succ_cons,List.drop_zero,List.take_succ_cons,List.take_zero]
       go_wp2;refine AB.mk 1 ⟨?_,trivial⟩ (fun h=>by cases(show false=true from h))
       ·simp only[AX,List.toList_toArray,List.drop_succ_cons,List.drop_zero,List.take_succ_cons,List.take_zero]
        go_wp2;show AB _ _ _ _ _ [] _ _ _;refine AB.nil ?_;simp only[List.toList_toArray,List.drop_succ_cons,List.drop_zero];go_wp2;skip;obtain⟨W9,eW,ec',U⟩:=ec.put4 (.bool bx) (.slice Ax nx' cx) (.bool by') (.slice Ay ny cy) rfl rfl rfl rfl;rw[←eW];clear eW ec;replace p6:=p6.kd U.kd;replace hx8:=U.from_ hx8 Af;have ec:=ec';clear U ec'
        go_meet
        case rel=>exact⟨gc,rfl,rfl,Dr.mk ec p6,hgc,hx8⟩
    intro γ w8 hx8 hF hA;clear hA;have p1:Cb w8 (γ 1) (yi:Rat):=AJ.get hF 1 Ab;have p2:Cb w8 (γ 2) (ab (yi:Rat)):=AJ.get hF 2 Ab;have p4:IK w8 (γ 4) (ab (yi:Rat) / ab (ld F)):=AJ.get hF 4 Ab;have p6:Cb w8 (γ 6) (ab (yi:Rat) / ab (ld F)):=AJ.get hF 6 Ab;have p8:Bj w8 (γ 8) W7.heap.size #[.bool false,.slice none 0 0,.bool false,.slice none 0 0] 28:=AJ.get hF 8 Ab;clear hF;simp only[Br,Nat.reduceAdd]
    generalize γ 1=g1 at *;generalize γ 2=g2 at *;generalize γ 4=g4 at *;generalize γ 6=g6 at *;generalize γ 8=g8 at *;clear γ;obtain⟨a4,rfl,-⟩:=p4;obtain⟨gc,rfl,hgc,ec⟩:=p8;obtain⟨bx,Ax,nx',cx,by',Ay,ny,cy,rfl⟩:=p6.cells;clear ce60 ce61 ced0 ced1 ced2 ced3 p1 p2;obtain⟨cec0,cec1,cec2,cec3⟩:=ec.cells4;have fec:=ec.frozen;go_wp2;skip;obtain⟨W9,eW,ec',U⟩:=ec.put4 (.bool bx) (.slice Ax nx' cx) (.bool by') (.slice Ay ny cy) rfl rfl rfl rfl
    rw[←eW];clear eW ec;replace p6:=p6.kd U.kd;replace hx8:=U.from_ hx8 Af;have ec:=ec';clear U ec'
    go_meet
    case rel=>exact⟨gc,rfl,rfl,Dr.mk ec p6,hgc,hx8⟩
   case rest =>
   clear ce60 ce61 ced0 ced1 ced2 ced3 fe6 fed e6 ed hdq;obtain⟨gc,rfl,rfl,hcq,hgc,hx8⟩:=hcut;have hd:Dr W7 gd 28 (ab (ld F)):=HDq.out;have hgl7:=hl.lt;have hgd7:=hd.lt;have hez7:=ez.lt;replace ez:=ez.ext hx8;replace hl:=hl.ext hx8;replace hd:=hd.ext hx8;replace hx:=hx.trans hx8;clear hx8;obtain⟨bx,Ax,nx',cx,by',Ay,ny,cy,ec,hcz⟩:=hcq;have hqq:qsz (ab (yi:Rat) / ab (ld F))≤4*s+4:=by
    have h1:=I9 (ab (yi:Rat)) (ab (ld F));have h2:qsz (ld F)≤s:=hs _;rw[Ll,Ll]at h1;have:=HI.out.2.1;omega
   have HZ:=Ad (Au (hcz.has Aa) hqq);clear hcz hqq;obtain⟨cec0,cec1,cec2,cec3⟩:=ec.cells4;have fec:=ec.frozen
   go_upto_region 7 with(fail)
   refine Ai 2 [37,38] [[],[],[0,1],[0,1,2]] [7] [_] [(kv ?_),(fun γ=>γ 1)] (fun γ w'=>[True,Cb w' (γ 1) ((1:Int):Rat)]) BQ Av Av BS Av BU C9 ?hstep2 ?_
   case hstep2 =>
    iterate 2 refine⟨?_,?_⟩
    trivial
    iterate 1 focus
     intro γ w' he hf;clear hf;refine⟨by trivial,?_⟩;intro R hR;have hc:=he.cells;have cq0:=he.cell cec0;have cq1:=he.cell cec1;have cq2:=he.cell cec2;have cq3:=he.cell cec3;go_simp;refine hR _ _ (Ext.refl _) ?_ trivial;rfl
    ·intro γ w' he hf;clear hf;refine⟨trivial,?_⟩;intro R hR
     go_simp;exact BB (Vo 1 w' Aa Aa) hR
   intro γ w10 hx10 hF;have p1:Cb w10 (γ 1) ((1:Int):Rat):=AJ.get hF 1 Ab;clear hF;simp only[Br,Nat.reduceAdd];generalize γ 1=g1 at *;clear γ
   go_wp2_with fail
   refine AO (RJ _ _ (ab (yi:Rat) / ab (ld F)) ((1:Int):Rat) _ (HZ.out.1.ext hx10) (p1.has Ab)) ?_;rintro r11 w11 hr11 hx11;obtain⟨bz,Az,nz,cz',bw,Aw,nw,cw,rfl⟩:=hr11.cells;have x1011:=hx10.trans hx11;clear p1 cec0 cec1 cec2 cec3 fec;replace ez:=ez.ext x1011;replace hl:=hl.ext x1011;replace hd:=hd.ext x1011;replace ec:=ec.ext x1011;replace hx:=hx.trans x1011;clear x1011;clear hx10 hx11;obtain⟨cec0,cec1,cec2,cec3⟩:=ec.cells4
   have fec:=ec.frozen
   go_upto_region 8 with(fail)
   obtain⟨W12,eW,ec',U⟩:=ec.put4 (.bool bz) (.slice Az nz cz') (.bool bw) (.slice Aw nw cw) rfl rfl rfl rfl;rw[←eW];clear eW ec;replace hr11:=hr11.kd U.kd;replace ez:=ez.upd U Af;replace hl:=hl.upd U Af;replace hd:=hd.upd U Af;replace hx:=U.from_ hx Af;have ec:=ec';clear U ec';obtain⟨bl,Al,nl,cl,bl',Al',nl',cl',el,hlz⟩:=hl;have hqx:qsz (ab (yi:Rat) / ab (ld F)+((1:Int):Rat))≤4*s+8:=by
    have h1:=EF (ab (yi:Rat) / ab (ld F)) ((1:Int):Rat);have h2:qsz (((1:Int):Rat))=1:=by decide
    have h3:=HZ.out.2;omega
   have hql:qsz (Gx F i+1)≤2*s+8:=by
    have h1:=EF (Gx F i) 1;have h2:qsz (1:Rat)=1:=by decide
    have h3:=KT hs (Nat.le_trans (D5 (F 0)) (hs 0)) i;omega
   have HX:=Ad (Au (hr11.has Aa) (Au (hlz.has Aa) (show qsz (ab (yi:Rat) / ab (ld F)+((1:Int):Rat))+qsz (Gx F i+1) < 274877906944 by omega)));clear hqx hql;have HR:=Ad (Au hr11 hlz);clear hr11 hlz;obtain⟨cec0,cec1,cec2,cec3⟩:=ec.cells4;have fec:=ec.frozen;obtain⟨cel0,cel1,cel2,cel3⟩:=el.cells4;have fel:=el.frozen
   go_wp2_with fail
   refine AO (Kq _ _ _ _ _ HX.out.1 HX.out.2.1 HX.out.2.2) ?_;rintro r13 w13 rfl hx13;clear HX cec0 cec1 cec2 cec3 fec cel0 cel1 cel2 cel3 fel;have e13:ab (yi:Rat) / ab (ld F)+((1:Int):Rat) - (Gx F i+1)=ab (F i / ld F) - Gx F i:=by
    rw[Vw,HI.out.2.2];show _+(1:Rat) - _=_;grind
   rw[e13];have hnext:Gx F (i+1)=if Gx F i < ab (F i / ld F)then ab (F i / ld F)else Gx F i:=rfl;replace HR:=Ad (Au (HR.out.1.ext hx13) (HR.out.2.ext hx13));replace ez:=ez.ext hx13;replace hd:=hd.ext hx13;replace ec:=ec.ext hx13;replace el:=el.ext hx13;replace hx:=hx.trans hx13;clear hx13;by_cases hgt:Gx F i < ab (F i / ld F)
   ·have hdec:decide (FM (ab (F i / ld F) - Gx F i) > 0)=true:=by rw[Ep,decide_eq_true hgt]
    rw[if_pos hgt]at hnext;obtain⟨cec0,cec1,cec2,cec3⟩:=ec.cells4;have fec:=ec.frozen;obtain⟨cel0,cel1,cel2,cel3⟩:=el.cells4;have fel:=el.frozen
    go_upto_region 10 with(fail)
    have hr13:=HR.out.1;obtain⟨W14,eW,el',U⟩:=el.put4 (.bool bz) (.slice Az nz cz') (.bool bw) (.slice Aw nw cw) rfl rfl rfl rfl;rw[←eW];clear eW el;replace hr13:=hr13.kd U.kd;replace ez:=ez.upd U Af;replace hd:=hd.upd U Af;replace hx:=U.from_ hx Af;have el:=el';clear U el';have hl:=Dr.mk el hr13;rw[show ab (yi:Rat) / ab (ld F)+((1:Int):Rat)=Gx F (i+1)+1 from by rw[hnext,Vw,HI.out.2.2];rfl]at hl;clear hdec hnext HR HZ e13 hr13
    go_wp2
    go_roundw
    case rel=>exact⟨i+1,Aa,by go_num,hl,hd,ez,hx⟩
    case measure=>simp[intOf];omega
   ·have hdec:decide (FM (ab (F i / ld F) - Gx F i) > 0)=false:=by rw[Ep,decide_eq_false hgt]
    rw[if_neg hgt]at hnext;have hl:=Dr.mk el HR.out.2;rw[←hnext]at hl;clear hnext HR HZ e13;go_wp2
    go_roundw
    case rel=>exact⟨i+1,Aa,by go_num,hl,hd,ez,hx⟩
    case measure=>simp[intOf];omega
  ·obtain rfl:i=N:=by omega
   have ez11:=ez.lt;have hql:qsz (Gx F i+1)≤2*s+8:=by
    have h1:=EF (Gx F i) 1;have h2:qsz (1:Rat)=1:=by decide
    have h3:=KT hs (Nat.le_trans (D5 (F 0)) (hs 0)) i;omega
   obtain⟨J,hJ,hJ9⟩:∃ J,P2 (Gx F i+1) J∧J≤32*(2*s+8)+1:=P2.qsz (by have:=IV F i;grind) hql;have HJ:=Ad (Au hJ (show qsz (Gx F i+1)≤3000000 by omega));clear hJ hql;have hJ8:J≤100000000:=by omega
   clear hJ9;obtain⟨rr,hrr⟩:∃ r,r=Gx F i+1:=⟨_,rfl⟩
   rw[←hrr]at HJ hl;have Hrr:=Ad hrr;clear hrr hi hiN h0 hs hs9 zF fF hd HQ HA
   go_wp2_with fail
   refine AO (Iq 1 _ Aa Aa) ?_;rintro r14 w14 hr14 hx14;obtain⟨b11,A11,n11,c11,rfl⟩:=hr14.cells;replace ez:=ez.ext hx14;replace hl:=hl.ext hx14;replace hx:=hx.trans hx14;clear hx14;obtain⟨W15,eW15,eo,y15⟩:=AU.made w14 26 #[.bool b11,.slice A11 n11 c11] (by simp[Aj]);have ho:=Be.mk eo (hr14.kd y15.kd);have hgo:=hl.lt;replace ez:=ez.ext y15;replace hl:=hl.ext y15;replace hx:=hx.trans y15;clear y15;clear eo hr14
   go_wp2;rw[←eW15];clear eW15;generalize w14.heap.size=go at *
   go_loopw [47] (fun _ wr=>∃ j:Nat,j≤J∧Be wr go 26 (2^j)∧Dr wr gl 28 rr∧AU wr w.heap.size 26 #[.bool false,.slice none 0 0]∧Ext w wr) (fun _ wr=>2^(J+1) - bI wr go 26)
   case atStart=>exact⟨0,Aa,ho,hl,ez,hx⟩
   case round =>
    clear ho hl ez hx;obtain⟨j,hj,⟨b7,A7,n7,c7,eo,hoz⟩,⟨bl,Al,nl,cl,bl',Al',nl',cl',el,hlz⟩,ez,hx⟩:=hrel;have Hoz:=Ad (Au hoz (Au eo hlz));clear hoz hlz;have hgl3:=el.lt;have hgo3:=eo.lt;have hjz:sz ((2:Int)^j).natAbs≤1+j:=Ii j;have Hjz:=Ad hjz;have hjq:qsz (((2:Int)^j:Int):Rat)≤1+j:=by rw[Bo];omega
    have HS:=Ad (Au (show sz ((2:Int)^j).natAbs≤1099511627776 by omega) (Au (show qsz (((2:Int)^j:Int):Rat)≤274877906944 by omega) (show qsz (((2:Int)^j:Int):Rat)+qsz rr < 274877906944 by have:=HJ.out.2;omega)));clear hjz hjq;obtain⟨ceo0,ceo1⟩:=eo.cells2;have feo:=eo.frozen;obtain⟨cel0,cel1,cel2,cel3⟩:=el.cells4;have fel:=el.frozen
    go_upto_region 12 with(fail)
    refine Ai 3 [47,48,49] [[],[0],[],[0,1,2],[0,1,2,3]] [9,3] [_,_] [(kv ?_),(fun γ=>γ 1),(kv ?_)] (fun γ w'=>[True,Cb w' (γ 1) (((2:Int)^j:Int):Rat),True]) BQ Av Av BS Av BU C9 ?hstep3 ?_
    case hstep3 =>
     iterate 3 refine⟨?_,?_⟩
     trivial
     iterate 1 focus
      intro γ w' he hf;clear hf;refine⟨by trivial,?_⟩;intro R hR;have hc:=he.cells;have cq0:=he.cell ceo0;have cq1:=he.cell ceo1;have cq2:=he.cell cel0;have cq3:=he.cell cel1;have cq4:=he.cell cel2;have cq5:=he.cell cel3;go_simp;refine hR _ _ (Ext.refl _) ?_ trivial;rfl
     ·intro γ w' he hf;clear hf;refine⟨trivial,?_⟩;intro R hR
      go_simp;exact BB (G7 _ _ w' ((Hoz.out.1.has HS.out.1).ext he)) hR
     iterate 1 focus
      intro γ w' he hf;clear hf;refine⟨by trivial,?_⟩;intro R hR;have hc:=he.cells;have cq0:=he.cell ceo0;have cq1:=he.cell ceo1;have cq2:=he.cell cel0;have cq3:=he.cell cel1;have cq4:=he.cell cel2;have cq5:=he.cell cel3;go_simp;refine hR _ _ (Ext.refl _) ?_ trivial;rfl
    intro γ w16 hx16 hF;have p1:Cb w16 (γ 1) (((2:Int)^j:Int):Rat):=AJ.get hF 1 Ab;clear hF;simp only[Br,Nat.reduceAdd];generalize γ 1=g1 at *;clear γ
    go_wp2_with fail
    refine AO (Kq _ _ _ rr _ (p1.has HS.out.2.1) ((Hoz.out.2.2.has (by have:=HJ.out.2;omega)).ext hx16) HS.out.2.2) ?_;rintro r17 w17 rfl hx17;generalize hm:FM ((((2:Int)^j:Int):Rat) - rr)=m;have hm1:=Qt (p:=(((2:Int)^j:Int):Rat)) (q:=rr);rw[hm]at hm1;clear hm;have x1617:=hx16.trans hx17;have HO:=Ad (Au (Hoz.out.1.ext x1617) (Hoz.out.2.2.ext x1617));clear p1 ceo0 ceo1 feo cel0 cel1 cel2 cel3 fel;replace ez:=ez.ext x1617
    replace eo:=eo.ext x1617;replace el:=el.ext x1617;replace hx:=hx.trans x1617;clear x1617;clear hx16 hx17;have hl:=Dr.mk el HO.out.2;by_cases hjJ:j < J
    ·rw[decide_eq_true (show(((2:Int)^j:Int):Rat)≤rr by have:=HJ.out.1.2 j hjJ;rw[JD];exact this)]at hm1
     obtain⟨ceo0,ceo1⟩:=eo.cells2;have feo:=eo.frozen
     go_wp2_with fail
     refine AO (Lv _ _ _ _ _ (HO.out.1.has HS.out.1) (HO.out.1.has HS.out.1)) ?_;rintro r18 w18 hr18 hx18;obtain⟨b8,A8,n8,c8,rfl⟩:=hr18.cells;clear ceo0 ceo1 feo el;replace ez:=ez.ext hx18;replace eo:=eo.ext hx18;replace hl:=hl.ext hx18;replace hx:=hx.trans hx18;clear hx18;obtain⟨ceo0,ceo1⟩:=eo.cells2;have feo:=eo.frozen;go_wp2;obtain⟨W19,eW,eo',U⟩:=eo.put2 (.bool b8) (.slice A8 n8 c8) rfl rfl;rw[←eW]
     clear eW eo;replace hr18:=hr18.kd U.kd;replace ez:=ez.upd U Af;replace hl:=hl.upd U Af;replace hx:=U.from_ hx Af;have eo:=eo';clear U eo';rw[show(2:Int)^j+2^j=2^(j+1) by rw[Int.pow_succ];omega]at hr18;have ho:=Be.mk eo hr18;have hb1:=Ns ho;have hb2:=Ns (Be.mk Hoz.out.2.1 Hoz.out.1);have hpw:2^(j+1)≤2^J:=Nat.pow_le_pow_right Ab hjJ
     go_roundw
     case rel=>exact⟨j+1,hjJ,ho,hl,ez,hx⟩
     case measure =>
      rw[hb1,hb2];rw[Int.natAbs_pow,Int.natAbs_pow];show 2^(J+1) - 2^(j+1) < 2^(J+1) - 2^j;have h1:2^(J+1)=2*2^J:=Nat.pow_succ';have h2:2^(j+1)=2*2^j:=Nat.pow_succ';have h3:=Nat.two_pow_pos j;omega
    ·obtain rfl:j=J:=by omega
     rw[decide_eq_false (show ¬ (((2:Int)^j:Int):Rat)≤rr by have:=HJ.out.1.1;rw[JD];grind)]at hm1;obtain⟨ceo0,ceo1⟩:=eo.cells2;have feo:=eo.frozen;obtain⟨cez0,cez1⟩:=ez.cells2;have fez:=ez.frozen
     go_upto_region 14 with(fail)
     have hr:=HO.out.1;go_wp2;obtain⟨W3,eW,ez',U⟩:=ez.put2 (.bool b7) (.slice A7 n7 c7) rfl rfl;rw[←eW];clear eW ez;replace hr:=hr.kd U.kd;replace hx:=U.from_ hx Af;have ez:=ez';clear U ez';clear ceo0 ceo1 feo cez0 cez1 fez;obtain⟨cez0,cez1⟩:=ez.cells2;have fez:=ez.frozen;refine bodyPost_ret (v := .agg #[.bool b7,.slice A7 n7 c7]) (by simp[results,Tryz.results67,go_sem,cez0,cez1]) rfl ?_;have hfin:=HJ.out.1
     rw[Hrr.out]at hfin;exact Ah.mk ⟨j,by rw[HN.out];exact hfin,hr⟩ hx
end Go.Proofs.YtmhgnigpmompmaaGreat
namespace Go.Hp
open Go.RowKit
noncomputable def bx(F:Nat→Rat):Nat:=open Classical in if h:∃ j,P2 (Gx F (pl F - 1)+1) j then Classical.choose h else 0
theorem P2.bx{F:Nat→Rat}{j:Nat}(h:P2 (Gx F (pl F - 1)+1) j):j=Hp.bx F:=by
 have hx:∃ j,P2 (Gx F (pl F - 1)+1) j:=⟨j,h⟩
 unfold Hp.bx;rw[dif_pos hx];exact h.uniq (Classical.choose_spec hx)
theorem RG{F:Nat→Rat}{s:Nat}(h:∀ i,qsz (F i)≤s):bx F≤32*(2*s+2)+1:=by
 have h0:0≤Gx F (pl F - 1)+1:=by have:=IV F (pl F - 1);grind
 have h1:=EF (Gx F (pl F - 1)) 1;have h2:qsz (1:Rat)=1:=by decide
 have h3:=KT h (Nat.le_trans (D5 (F 0)) (h 0)) (pl F - 1);obtain⟨j,hj,hj2⟩:=P2.qsz h0 (show qsz (Gx F (pl F - 1)+1)≤2*s+2 by omega);rw[←hj.bx];exact hj2
theorem Qv(j:Nat):qsz ((2:Rat)^j)≤j+1∧qsz (-(2:Rat)^j)≤j+1:=by
 have h1:=Ii j;have e:((2:Rat)^j)=(((2:Int)^j:Int):Rat):=(JD j).symm;have h2:qsz ((2:Rat)^j)≤j+1:=by rw[e,Bo];omega
 exact⟨h2,by rw[Io];exact h2⟩
structure Pg(F:Nat→Rat)(D M:Nat):Prop where
 z:ZI F
 f:Ae F
 n0:F≠pz
 e:Bf F=0
 q:∀ i,qsz (F i)≤1000
 pln:pl F≤1000
 sim:∃ S n M T,Ue F S n M T
 chn:∃ S,Kc (AZ F) S D M
theorem Pg.sf{F:Nat→Rat}{D M:Nat}(h:Pg F D M):SF (AZ F):=Ei h.z h.f h.n0
theorem Pg.k{F:Nat→Rat}{D M:Nat}(h:Pg F D M):MC (AZ F) (pd (AZ F)) (kn (AZ F)):=h.sf.st.k
theorem Pg.lim{F:Nat→Rat}{D M:Nat}(h:Pg F D M):M≤1000000∧D≤900:=by
 obtain⟨S,h⟩:=h.chn;exact⟨by have:=h.b;omega,h.D9⟩
theorem GG.lower{base b:Nat}{t:TypeId}{w:World}{v:Value}{W:Nat→Rat}(h:GG base t w v W)(hb:b≤base):GG b t w v W:=by
 obtain⟨c,us,K,h1,h2,h3,h4⟩:=h;exact⟨c,us,K,h1,h2,h3,(h4.base_le hb).el_le hb⟩
end Go.Hp
namespace Go.Proofs.YtmhgnigpmompmaaGreat
open Go.RowKit Go.Hp
theorem Dp(v:Value)(F:Nat→Rat)(D M:Nat)(w:World)(hv:AL 0 w v F)(hR:Pg F D M):Bi 50 #[v] w (fun r w'=>GG w.heap.size 23 w' r (AZ F)):=by
 obtain⟨S,n,M1,T,h1⟩:=hR.sim;obtain⟨S2,h2⟩:=hR.chn;exact XD v F (AZ F) S n M1 T S2 D M w hv h1 rfl h2
theorem P6(v:Value)(F:Nat→Rat)(D M:Nat)(w:World)(hv:AL 0 w v F)(hR:Pg F D M):Bi 67 #[v] w (fun r w'=>AQ w' r (2^bx F)):=
 Ah.imp (Y5 v F 1000 w hv hR.z hR.f hR.n0 hR.q Aa hR.pln) fun _ _ ⟨j,h1,h2⟩=>by rw[←h1.bx];exact h2
theorem PY(v:Value)(F:Nat→Rat)(D M:Nat)(w:World)(hv:AL 0 w v F)(hR:Pg F D M):Bi 52 #[v] w (fun r w'=>Jb w' r (-(2:Rat)^bx F) ((2:Rat)^bx F)):=by
 have hb:=fun X (x:Ext w X)=>P6 v F D M X (hv.ext x) hR;have hbx:=RG hR.q;obtain⟨j,hj⟩:∃ j,j=bx F:=⟨_,rfl⟩
 rw[←hj]at hb hbx ⊢;have hz:=Ii j;have hq:=(Qv j).1;obtain⟨A0,c0,rfl,-⟩:=hv.shape;have HC:=Ad (Au hb (Au (show sz ((2:Int)^j).natAbs≤1099511627776 by omega) (show qsz ((2:Rat)^j)≤274877906944 by omega)));clear hb hbx hj hz hq hv hR
 go_enter Tryz.func52,Tryz.ntmps52
 obtain⟨W1,eW1,ez,y1⟩:=AU.made w 30 #[.bool false,.slice none 0 0,.bool false,.slice none 0 0,.bool false,.slice none 0 0,.bool false,.slice none 0 0] (by simp[Aj])
 go_upto_region 1 with(fail)
 rw[←eW1];clear eW1;have hx:=y1;clear y1
 go_wp2_with fail
 refine AO (HC.out.1 _ hx) ?_;rintro r2 w2 hr2 hx2;obtain⟨b5,A5,n5,c5,rfl⟩:=hr2.cells;have H2:=Ad (hr2.has HC.out.2.1);clear hr2;replace ez:=ez.ext hx2;replace hx:=hx.trans hx2;clear hx2
 go_wp2_with fail
 refine AO (G7 _ _ _ H2.out) ?_;rintro r3 w3 hr3 hx3;rw[JD]at hr3;obtain⟨b6,A6,n6,c6,b7,A7,n7,c7,rfl⟩:=hr3.cells;replace ez:=ez.ext hx3;replace hx:=hx.trans hx3;clear hx3;obtain⟨W4,eW4,eb,y4⟩:=AU.made w3 28 #[.bool b6,.slice A6 n6 c6,.bool b7,.slice A7 n7 c7] (by simp[Aj]);have hb4:=hr3.ext y4;have hgb:=ez.lt;replace ez:=ez.ext y4;replace hx:=hx.trans y4;clear y4;clear hr3 H2
 go_upto_region 2 with(fail)
 rw[←eW4];clear eW4;generalize w3.heap.size=gb at *;have HB:=Ad (Au hb4 (hb4.has HC.out.2.2));clear hb4;obtain⟨ceb0,ceb1,ceb2,ceb3⟩:=eb.cells4;have feb:=eb.frozen;refine Ai 3 [7,8,9] [[],[0],[],[0,1,2],[0,1,2,3]] [3] [_] [(kv ?_),(fun γ=>γ 1),(kv ?_)] (fun γ w'=>[True,Cb w' (γ 1) (-(2:Rat)^j),True]) BQ Av Av BS Av BU C9 ?hstep1 ?_
 case hstep1 =>
  iterate 3 refine⟨?_,?_⟩
  trivial
  iterate 1 focus
   intro γ w' he hf;clear hf;refine⟨by trivial,?_⟩;intro R hR;have hc:=he.cells;have cq0:=he.cell ceb0;have cq1:=he.cell ceb1;have cq2:=he.cell ceb2;have cq3:=he.cell ceb3;go_simp;refine hR _ _ (Ext.refl _) ?_ trivial;rfl
  ·intro γ w' he hf;clear hf;refine⟨trivial,?_⟩;intro R hR
   go_simp;exact BB (Yr _ _ w' (HB.out.2.ext he)) hR
  iterate 1 focus
   intro γ w' he hf;clear hf;refine⟨by trivial,?_⟩;intro R hR;have hc:=he.cells;have cq0:=he.cell ceb0;have cq1:=he.cell ceb1;have cq2:=he.cell ceb2;have cq3:=he.cell ceb3;go_simp;refine hR _ _ (Ext.refl _) ?_ trivial;rfl
 intro γ w5 hx5 hF;have p1:Cb w5 (γ 1) (-(2:Rat)^j):=AJ.get hF 1 Ab;clear hF;simp only[Br,Nat.reduceAdd];generalize γ 1=g1 at *;clear γ;obtain⟨b8,A8,n8,c8,b9,A9,n9,c9,rfl⟩:=p1.cells;have HF:=Ad (Au p1 (HB.out.1.ext hx5));clear ceb0 ceb1 ceb2 ceb3 feb p1;replace ez:=ez.ext hx5;replace hx:=hx.trans hx5;clear hx5;have p1:=HF.out.1;have p2:=HF.out.2;clear HF;obtain⟨cez0,cez1,cez2,cez3,cez4,cez5,cez6,cez7⟩:=ez.cells8
 have fez:=ez.frozen;go_wp2;obtain⟨W6,eW,ez',U⟩:=ez.put8 (.bool b8) (.slice A8 n8 c8) (.bool b9) (.slice A9 n9 c9) (.bool b6) (.slice A6 n6 c6) (.bool b7) (.slice A7 n7 c7) rfl rfl rfl rfl rfl rfl rfl rfl;rw[←eW];clear eW ez;replace p1:=p1.kd U.kd;replace p2:=p2.kd U.kd;replace hx:=U.from_ hx Af;have ez:=ez';clear U ez';clear cez0 cez1 cez2 cez3 cez4 cez5 cez6 cez7 fez;obtain⟨cez0,cez1,cez2,cez3,cez4,cez5,cez6,cez7⟩:=ez.cells8
 have fez:=ez.frozen;refine bodyPost_ret (v := .agg #[.bool b8,.slice A8 n8 c8,.bool b9,.slice A9 n9 c9,.bool b6,.slice A6 n6 c6,.bool b7,.slice A7 n7 c7]) (by simp[results,Tryz.results52,go_sem,cez0,cez1,cez2,cez3,cez4,cez5,cez6,cez7]) rfl ?_;exact Ah.mk ⟨_,_,_,_,_,_,_,_,_,_,_,_,_,_,_,_,rfl,p1,p2⟩ hx
def R7(base:Nat)(F:Nat→Rat)(r:Value)(w:World):Prop:=∃ c us,r = .tuple #[c,.int .i64 (Bf F)]∧(Bf F=0→Ir base 0 23 w c us (EL F (pd F) (kn F)))∧(Bf F≠0→c = .slice none 0 0)
theorem VU(v:Value)(l:List Int)(S D M:Nat)(w:World)(hv:EO 0 w v l)(hn:l.length≤1000000)(hR:Bf (cz l)=0→Kc (cz l) S D M):Bi 26 #[v] w (fun r w'=>R7 w.heap.size (cz l) r w'):=by
 have HV:=Ad (Au hv hR);obtain⟨A,c,rfl⟩:=hv.len;clear hv hR
 go_enter Tryz.func26,Tryz.ntmps26
 go_wp2_with fail
 refine AO (Gj _ l _ HV.out.1 hn) ?_;rintro r2 w2 ⟨u,rfl,hu1,hu2⟩ hx;obtain⟨E,hE⟩:∃ E,E=Bf (cz l):=⟨_,rfl⟩
 have hc:=Cf (cz l);rw[←hE]at hu1 hu2 hc ⊢;have HE:=Ad hE;clear hE;have fin:E≠0→∀ {W:World},Ext w W→Ah w (fun r w'=>R7 w.heap.size (cz l) r w') (.returned (.tuple #[.slice none 0 0,.int .i64 E])) W:=fun hne W h=>Ah.mk ⟨_,[],by rw[←HE.out],fun e=>absurd (HE.out.trans e) hne,fun _=>rfl⟩ h;have Hfin:=Ad fin;clear fin;rcases hc with⟨-,hc⟩ | ⟨-,hc⟩ | ⟨h0,hp,-,hc⟩
 ·subst hc
  clear hu1 hu2;go_wp2;refine bodyPost_ret (v := .tuple #[.slice none 0 0,.int .i64 5]) (by simp[results,Tryz.results26,go_sem]) rfl ?_;exact Hfin.out Ab hx
 ·subst hc
  clear hu1 hu2;go_wp2;refine bodyPost_ret (v := .tuple #[.slice none 0 0,.int .i64 7]) (by simp[results,Tryz.results26,go_sem]) rfl ?_;exact Hfin.out Ab hx
 subst hc;have hR:=HV.out.2 HE.out.symm;have hu:=hu1 rfl;obtain⟨A1,c1,rfl,-⟩:=hu.shape;have hM9:=hR.b;have hSM:=hR.SM;have hs:=hR.s;have HU:=Ad (Au hu (Au hR h0));clear hu1 hu2 hR h0 hu;have hde:∀ X u,AL 0 X u (cz l)→Bi 66 #[u] X (fun r w'=>AL 0 w' r (pd (cz l))):=fun X u hu=>by
  obtain⟨m,g1,g2,-,g4⟩:=hu.hz (fun i=>by have:=hs i;omega);rw[←g4];exact Ah.imp (FB _ m X g1 Aa) fun _ _ h=>h.base_le (Nat.zero_le _)
 have HD:=Ad hde;clear hde hs hM9 hSM
 go_wp2_with fail
 refine AO (HD.out _ _ HU.out.1) ?_;rintro r3 w3 hr3 hx3;have H3:=Ad hr3;clear hr3
 go_wp2_with fail
 refine AO (Sa _ _ (cz l) (pd (cz l)) S D M _ (HU.out.1.ext hx3) H3.out HU.out.2.1.z (Ee HU.out.2.1.z) HU.out.2.1.f (BJ HU.out.2.1.f) HU.out.2.1.s HU.out.2.1.d HU.out.2.1.e HU.out.2.1.m HU.out.2.1.b HU.out.2.1.D9) ?_;rintro r4 w4 ⟨us,K,hK,-,hP⟩ hx4;have hx34:=hx3.trans hx4;have HF:=Ad (show R7 w.heap.size (cz l) (.tuple #[r4,.int .i64 0]) w4 from⟨_,us,by rw[←HE.out],fun _=>by rw[hK.kn];exact(hP.base_le (by have:=hx.size;have:=hx3.size;omega)).el_le (Nat.zero_le _),fun e=>absurd HE.out.symm e⟩)
 have hx5:=hx.trans hx34;clear hK hP hx34 hx3 hx4 H3;go_wp2;refine bodyPost_ret (v := .tuple #[r4,.int .i64 0]) (by simp[results,Tryz.results26,go_sem]) rfl ?_;exact Ah.mk HF.out hx5
def TQ(F:Nat→Rat)(x:Int)(r:Value):Prop:=r = .tuple #[.int .i64 (if Bf F=0 then x else 0),.int .i64 (Bf F)]
theorem VX(v:Value)(l:List Int)(D M:Nat)(w:World)(hv:EO 0 w v l)(hn:l.length≤1000000)(hR:Bf (cz l)=0→Pg (cz l) D M) :
  Bi 17 #[v] w (fun r _=>TQ (cz l) (rc (AZ (cz l)) (-(2:Rat)^bx (cz l)) ((2:Rat)^bx (cz l))) r):=by
 have HV:=Ad (Au hv hR);obtain⟨A,c,rfl⟩:=hv.len;clear hv hR;obtain⟨X0,hX0⟩:∃ X,X=rc (AZ (cz l)) (-(2:Rat)^bx (cz l)) ((2:Rat)^bx (cz l)):=⟨_,rfl⟩
 rw[←hX0];have HX0:=Ad hX0;clear hX0
 go_enter Tryz.func17,Tryz.ntmps17
 go_wp2_with fail
 refine AO (Gj _ l _ HV.out.1 hn) ?_;rintro r2 w2 ⟨u,rfl,hu1,hu2⟩ hx;obtain⟨E,hE⟩:∃ E,E=Bf (cz l):=⟨_,rfl⟩
 have hc:=Cf (cz l);rw[←hE]at hu1 hu2 hc ⊢;have HE:=Ad hE;clear hE;have fin:E≠0→∀ {W:World},Ext w W→Ah w (fun r _=>TQ (cz l) X0 r) (.returned (.tuple #[.int .i64 0,.int .i64 E])) W:=fun hne W h=>Ah.mk (by unfold TQ;rw[←HE.out,if_neg hne]) h;have Hfin:=Ad fin;clear fin;rcases hc with⟨-,hc⟩ | ⟨-,hc⟩ | ⟨h0,hp,-,hc⟩
 ·subst hc
  clear hu1 hu2;go_wp2;refine bodyPost_ret (v := .tuple #[.int .i64 0,.int .i64 5]) (by simp[results,Tryz.results17,go_sem]) rfl ?_;exact Hfin.out Ab hx
 ·subst hc
  clear hu1 hu2;go_wp2;refine bodyPost_ret (v := .tuple #[.int .i64 0,.int .i64 7]) (by simp[results,Tryz.results17,go_sem]) rfl ?_;exact Hfin.out Ab hx
 subst hc;have hR:=HV.out.2 HE.out.symm;have hu:=hu1 rfl;have hlim:=hR.lim;have hbx:=RG hR.q;obtain⟨A1,c1,rfl,-⟩:=hu.shape;have HU:=Ad (Au hu hR);clear hu1 hu2 hR h0 hu;have h22:=Ext.refl w2;obtain⟨j,hj⟩:∃ j,j=bx (cz l):=⟨_,rfl⟩
 have hqj:=Qv j;rw[←hj]at hbx;have HJ:=Ad (Au hj (Au hqj hbx));clear hqj
 go_wp2_with fail
 refine AO (PY _ (cz l) D M _ HU.out.1 HU.out.2) ?_;rintro r3 w3 hr3 hx3;obtain⟨b1,B1,m1,k1,b2,B2,m2,k2,b3,B3,m3,k3,b4,B4,m4,k4,rfl,hi1,hi2⟩:=hr3;rw[←hj]at hi1 hi2;clear hj;replace hx:=hx.trans hx3;replace h22:=h22.trans hx3;clear hx3;obtain⟨W4,eW4,eb,y4⟩:=AU.made w3 30 #[.bool b1,.slice B1 m1 k1,.bool b2,.slice B2 m2 k2,.bool b3,.slice B3 m3 k3,.bool b4,.slice B4 m4 k4] (by simp[Aj]);have H3:=Ad (Au ((hi1.has (by have:=HJ.out.2.1.2;omega)).ext y4) (Au ((hi2.has (by have:=HJ.out.2.1.1;omega)).ext y4) (hx.trans y4)))
 clear hi1 hi2;replace hx:=hx.trans y4;replace h22:=h22.trans y4;clear y4
 go_upto_region 5 with(fail)
 rw[←eW4];clear eW4;generalize w3.heap.size=gb at *;obtain⟨ceb0,ceb1,ceb2,ceb3,ceb4,ceb5,ceb6,ceb7⟩:=eb.cells8;have feb:=eb.frozen;have HW:=Ad (show AL 0 W4 (.slice A1 (pl (cz l)) c1) (cz l)from HU.out.1.ext h22);refine Ai 6 [16,17,18,19,20,21] [[],[0],[],[2],[],[4],[0,1,2,3,4,5],[0,1,2,3,4,5,6],[0,1,2,3,4,5,6,7]] [0,5] [_,_] [(kv ?_),(fun γ=>γ 1),(kv ?_),(kv ?_),(kv ?_),(kv ?_)] (fun γ w'=>[True,GG 0 23 w' (γ 1) (AZ (cz l)),True,True,True,True]) BQ Av Av BS Av BU C9 ?hstep2 ?_
 case hstep2 =>
  iterate 6 refine⟨?_,?_⟩
  trivial
  iterate 1 focus
   intro γ w' he hf;clear hf;refine⟨by trivial,?_⟩;intro R hR;have hc:=he.cells;go_simp;refine hR _ _ (Ext.refl _) ?_ trivial;rfl
  ·intro γ w' he hf;clear hf;refine⟨trivial,?_⟩;intro R hR
   go_simp;exact BB (F:=fun r w''=>GG 0 23 w'' (r) (AZ (cz l))) (Ah.imp (Dp _ (cz l) D M w' (HW.out.ext he) HU.out.2) fun _ _ h=>h.lower (Nat.zero_le _)) hR
  iterate 4 focus
   intro γ w' he hf;clear hf;refine⟨by trivial,?_⟩;intro R hR;have hc:=he.cells;have cq0:=he.cell ceb0;have cq1:=he.cell ceb1;have cq2:=he.cell ceb2;have cq3:=he.cell ceb3;have cq4:=he.cell ceb4;have cq5:=he.cell ceb5;have cq6:=he.cell ceb6;have cq7:=he.cell ceb7;go_simp;refine hR _ _ (Ext.refl _) ?_ trivial;rfl
 intro γ w5 hx5 hF;have p1:GG 0 23 w5 (γ 1) (AZ (cz l)):=AJ.get hF 1 Ab;clear hF;simp only[Br,Nat.reduceAdd];generalize γ 1=g1 at *;clear γ;have HP1:=Ad p1;obtain⟨cA,cn,cc,rfl⟩:=p1.cell;have hlim:=HU.out.2.lim;have hin:Bi 51 #[.agg #[.slice cA cn cc],.agg #[.bool b1,.slice B1 m1 k1,.bool b2,.slice B2 m2 k2],.agg #[.bool b3,.slice B3 m3 k3,.bool b4,.slice B4 m4 k4]] w5 (fun r _=>r = .int .i64 X0):=by
  obtain⟨S,hC⟩:=HU.out.2.chn;have hq:=HJ.out.2;have h9:D*(M+100000+1)≤900*(M+100000+1):=Nat.mul_le_mul_right _ hlim.2;have:=TZ _ _ _ (AZ (cz l)) (-(2:Rat)^j) ((2:Rat)^j) 0 S D M 100000 (kn (AZ (cz l))) w5 HP1.out (H3.out.1.ext hx5) (H3.out.2.1.ext hx5) hC HU.out.2.k Aa Aa Aa;have e:((V (EL (AZ (cz l)) (pd (AZ (cz l))) (kn (AZ (cz l)))) (-(2:Rat)^j):Nat):Int) - (V (EL (AZ (cz l)) (pd (AZ (cz l))) (kn (AZ (cz l)))) ((2:Rat)^j):Nat)=X0:=by
   rw[HX0.out,←HJ.out.1];exact FI HU.out.2.k _ _
  rw[e]at this;exact this
 have HI:=Ad hin;clear hin p1
 go_wp2_with fail
 refine AO HI.out ?_;rintro r6 w6 rfl hx6;have hx7:=(hx.trans hx5).trans hx6;clear hx5 hx6;have HF:=Ad (show TQ (cz l) X0 (.tuple #[.int .i64 X0,.int .i64 0]) by unfold TQ;rw[←HE.out];rfl);go_wp2;refine bodyPost_ret (v := .tuple #[.int .i64 X0,.int .i64 0]) (by simp[results,Tryz.results17,go_sem]) rfl ?_;exact Ah.mk HF.out hx7
end Go.Proofs.YtmhgnigpmompmaaGreat
namespace Go.Hp
open Go.RowKit
theorem EA.lower{base b:Nat}{e:TypeId}{w:World}{v:Value}{l:List (Rat×Rat)}(h:EA base e w v l)(hb:b≤base):EA b e w v l:=by
 obtain⟨ess,g1,g2,⟨g3,g4⟩,g5⟩:=h;refine⟨ess,g1,g2,⟨g3,?_⟩,g5⟩;rcases g4 with h4 | ⟨g,cap,cur,a,c,d⟩
 ·exact .inl h4
 ·exact .inr ⟨g,cap,cur,a,Nat.le_trans hb c,d⟩
def R6(F:Nat→Rat)(r:Value)(w:World):Prop:=∃ z,r = .tuple #[z,.int .i64 (Bf F)]∧(Bf F=0→AQ w z (2^bx F))∧(Bf F≠0→z = .agg #[.bool false,.slice none 0 0])
def VC(base:Nat)(t:TypeId)(F:Nat→Rat)(N:Nat)(r:Value)(w:World):Prop:=∃ c,r = .tuple #[c,.int .i64 (Bf F)]∧(Bf F=0→EA base t w c (Iw (rc (AZ F)) N (-(2:Rat)^bx F) ((2:Rat)^bx F)))∧(Bf F≠0→c = .slice none 0 0)
def GZ(F:Nat→Rat)(p q:Rat)(r:Value):Prop:=r = .tuple #[.int .i64 (if Bf F=0∧p≤q then rc (AZ F) p q else 0),.int .i64 (if Bf F=0 then(if p≤q then 0 else 2)else Bf F)]
end Go.Hp
namespace Go.Proofs.YtmhgnigpmompmaaGreat
open Go.RowKit Go.Hp
theorem V3(v:Value)(l:List Int)(D M:Nat)(w:World)(hv:EO 0 w v l)(hn:l.length≤1000000)(hR:Bf (cz l)=0→Pg (cz l) D M) :
  Bi 27 #[v] w (fun r w'=>R6 (cz l) r w'):=by
 have HV:=Ad (Au hv hR);obtain⟨A,c,rfl⟩:=hv.len;clear hv hR
 go_enter Tryz.func27,Tryz.ntmps27
 obtain⟨W1,eW1,ez,y1⟩:=AU.made w 26 #[.bool false,.slice none 0 0] (by simp[Aj])
 go_upto_region 1 with(fail)
 rw[←eW1];clear eW1;have hx:=y1;clear y1
 go_wp2_with fail
 refine AO (Gj _ l _ (HV.out.1.ext hx) hn) ?_;rintro r2 w2 ⟨u,rfl,hu1,hu2⟩ hx2;have hgz:=ez.lt;replace ez:=ez.ext hx2;replace hx:=hx.trans hx2;clear hx2;obtain⟨E,hE⟩:∃ E,E=Bf (cz l):=⟨_,rfl⟩
 have hc:=Cf (cz l);rw[←hE]at hu1 hu2 hc ⊢;have HE:=Ad hE;clear hE;have fin:E≠0→∀ {W:World},Ext w W→Ah w (fun r w'=>R6 (cz l) r w') (.returned (.tuple #[.agg #[.bool false,.slice none 0 0],.int .i64 E])) W:=fun hne W h=>Ah.mk ⟨_,by rw[←HE.out],fun e=>absurd (HE.out.trans e) hne,fun _=>rfl⟩ h;have Hfin:=Ad fin;clear fin;rcases hc with⟨-,hc⟩ | ⟨-,hc⟩ | ⟨h0,hp,-,hc⟩
 ·subst hc
  clear hu1 hu2;obtain⟨cez0,cez1⟩:=ez.cells2;have fez:=ez.frozen;go_wp2;obtain⟨W3,eW,ez',U⟩:=ez.put2 (.bool false) (.slice none 0 0) rfl rfl;rw[←eW];clear eW ez;replace hx:=U.from_ hx Af;have ez:=ez';clear U ez';clear cez0 cez1 fez;obtain⟨cez0,cez1⟩:=ez.cells2;have fez:=ez.frozen;refine bodyPost_ret (v := .tuple #[.agg #[.bool false,.slice none 0 0],.int .i64 5]) (by simp[results,Tryz.results27,go_sem,cez0,cez1]) rfl ?_
  exact Hfin.out Ab hx
 ·subst hc
  clear hu1 hu2;obtain⟨cez0,cez1⟩:=ez.cells2;have fez:=ez.frozen;go_wp2;obtain⟨W3,eW,ez',U⟩:=ez.put2 (.bool false) (.slice none 0 0) rfl rfl;rw[←eW];clear eW ez;replace hx:=U.from_ hx Af;have ez:=ez';clear U ez';clear cez0 cez1 fez;obtain⟨cez0,cez1⟩:=ez.cells2;have fez:=ez.frozen;refine bodyPost_ret (v := .tuple #[.agg #[.bool false,.slice none 0 0],.int .i64 7]) (by simp[results,Tryz.results27,go_sem,cez0,cez1]) rfl ?_
  exact Hfin.out Ab hx
 ·subst hc
  have hR:=HV.out.2 HE.out.symm;have hu:=hu1 rfl;obtain⟨A1,c1,rfl,-⟩:=hu.shape;have HU:=Ad (Au hu hR);clear hu1 hu2 hR h0 hu
  go_wp2_with fail
  refine AO (P6 _ (cz l) D M _ HU.out.1 HU.out.2) ?_;rintro r4 w4 hr4 hx4;obtain⟨b5,A5,n5,c5,rfl⟩:=hr4.cells;clear HU;replace ez:=ez.ext hx4;replace hx:=hx.trans hx4;clear hx4;obtain⟨cez0,cez1⟩:=ez.cells2;have fez:=ez.frozen;go_wp2;obtain⟨W3,eW,ez',U⟩:=ez.put2 (.bool b5) (.slice A5 n5 c5) rfl rfl;rw[←eW];clear eW ez;replace hr4:=hr4.kd U.kd;replace hx:=U.from_ hx Af;have ez:=ez';clear U ez';clear cez0 cez1 fez
  obtain⟨cez0,cez1⟩:=ez.cells2;have fez:=ez.frozen;have HF:=Ad (show R6 (cz l) (.tuple #[.agg #[.bool b5,.slice A5 n5 c5],.int .i64 0]) W3 from⟨_,by rw[←HE.out],fun _=>hr4,fun e=>absurd HE.out.symm e⟩);clear hr4;refine bodyPost_ret (v := .tuple #[.agg #[.bool b5,.slice A5 n5 c5],.int .i64 0]) (by simp[results,Tryz.results27,go_sem,cez0,cez1]) rfl ?_;exact Ah.mk HF.out hx
theorem Q4(v u0:Value)(l:List Int)(p q:Rat)(D M t:Nat)(w:World)(hv:EO 0 w v l)(hu0:JS w u0 p q)(hn:l.length≤1000000)(hR:Bf (cz l)=0→Pg (cz l) D M)(hp:qsz p≤t)(hq:qsz q≤t)(ht:t≤10000000) :
  Bi 16 #[v,u0] w (fun r _=>GZ (cz l) p q r):=by
 have HV:=Ad (Au hv (Au hR (Au hp hq)));obtain⟨A,c,rfl⟩:=hv.len;obtain⟨b1,B1,m1,k1,b2,B2,m2,k2,b3,B3,m3,k3,b4,B4,m4,k4,rfl,hi1,hi2⟩:=hu0;have hsg:=Ep (p:=p) (q:=q);have HI:=Ad (Au hi1 (Au hi2 (show qsz p+qsz q < 274877906944 by omega)));clear hv hR hi1 hi2;obtain⟨X0,hX0⟩:∃ X,X=rc (AZ (cz l)) p q:=⟨_,rfl⟩
 have HX0:=Ad hX0;clear hX0
 go_enter Tryz.func16,Tryz.ntmps16
 obtain⟨W1,eW1,eb,y1⟩:=AU.made w 30 #[.bool b1,.slice B1 m1 k1,.bool b2,.slice B2 m2 k2,.bool b3,.slice B3 m3 k3,.bool b4,.slice B4 m4 k4] (by simp[Aj])
 go_upto_region 1 with(fail)
 rw[←eW1];clear eW1;have hx:=y1;clear y1
 go_wp2_with fail
 refine AO (Gj _ l _ (HV.out.1.ext hx) hn) ?_;rintro r2 w2 ⟨u,rfl,hu1,hu2⟩ hx2;replace eb:=eb.ext hx2;replace hx:=hx.trans hx2;clear hx2;obtain⟨E,hE⟩:∃ E,E=Bf (cz l):=⟨_,rfl⟩
 have hc:=Cf (cz l);rw[←hE]at hu1 hu2 hc ⊢;have HE:=Ad hE;clear hE;have fin:E≠0→∀ {W:World},Ext w W→Ah w (fun r _=>GZ (cz l) p q r) (.returned (.tuple #[.int .i64 0,.int .i64 E])) W:=fun hne W h=>Ah.mk (by unfold GZ;rw[←HE.out,if_neg (fun z=>hne z.1),if_neg hne]) h;have Hfin:=Ad fin;clear fin;rcases hc with⟨-,hc⟩ | ⟨-,hc⟩ | ⟨h0,hpl,-,hc⟩
 ·subst hc
  clear hu1 hu2;go_wp2;refine bodyPost_ret (v := .tuple #[.int .i64 0,.int .i64 5]) (by simp[results,Tryz.results16,go_sem]) rfl ?_;exact Hfin.out Ab hx
 ·subst hc
  clear hu1 hu2;go_wp2;refine bodyPost_ret (v := .tuple #[.int .i64 0,.int .i64 7]) (by simp[results,Tryz.results16,go_sem]) rfl ?_;exact Hfin.out Ab hx
 subst hc;have hR:=HV.out.2.1 HE.out.symm;have hu:=hu1 rfl;obtain⟨A1,c1,rfl,-⟩:=hu.shape;have HU:=Ad (Au hu hR);clear hu1 hu2 hR h0 hu;have h22:=Ext.refl w2;obtain⟨ceb0,ceb1,ceb2,ceb3,ceb4,ceb5,ceb6,ceb7⟩:=eb.cells8;have feb:=eb.frozen
 go_wp2_with fail
 refine AO (Kq _ _ p q _ (HI.out.1.ext hx) (HI.out.2.1.ext hx) HI.out.2.2) ?_;rintro r3 w3 rfl hx3;clear ceb0 ceb1 ceb2 ceb3 ceb4 ceb5 ceb6 ceb7 feb;replace eb:=eb.ext hx3;replace hx:=hx.trans hx3;replace h22:=h22.trans hx3;clear hx3;generalize FM (p - q)=m at *;by_cases hqp:q < p
 ·rw[decide_eq_true hqp]at hsg
  have HF:=Ad (show GZ (cz l) p q (.tuple #[.int .i64 0,.int .i64 2]) by unfold GZ;rw[←HE.out,if_neg (fun z=>by have:=z.2;grind),if_pos rfl,if_neg Ag]);go_wp2;refine bodyPost_ret (v := .tuple #[.int .i64 0,.int .i64 2]) (by simp[results,Tryz.results16,go_sem]) rfl ?_;exact Ah.mk HF.out hx
 rw[decide_eq_false hqp]at hsg;have HW:=Ad (HU.out.1.ext h22);obtain⟨ceb0,ceb1,ceb2,ceb3,ceb4,ceb5,ceb6,ceb7⟩:=eb.cells8;have feb:=eb.frozen
 go_upto_region 6 with(fail)
 refine Ai 6 [21,22,23,24,25,26] [[],[0],[],[2],[],[4],[0,1,2,3,4,5],[0,1,2,3,4,5,6],[0,1,2,3,4,5,6,7]] [0,3] [_,_] [(kv ?_),(fun γ=>γ 1),(kv ?_),(kv ?_),(kv ?_),(kv ?_)] (fun γ w'=>[True,GG 0 23 w' (γ 1) (AZ (cz l)),True,True,True,True]) BQ Av Av BS Av BU C9 ?hstep1 ?_
 case hstep1 =>
  iterate 6 refine⟨?_,?_⟩
  trivial
  iterate 1 focus
   intro γ w' he hf;clear hf;refine⟨by trivial,?_⟩;intro R hR;have hc:=he.cells;go_simp;refine hR _ _ (Ext.refl _) ?_ trivial;rfl
  ·intro γ w' he hf;clear hf;refine⟨trivial,?_⟩;intro R hR
   go_simp;exact BB (F:=fun r w''=>GG 0 23 w'' (r) (AZ (cz l))) (Ah.imp (Dp _ (cz l) D M w' (HW.out.ext he) HU.out.2) fun _ _ h=>h.lower (Nat.zero_le _)) hR
  iterate 4 focus
   intro γ w' he hf;clear hf;refine⟨by trivial,?_⟩;intro R hR;have hc:=he.cells;have cq0:=he.cell ceb0;have cq1:=he.cell ceb1;have cq2:=he.cell ceb2;have cq3:=he.cell ceb3;have cq4:=he.cell ceb4;have cq5:=he.cell ceb5;have cq6:=he.cell ceb6;have cq7:=he.cell ceb7;go_simp;refine hR _ _ (Ext.refl _) ?_ trivial;rfl
 intro γ w5 hx5 hF;have p1:GG 0 23 w5 (γ 1) (AZ (cz l)):=AJ.get hF 1 Ab;clear hF;simp only[Br,Nat.reduceAdd];generalize γ 1=g1 at *;clear γ;have HP1:=Ad p1;obtain⟨cA,cn,cc,rfl⟩:=p1.cell;have hlim:=HU.out.2.lim;have hin:Bi 51 #[.agg #[.slice cA cn cc],.agg #[.bool b1,.slice B1 m1 k1,.bool b2,.slice B2 m2 k2],.agg #[.bool b3,.slice B3 m3 k3,.bool b4,.slice B4 m4 k4]] w5 (fun r _=>r = .int .i64 X0):=by
  obtain⟨S,hC⟩:=HU.out.2.chn;have h9:D*(M+t+1)≤900*(M+t+1):=Nat.mul_le_mul_right _ hlim.2;have:=TZ _ _ _ (AZ (cz l)) p q 0 S D M t (kn (AZ (cz l))) w5 HP1.out (HI.out.1.ext (hx.trans hx5)) (HI.out.2.1.ext (hx.trans hx5)) hC HU.out.2.k HV.out.2.2.1 HV.out.2.2.2 Aa;have e:((V (EL (AZ (cz l)) (pd (AZ (cz l))) (kn (AZ (cz l)))) p:Nat):Int) - (V (EL (AZ (cz l)) (pd (AZ (cz l))) (kn (AZ (cz l)))) q:Nat)=X0:=by
   rw[HX0.out];exact FI HU.out.2.k _ _
  rw[e]at this;exact this
 have HIN:=Ad hin;clear hin p1
 go_wp2_with fail
 refine AO HIN.out ?_;rintro r6 w6 rfl hx6;have hx7:=(hx.trans hx5).trans hx6;clear hx5 hx6;have HF:=Ad (show GZ (cz l) p q (.tuple #[.int .i64 X0,.int .i64 0]) by unfold GZ;rw[←HE.out,if_pos ⟨rfl,Ag⟩,if_pos rfl,if_pos Ag,HX0.out]);go_wp2;refine bodyPost_ret (v := .tuple #[.int .i64 X0,.int .i64 0]) (by simp[results,Tryz.results16,go_sem]) rfl ?_;exact Ah.mk HF.out hx7
theorem L8(v:Value)(l:List Int)(D M N:Nat)(w:World)(hv:EO 0 w v l)(hn:l.length≤1000000)(hR:Bf (cz l)=0→Pg (cz l) D M)
  (hdeep:Bf (cz l)=0→∀ d p q,Hp.Node (-(2:Rat)^bx (cz l)) ((2:Rat)^bx (cz l)) d p q→N≤d→rc (AZ (cz l)) p q≤1) (hN:N≤1000000000) (hD:D≤30) :
  Bi 25 #[v] w (fun r w'=>VC w.heap.size 30 (cz l) N r w'):=by
 have HV:=Ad (Au hv (Au hR hdeep));obtain⟨A,c,rfl⟩:=hv.len;clear hv hR hdeep
 go_enter Tryz.func25,Tryz.ntmps25
 go_wp2_with fail
 refine AO (Gj _ l _ HV.out.1 hn) ?_;rintro r2 w2 ⟨u,rfl,hu1,hu2⟩ hx;obtain⟨E,hE⟩:∃ E,E=Bf (cz l):=⟨_,rfl⟩
 have hc:=Cf (cz l);rw[←hE]at hu1 hu2 hc ⊢;have HE:=Ad hE;clear hE;have fin:E≠0→∀ {W:World},Ext w W→Ah w (fun r w'=>VC w.heap.size 30 (cz l) N r w') (.returned (.tuple #[.slice none 0 0,.int .i64 E])) W:=fun hne W h=>Ah.mk ⟨_,by rw[←HE.out],fun e=>absurd (HE.out.trans e) hne,fun _=>rfl⟩ h;have Hfin:=Ad fin;clear fin;rcases hc with⟨-,hc⟩ | ⟨-,hc⟩ | ⟨h0,hpl,-,hc⟩
 ·subst hc
  clear hu1 hu2;go_wp2;refine bodyPost_ret (v := .tuple #[.slice none 0 0,.int .i64 5]) (by simp[results,Tryz.results25,go_sem]) rfl ?_;exact Hfin.out Ab hx
 ·subst hc
  clear hu1 hu2;go_wp2;refine bodyPost_ret (v := .tuple #[.slice none 0 0,.int .i64 7]) (by simp[results,Tryz.results25,go_sem]) rfl ?_;exact Hfin.out Ab hx
 subst hc;have hR:=HV.out.2.1 HE.out.symm;have hu:=hu1 rfl;obtain⟨A1,c1,rfl,-⟩:=hu.shape;have HU:=Ad (Au hu hR);clear hu1 hu2 hR h0 hu
 go_wp2_with fail
 refine AO (Dp _ (cz l) D M _ HU.out.1 HU.out.2) ?_;rintro r3 w3 hr3 hx3;have hsz3:=hx3.size;have hszx:=hx.size;obtain⟨cA,cn,cc,rfl⟩:=hr3.cell;have HU3:=Ad (HU.out.1.ext hx3);have HC:=Ad hr3;replace hx:=hx.trans hx3;clear hx3;clear hr3
 go_wp2_with fail
 refine AO (PY _ (cz l) D M _ HU3.out HU.out.2) ?_;rintro r4 w4 hr4 hx4;have hsz4:=hx4.size;obtain⟨b1,B1,m1,k1,b2,B2,m2,k2,b3,B3,m3,k3,b4,B4,m4,k4,rfl⟩:=hr4.cells;have HI:=Ad hr4;have HX4:=Ad (hx.trans hx4);clear hr4;have hcall:Calls Tryz.prog 64 #[.agg #[.slice cA cn cc],.slice none 0 0,.agg #[.bool b1,.slice B1 m1 k1,.bool b2,.slice B2 m2 k2,.bool b3,.slice B3 m3 k3,.bool b4,.slice B4 m4 k4]] w4
   (R3 w3.heap.size 30 w4 (.slice none 0 0) ([] ++ Iw (rc (AZ (cz l))) N (-(2:Rat)^bx (cz l)) ((2:Rat)^bx (cz l)))):=by
  obtain⟨S,hC⟩:=HU.out.2.chn;have hbx:=RG HU.out.2.q;have hqj:=Qv (bx (cz l));have hM:=HU.out.2.lim.1;have hpos:=BX (bx (cz l));have hPQ : -(2:Rat)^bx (cz l) < (2:Rat)^bx (cz l):=by grind
  have hsf:=HU.out.2.sf;have h9:D*(M+(3*100000+N+4)+1)≤30*(M+(3*100000+N+4)+1):=Nat.mul_le_mul_right _ hD;have hdp:=HV.out.2.2 HE.out.symm;have hnodes:=TN hsf hPQ hdp N 0 _ _ (Hp.Node.root _ _) Aa;have hlen:(Iw (rc (AZ (cz l))) N (-(2:Rat)^bx (cz l)) ((2:Rat)^bx (cz l))).length≤1000:=by
   have h1:=hnodes.2.1;have h2:rc (AZ (cz l)) (-(2:Rat)^bx (cz l)) ((2:Rat)^bx (cz l))≤1000:=by
    rw[←FI HU.out.2.k];unfold rts;have h3:=Zw (EL (AZ (cz l)) (pd (AZ (cz l))) (kn (AZ (cz l)))) (-(2:Rat)^bx (cz l));rw[Dw]at h3;obtain⟨K0,q1,q2⟩:=F6 hC.f (BJ hC.f) hC.z (Ee hC.z) hC.s hC.d;rw[q1.uniq HU.out.2.k]at q2;have:=hC.e;omega
   omega
  exact Un w3 _ (AZ (cz l)) _ _ _ S D M (kn (AZ (cz l))) N 100000 HC.out hC HU.out.2.k hPQ Aa Aa hdp (fun d p q hn=>hsf.nonneg (Std.le_of_lt (hn.within hPQ).2.1)) Aa
   N 0 _ _ _ _ [] w4 (Hp.Node.root _ _) Aa Aa hx4 (HI.out.has Aa Aa) (EA.nil _ _ _) (by simpa using hlen)
 have HK:=Ad hcall;clear hcall
 go_wp2_with fail
 refine Calls.mono HK.out ?_;rintro e w5 ⟨r5,rfl,hown,U,-⟩;have hx5:Ext w w5:=U.from_ HX4.out (fun g hg=>by simp[blk,Value.ownBlock]at hg);have HF:=Ad (show VC w.heap.size 30 (cz l) N (.tuple #[r5,.int .i64 0]) w5 from⟨r5,by rw[←HE.out],fun _=>EA.lower hown Aa,fun e=>absurd HE.out.symm e⟩);clear hown U hx hx4;go_wp2;refine bodyPost_ret (v := .tuple #[r5,.int .i64 0]) (by simp[results,Tryz.results25,go_sem]) rfl ?_
 exact Ah.mk HF.out hx5
end Go.Proofs.YtmhgnigpmompmaaGreat
namespace Go.Hp
structure Fg(F:Nat→Rat):Prop where
 z:ZI F
 f:Ae F
 n0:F≠pz
 p:pl F≤7
 b:∀ i,(F i).num.natAbs≤4095
theorem FK{F:Nat→Rat}(z:ZI F){i s:Nat}(hs:1≤s)(h:(F i).num.natAbs < bp s):qsz (F i)≤s:=by
 have h3:=Ci h;rw[z.num i,Bo];omega
theorem Fg.q{F:Nat→Rat}(h:Fg F)(i:Nat):qsz (F i)≤1:=FK h.z Ab (Nat.lt_of_le_of_lt (h.b i) Ab)
theorem Qr{F:Nat→Rat}(z:ZI F)(f:Ae F){n X:Nat}(hp:pl F≤n+1)(h:∀ i,(F i).num.natAbs≤X)(i:Nat):(pd F i).num.natAbs≤n*X:=by
 have e:pd F i=((((i+1:Nat):Int)*(F (i+1)).num:Int):Rat):=by
  show((i+1:Nat):Rat)*F (i+1)=_
  conv=>lhs;rw[z.num (i+1)]
  push_cast;rfl
 rw[e];show(((i+1:Nat):Int)*(F (i+1)).num).natAbs≤_;rw[Int.natAbs_mul];by_cases hi:i+1≤n
 ·exact Nat.mul_le_mul hi (h _)
 ·have:F (i+1)=0:=(AC f) _ Aa
  rw[this];simp
theorem Vg{F:Nat→Rat}(z:ZI F)(f:Ae F)(h0:F≠pz){X:Nat}(h:∀ i,(F i).num.natAbs≤X)(i:Nat):(pp F i).num.natAbs≤X:=by
 rw[N9 z f h0];show((F i).num / pcn F).natAbs≤X;exact Nat.le_trans (Int.natAbs_ediv_le_natAbs _ _) (h i)
theorem XW{F:Nat→Rat}(z:ZI F){X:Nat}(h:∀ i,(F i).num.natAbs≤X):Iu ((X:Nat):Rat) F:=fun i=>by
 rw[z.num i,IQ];exact_mod_cast h i
theorem Y4{F:Nat→Rat}(z:ZI F){X:Nat}(h:Iu ((X:Nat):Rat) F)(i:Nat):(F i).num.natAbs≤X:=by
 have:=h i;rw[z.num i,IQ]at this;exact_mod_cast this
theorem Ww(a b c d:Nat):((a:Nat):Rat)*(((b:Nat):Rat)*((c:Nat):Rat)*((d:Nat):Rat)*((d:Nat):Rat))=((a*(b*c*d*d):Nat):Rat):=by push_cast;rfl
theorem Fg.w{F:Nat→Rat}(h:Fg F):(∀ i,(AZ F i).num.natAbs≤7*(4095*7*15^7*15^7))∧pl (AZ F)≤7:=by
 have hP:=Bz.pp h.z h.f h.n0;have hS:=Ei h.z h.f h.n0;have hpl:=EW h.z h.f;have hd:Il (pp F) (AZ F):=by
  obtain⟨hC,hW,e,-,-⟩:=Fb hP;exact⟨yc (pp F),hC.z,hC.f,by rw[Bc];exact e⟩
 have h1:=Yh hP.z hP.f hP.n hS.p.z hS.p.f hd (n:=7) (by rw[hpl];exact h.p) (XW hP.z (Vg h.z h.f h.n0 h.b));refine⟨Y4 hS.p.z ?_,?_⟩
 ·intro i
  have:=h1 i;refine Std.le_trans this ?_;have e:(1:Rat)+2*((7:Nat):Rat)=((15:Nat):Rat):=by exact_mod_cast(rfl:1+2*7=15)
  rw[e,JV];have:((7:Nat):Rat)*(((4095:Nat):Rat)*((7:Nat):Rat)*((15^7:Nat):Rat)*((15^7:Nat):Rat))=((7*(4095*7*15^7*15^7):Nat):Rat):=Ww 7 4095 7 _;rw[this];exact Std.le_refl _
 ·have:=Dv.le hS.p.f hP.f hP.n (M4 hd)
  rw[hpl]at this;have:=h.p;omega
theorem Fg.chn{F:Nat→Rat}(h:Fg F):Kc (AZ F) 3 (pl (AZ F)+pl (pd (AZ F))) 32768∧pl (AZ F)+pl (pd (AZ F))≤13:=by
 obtain⟨h1,h2⟩:=h.w;have hS:=Ei h.z h.f h.n0;have h3:=Kv hS.p.f;have h4:=AR hS.p.f hS.p.n;have hD:pl (AZ F)+pl (pd (AZ F))≤13:=by omega
 have hp:2^(pl (AZ F)+pl (pd (AZ F)))≤2^13:=Nat.pow_le_pow_right Ab hD;have hm:(pl (AZ F)+pl (pd (AZ F))+1)*(32768+1)≤14*32769:=Nat.mul_le_mul_right _ Aa;refine⟨⟨hS.p.z,hS.p.f,fun i=>FK hS.p.z Ab (Nat.lt_of_le_of_lt (h1 i) (by decide +kernel)),fun i=>FK (Ee hS.p.z) Ab (Nat.lt_of_le_of_lt (Qr hS.p.z hS.p.f (n:=6) Aa h1 i) (by decide +kernel)),rfl,Aa,Aa,Aa⟩,hD⟩
theorem Fg.sim{F:Nat→Rat}(h:Fg F):Ue F 1 7 16384 36000:=by
 have hP:=Bz.pp h.z h.f h.n0;have hpl:=EW h.z h.f;have hpn:=Vg h.z h.f h.n0 h.b;exact⟨h.z,h.f,h.n0,h.q,fun i=>FK (Ee hP.z) Ab (Nat.lt_of_le_of_lt (Qr hP.z hP.f (n:=6) (by rw[hpl];exact h.p) hpn i) Ab),
  fun i=>Ya hP (n:=7) (s:=1) (by rw[hpl];exact h.p) Ab (fun i=>FK hP.z Ab (Nat.lt_of_le_of_lt (hpn i) Ab)) Ab i,h.p,Ab,Ab,Ab,Ab⟩
theorem Fg.err{F:Nat→Rat}(h:Fg F):Bf F=0:=by
 refine KQ h.n0 (by have:=h.p;omega) fun⟨i,b,h1,h2⟩=>?_;have:=h1.le (m:=12) (Nat.lt_of_le_of_lt (h.b i) Ab);omega
theorem Fg.pg{F:Nat→Rat}(h:Fg F):Pg F (pl (AZ F)+pl (pd (AZ F))) 32768:=
 ⟨h.z,h.f,h.n0,h.err,fun i=>Nat.le_trans (h.q i) Ab,by have:=h.p;omega,⟨1,7,16384,36000,h.sim⟩,⟨3,h.chn.1⟩⟩
theorem Xr{S D b:Nat}(hS:S≤3)(hD:D≤13)(hb:b≤400):Lu S D b≤660000000:=by
 have hp:2^D≤8192:=Nat.le_trans (Nat.pow_le_pow_right Ab hD) Ab;have h1:(S+1)*2^D≤4*8192:=Nat.mul_le_mul Aa hp;have h2:(D+1)*((S+1)*2^D+1)≤14*32769:=Nat.mul_le_mul Aa Aa;have h3:b*(D+1)≤400*14:=Nat.mul_le_mul hb Aa;have h4:(3+b)*D≤403*13:=Nat.mul_le_mul Aa hD;have h5:Gw S D b≤50338607:=by unfold Gw;omega
 have h6:D*Gw S D b≤13*50338607:=Nat.mul_le_mul hD h5;unfold Lu NK Uc;omega
theorem Fg.sep{F:Nat→Rat}(h:Fg F){p q:Rat}{E:Nat}(hE:660000000≤E)(hp:ab p≤2^400 - 1)(hq:ab q≤2^400 - 1)(hpq:p < q)(hd:(q - p)*2^E≤1):rc (AZ F) p q≤1:=by
 obtain⟨hC,hD⟩:=h.chn;have hS:=Ei h.z h.f h.n0;have h1:=Xr (S:=3) (b:=400) Ab hD Ab;have h2:=Cr (JR (show Lu 3 (pl (AZ F)+pl (pd (AZ F))) 400≤E by omega)) (show 0≤q - p by grind);exact hS.st.sep hC.s hC.d rfl hp hq hpq (Std.le_trans h2 hd)
theorem Zd{b:Nat}(j:Nat)(h:j+1≤b):(2:Rat)^j≤2^b - 1:=by
 have h1:=JR h;rw[Rat.pow_succ]at h1;have:=LC j;grind
theorem Fg.deep{F:Nat→Rat}(h:Fg F)(d:Nat)(p q:Rat)(hn:Node (-(2:Rat)^bx F) ((2:Rat)^bx F) d p q)(hd:700000000≤d):rc (AZ F) p q≤1:=by
 have hb:=RG h.q;have hpos:=BX (bx F);have hPQ : -(2:Rat)^bx F < (2:Rat)^bx F:=by grind
 obtain⟨w1,w2,w3⟩:=hn.within hPQ;have hB:=Zd (b:=400) (bx F) Aa;have hap:ab p≤2^400 - 1:=ER.2 ⟨Ag,Ag⟩;have haq:ab q≤2^400 - 1:=ER.2 ⟨Ag,Ag⟩;obtain⟨E,hE⟩:∃ E,d=E+(bx F+1):=⟨d - (bx F+1),Aa⟩
 refine h.sep (E:=E) Aa hap haq w2 ?_;have hw:=hn.width;rw[hE,CW,Rat.pow_succ]at hw;have:(q - p)*2^E*(2^bx F*2)=1*(2^bx F*2):=by grind
 have hne:(2:Rat)^bx F*2≠0:=by grind
 have:(q - p)*2^E=1:=by grind
 rw[this];exact Std.le_refl _
theorem KZ:∀ l:List Int,JU 0 l≤l.length - 1
 | []=>Nat.le_refl _
 | s::l=>by
  rw[JU]
  split
  ·have:=KZ l;simp;omega
  ·rename_i h
   rw[if_neg (show ¬ (0:Int) = -s by omega)];have:=UQ l s;simp;omega
theorem PT:pl (cz [-2,0,1])=3:=JP (Cw [-2,0,1]) (fun _=>by decide +kernel)
theorem YC:cz [-2,0,1]≠pz:=fun e=>by have:=PT;rw[e,C8]at this;omega
theorem Fs:Fg (cz [-2,0,1]):=by
 refine⟨ZI.cz _,Ae.cz _,YC,by rw[PT];decide,fun i=>?_⟩
 match i with
 | 0=>decide +kernel
 | 1=>decide +kernel
 | 2=>decide +kernel
 | i+3=>rw[Gs Ac];decide
theorem RX(x:Rat):ev (cz [-2,0,1]) x = -2+x*x:=by
 rw[Es (Cw [-2,0,1]) x];show cz [-2,0,1] 0+x*(cz [-2,0,1] 1+x*(cz [-2,0,1] 2+x*0))=_;have h0:cz [-2,0,1] 0 = -2:=by decide +kernel
 have h1:cz [-2,0,1] 1=0:=by decide +kernel
 have h2:cz [-2,0,1] 2=1:=by decide +kernel
 rw[h0,h1,h2];grind
theorem Wy:ld (cz [-2,0,1])=1:=by unfold ld;rw[PT];decide +kernel
theorem Yu:SF (cz [-2,0,1]):=by
 refine⟨⟨ZI.cz _,Ae.cz _,YC,by rw[Wy];decide,?_⟩,?_⟩
 ·have h:=Fs
  have h1:cn (cz [-2,0,1])∣1:=by
   have h2:=GH (F:=cz [-2,0,1]) (Ae.cz _) 2;have h3:(cz [-2,0,1] 2).num=1:=by decide +kernel
   rw[h3]at h2;exact Int.natCast_dvd_natCast.1 h2
  exact Nat.dvd_one.1 h1
 ·have e:∀ i,pd (cz [-2,0,1]) i=cs 0 (cs 2 pz) i:=fun i=>by
   match i with
   | 0=>decide +kernel
   | 1=>decide +kernel
   | i+2 =>
    show((i+2+1:Nat):Rat)*cz [-2,0,1] (i+3)=pz i;rw[Gs Ac,Rat.mul_zero];rfl
  have e':pd (cz [-2,0,1])=cs 0 (cs 2 pz):=funext e;have f':cz [-2,0,1]=cs (-2) (cs 0 (cs 1 pz)):=funext fun i=>by
   match i with
   | 0=>decide +kernel
   | 1=>decide +kernel
   | 2=>decide +kernel
   | i+3=>rw[Gs Ac];rfl
  refine⟨cs (-(1 / 2)) pz,cs 0 (cs (1 / 4) pz),Ae.pz.cs _,(Ae.pz.cs _).cs _,?_⟩;rw[e',f'];simp only[Jo,Ct]
  funext i
  match i with
  | 0=>simp only[pad,psc,cs,pz,pone];grind
  | 1=>simp only[pad,psc,cs,pz,pone];grind
  | 2=>simp only[pad,psc,cs,pz,pone];grind
  | 3=>simp only[pad,psc,cs,pz,pone];grind
  | i+4=>simp only[pad,psc,cs,pz,pone];grind
theorem Sd{F:Nat→Rat}(h:SF F):AZ F=F:=by
 have e:pp F=F:=h.p.self;have h2:=Vr h h.p (Dv.refl F);have h3:=Fb h.p;unfold AZ;rw[e];refine h3.2.1.eq_dv h.p ⟨yc F,h3.1.f,?_⟩ h2;rw[Bc];exact h3.2.2.1
theorem Vv:AZ (cz [-2,0,1])=cz [-2,0,1]:=Sd Yu
theorem aB:bx (cz [-2,0,1])=2:=by
 refine(P2.bx ?_).symm;rw[PT];have h0:cz [-2,0,1] 0 = -2:=by decide +kernel
 have h1:cz [-2,0,1] 1=0:=by decide +kernel
 have e1:Gx (cz [-2,0,1]) 1=2:=by
  show(if (0:Rat) < ab (cz [-2,0,1] 0 / ld (cz [-2,0,1]))then ab (cz [-2,0,1] 0 / ld (cz [-2,0,1]))else 0)=2;rw[h0,Wy];decide +kernel
 have e2:Gx (cz [-2,0,1]) (3 - 1)=2:=by
  show(if Gx (cz [-2,0,1]) 1 < ab (cz [-2,0,1] 1 / ld (cz [-2,0,1]))then ab (cz [-2,0,1] 1 / ld (cz [-2,0,1]))else Gx (cz [-2,0,1]) 1)=2;rw[e1,h1,Wy];decide +kernel
 rw[e2];refine⟨by decide +kernel,fun i hi=>?_⟩
 match i with
 | 0=>decide +kernel
 | 1=>decide +kernel
theorem Yv:rc (cz [-2,0,1]) 0 2=1∧rc (cz [-2,0,1]) (-4) 4=2∧rc (cz [-2,0,1]) (-4) 0=1∧rc (cz [-2,0,1]) 0 4=1:=by
 have hs:=Yu;have e0:ev (cz [-2,0,1]) 0 = -2:=by rw[RX];decide +kernel
 have e2:ev (cz [-2,0,1]) 2=2:=by rw[RX];decide +kernel
 have e4:ev (cz [-2,0,1]) 4=14:=by rw[RX];decide +kernel
 have em:ev (cz [-2,0,1]) (-4)=14:=by rw[RX];decide +kernel
 have h1:1≤rc (cz [-2,0,1]) 0 2:=hs.st.change_counts (by decide +kernel) (by rw[e0];decide +kernel) (by rw[e0,e2];decide +kernel);have h2:1≤rc (cz [-2,0,1]) (-4) 0:=hs.st.change_counts (by decide +kernel) (by rw[em];decide +kernel) (by rw[e0,em];decide +kernel);have h3:=hs.sub (p:=0) (x:=0) (y:=2) (q:=4) (by decide +kernel) (by decide +kernel) (by decide +kernel);have h4:=QV (cz [-2,0,1]) (-4) 0 4
 have h5:rc (cz [-2,0,1]) (-4) 4≤2:=by
  rw[←FI hs.st.k];unfold rts;have h6:V (EL (cz [-2,0,1]) (pd (cz [-2,0,1])) (kn (cz [-2,0,1]))) (-4)≤kn (cz [-2,0,1]) - 1:=by
   have:=KZ ((EL (cz [-2,0,1]) (pd (cz [-2,0,1])) (kn (cz [-2,0,1]))).map fun F=>Bl (ev F (-4)));rw[List.length_map,Dw]at this;exact this
  obtain⟨S,hS⟩:=Cz hs.p.f;obtain⟨T,hT⟩:=Cz (BJ hs.p.f);obtain⟨K,q1,q2⟩:=F6 hs.p.f (BJ hs.p.f) hs.p.z (Ee hs.p.z) (S:=max S T) (fun i=>Nat.le_trans (hS i) (Nat.le_max_left _ _)) (fun i=>Nat.le_trans (hT i) (Nat.le_max_right _ _));rw[Kv hs.p.f,PT]at q2;rw[q1.kn]at h6 ⊢;omega
 omega
theorem Zk(N:Nat):Iw (rc (AZ (cz [-2,0,1]))) (N+1) (-(2:Rat)^bx (cz [-2,0,1])) ((2:Rat)^bx (cz [-2,0,1]))=[(-4,0),(0,4)]:=by
 rw[Vv,aB];have e1:(2:Rat)^2=4:=by decide +kernel
 have e2 : -(2:Rat)^2 = -4:=by decide +kernel
 obtain⟨-,r1,r2,r3⟩:=Yv;rw[e2,e1,Lc Aa Aa];have e3:((-4:Rat)+4) / 2=0:=by decide +kernel
 rw[e3,JO r2,JO r3];rfl
open Go.RowKit
end Go.Hp
namespace Go.Proofs.YtmhgnigpmompmaaGreat
open Go.RowKit Go.Hp
set_option maxRecDepth 20000 in
theorem aM(v:Value)(ns:List Int)(w:World)(hv:PP w v ns)(hn:ns.length≤1000)(hs:∀ n∈ns,-4294967296 < n∧n < 4294967296):Bi 21 #[v] w (fun r w'=>Lt w.heap.size w' r ns):=by
 obtain⟨g,c,rfl,h1,h2,h3⟩:=hv;have H3:=Ad (Au h3 hs);clear h3 hs
 go_enter Tryz.func21,Tryz.ntmps21
 go_wp2
 go_loopw [3,4] (fun ov iv wr=>∃ (k:Nat),k≤ns.length∧iv = .int .i64 k∧DF w.heap.size 26 wr ov (ns.take k)∧Ext w wr) (fun _ iv _=>ns.length - (intOf iv).toNat)
 case atStart=>exact⟨0,Nat.zero_le _,rfl,BD.nil _ _ _ _ _,Ext.refl _⟩
 case round =>
  obtain⟨k,hk,rfl,hown,hx⟩:=hrel;have Hown0:=Ad hown;clear hown;by_cases hkl:k < ns.length
  ·have q0:=hx.cell (H3.out.1 k hkl)
   obtain⟨m,hm⟩:∃ m,m=ns[k]:=⟨_,rfl⟩
   rw[←hm]at q0;have hb:=H3.out.2 ns[k] (List.getElem_mem hkl);rw[←hm]at hb;have Hm:=Ad hm;clear hm
   go_wp2_with fail
   refine AO (bM m _ hb.1 hb.2) ?_;rintro r w2 hr hx2;obtain⟨b5,A5,n5,c5,rfl⟩:=hr.cells;have Hr:=Ad hr;clear hr;have hown:=Hown0.out.ext hx2;have Hown:=Ad hown;clear hown;replace hx:=hx.trans hx2;have hsz:=hx.size;have hlk:(ns.take k).length≤1000:=Nat.le_trans (List.length_take_le _ _) Aa;clear hx2 q0 Hown0
   go_wp2_with (at_builtin;refine BM rfl _ _ 22 rfl u3 (.slice (some ⟨w2.heap.size,0,none⟩) 1 1) rfl rfl (ML w2 w.heap.size _ _ _ _ _ Hown.out Hr.out (by first | (rw[AV];omega) | omega) hsz rfl) ?_)
   first | intro v' w5 hown U | rintro v' w5 ⟨hown,U⟩
   replace hx:=(Hown.out.ext ((Ext.refl w2).alloc _)).from_ U (hx.alloc _) (Nat.le_refl _);have Hown':=Ad hown;clear hown U;go_wp2
   go_roundw
   case rel=>exact⟨k+1,Aa,by go_num,by
    rw[List.take_succ_eq_append_getElem hkl,←Hm.out];exact Hown'.out,hx⟩
   case measure=>simp[intOf]<;>omega
  ·obtain rfl:k=ns.length:=by omega
   have hq:=DF.row Hown0.out;rw[List.take_of_length_le (Nat.le_refl _)]at hq;have Hq:=Ad hq;clear hq Hown0;go_wp2
   go_ret
   exact Ah.mk Hq.out hx
end Go.Proofs.YtmhgnigpmompmaaGreat
namespace Go.Hp
open Go.RowKit
theorem Jb.one{w:World}{cs:Array Value}{p q:Rat}(h:Jb w (.agg cs) p q):∃ b1 A1 n1 c1 b2 A2 n2 c2 b3 A3 n3 c3 b4 A4 n4 c4,cs=#[.bool b1,.slice A1 n1 c1,.bool b2,.slice A2 n2 c2,.bool b3,.slice A3 n3 c3,.bool b4,.slice A4 n4 c4]:=by
 obtain⟨b1,A1,n1,c1,b2,A2,n2,c2,b3,A3,n3,c3,b4,A4,n4,c4,h1⟩:=h.cells;injection h1 with h1;exact⟨_,_,_,_,_,_,_,_,_,_,_,_,_,_,_,_,h1⟩
theorem EA.at_{base n c:Nat}{e:TypeId}{w:World}{A:Option Addr}{l:List (Rat×Rat)}(h:EA base e w (.slice A n c) l){j:Nat}(hj:j < l.length) :
  ∃ g o b1 A1 n1 c1 b2 A2 n2 c2 b3 A3 n3 c3 b4 A4 n4 c4,A=some ⟨g,o,none⟩∧w.cell? ⟨g,o+j*8,none⟩=some (.bool b1)∧w.cell? ⟨g,o+j*8+1,none⟩=some (.slice A1 n1 c1)∧w.cell? ⟨g,o+j*8+2,none⟩=some (.bool b2)∧w.cell? ⟨g,o+j*8+3,none⟩=some (.slice A2 n2 c2) ∧
   w.cell? ⟨g,o+j*8+4,none⟩=some (.bool b3)∧w.cell? ⟨g,o+j*8+5,none⟩=some (.slice A3 n3 c3)∧w.cell? ⟨g,o+j*8+6,none⟩=some (.bool b4)∧w.cell? ⟨g,o+j*8+7,none⟩=some (.slice A4 n4 c4) ∧
   Jb w (.agg #[.bool b1,.slice A1 n1 c1,.bool b2,.slice A2 n2 c2,.bool b3,.slice A3 n3 c3,.bool b4,.slice A4 n4 c4]) l[j].1 l[j].2:=by
 obtain⟨A',c',e1,-,-,hA⟩:=BD.row h;have eA:A'=A:=by injection e1 with h1;exact h1.symm
 subst eA;obtain⟨g,o,ha,hb,hc⟩:=hA Aa;obtain⟨cs,q1,q2,q3⟩:=hc j hj;obtain⟨b1,A1,n1,c1,b2,A2,n2,c2,b3,A3,n3,c3,b4,A4,n4,c4,rfl⟩:=Jb.one q3;refine⟨g,o,b1,A1,n1,c1,b2,A2,n2,c2,b3,A3,n3,c3,b4,A4,n4,c4,ha,?_,?_,?_,?_,?_,?_,?_,?_,q3⟩
 ·exact q2 0 Ab
 ·exact q2 1 Ab
 ·exact q2 2 Ab
 ·exact q2 3 Ab
 ·exact q2 4 Ab
 ·exact q2 5 Ab
 ·exact q2 6 Ab
 ·exact q2 7 Ab
end Go.Hp
namespace Go.Proofs.YtmhgnigpmompmaaGreat
open Go.RowKit Go.Hp
theorem O7(x y:Int)(w:World)(h1 : -4294967296 < x∧x < 4294967296)(h2 : -4294967296 < y∧y < 4294967296):Bi 45 #[.int .i64 x,.int .i64 y] w (fun r w'=>Jb w' r (x:Rat) (y:Rat)):=by
 go_enter Tryz.func45,Tryz.ntmps45
 obtain⟨W1,eW1,ez,y1⟩:=AU.made w 30 #[.bool false,.slice none 0 0,.bool false,.slice none 0 0,.bool false,.slice none 0 0,.bool false,.slice none 0 0] (by simp[Aj])
 go_upto_region 1 with(fail)
 rw[←eW1];clear eW1;have hx:=y1;clear y1
 go_wp2_with fail
 refine AO (bT x _ Aa Aa) ?_;rintro r2 w2 hr2 hx2;obtain⟨b5,A5,n5,c5,b6,A6,n6,c6,rfl⟩:=hr2.cells;have H2:=Ad hr2;clear hr2;have hgz:=ez.lt;replace ez:=ez.ext hx2;replace hx:=hx.trans hx2;clear hx2
 go_wp2_with fail
 refine AO (bT y _ Aa Aa) ?_;rintro r3 w3 hr3 hx3;obtain⟨b7,A7,n7,c7,b8,A8,n8,c8,rfl⟩:=hr3.cells;have p1:=H2.out.ext hx3;replace ez:=ez.ext hx3;replace hx:=hx.trans hx3;clear hx3;obtain⟨cez0,cez1,cez2,cez3,cez4,cez5,cez6,cez7⟩:=ez.cells8;have fez:=ez.frozen;go_wp2;obtain⟨W6,eW,ez',U⟩:=ez.put8 (.bool b5) (.slice A5 n5 c5) (.bool b6) (.slice A6 n6 c6) (.bool b7) (.slice A7 n7 c7) (.bool b8) (.slice A8 n8 c8) rfl rfl rfl rfl rfl rfl rfl rfl
 rw[←eW];clear eW ez;replace p1:=p1.kd U.kd;replace hr3:=hr3.kd U.kd;replace hx:=U.from_ hx Af;have ez:=ez';clear U ez';clear cez0 cez1 cez2 cez3 cez4 cez5 cez6 cez7 fez;obtain⟨cez0,cez1,cez2,cez3,cez4,cez5,cez6,cez7⟩:=ez.cells8;have fez:=ez.frozen;refine bodyPost_ret (v := .agg #[.bool b5,.slice A5 n5 c5,.bool b6,.slice A6 n6 c6,.bool b7,.slice A7 n7 c7,.bool b8,.slice A8 n8 c8]) (by simp[results,Tryz.results45,go_sem,cez0,cez1,cez2,cez3,cez4,cez5,cez6,cez7]) rfl ?_
 exact Ah.mk ⟨_,_,_,_,_,_,_,_,_,_,_,_,_,_,_,_,rfl,p1,hr3⟩ hx
theorem SE(v u:Value)(p q p' q':Rat)(w:World)(hv:Jb w v p q)(hu:Jb w u p' q'):Bi 33 #[v,u] w (fun r _=>r = .bool (decide (p=p'∧q=q'))):=by
 obtain⟨b1,A1,n1,c1,b2,A2,n2,c2,b3,A3,n3,c3,b4,A4,n4,c4,rfl,i1,i2⟩:=hv;obtain⟨d1,B1,m1,k1,d2,B2,m2,k2,d3,B3,m3,k3,d4,B4,m4,k4,rfl,j1,j2⟩:=hu;have H:=Ad (Au i1 (Au i2 (Au j1 j2)));clear i1 i2 j1 j2
 go_enter Tryz.func33,Tryz.ntmps33
 obtain⟨W1,eW1,ea,y1⟩:=AU.made w 30 #[.bool b1,.slice A1 n1 c1,.bool b2,.slice A2 n2 c2,.bool b3,.slice A3 n3 c3,.bool b4,.slice A4 n4 c4] (by simp[Aj]);obtain⟨W2,eW2,eb,y2⟩:=AU.made W1 30 #[.bool d1,.slice B1 m1 k1,.bool d2,.slice B2 m2 k2,.bool d3,.slice B3 m3 k3,.bool d4,.slice B4 m4 k4] (by simp[Aj]);have s1:W1.heap.size=w.heap.size+1:=by rw[eW1,World.size_alloc]
 rw[s1]at eb;have hx:=y1.trans y2;replace ea:=ea.ext y2
 go_upto_region 1 with(fail)
 rw[←eW1,←eW2];clear eW1 eW2 y1 y2 s1;obtain⟨cea0,cea1,cea2,cea3,cea4,cea5,cea6,cea7⟩:=ea.cells8;have fea:=ea.frozen;obtain⟨ceb0,ceb1,ceb2,ceb3,ceb4,ceb5,ceb6,ceb7⟩:=eb.cells8;have feb:=eb.frozen
 go_wp2_with fail
 refine AO (Si _ _ p p' _ (H.out.1.ext hx) (H.out.2.2.1.ext hx)) ?_;rintro r3 w3 rfl hx3;clear cea0 cea1 cea2 cea3 cea4 cea5 cea6 cea7 fea ceb0 ceb1 ceb2 ceb3 ceb4 ceb5 ceb6 ceb7 feb;replace ea:=ea.ext hx3;replace eb:=eb.ext hx3;replace hx:=hx.trans hx3;clear hx3;by_cases hp:p=p'
 ·have hd:decide (p=p')=true:=decide_eq_true hp
  have hq:decide (p=p'∧q=q')=decide (q=q'):=by simp[hp]
  have HQ:=Ad hq;clear hq;rw[hd];have HP:=Ad hp;clear hp;obtain⟨cea0,cea1,cea2,cea3,cea4,cea5,cea6,cea7⟩:=ea.cells8;have fea:=ea.frozen;obtain⟨ceb0,ceb1,ceb2,ceb3,ceb4,ceb5,ceb6,ceb7⟩:=eb.cells8;have feb:=eb.frozen
  go_wp2_with fail
  refine AO (Si _ _ q q' _ (H.out.2.1.ext hx) (H.out.2.2.2.ext hx)) ?_;rintro r4 w4 rfl hx4;generalize decide (q=q')=bb at *;go_wp2
  go_ret
  exact Ah.mk (show Value.bool bb = .bool (decide (p=p'∧q=q'))from by rw[HQ.out]) (hx.trans hx4)
 ·have hd:decide (p=p')=false:=decide_eq_false hp
  have hq:decide (p=p'∧q=q')=false:=decide_eq_false fun z=>hp z.1;have HQ:=Ad hq;clear hq;rw[hd];clear hp;go_wp2
  go_ret
  exact Ah.mk (show Value.bool false = .bool (decide (p=p'∧q=q'))from by rw[HQ.out]) hx
set_option maxRecDepth 20000 in
theorem Wz(w:World):Bi 12 #[] w (fun r _=>r = .bool true):=by
 have K1:=Ad (show ∀ x∈([-2,0,1]:List Int),sz x.natAbs≤1 by decide +kernel);have hcnt:∀ X v u,EO 0 X v [-2,0,1]→JS X u 0 2→Bi 16 #[v,u] X (fun r _=>r = .tuple #[.int .i64 1,.int .i64 0]):=fun X v u hv hu=>by
  refine Ah.imp (Q4 v u [-2,0,1] 0 2 _ 32768 10 X hv hu Ab (fun _=>Fs.pg) (by decide +kernel) (by decide +kernel) Ab) fun r _ h=>?_;rw[h,Fs.err,Vv,Yv.1,if_pos ⟨rfl,by decide +kernel⟩,if_pos rfl,if_pos (by decide +kernel)]
 have hiso:∀ X v,EO 0 X v [-2,0,1]→Bi 25 #[v] X (fun r w'=>∃ c,r = .tuple #[c,.int .i64 0]∧EA 0 30 w' c [(-4,0),(0,4)]):=fun X v hv=>by
  obtain⟨N,h1,h2⟩:∃ N,700000000≤N+1∧N+1≤1000000000:=⟨800000000,Aa,Aa⟩
  refine Ah.imp (L8 v [-2,0,1] _ 32768 (N+1) X hv Ab (fun _=>Fs.pg) (fun _ d p q hn hd=>Fs.deep d p q hn Aa) h2 (by have:=Fs.chn.2;omega)) fun r w' ⟨c,e1,e2,_⟩=>?_;rw[Fs.err]at e1;have:=e2 Fs.err;rw[Zk]at this;exact⟨c,e1,this.lower (Nat.zero_le _)⟩
 have HC:=Ad (Au hcnt hiso);clear hcnt hiso
 go_enter Tryz.func12,Tryz.ntmps12
 go_wp2_with fail
 refine AO (aM _ [-2,0,1] _ (PP.new w _ [-2,0,1] Ab) Ab Ab) ?_;rintro r1 w1 h1 hx;have H1:=Ad (h1.has (fun x hx=>by have:=K1.out x hx;omega));clear h1;replace hx:=hx.a1
 go_wp2_with fail
 refine AO (O7 0 2 _ Aa Aa) ?_;rintro r2 w2 hr2 hx2;have H2:=Ad (Au (H1.out.ext hx2) (show JS w2 r2 0 2 from hr2.has (by decide +kernel) (by decide +kernel)));clear hr2 H1;replace hx:=hx.trans hx2;clear hx2
 go_wp2_with fail
 refine AO (HC.out.1 _ _ _ H2.out.1 H2.out.2) ?_;rintro r3 w3 rfl hx3;have H3:=Ad (H2.out.1.ext hx3);clear H2;replace hx:=hx.trans hx3;clear hx3
 go_wp2_with fail
 refine AO (HC.out.2 _ _ H3.out) ?_;rintro r4 w4 ⟨c4,rfl,hown⟩ hx4;replace hx:=hx.trans hx4;clear hx4;obtain⟨A,c,rfl⟩:=hown.len;obtain⟨g,o,b1,A1,n1,c1,b2,A2,n2,c2,b3,A3,n3,c3,b4,A4,n4,c4,rfl,q0,q1,q2,q3,q4,q5,q6,q7,hi0⟩:=hown.at_ (j:=0) Ab;obtain⟨g',o',d1,B1,m1,k1,d2,B2,m2,k2,d3,B3,m3,k3,d4,B4,m4,k4,e1,s0,s1,s2,s3,s4,s5,s6,s7,hi1⟩:=hown.at_ (j:=1) Ab;cases e1;have HI:=Ad (Au (show Jb w4 _ (-4) 0 from hi0) (show Jb w4 _ 0 4 from hi1));clear hi0 hi1 hown H3
 rw[Nat.zero_mul,Nat.add_zero]at q0 q1 q2 q3 q4 q5 q6 q7;rw[Nat.one_mul]at s0 s1 s2 s3 s4 s5 s6 s7;have hl2:([(-4,0),(0,4)]:List (Rat×Rat)).length=2:=rfl;rw[hl2];clear hl2
 go_upto_region 4 with(fail)
 refine Ai 27 [19,20,21,22,23,24,25,26,27,28,29,30,31,32,33,34,35,36,37,38,39,40,41,42,43,44,45] [[],[0],[0,1],[0,1,2],[0,1,2,3],[0,1,2,3,4],[0,1,2,3,4,5],[0,1,2,3,4,5,6],[0,1,2,3,4,5,6,7],[0,1,2,3,4,5,6,7,8],[0,1,2,3,4,5,6,7,8,9],[0,1,2,3,4,5,6,7,8,9,10],[0,1,2,3,4,5,6,7,8,9,10,11],[0,1,2,3,4,5,6,7,8,9,10,11,12],[0,1,2,3,4,5,6,7,8,9,10,11,12,13],[0,1,2,3,4,5,6,7,8,9,10,11,12,13,14],[0,1,2,3,4,5,6,7,8,9,10,11,12,13,14,15],[0,1,2,3,4,5,6,7,8,9,10,11,12,13,14,15,16],[0,1,2,3,4,5,6,7,8,9,10,11,12,13,14,15,16,17],[0,1,2,3,4,5,6,7,8,9,10,11,12,13,14,15],[0,1,2,3,4,5,6,7,8,9,10,11,12,13,14,15,16,17,18,19],[0,1,2,3,4,5,6,7,8,9,10,11,12,13,14,15,16,17,18,19,20],[0,1,2,3,4,5,6,7,8,9,10,11,12,13,14,15,16,17,18,19,20,21],[0,1,2,3,4,5,6,7,8,9,10,11,12,13,14,15,16,17,18,19,20,21,22],[0,1,2,3,4,5,6,7,8,9,10,11,12,13,14,15,16,17,18,19,20,21,22,23],[0,1,2,3,4,5,6,7,8,9,10,11,12,13,14,15,16,17,18,19,20,21,22,23,24],[0,1,2,3,4,5,6,7,8,9,10,11,12,13,14,15,16,17,18,19,20,21,22],[0,1,2,3,4,5,6,7,8,9,10,11,12,13,14,15,16,17,18,19,20,21,22,23,24,25,26],[0,1,2,3,4,5,6,7,8,9,10,11,12,13,14,15,16,17,18,19,20,21,22,23,24,25,26,27],[0,1,2,3,4,5,6,7,8,9,10,11,12,13,14,15,16,17,18,19,20,21,22,23,24,25,26,27,28]] [3,2,5,4] [_,_,_,_] [(kv ?_),(kv ?_),(kv ?_),(kv ?_),(kv ?_),(kv ?_),(kv ?_),(kv ?_),(kv ?_),(kv ?_),(kv ?_),(kv ?_),(kv ?_),(kv ?_),(kv ?_),(kv ?_),(kv ?_),(kv ?_),(kv ?_),(fun γ=>γ 19),(kv (.bool true)),(kv ?_),(kv ?_),(kv ?_),(kv ?_),(kv ?_),(fun γ=>γ 26)] (fun γ w'=>[True,True,True,True,True,True,True,True,True,True,True,True,True,True,True,True,True,True,True,Jb w' (γ 19) (-4) 0,True,True,True,True,True,True,Jb w' (γ 26) 0 4]) BQ Av Av BS Av BU C9 ?hstep1 ?_
 case hstep1 =>
  iterate 27 refine⟨?_,?_⟩
  trivial
  iterate 19 focus
   intro γ w' he hf;clear hf;refine⟨by trivial,?_⟩;intro R hR;have hc:=he.cells;have cq0:=he.cell q0;have cq1:=he.cell q1;have cq2:=he.cell q2;have cq3:=he.cell q3;have cq4:=he.cell q4;have cq5:=he.cell q5;have cq6:=he.cell q6;have cq7:=he.cell q7;have cq8:=he.cell s0;have cq9:=he.cell s1;have cq10:=he.cell s2;have cq11:=he.cell s3;have cq12:=he.cell s4;have cq13:=he.cell s5;have cq14:=he.cell s6;have cq15:=he.cell s7
   go_simp;(try go_ints);(try(rw[if_neg Aa]));(try(rw[if_pos Aa]));(try go_simp);(try go_ints)
   refine hR _ _ (Ext.refl _) ?_ trivial;rfl
  ·intro γ w' he hf;clear hf;refine⟨rfl,?_⟩;intro R hR
   go_simp;exact BB (O7 (-4) 0 w' Aa Aa) hR
  ·intro γ w' he hf;have f19:Jb w' (γ 19) (-4) 0:=hf 19 Ab;clear hf;refine⟨rfl,?_⟩;intro R hR
   go_simp;exact Po (Ah.imp (SE _ _ (-4) 0 (-4) 0 w' (HI.out.1.ext he) f19) fun _ _ h=>h) hR
  iterate 5 focus
   intro γ w' he hf;clear hf;refine⟨by trivial,?_⟩;intro R hR;have hc:=he.cells;have cq0:=he.cell q0;have cq1:=he.cell q1;have cq2:=he.cell q2;have cq3:=he.cell q3;have cq4:=he.cell q4;have cq5:=he.cell q5;have cq6:=he.cell q6;have cq7:=he.cell q7;have cq8:=he.cell s0;have cq9:=he.cell s1;have cq10:=he.cell s2;have cq11:=he.cell s3;have cq12:=he.cell s4;have cq13:=he.cell s5;have cq14:=he.cell s6;have cq15:=he.cell s7
   go_simp;(try go_ints);(try(rw[if_neg Aa]));(try(rw[if_pos Aa]));(try go_simp);(try go_ints)
   refine hR _ _ (Ext.refl _) ?_ trivial;rfl
  ·intro γ w' he hf;clear hf;refine⟨rfl,?_⟩;intro R hR
   go_simp;exact BB (O7 0 4 w' Aa Aa) hR
 intro γ w5 hx5 hF;have p19:Jb w5 (γ 19) (-4) 0:=AJ.get hF 19 Ab;have p26:Jb w5 (γ 26) 0 4:=AJ.get hF 26 Ab;clear hF;simp only[Br,Nat.reduceAdd];generalize γ 19=g19 at *;generalize γ 26=g26 at *;clear γ;have H5:=Ad (Au (HI.out.2.ext hx5) p26);clear p19 p26 q0 q1 q2 q3 q4 q5 q6 q7 s0 s1 s2 s3 s4 s5 s6 s7
 go_wp2_with fail
 refine AO (SE _ _ 0 4 0 4 _ H5.out.1 H5.out.2) ?_;rintro r6 w6 rfl hx6;have hx7:=(hx.trans hx5).trans hx6;have hd:decide ((0:Rat)=0∧(4:Rat)=4)=true:=decide_eq_true ⟨rfl,rfl⟩;rw[hd];clear hx hx5 hx6 hd;go_wp2
 go_ret
 exact Ah.mk rfl hx7
end Go.Proofs.YtmhgnigpmompmaaGreat
namespace Go.Hp
open Go.RowKit
def Ra(w:World)(g:Nat)(vs:List (Value×List Int)):Prop:=∀ j (h:j < vs.length),w.cell? ⟨g,j,none⟩=some vs[j].1∧EO 0 w vs[j].1 vs[j].2
theorem Ra.ext{w w':World}{g:Nat}{vs:List (Value×List Int)}(h:Ra w g vs)(e:Ext w w'):Ra w' g vs:=fun j hj=>⟨e.cell (h j hj).1,(h j hj).2.ext e⟩
end Go.Hp
namespace Go.Proofs.YtmhgnigpmompmaaGreat
open Go.RowKit Go.Hp
end Go.Proofs.YtmhgnigpmompmaaGreat
namespace Go.Hp
open Go.RowKit
def QS(l:List J5):Prop:=l.length≤1048576∧∀ x∈l,x.2.length≤1048576
end Go.Hp
namespace Go.Proofs.YtmhgnigpmompmaaGreat
open Go.RowKit Go.Hp Go.Deep Go.ChangeShapes Go.ChangeAt
theorem X9{H:Type}(d:DataW H):1≤Rows.uptoBulk d:=by
 cases d with
 | lit l=>cases l<;>simp[Rows.uptoBulk]
 | nil=>simp[Rows.uptoBulk]
 | ptr d=>simp[Rows.uptoBulk]
 | slice elems spare=>simp[Rows.uptoBulk]
 | agg parts=>simp[Rows.uptoBulk]
 | iface t d=>simp[Rows.uptoBulk]
 | map entries=>simp[Rows.uptoBulk]
 | held h=>simp[Rows.uptoBulk]
theorem JY{H:Type}{d:DataW H}{l:List (DataW H)}(h:d∈l):Rows.uptoBulk d≤Rows.uptoBulkAll l:=by
 induction l with
 | nil=>cases h
 | cons x r ih =>
  simp only[Rows.uptoBulkAll];cases List.mem_cons.1 h with
  | inl e=>subst e;omega
  | inr e=>have:=ih e;omega
theorem Qb{H:Type}(l:List (DataW H)):l.length≤Rows.uptoBulkAll l:=by
 induction l with
 | nil=>simp[Rows.uptoBulkAll]
 | cons x r ih=>have:=X9 x;simp only[Rows.uptoBulkAll,List.length_cons];omega
section
variable{H:Type}{enc:TypeId×Value→H}{w:World}{spare:Nat→Bool}{held:Bool}
theorem QM{fuel:Nat}{cs:List Value}{x:DataW H×List MemPlace}(h:DataW.trod enc Tryz.prog w 0 spare held fuel 24 cs=some x):∃ A n c,cs=[.slice A n c]∧n≤Rows.uptoBulk x.1:=by
 rcases open_ints Tryz.underlying24 Tryz.underlying113 ES h with⟨rfl,_⟩ | ⟨a,n,c,zs,rfl,_,hl,hm,hz,rfl,hcell,hwz⟩
 ·exact⟨none,0,0,rfl,Aa⟩
 ·have hzl:n≤zs.length:=by rw[hz];split<;>omega
  refine⟨some a,n,c,rfl,?_⟩;have h1:=Qb (H:=H) (lits .u32 (zs.take n));have h2:(lits (H:=H) .u32 (zs.take n)).length=n:=by simp[lits];omega
  simp only[Rows.uptoBulk];omega
set_option maxRecDepth 100000 in
theorem Rt{fuel:Nat}{cs:List Value}{x:DataW H×List MemPlace}(h:DataW.trod enc Tryz.prog w 0 spare held fuel 26 cs=some x):∃ b A n c,cs=[b,.slice A n c]∧n≤Rows.uptoBulk x.1:=by
 obtain⟨y0,y1,n,rfl,hl,h0,h1⟩:=trod_struct2 Tryz.underlying26 h;rw[show Tryz.prog.cellsOf 26=2 from by kernel_rfl]at hl
 match cs,hl with
 | [c0,c1],_ =>
  rw[show Tryz.prog.cellsOf 24=1 from by kernel_rfl]at h1;obtain⟨A,m,c,e1,hd⟩:=QM h1;simp at e1;subst e1;refine⟨c0,A,m,c,rfl,?_⟩;have:=JY (d:=y1.1) (l:=[y0.1,y1.1]) Ac;simp only[Rows.uptoBulk];omega
set_option maxRecDepth 100000 in
theorem Ug{T fuel:Nat}{v:Value}{x:DataW H×List MemPlace}(hT:Tryz.prog.underlying T=some (.slice 26))(h:DataW.trod enc Tryz.prog w 0 spare held fuel T v.cells.toList=some x)(hv:∃ a n c,v = .slice a n c){l:List J5}(hp:DI w v l)(hb:Rows.uptoBulk x.1≤1048576):QS l:=by
 obtain⟨a0,n0,c0,rfl⟩:=hv;obtain⟨A,cc,e1,g2,g3,g4⟩:=hp;rcases open_slice hT h with⟨hcs,_⟩ | ⟨a,n,c,m,k,D,Pl,hcs,_,hl,hm,hmm,rfl,hel⟩
 ·simp[Value.cells]at hcs
  obtain⟨rfl,rfl,rfl⟩:=hcs;have hl0:l=[]:=by injection e1 with _ h2 _;exact List.eq_nil_of_length_eq_zero h2.symm
  subst hl0;exact⟨Ac,fun x hx=>by simp at hx⟩
 ·simp[Value.cells]at hcs
  obtain⟨rfl,rfl,rfl⟩:=hcs;have hnl:n0=l.length:=by injection e1
  have hAa:A=some a:=by injection e1 with h1;exact h1.symm
  have hnm:n0≤m:=by rw[hmm];split<;>omega
  rw[show Tryz.prog.cellsOf 26=2 from by kernel_rfl]at hel;simp only[Rows.uptoBulk]at hb;have hlen:=Qb (H:=H) ((List.range n0).map D);simp only[List.length_map,List.length_range]at hlen;refine⟨Aa,fun r hr=>?_⟩;obtain⟨j,hj,rfl⟩:=List.getElem_of_mem hr;obtain⟨g,o,hA2,_,hc⟩:=g4 Aa;obtain⟨cs,q1,q2,q3⟩:=hc j hj;obtain⟨cs',h1,h2⟩:=hel j Aa;obtain⟨_,h5,h6⟩:=World.cells?_some h1;rw[hAa]at hA2;injection hA2 with hA2
  subst hA2;have hD:=JY (d:=D j) (l:=(List.range n0).map D) (List.mem_map.2 ⟨j,List.mem_range.2 Aa,rfl⟩);obtain⟨b,A1,m1,c1,rfl,k1⟩:=Rt h2;obtain⟨s,eq,B1,d1,e2,dv⟩:=q3;subst e2;obtain rfl:=QA eq;have t1:=q2 1 Aa;have u1:=h6 1 Aa;rw[Jh,Jh]at u1;rw[t1]at u1;simp at u1;have k1':m1≤Rows.uptoBulk (D j):=k1;omega
end
end Go.Proofs.YtmhgnigpmompmaaGreat
namespace Go.Hp
open Go.RowKit
theorem Fg.chnF{F:Nat→Rat}(h:Fg F):Kc F 1 (pl F+pl (pd F)) 16384:=by
 have h3:=Kv h.f;have h4:=AR h.f h.n0;have hD:pl F+pl (pd F)≤13:=by have:=h.p;omega
 have hp:2^(pl F+pl (pd F))≤2^13:=Nat.pow_le_pow_right Ab hD;have hm:(pl F+pl (pd F)+1)*(16384+1)≤14*16385:=Nat.mul_le_mul_right _ Aa;exact⟨h.z,h.f,h.q,fun i=>FK (Ee h.z) Ab (Nat.lt_of_le_of_lt (Qr h.z h.f (n:=6) (by have:=h.p;omega) h.b i) Ab),rfl,Aa,Aa,Aa⟩
theorem Fg.k{F:Nat→Rat}(h:Fg F):MC F (pd F) (kn F)∧kn F≤8:=by
 obtain⟨K,q1,q2⟩:=F6 h.f (BJ h.f) h.z (Ee h.z) h.chnF.s h.chnF.d;rw[q1.kn];have h3:=Kv h.f;have:=h.p;exact⟨q1,Aa⟩
end Go.Hp
namespace Go.Proofs.YtmhgnigpmompmaaGreat
open Go.RowKit Go.Hp
end Go.Proofs.YtmhgnigpmompmaaGreat
namespace Go.Hp
open Go.RowKit
end Go.Hp
namespace Go.Proofs.YtmhgnigpmompmaaGreat
open Go.RowKit Go.Hp
end Go.Proofs.YtmhgnigpmompmaaGreat
namespace Go.Hp
open Go.RowKit
end Go.Hp
namespace Go.Proofs.YtmhgnigpmompmaaGreat
open Go.RowKit Go.Hp Go.Deep Go.ChangeShapes Go.ChangeAt
variable{H:Type}{enc:TypeId×Value→H}{w:World}{spare:Nat→Bool}{held:Bool}
end Go.Proofs.YtmhgnigpmompmaaGreat
namespace Go.Hp
open Go.RowKit
end Go.Hp
namespace Go.Proofs.YtmhgnigpmompmaaGreat
open Go.RowKit Go.Hp
set_option maxRecDepth 20000 in
theorem V8(v:Value)(l:List Int)(w:World)(hv:EO 0 w v l)(hn:l.length≤1000000) :
  Bi 44 #[v] w (fun r _=>r = .int .i64 (Bf (cz l))):=by
 have fF:Ae (cz l):=Ae.cz l;obtain⟨A,c,rfl⟩:=hv.len;have hdg:∀ X,Ext w X→Bi 15 #[.slice A l.length c] X (fun r _=>r = .int .i64 ((pl (cz l):Int) - 1)):=fun X x=>TC _ l X (hv.ext x) Aa;have HD:=Ad hdg;have HV:=Ad hv;clear hdg hv;have hpl:pl (cz l)≤l.length:=BR (Cw l);obtain⟨N,hN⟩:∃ N,N=pl (cz l):=⟨_,rfl⟩
 rw[←hN]at HD hpl;have HN:=Ad hN;clear hN
 go_enter Tryz.func44,Tryz.ntmps44
 go_wp2_with fail
 refine AO (HD.out _ (Ext.refl _)) ?_;rintro r w1 rfl hx1;by_cases h0:N=0
 ·have hz:cz l=pz:=(Bw fF).1 (by rw[←HN.out];exact h0)
  have hr:=Ad (JZ hz);clear hz;subst h0;go_wp2
  go_ret
  exact Ah.mk (by rw[hr.out];rfl) hx1
 have hnz:cz l≠pz:=fun e=>h0 (by rw[HN.out,e,C8]);have HZ:=Ad hnz;clear hnz
 go_wp2_with fail
 refine AO (HD.out _ hx1) ?_;rintro r w2 rfl hx2;have hx:=hx1.trans hx2;clear hx1 hx2;have hbig:decide ((N:Int) - 1 > 32)=decide (33 < N):=by by_cases h:33 < N<;>simp[h]<;>omega
 have HB0:=Ad hbig;clear hbig;go_wp2
 go_loopw [3,4] (fun bv iv wr=>∃ (b:Bool) (i:Nat),i≤l.length∧bv = .bool b∧iv = .int .i64 (i:Nat)∧(b=true→33 < N∨Nq (cz l))∧(b=false→¬ 33 < N∧∀ j,j < i→∀ b,BL (cz l j).num.natAbs b→b≤4096)∧Ext w wr) (fun bv iv _=>l.length - (intOf iv).toNat)
 case atStart=>exact⟨decide ((N:Int) - 1 > 32),0,Aa,rfl,rfl,fun h => .inl (by simp at h;omega),fun h=>⟨by simp at h;omega,fun j hj=>Aa⟩,hx⟩
 case round =>
  clear hx;obtain⟨b,i,hi,rfl,rfl,ht,hf,hx⟩:=hrel;have HL:=Ad (Au ht hf);clear ht hf;by_cases hil:i < l.length
  ·cases b with
   | true =>
    go_wp2
    go_roundw
    case rel=>exact⟨true,i+1,Aa,rfl,by go_num,fun _=>HL.out.1 (by trivial),fun h=>(by cases h),hx⟩
    case measure=>simp[intOf];omega
   | false =>
    obtain⟨g,o,b3,A3,n3,c3,e3,-,q0,q1,hq⟩:=HV.out.at_ hil;cases e3;obtain⟨y,hy⟩:∃ y,y=l[i]:=⟨_,rfl⟩
    rw[←hy]at hq;have HI:=Ad (Au hq (show cz l i=(y:Rat) by rw[Dn hil,hy]));clear hq hy;replace q0:=hx.cell q0;replace q1:=hx.cell q1
    go_wp2_with fail
    refine AO (YQ _ y _ (HI.out.1.ext hx)) ?_;rintro r w3 ⟨b,rfl,hbl⟩ hx3;have HB:=Ad hbl;clear hbl q0 q1;replace hx:=hx.trans hx3;clear hx3;have hcast:(cz l i).num.natAbs=y.natAbs:=by rw[HI.out.2];rfl
    have HC:=Ad hcast;clear hcast;by_cases hbb:4096 < b
    ·go_wp2
     go_roundw
     case rel=>exact⟨true,i+1,Aa,Af,by go_num,fun _ => .inr ⟨i,b,by rw[HC.out];exact HB.out,hbb⟩,fun h=>(by cases h),hx⟩
     case measure=>simp[intOf];omega
    ·go_wp2
     go_roundw
     case rel=>exact⟨false,i+1,Aa,Af,by go_num,fun h=>(by cases h),fun _=>⟨(HL.out.2 (by trivial)).1,fun j hj b' hb'=>by
      rcases Nat.lt_or_ge j i with q | q
      ·exact(HL.out.2 (by trivial)).2 j q b' hb'
      ·obtain rfl:j=i:=by omega
       rw[HC.out]at hb';have:=hb'.uniq HB.out;omega⟩,hx⟩
     case measure=>simp[intOf];omega
  ·obtain rfl:i=l.length:=by omega
   cases b with
   | true =>
    have hr:=Ad (FY HZ.out (by rw[←HN.out];exact HL.out.1 (by trivial)));go_wp2
    go_ret
    exact Ah.mk (by rw[hr.out];rfl) hx
   | false =>
    have hnw:¬ Nq (cz l):=fun⟨j,b,h1,h2⟩=>by
     rcases Nat.lt_or_ge j l.length with q | q
     ·have:=(HL.out.2 (by trivial)).2 j q b h1;omega
     ·rw[Gs q]at h1
      have:=h1.uniq BL.zero;omega
    have hr:=Ad (KQ HZ.out (by rw[←HN.out];exact(HL.out.2 (by trivial)).1) hnw);clear hnw;go_wp2
    go_ret
    exact Ah.mk (by rw[hr.out];rfl) hx
end Go.Proofs.YtmhgnigpmompmaaGreat
namespace Go.Hp
theorem SF.rc_deg{F:Nat→Rat}(hs:SF F)(p q:Rat):rc F p q≤((pl F - 1:Nat):Int):=by
 rw[←FI hs.st.k];unfold rts;have h6:V (EL F (pd F) (kn F)) p≤kn F - 1:=by
  have:=KZ ((EL F (pd F) (kn F)).map fun F=>Bl (ev F p));rw[List.length_map,Dw]at this;exact this
 obtain⟨S,hS⟩:=Cz hs.p.f;obtain⟨T,hT⟩:=Cz (BJ hs.p.f);obtain⟨K,q1,q2⟩:=F6 hs.p.f (BJ hs.p.f) hs.p.z (Ee hs.p.z) (S:=max S T) (fun i=>Nat.le_trans (hS i) (Nat.le_max_left _ _)) (fun i=>Nat.le_trans (hT i) (Nat.le_max_right _ _));rw[Kv hs.p.f]at q2;rw[q1.kn]at h6 ⊢;omega
theorem YO{F:Nat→Rat}(z:ZI F)(f:Ae F)(h0:F≠pz):pl (AZ F)≤pl F:=Dv.le (Ei z f h0).p.f f h0 (Kb z f h0)
theorem VB{F:Nat→Rat}(z:ZI F)(f:Ae F)(h0:F≠pz)(h1:pl F≤1){p q:Rat}(hpq:p≤q):rc (AZ F) p q=0:=by
 have hs:=Ei z f h0;have a:=hs.rc_deg p q;have b:=hs.nonneg hpq;have c:=YO z f h0;omega
noncomputable def hfp(R:Rat→Rat→Int)(c:Rat×Rat):Rat×Rat:=if R c.1 ((c.1+c.2) / 2)=1 then(c.1,(c.1+c.2) / 2)else((c.1+c.2) / 2,c.2)
noncomputable def CK(R:Rat→Rat→Int)(p q:Rat):Nat→Rat×Rat
 | 0=>(p,q)
 | k+1=>hfp R (CK R p q k)
theorem DU(R:Rat→Rat→Int)(p q:Rat):∀ k,Node p q k (CK R p q k).1 (CK R p q k).2
 | 0=>Node.root p q
 | k+1=>by
  have h:=(DU R p q k).half;show Node p q (k+1) (hfp R (CK R p q k)).1 (hfp R (CK R p q k)).2;unfold hfp
  split
  ·exact h.1
  ·exact h.2
theorem XJ{F:Nat→Rat}(h:SF F){c:Rat×Rat}(hc:c.1 < c.2)(h1:rc F c.1 c.2=1):rc F (hfp (rc F) c).1 (hfp (rc F) c).2=1:=by
 have a:=QV F c.1 ((c.1+c.2) / 2) c.2;have b1:=h.nonneg (p:=c.1) (q:=(c.1+c.2) / 2) Ag;have b2:=h.nonneg (p:=(c.1+c.2) / 2) (q:=c.2) Ag;unfold hfp
 split
 ·assumption
 ·show rc F ((c.1+c.2) / 2) c.2=1
  omega
theorem T9{F:Nat→Rat}(h:SF F){p q:Rat}(hpq:p < q)(h1:rc F p q=1):∀ k,rc F (CK (rc F) p q k).1 (CK (rc F) p q k).2=1
 | 0=>h1
 | k+1=>XJ h ((DU (rc F) p q k).within hpq).2.1 (T9 h hpq h1 k)
theorem Tk{p q:Rat}{E b k:Nat}(hpq:p < q)(hp:ab p≤2^b - 1)(hq:ab q≤2^b - 1){x y:Rat}(hn:Node p q k x y)(hk:E+b+1≤k):ab x≤2^b - 1∧ab y≤2^b - 1∧x < y∧(y - x)*2^E≤1:=by
 obtain⟨w1,w2,w3⟩:=hn.within hpq;obtain⟨p1,p2⟩:=ER.1 hp;obtain⟨q1,q2⟩:=ER.1 hq;refine⟨ER.2 ⟨Ag,Ag⟩,ER.2 ⟨Ag,Ag⟩,w2,?_⟩;have hw:=hn.width;obtain⟨r,rfl⟩:∃ r,k=E+(b+1)+r:=⟨k - (E+(b+1)),Aa⟩
 rw[CW,CW,Rat.pow_succ]at hw;have h1:=LC r;have h2:=BX b;have h3:=BX E;have hd:0 < (y - x)*2^E:=Rat.mul_pos Ag h3;have e1:(y - x)*2^E*(2^b*2)*2^r≤1*(2^b*2):=by
  have:(y - x)*2^E*(2^b*2)*2^r=q - p:=by rw[←hw];grind
  rw[this];grind
 have hd2:0≤(y - x)*2^E*(2^b*2):=Rat.mul_nonneg (Std.le_of_lt hd) Ag;have e2:(y - x)*2^E*(2^b*2)≤(y - x)*2^E*(2^b*2)*2^r:=by
  have:=Rat.mul_le_mul_of_nonneg_left h1 hd2;rw[Rat.mul_one]at this;exact this
 exact Rat.le_of_mul_le_mul_right (Std.le_trans e2 e1) Ag
structure Uj(F:Nat→Rat):Prop where
 z:ZI F
 f:Ae F
 n0:F≠pz
 d:∀ E,SF E→Dv E F→∀ i,qsz (E i)≤5
theorem TI{D:Nat}(hD:D≤13):Lu 5 D 400≤1000000000:=by
 have hp:2^D≤8192:=Nat.le_trans (Nat.pow_le_pow_right Ab hD) Ab;have h1:(5+1)*2^D≤6*8192:=Nat.mul_le_mul Aa hp;have h2:(D+1)*((5+1)*2^D+1)≤14*49153:=Nat.mul_le_mul Aa Aa;have h5:Gw 5 D 400≤75509000:=by unfold Gw;omega
 have h6:D*Gw 5 D 400≤13*75509000:=Nat.mul_le_mul hD h5;unfold Lu NK Uc;omega
theorem Uj.apart{F G:Nat→Rat}(hF:Uj F)(hG:Uj G)(hD:pl F+pl G≤13){x y:Rat}(hx:ab x≤2^400 - 1)(hy:ab y≤2^400 - 1)(hxy:x < y)(hd:(y - x)*2^1000000000≤1)(h1:rc (AZ F) x y=1)(h0:rc (AZ (D8 F G)) x y=0):rc (AZ G) x y=0:=by
 have sF:=Ei hF.z hF.f hF.n0;have sG:=Ei hG.z hG.f hG.n0;rw[Xu hF.z hF.f hF.n0 hG.z hG.f hG.n0]at h0;obtain⟨U,V,sC,sU,sV,eW,eX,-,-,-,cUX,a1,a2⟩:=sF.meet sG;have b1:=a1 x y (Std.le_of_lt hxy);have dU:Dv U F:=Dv.trans ⟨D8 (AZ F) (AZ G),sC.p.f,eW⟩ (Kb hF.z hF.f hF.n0);have dG:=Kb hG.z hG.f hG.n0;have pU:=Dv.le sU.p.f hF.f hF.n0 dU;have pG:=Dv.le sG.p.f hG.f hG.n0 dG;have hs:=TI (D:=pl U+pl (AZ G)) Aa
 have h2:=Cr (JR hs) (show 0≤y - x by grind);rcases CX.sep sU sG cUX (hF.d U sU dU) (hG.d _ sG dG) rfl hx hy hxy (Std.le_trans h2 hd)with e | e
 ·omega
 ·exact e
theorem Uj.stop{F G:Nat→Rat}(hF:Uj F)(hG:Uj G)(hD:pl F+pl G≤13){p q:Rat}(hpq:p < q)(hp:ab p≤2^400 - 1)(hq:ab q≤2^400 - 1)(h1:rc (AZ F) p q=1)(h0:rc (AZ (D8 F G)) p q=0) :
  ∃ K,K≤1000001000∧rc (AZ G) (CK (rc (AZ F)) p q K).1 (CK (rc (AZ F)) p q K).2=0∧∀ j,j < K→rc (AZ G) (CK (rc (AZ F)) p q j).1 (CK (rc (AZ F)) p q j).2≠0:=by
 have hx:∃ K,K≤1000001000∧rc (AZ G) (CK (rc (AZ F)) p q K).1 (CK (rc (AZ F)) p q K).2=0:=by
  obtain⟨M,hM⟩:∃ M,M=1000001000:=⟨_,rfl⟩
  refine⟨M,Aa,?_⟩;have hn:=DU (rc (AZ F)) p q M;obtain⟨E,hE⟩:∃ E,E=1000000000:=⟨_,rfl⟩
  obtain⟨t1,t2,t3,t4⟩:=Tk (E:=E) hpq hp hq hn Aa;rw[hE]at t4;have o:=T9 (Ei hF.z hF.f hF.n0) hpq h1 M;obtain⟨w1,w2,w3⟩:=hn.within hpq;have kC:=J8 hF.f hG.f hF.z hG.z;have sC:=Ei kC.2.1 kC.1 (UX hF.z hF.f hG.z hG.f hF.n0);have c1:=sC.sub w1 (Std.le_of_lt w2) w3;have c2:=sC.nonneg (Std.le_of_lt w2);exact hF.apart hG hD t1 t2 t3 t4 o Aa
 obtain⟨K,hK,e⟩:=hx;induction K using Nat.strongRecOn with
 | _ K ih =>
  by_cases hj:∃ j,j < K∧rc (AZ G) (CK (rc (AZ F)) p q j).1 (CK (rc (AZ F)) p q j).2=0
  ·obtain⟨j,h1,h2⟩:=hj
   exact ih j h1 Aa h2
  ·exact⟨K,hK,e,fun j hj' he=>hj ⟨j,hj',he⟩⟩
end Go.Hp
