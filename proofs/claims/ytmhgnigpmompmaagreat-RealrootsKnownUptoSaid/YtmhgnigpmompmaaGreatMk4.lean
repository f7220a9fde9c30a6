/- Lemmas. -/
import Derived.Test.YtmhgnigpmompmaaGreatMk1
import Derived.Test.YtmhgnigpmompmaaGreatMk2
import Derived.Test.YtmhgnigpmompmaaGreatMk3
import Derived.Shelf.Strings.BuilderK
import Derived.Shelf.Strconv.Itoa3
import Derived.Test.YtmhgnigpmompmaaGreatChecked
import Derived.WalkKit
import Derived.Laws.IdiomStrings
import Derived.RangeFuncNested
import Derived.RangeFuncBound
import Derived.RangeFuncCalls
import Derived.RangeFuncLeaves
import Derived.Shelf.Abstract
import Derived.Shelf.RegionOpen
import Derived.OwnWalkIn
import Derived.TacticsInMore
import Derived.LoopNIn
import Derived.LoopIn
import Derived.Deep.RegionHeld3
set_option linter.unusedVariables false
set_option linter.unusedSimpArgs false
set_option maxHeartbeats 16000000
namespace Go.Hp
open Go.RowKit
def JE(w:World)(v:Value)(x:Int):Prop:=∃ a,v = .tuple #[a,.int .i64 0]/\AC w a x
theorem JE.ext{w w':World}{v:Value}{x:Int}(h:JE w v x)(e:Ext w w'):JE w' v x:=by
 obtain⟨a,h1,h2⟩:=h;exact⟨a,h1,h2.kd e.kd⟩
theorem BQ.dens{w:World}{b b':Bool}{A A':Option Addr}{n c n' c':Nat}{q:Rat}(h:BQ w (.agg #[.bool b,.slice A n c,.bool b',.slice A' n' c']) q)(hs:qsz q<=274877906944):Bh w (.agg #[.bool b',.slice A' n' c']) (q.den:Int)/\Bh w (.agg #[.bool b,.slice A n c]) q.num:=by
 have h1:=h.parts4;have h2:=M7 q;have h3:=K9 q;exact⟨h1.2.has Aa,h1.1.has Aa⟩
theorem AY.upd{base:Nat}{G:List Nat}{w w':World}{v:Value}{F:Nat->Rat}(h:AY base w v F)(U:Cj G w w')(hG:∀ g∈G,g < base):AY base w' v F:=by
 obtain⟨l,h1,h2,h3⟩:=h;exact⟨l,CE.upd h1 U hG fun _ _ q=>q.kd U.kd,h2,h3⟩
def Ud(bs n:Nat)(F:Nat->Rat)(r:Value)(w':World):Prop:=∃ a b,r = .tuple #[a,b]/\AY bs w' a (pp (Dp n F))/\BQ w' b (LG n F)
theorem Td(n:Nat):Dp n pz=pz:=EF _
theorem Xt(n:Nat):LG n pz=0:=by
 unfold LG;rw[Td,IR];show(0:Rat) / 0=0
 decide +kernel
theorem Uo{F:Nat->Rat}{s:Nat}(z:ZI F)(h:∀ i,qsz (F i)<=s):CD s F:=by
 have h1:=Dw (F 0);have h2:=h 0;refine⟨1,bp s - 1,⟨Aa,fun i=>⟨(F i).num,?_,?_⟩⟩,?_,?_⟩
 ·have e:((1:Nat):Rat)=1:=rfl
  rw[e,<-z.num i];grind
 ·have h3:=Nat.le_trans (FK (F i)) (h i)
  have h4:=Ef.1 h3;omega
 ·have:sz 1=1:=by decide
  omega
 ·have:0 < bp s:=by have:=Ef.1 (show sz 0<=s by have:sz 0=0:=Ab;omega);omega
  exact Cf Aa
theorem Uj{F G:Nat->Rat}{n s t:Nat}(zF:ZI F)(zG:ZI G)(hs:Bq n F)(hn:n < 4294967296)(h:∀ i,qsz (F i)<=s)(k:∀ i,qsz (G i)<=t)(i:Nat):qsz (cv F G i)<=s+t+1:=
 (CD.cv hs hn (Uo zF h) (Uo zG k)).elem i
theorem Js.one{base eb:Nat}{t:TypeId}{w:World}{A:Option Addr}{n c:Nat}{F:Nat->Rat}(hu:AY eb w (.slice A n c) F)(hb:base<=w.heap.size) :
  Js base eb t (w.alloc (.cells #[.slice A n c] t)) (.slice (some ⟨w.heap.size,0,none⟩) 1 1) [.slice A n c] [F]:=by
 have hB:=Be.new w t #[.slice A n c] (by simp[Ag]);refine⟨⟨[#[.slice A n c]],rfl,Ac,⟨Ac,.inr ⟨_,1,_,rfl,hb,hB,Nat.le_refl _,by simp[maxLen],Ac,Ac⟩⟩,fun j h h'=>?_⟩,rfl,OP hB.1 (by simp[Sc]),fun i h h'=>?_⟩
 ·have:j=0:=by simp at h;omega
  subst this;exact⟨rfl,_,_,_,rfl⟩
 ·have:i=0:=by simp at h;omega
  subst this;exact hu.ext ((Ext.refl w).alloc _)
theorem jB{A B:Nat->Rat}(fA:Ae A)(fB:Ae B)(h0:B≠pz):nx A B=psc (if 0 < LG (pl (pr A B)) (pr A B)then -1 else 1) (pp (Dp (pl (pr A B)) (pr A B))):=by
 by_cases h:pr A B=pz
 ·rw[J3 h,h,Xt,Td,IR,EF]
 ·rw[TH h]
  have:=(Uf (AB (EE fA fB)) h).1;by_cases h1:0 < ld (pr A B)
  ·rw[if_pos h1,if_pos (this.2 h1)]
  ·rw[if_neg h1,if_neg (fun q=>h1 (this.1 q))]
theorem JY{q:Rat}:0 < q.num↔0 < q:=by
 have h1:=Rat.num_nonneg (q:=q);have h2:=Rat.num_eq_zero (q:=q);constructor
 ·intro h
  have:0<=q:=h1.1 Aa;have h3:q≠0:=fun e=>by have:=h2.2 e;omega
  grind
 ·intro h
  have:0<=q.num:=h1.2 Af;have h3:q.num≠0:=fun e=>by have:=h2.1 e;grind
  omega
theorem Ut{q:Rat}(h:0 < q):Eb q=1:=Int.sign_eq_one_of_pos (JY.2 h)
theorem iF{q:Rat}(h:¬ 0 < q):Eb q<=0:=by
 unfold Eb;have h1:¬ 0 < q.num:=fun k=>h (JY.1 k);rcases Int.lt_trichotomy q.num 0 with a | a | a
 ·rw[Int.sign_eq_neg_one_of_neg a];omega
 ·rw[a];decide
 ·exact absurd a h1
theorem F7.clear{F0 G0 A B:Nat->Rat}{D S M:Nat}(h:F7 F0 G0 D S A B)(h0:B≠pz)(qA:∀ i,qsz (A i)<=M)(qB:∀ i,qsz (B i)<=M):CD M A/\CD M B/\CD (M+(D+1)*(M+1)) (pr A B):=by
 obtain⟨fA,fB,zA,zB,hd,-,-⟩:=h.facts;have cA:=Uo zA qA;have cB:=Uo zB qB;have hp:=AQ fB h0;refine⟨cA,cB,(CD.pr (n:=pl A+1 - pl B) ((AB fA).mono Aa) fB h0 cA cB).mono ?_⟩;have:(pl A+1 - pl B)*(M+1)<=(D+1)*(M+1):=Nat.mul_le_mul_right _ Aa;omega
def jV(F G:Nat->Rat)(S M:Nat):Prop:=S+1<=M/\∀ k,(∀ j,1<=j->j<=k->Ch F G j≠pz)->(∀ i,qsz (Ch F G k i)<=M)/\∀ i,qsz (Ch F G (k+1) i)<=M
theorem jV.of2{F G:Nat->Rat}{S M:Nat}(fF:Ae F)(fG:Ae G)(zF:ZI F)(zG:ZI G)(qF:∀ i,qsz (F i)<=S)(qG:∀ i,qsz (G i)<=S)(hM:(S+1)*2^(pl F+pl G)<=M):jV F G S M:=
 ⟨Nat.le_trans (by have:=Nat.mul_le_mul_left (S+1) (Nat.one_le_two_pow (n:=pl F+pl G));omega) hM,fun k h=>by
  have f:=(IA fF fG zF zG qF qG k h).facts;exact⟨fun i=>Nat.le_trans (f.2.2.2.2.2.1 i) hM,fun i=>Nat.le_trans (f.2.2.2.2.2.2 i) hM⟩⟩
theorem P5{q:Rat}{s:Nat}(h:qsz q<=s):sz q.num.natAbs<=s:=by unfold qsz at h;omega
theorem Zx{base:Nat}{w:World}{v:Value}{n:Nat}{F:Nat->Rat}{e:TypeId}(h:Dq base e w v (DF n F))(hs:∀ i,i < n->qsz (F i)<=1099511627776):Ey 0 w v (DF n F):=
 LZ.has h.row fun x hx=>by
  obtain⟨i,hi,rfl⟩:=List.getElem_of_mem hx;rw[Cc];have:=hs i (by rw[Bb]at hi;exact hi);unfold qsz at this;omega
theorem aL{la:List Int}{F:Nat->Rat}(e:cz la=F){i:Nat}(h:i < la.length):la[i]=(F i).num:=by
 subst e;rw[Cb h];rfl
theorem jA{F:Nat->Rat}(h:ZI F):ZI (pd F):=fun i=>by
 obtain⟨n,e⟩:=h (i+1);exact⟨((i+1:Nat):Int)*n,by unfold pd;rw[e,Rat.intCast_mul];rfl⟩
theorem Dq.off{base:Nat}{e:TypeId}{w w':World}{v:Value}{l:List Int}{g:Nat}(h:Dq base e w v l)(U:Cj [g] w w')(hg:∀ k∈blk v,k < g):Dq base e w' v l:=
 BH.upd h U (fun k hk hG=>by have:=hg k hk;simp at hG;omega) fun _ _ q=>q.kd U.kd
theorem kE{F G:Nat->Rat}(hF:ZI F)(hG:ZI G)(n:Nat):∀ i,∃ z:Int,sm i (fun j=>F j*G (n - j))=(z:Rat):=fun i =>
 Xn fun j _=>by rw[hF.num j,hG.num (n - j),<-Rat.intCast_mul];exact⟨_,rfl⟩
theorem WU{F G:Nat->Rat}(hF:ZI F)(hG:ZI G)(n i:Nat):(sm (i+1) (fun j=>F j*G (n - j))).num=(sm i (fun j=>F j*G (n - j))).num+(F i).num*(G (n - i)).num:=by
 rw[Br];obtain⟨z,e⟩:=kE hF hG n i;rw[e,hF.num i,hG.num (n - i),<-Rat.intCast_mul,num_add];rfl
def YD(w:World)(v:Value)(X Y:Nat->Rat):Prop:=∃ q r,v = .tuple #[q,r]/\FV 0 w q X/\FV 0 w r Y
theorem YD.ext{w w':World}{v:Value}{X Y:Nat->Rat}(h:YD w v X Y)(e:Ext w w'):YD w' v X Y:=by
 obtain⟨q,r,h1,h2,h3⟩:=h;exact⟨q,r,h1,FV.ext h2 e,FV.ext h3 e⟩
def Pm(e:TypeId)(base:Nat)(w:World)(v:Value)(l:List Nat):Prop:=w.ownsRow base e 1 v l.length (l.map fun d=>Value.int .u8 (d:Nat))
theorem Pm.alloc{e:TypeId}{base:Nat}{w:World}{v:Value}{l:List Nat}(h:Pm e base w v l)(o:Obj):Pm e base (w.alloc o) v l:=World.ownsRow.alloc h o
theorem Pm.from_{e:TypeId}{base:Nat}{a w w':World}{v:Value}{l:List Nat}(h:Pm e base w v l)(hg:w.grownBy w' v.ownBlock)(x:Ext a w)(hb:a.heap.size<=base):Ext a w':=
 x.grown hg fun k hk=>Nat.le_trans hb (World.ownsRow.lt h k hk).1
theorem Pm.row{e:TypeId}{base:Nat}{w:World}{v:Value}{l:List Nat}(h:Pm e base w v l)(h0:l≠[]):∃ g cap,v = .slice (some ⟨g,0,none⟩) l.length cap/\base<=g/\l.length<=cap/\cap<=maxLen/\∀ j (hj:j < l.length),w.cell? ⟨g,j,none⟩=some (.int .u8 (l[j]:Nat)):=by
 rcases h.2 with⟨-,h1⟩ | ⟨g,cap,cur,hv,r⟩
 ·exact absurd (List.eq_nil_of_length_eq_zero h1) h0
 ·refine⟨g,cap,hv,r.1,r.2.2.1,r.2.2.2.1,fun j hj=>?_⟩
  have:=World.ownsRow.cells h (g:=g) (by rw[hv];rfl) j (.int .u8 (l[j]:Nat)) (by simp[hj]);have e:(⟨g,0,none⟩:Addr).add j=⟨g,j,none⟩:=by simp only[Addr.add];split<;>simp_all
  rw[e]at this;exact this
theorem Be.grown{A B:World}{row:Option Nat}{g:Nat}{t:TypeId}{cs:Array Value}(h:Be A g t cs)(hg:A.grownBy B row)(hne:row≠some g):Be B g t cs:=
 ⟨(hg.block g h.lt (fun e=>hne e.symm)).trans h.1,h.2⟩
theorem Pm.ne{e:TypeId}{base g:Nat}{w:World}{v:Value}{l:List Nat}(h:Pm e base w v l)(hg:g < base):v.ownBlock≠some g:=fun e=>by
 have:=(World.ownsRow.lt h g e).1;omega
def dz(n k:Nat)(h:k<=n):List (Fin n):=(List.range k).pmap (fun j (hj:j < n)=>(⟨n - 1 - j,Aa⟩:Fin n)) (fun j hj=>by have:=List.mem_range.1 hj;omega)
theorem Qc{n k:Nat}(h:k+1<=n):dz n (k+1) h=dz n k (by omega) ++ [⟨n - 1 - k,by omega⟩]:=by
 unfold dz;simp[List.range_succ,List.pmap_append]
theorem VO{n k:Nat}(h:k<=n):(dz n k h).length=k:=by simp[dz]
def Fz(W:World)(b o:Nat)(v:Value):Prop:=
 ∃ b1 A1 n1 c1,v = .agg #[.bool b1,.slice A1 n1 c1]/\W.cell? ⟨b,o,none⟩=some (.bool b1)/\W.cell? ⟨b,o+1,none⟩=some (.slice A1 n1 c1)
theorem Fz.below{n₀ b o:Nat}{A B:World}{v:Value}(h:Below n₀ A B)(hb:b < n₀)(c:Fz A b o v):Fz B b o v:=by
 obtain⟨b1,A1,n1,c1,e,q0,q1⟩:=c;exact⟨b1,A1,n1,c1,e,(h.cell (p:=⟨b,o,none⟩) hb).trans q0,(h.cell (p:=⟨b,o+1,none⟩) hb).trans q1⟩
def Wh(n₀ Bs:Nat)(W W':World):Prop:=Below n₀ W W'/\∀ v,W.cell? ⟨Bs,0,none⟩=some v->W'.cell? ⟨Bs,0,none⟩=some v
theorem Wh.refl(n₀ Bs:Nat)(W:World):Wh n₀ Bs W W:=⟨Below.refl _ _,fun _ h=>h⟩
theorem Wh.trans{n₀ Bs:Nat}{A B C:World}(h:Wh n₀ Bs A B)(k:Wh n₀ Bs B C):Wh n₀ Bs A C:=⟨h.1.trans k.1,fun v e=>k.2 v (h.2 v e)⟩
theorem jM{n₀ Bs:Nat}{w:World}(hn:n₀<=w.heap.size)(W:World)(l:Nat)(o o':Obj)(hl:w.heap.size<=l)(h:W.heap[l]? = some o)(h1:o.isCells=false)(h2:o.isWalk=false):Wh n₀ Bs W (W.putObj l o'):=
 ⟨belowK_b hn W l o o' hl h h1 h2,fun v e=>cell_kept e (grownBy_putObj' W l o') (fun r er=>by cases er;exact⟨o,h,h1⟩)⟩
def hac{n:Nat}(F:Nat->Rat)(x:Rat)(pre:List (Fin n)):Rat:=pre.foldl (fun a p=>a*x+F p.1) 0
theorem Rt{n:Nat}(F:Nat->Rat)(x:Rat)(pre:List (Fin n))(p:Fin n):hac F x (pre ++ [p])=hac F x pre*x+F p.1:=by simp[hac]
theorem Ym{n:Nat}(F:Nat->Rat)(x:Rat):∀ k (h:k<=n),hac F x (dz n k h)=hor F x n (n - k)
 | 0,h=>by rw[Nat.sub_zero,TV];rfl
 | k+1,h=>by
  rw[Qc h,Rt,Ym F x k Aa,Np F x (show n - (k+1) < n by omega),show n - (k+1)+1=n - k from by omega];show hor F x n (n - k)*x+F (n - 1 - k)=_;rw[show n - 1 - k=n - (k+1)from by omega]
theorem ZT{n s t:Nat}{F:Nat->Rat}{x:Rat}(hF:∀ i,qsz (F i)<=s)(hx:qsz x<=t)(pre:List (Fin n)):qsz (hac F x pre)<=1+pre.length*(s+t+1):=by
 have key:∀(pre:List (Fin n)) (a:Rat),qsz (pre.foldl (fun a p=>a*x+F p.1) a)<=qsz a+pre.length*(s+t+1):=by
  intro pre;induction pre with
  | nil=>intro a;simp
  | cons p pre ih =>
   intro a;have h1:=ih (a*x+F p.1);have h2:=EM (a*x) (F p.1);have h3:=CG a x;have h4:=hF p.1;rw[List.foldl_cons,List.length_cons,Nat.succ_mul];omega
 have:=key pre 0;have h0:qsz (0:Rat)=1:=by decide
 unfold hac;omega
/-! ### absolute values -/
def ab(q:Rat):Rat:=if q < 0 then -q else q
theorem Aj(q:Rat):0<=ab q:=by unfold ab;split<;>grind
theorem Mo(q:Rat):ab (-q)=ab q:=by unfold ab;split<;>split<;>grind
theorem Fe{q t:Rat}:ab q<=t ↔ -t<=q/\q<=t:=by unfold ab;split<;>grind
theorem U5(q:Rat):q<=ab q:=by unfold ab;split<;>grind
theorem TR{q:Rat}:ab q=0↔q=0:=by unfold ab;split<;>grind
theorem FD(p q:Rat):ab (p+q)<=ab p+ab q:=by unfold ab;split<;>split<;>split<;>grind
theorem WN(p q:Rat):ab (p - q)<=ab p+ab q:=by unfold ab;split<;>split<;>split<;>grind
theorem Sg{q:Rat}:0 < ab q↔q≠0:=by unfold ab;split<;>grind
theorem DJ{q:Rat}(h:0<=q):ab q=q:=by unfold ab;split<;>grind
theorem R7{p q:Rat}(hp:p < 0)(hq:q < 0):0 < p*q:=by
 have:=Rat.mul_pos (a:=-p) (b:=-q) Af Af;grind
theorem JS{p q:Rat}(hp:0 < p)(hq:q < 0):p*q < 0:=by
 have:=Rat.mul_pos (a:=p) (b:=-q) hp Af;grind
theorem Cg(p q:Rat):ab (p*q)=ab p*ab q:=by
 have z0:ab 0=0:=rfl;by_cases p0:p=0
 ·rw[p0,Rat.zero_mul,z0,Rat.zero_mul]
 by_cases q0:q=0
 ·rw[q0,Rat.mul_zero,z0,Rat.mul_zero]
 by_cases a:p < 0<;>by_cases b:q < 0
 ·have:=R7 a b;unfold ab;rw[if_neg (show ¬ p*q < 0 by grind),if_pos a,if_pos b];grind
 ·have:=JS (show 0 < q by grind) a;unfold ab;rw[if_pos (show p*q < 0 by grind),if_pos a,if_neg b];grind
 ·have:=JS (show 0 < p by grind) b;unfold ab;rw[if_pos (show p*q < 0 by grind),if_neg a,if_pos b];grind
 ·have:=Rat.mul_pos (show 0 < p by grind) (show 0 < q by grind);unfold ab;rw[if_neg (show ¬ p*q < 0 by grind),if_neg a,if_neg b]
theorem EP{a b c d:Rat}(h1:a<=b)(h2:c<=d)(hc:0<=c)(hb:0<=b):a*c<=b*d:=by
 have e1:a*c<=b*c:=Rat.mul_le_mul_of_nonneg_right h1 hc;have e2:b*c<=b*d:=Rat.mul_le_mul_of_nonneg_left h2 hb;grind
/-! ### signs -/
def BB(q:Rat):Int:=if 0 < q then 1 else if q < 0 then -1 else 0
theorem DC{q:Rat}:BB q=0↔q=0:=by unfold BB;split<;>(try split)<;>grind
theorem Ej(q:Rat):BB q=0\/BB q=1\/BB q = -1:=by unfold BB;split<;>(try split)<;>simp
def KM:Int->List Int->Nat
 | _,[]=>0
 | last,s::l=>if s=0 then KM last l else(if last = -s then 1 else 0)+KM s l
inductive JA:Int->List (Int×Int)->Prop
 | nil (σ:Int):JA σ []
 | tight (σ p:Int) (l:List (Int×Int)) (hp:p≠0) (h:JA p l):JA σ ((p,p)::l)
 | loose (σ p q:Int) (l:List (Int×Int)) (h:JA (-σ) l):JA σ ((p,q)::(-σ,-σ)::l)
theorem RO{σ p:Int}(hσ:σ=1\/σ = -1)(hp:p=0\/p=1\/p = -1)(l:List Int):KM σ (p :: -σ::l)=1+KM (-σ) l:=by
 rcases hσ with rfl | rfl<;>rcases hp with rfl | rfl | rfl<;>simp[KM]
theorem QX{σ:Int}{l:List (Int×Int)}(h:JA σ l):(σ=1\/σ = -1)->(∀ x∈l,(x.1=0\/x.1=1\/x.1 = -1)/\(x.2=0\/x.2=1\/x.2 = -1))->KM σ (l.map (·.1))=KM σ (l.map (·.2)):=by
 induction h with
 | nil σ=>intro _ _;rfl
 | tight σ p l hp h ih =>
  intro hσ hx;have hpq:=(hx (p,p) Ac).1;have hp1:p=1\/p = -1:=by rcases hpq with a | a | a;exact absurd a hp;exact .inl a;exact .inr a
  have:=ih hp1 (fun x hm=>hx x (by simp[hm]));simp only[List.map_cons,KM,if_neg hp,this]
 | loose σ p q l h ih =>
  intro hσ hx;have hpq:=hx (p,q) Ac;have hσ' : -σ=1 \/ -σ = -1:=by rcases hσ with rfl | rfl;exact .inr rfl;exact .inl rfl
  have:=ih hσ' (fun x hm=>hx x (by simp[hm]));simp only[List.map_cons];rw[RO hσ hpq.1,RO hσ hpq.2,this]
structure KA(m:Nat)(a b:Nat->Rat)(T d:Rat):Prop where
 t1:1<=T
 d0:0 < d
 sm:4*(T*(T*(T*(T*d)))) < 1
 lip:∀ i,i<=m->ab (a i - b i)<=T*d
 beza:∀ i,i < m->∃ U W,U*a i+W*a (i+1)=1/\ab U<=T/\ab W<=T
 bezb:∀ i,i < m->∃ U W,U*b i+W*b (i+1)=1/\ab U<=T/\ab W<=T
 reca:∀ i,i+2<=m->∃ q c,a i=q*a (i+1) - c*a (i+2)/\ab q<=T/\0 < c/\1<=T*c
 recb:∀ i,i+2<=m->∃ q c,b i=q*b (i+1) - c*b (i+2)/\ab q<=T/\0 < c/\1<=T*c
 lst:a m=b m/\a m≠0
 top:1<=m->∃ k r,b 0 - a 0=d*(k*a 1+d*r)/\0 < k/\1<=T*k/\ab r<=T
section
variable{m:Nat}{a b:Nat->Rat}{T d:Rat}
theorem KA.small(h:KA m a b T d):0 < T/\2*(T*d) < 1/\2*(T*(T*d)) < 1/\2*(T*(T*(T*d))) < 1/\0 < T*d/\0 < T*(T*d)/\T*d<=T*(T*d):=by
 have hT:0 < T:=by have:=h.t1;grind
 have hd:=h.d0;have e1:0 < T*d:=Rat.mul_pos hT hd;have e2:0 < T*(T*d):=Rat.mul_pos hT e1;have e3:0 < T*(T*(T*d)):=Rat.mul_pos hT e2;have f1:1*(T*(T*(T*d)))<=T*(T*(T*(T*d))):=Rat.mul_le_mul_of_nonneg_right h.t1 Af;have f2:1*(T*(T*d))<=T*(T*(T*d)):=Rat.mul_le_mul_of_nonneg_right h.t1 Af;have f3:1*(T*d)<=T*(T*d):=Rat.mul_le_mul_of_nonneg_right h.t1 Af;have:=h.sm;refine⟨hT,?_,?_,?_,e1,e2,?_⟩<;>grind
theorem Gg{p q t:Rat}(h:ab (p - q)<=t)(hn:¬ (BB p=BB q/\BB p≠0)):ab p<=t/\ab q<=t:=by
 rw[Fe]at h;rw[Fe,Fe];unfold BB at hn;by_cases a1:0 < p<;>by_cases a2:p < 0<;>by_cases b1:0 < q<;>by_cases b2:q < 0<;>simp_all<;>grind
theorem Uv{x y U W T d:Rat}(hT:0 < T)(h2:2*(T*(T*d)) < 1)(e:U*x+W*y=1)(hU:ab U<=T)(hW:ab W<=T)(hx:ab x<=T*d):1 < 2*(T*ab y):=by
 have h1:ab (U*x)<=T*(T*d):=by rw[Cg];exact EP hU hx (Aj _) Af
 have h3:ab (W*y)<=T*ab y:=by rw[Cg];exact EP hW Af (Aj _) Af
 have h4:=U5 (U*x);have h5:=U5 (W*y);grind
theorem Pk{p q:Rat}(h:ab (p - q) < ab p):BB p=BB q/\BB p≠0:=by
 unfold ab at h;unfold BB
 split at h<;>split at h<;>(split<;>(try split)<;>(try split)<;>(try split))<;>grind
theorem KA.next_tight(h:KA m a b T d){i:Nat}(hi:i < m)(hn:¬ (BB (a i)=BB (b i)/\BB (a i)≠0)) :
  (BB (a (i+1))=BB (b (i+1))/\BB (a (i+1))≠0)/\1 < 2*(T*ab (a (i+1)))/\1 < 2*(T*ab (b (i+1)))/\ab (a i)<=T*d/\ab (b i)<=T*d:=by
 obtain⟨hT,s1,s2,s3,p1,p2,p3⟩:=h.small;obtain⟨l1,l2⟩:=Gg (h.lip i Aa) hn;obtain⟨U,W,e,hU,hW⟩:=h.beza i hi;obtain⟨U',W',e',hU',hW'⟩:=h.bezb i hi;have b1:=Uv hT s2 e hU hW l1;have b2:=Uv hT s2 e' hU' hW' l2;have hl:=h.lip (i+1) Aa;refine⟨Pk ?_,b1,b2,l1,l2⟩;refine Std.lt_of_le_of_lt hl ?_;rcases Std.lt_trichotomy (T*d) (ab (a (i+1)))with c | c | c
 ·exact c
 ·exfalso;rw[<-c]at b1;grind
 ·exfalso
  have:=Rat.mul_lt_mul_of_pos_left c hT;grind
theorem Ug{x y z q c T d:Rat}(hT:0 < T)(hc:0 < c)(hTc:1<=T*c)(hq:ab q<=T)(hy:ab y<=T*d)(hz:1 < 2*(T*ab z))(hs:4*(T*(T*(T*(T*d)))) < 1)(e:x=q*y - c*z)(hd:0 < T*d):BB z = - BB x/\BB x≠0:=by
 have h1:ab (q*y)<=T*(T*d):=by rw[Cg];exact EP hq hy (Aj _) Af
 have h2:T*(T*d) < c*ab z:=by
  -- 1 < 2 T |z| and 1<=T c
  have hz0:0<=ab z:=Aj z;have k1:1*(T*ab z)<=(T*c)*(T*ab z):=Rat.mul_le_mul_of_nonneg_right hTc (by have:=Rat.mul_nonneg (show 0<=T by grind) hz0;grind);have k2:2*(T*(T*(c*ab z))) > 1:=by grind
  have k3:T*(T*(T*(T*d))) < T*(T*(c*ab z)):=by grind
  rcases Std.lt_trichotomy (T*(T*d)) (c*ab z)with a | a | a
  ·exact a
  ·exfalso;rw[a]at k3;grind
  ·exfalso
   have m1:=Rat.mul_lt_mul_of_pos_left a hT;have m2:=Rat.mul_lt_mul_of_pos_left m1 hT;grind
 have h3:=Fe.1 h1;have hzne:z≠0:=fun e0=>by rw[e0]at hz;have:ab 0=0:=rfl;rw[this]at hz;grind
 rcases Std.lt_trichotomy z 0 with a | a | a
 ·have e1:ab z = -z:=by unfold ab;rw[if_pos a]
  rw[e1]at h2;have hx:0 < x:=by grind
  unfold BB;rw[if_neg (show ¬ 0 < z by grind),if_pos a,if_pos hx];exact⟨rfl,Ab⟩
 ·exact absurd a hzne
 ·have e1:ab z=z:=by unfold ab;rw[if_neg Af]
  rw[e1]at h2;have hx:x < 0:=by grind
  unfold BB;rw[if_pos a,if_neg (show ¬ 0 < x by grind),if_pos hx];exact⟨rfl,Ab⟩
def TB(a b:Nat->Rat)(i n:Nat):List (Int×Int):=(List.range n).map fun j=>(BB (a (i+j)),BB (b (i+j)))
theorem KF(a b:Nat->Rat)(i n:Nat):TB a b i (n+1)=(BB (a i),BB (b i))::TB a b (i+1) n:=by
 unfold TB;rw[List.range_succ_eq_map,List.map_cons,List.map_map,Nat.add_zero];congr 1;refine List.map_congr_left fun j _=>?_;show(BB (a (i+(j+1))),BB (b (i+(j+1))))=(BB (a (i+1+j)),BB (b (i+1+j)));rw[show i+(j+1)=i+1+j by omega]
theorem KA.good(h:KA m a b T d):∀(n i:Nat),i+n=m->(BB (a i)=BB (b i)/\BB (a i)≠0)->JA (BB (a i)) (TB a b (i+1) n):=by
 intro n;induction n using Nat.strongRecOn with
 | ind n ih =>
  intro i hi ht
  match n,ih,hi with
  | 0,_,_=>exact JA.nil _
  | n+1,ih,hi =>
   rw[KF];by_cases hn:BB (a (i+1))=BB (b (i+1))/\BB (a (i+1))≠0
   ·rw[<-hn.1]
    exact JA.tight _ _ _ hn.2 (ih n Aa (i+1) Aa hn)
   ·have hlt:i+1 < m:=by
     rcases Nat.lt_or_ge (i+1) m with c | c
     ·exact c
     ·exfalso
      have e:i+1=m:=by omega
      rw[e]at hn;exact hn ⟨by rw[h.lst.1],fun z=>h.lst.2 (DC.1 z)⟩
    obtain⟨hT,s1,s2,s3,p1,p2,p3⟩:=h.small;obtain⟨t1,t2,t3,t4,t5⟩:=h.next_tight hlt hn;obtain⟨q,c,e,hq,hc,hTc⟩:=h.reca i Aa;obtain⟨q',c',e',hq',hc',hTc'⟩:=h.recb i Aa;have o1:=(Ug hT hc hTc hq t4 t2 h.sm e p1).1;have o2:=(Ug hT hc' hTc' hq' t5 t3 h.sm e' p1).1
    match n,ih,hi with
    | 0,_,hi=>omega
    | n+1,ih,hi =>
     rw[KF];have ob:BB (b (i+1+1)) = - BB (a i):=by rw[ht.1];exact o2
     have oa:BB (a (i+1+1)) = - BB (a i):=o1;rw[ob,oa];refine JA.loose _ _ _ _ ?_;rw[<-oa];exact ih n Aa (i+1+1) Aa t1
theorem O6(a b:Nat->Rat)(i n:Nat):∀ x∈TB a b i n,(x.1=0\/x.1=1\/x.1 = -1)/\(x.2=0\/x.2=1\/x.2 = -1):=fun x hx=>by
 obtain⟨j,-,rfl⟩:=List.mem_map.1 hx;exact⟨Ej _,Ej _⟩
def Vi(a:Nat->Rat)(n:Nat):Nat:=KM 0 ((List.range n).map fun j=>BB (a j))
theorem Z4(a b:Nat->Rat)(n:Nat):(TB a b 0 n).map (·.1)=(List.range n).map fun j=>BB (a j):=by
 unfold TB;rw[List.map_map];refine List.map_congr_left fun j _=>?_;simp
theorem Zh(a b:Nat->Rat)(n:Nat):(TB a b 0 n).map (·.2)=(List.range n).map fun j=>BB (b j):=by
 unfold TB;rw[List.map_map];refine List.map_congr_left fun j _=>?_;simp
theorem KA.sturm(h:KA m a b T d):Vi a (m+1)=Vi b (m+1)+(if BB (a 0)≠0/\BB (b 0)≠BB (a 0)then 1 else 0):=by
 have k1:Vi a (m+1)=KM 0 ((TB a b 0 (m+1)).map (·.1)):=by rw[Z4];rfl
 have k2:Vi b (m+1)=KM 0 ((TB a b 0 (m+1)).map (·.2)):=by rw[Zh];rfl
 rw[k1,k2,KF];simp only[List.map_cons];by_cases ht:BB (a 0)=BB (b 0)/\BB (a 0)≠0
 ·have hg:=h.good m 0 Aa ht
  have hσ:BB (a 0)=1\/BB (a 0) = -1:=by rcases Ej (a 0)with c | c | c;exact absurd c ht.2;exact .inl c;exact .inr c
  have:=QX hg hσ (O6 _ _ _ _);rw[if_neg (fun q=>q.2 ht.1.symm)];simp only[KM,<-ht.1,if_neg ht.2,this];rfl
 ·have hm:0 < m:=by
   rcases Nat.eq_zero_or_pos m with c | c
   ·subst c;exact absurd ⟨by rw[h.lst.1],fun z=>h.lst.2 (DC.1 z)⟩ ht
   ·exact c
  obtain⟨n,rfl⟩:∃ n,m=n+1:=⟨m - 1,Aa⟩
  obtain⟨hT,s1,s2,s3,p1,p2,p3⟩:=h.small;obtain⟨t1,t2,t3,t4,t5⟩:=h.next_tight hm ht;have hg:=h.good n 1 Aa t1;have hσ:BB (a 1)=1\/BB (a 1) = -1:=by rcases Ej (a 1)with c | c | c;exact absurd c t1.2;exact .inl c;exact .inr c
  have hv:=QX hg hσ (O6 _ _ _ _);rw[KF];simp only[List.map_cons]
  -- the direction
  obtain⟨k,r,e,hk,hTk,hr⟩:=h.top Aa;have hd:=h.d0;have hdir:0 < ab (a 1)/\d*ab r < k*ab (a 1):=by
   have ha:0 < ab (a 1):=Sg.2 fun z=>t1.2 (DC.2 z);refine⟨ha,?_⟩;have g1:d*ab r<=d*T:=Rat.mul_le_mul_of_nonneg_left hr Af;have k1:1*(T*ab (a 1))<=(T*k)*(T*ab (a 1)):=Rat.mul_le_mul_of_nonneg_right hTk (by have:=Rat.mul_pos hT ha;grind);have k2:2*(T*(T*(k*ab (a 1)))) > 1:=by have:=t2;grind
   have k3:T*(T*(T*d)) < T*(T*(k*ab (a 1))):=by grind
   rcases Std.lt_trichotomy (T*d) (k*ab (a 1))with c | c | c
   ·grind
   ·exfalso;rw[c]at k3;grind
   ·exfalso
    have m1:=Rat.mul_lt_mul_of_pos_left c hT;have m2:=Rat.mul_lt_mul_of_pos_left m1 hT;grind
  have hup:(0 < a 1->a 0 < b 0)/\(a 1 < 0->b 0 < a 0):=by
   have hr2:=Fe.1 (Std.le_refl (ab r));have hdr:d*r<=d*ab r/\d*(-r)<=d*ab r:=⟨Rat.mul_le_mul_of_nonneg_left hr2.2 Af,Rat.mul_le_mul_of_nonneg_left Af Af⟩
   refine⟨fun hp=>?_,fun hp=>?_⟩
   ·have e1:ab (a 1)=a 1:=by unfold ab;rw[if_neg Af]
    rw[e1]at hdir;have:=Rat.mul_pos hd (show 0 < k*a 1+d*r by grind);grind
   ·have e1:ab (a 1) = - a 1:=by unfold ab;rw[if_pos hp]
    rw[e1]at hdir;have:=JS hd (show k*a 1+d*r < 0 by grind);grind
  have hcase:(BB (a 0) = - BB (a 1)/\BB (b 0) ≠ - BB (a 1))\/(BB (a 0)=0/\BB (b 0)=BB (a 1)):=by
   rcases hσ with c | c
   ·have hp:0 < a 1:=by unfold BB at c;split at c;assumption;split at c<;>simp at c
    have h1:=hup.1 hp;rw[c];unfold BB at ht ⊢;by_cases a1:0 < a 0<;>by_cases a2:a 0 < 0<;>by_cases b1:0 < b 0<;>by_cases b2:b 0 < 0<;>simp_all<;>grind
   ·have hp:a 1 < 0:=by unfold BB at c;split at c;simp at c;split at c;assumption;simp at c
    have h1:=hup.2 hp;rw[c];unfold BB at ht ⊢;by_cases a1:0 < a 0<;>by_cases a2:a 0 < 0<;>by_cases b1:0 < b 0<;>by_cases b2:b 0 < 0<;>simp_all<;>grind
  have key:∀ p,(p=0\/p=1\/p = -1)->KM 0 (p::BB (a 1)::(TB a b (0+1+1) n).map (·.2))=(if p = - BB (a 1)then 1 else 0)+KM (BB (a 1)) ((TB a b (0+1+1) n).map (·.2)):=by
   intro p hp;rcases hσ with c | c<;>rw[c]<;>rcases hp with rfl | rfl | rfl<;>simp[KM]
  have e1:(0+1+1)=1+1:=rfl;have ez:BB (b (0+1))=BB (a 1):=t1.1.symm;rw[ez];have kb:=key (BB (b 0)) (Ej _);have ka:=key (BB (a 0)) (Ej _);have hx:KM 0 (BB (a 0)::BB (a (0+1))::(TB a b (0+1+1) n).map (·.1))=KM 0 (BB (a 0)::BB (a 1)::(TB a b (0+1+1) n).map (·.2)):=by
   have:BB (a (0+1))=BB (a 1):=rfl;rw[this];rcases hσ with c | c<;>rw[c]at hv ⊢ <;> rcases Ej (a 0)with q | q | q<;>rw[q]<;>simp only[KM]<;>simp[e1,hv]
  rw[hx,ka,kb];rcases hcase with⟨c1,c2⟩ | ⟨c1,c2⟩
  ·have n1:BB (a 0)≠0:=by rw[c1];rcases hσ with q | q<;>rw[q]<;>decide
   rw[if_pos c1,if_neg c2,if_pos ⟨n1,fun q=>c2 (q.trans c1)⟩];omega
  ·have n1:¬ (BB (a 0) = - BB (a 1)):=by rw[c1];rcases hσ with q | q<;>rw[q]<;>decide
   have n2:¬ (BB (b 0) = - BB (a 1)):=by rw[c2];rcases hσ with q | q<;>rw[q]<;>decide
   rw[if_neg n1,if_neg n2,if_neg (fun q=>q.1 c1)];omega
end
theorem Fh(q:Rat):Eb q=BB q:=by
 unfold BB
 split
 ·rename_i h;exact Ut h
 ·split
  ·rename_i h1 h
   have h2:=JY (q:=-q);have h3:(-q).num = -q.num:=rfl;have h4:0 < -q:=by grind
   have:=h2.2 h4;exact Int.sign_eq_neg_one_of_neg Aa
  ·rename_i h1 h2
   have:q=0:=by grind
   rw[this];rfl
noncomputable def V(l:List (Nat->Rat))(x:Rat):Nat:=KM 0 (l.map fun F=>BB (ev F x))
theorem Xa(l:List Int):∀ σ,KM σ l<=l.length:=by
 induction l with
 | nil=>intro σ;exact Nat.le_refl _
 | cons s l ih =>
  intro σ;rw[KM]
  split
  ·have:=ih σ;simp;omega
  ·have:=ih s
   split<;>simp<;>omega
theorem Zg{g:Nat->Rat}{n s:Nat}(h:Bn g)(hn:pl g<=n)(hn9:n<=16)(hs:∀ i,qsz (g i)<=s)(hs9:s<=5)(k:Nat) :
  (∀ i,qsz ((yw (y0 g) (yc g) k).1 i)<=36000)/\(∀ i,qsz ((yw (y0 g) (yc g) k).2 i)<=36000)/\pl (yw (y0 g) (yc g) k).1+pl (yw (y0 g) (yc g) k).2<=n+1:=by
 obtain⟨hC,hW,e,d1,-⟩:=Ec h;obtain⟨p1,p2⟩:=P6 hW hC k;obtain⟨e1,e2⟩:=Xl hW hC k;have dW:J6 g (y0 g):=⟨yc g,hC.z,hC.f,by rw[AX];exact e⟩
 have l1:=Dv.le p1.f hW.f hW.n (MH e1);have l2:=Dv.le p2.f hC.f hC.n (MH e2);have l3:=Ee hW.f hC.f hW.n hC.n;rw[<-e]at l3;have:=hW.pos;exact⟨Ux h.z h.f h.n p1.z p1.f (IY dW e1) hn hn9 hs hs9,Ux h.z h.f h.n p2.z p2.f (IY d1 e2) hn hn9 hs hs9,Aa⟩
theorem OX{g:Nat->Rat}{n s:Nat}(h:Bn g)(hn:pl g<=n)(hn9:n<=16)(hs:∀ i,qsz (g i)<=s)(hs9:s<=5)(i:Nat):qsz (yc g i)<=36000:=(Zg h hn hn9 hs hs9 0).2.1 i
def kM(g:Nat->Rat)(K:Nat):Prop:=pl (yw (y0 g) (yc g) K).1<=1/\∀ j,j < K->1 < pl (yw (y0 g) (yc g) j).1
theorem kM.uniq{g:Nat->Rat}{K L:Nat}(h:kM g K)(k:kM g L):K=L:=by
 rcases Nat.lt_trichotomy K L with a | a | a
 ·have:=k.2 K a;have:=h.1;omega
 ·exact a
 ·have:=h.2 L a;have:=k.1;omega
theorem Be.put1{w:World}{g:Nat}{t:TypeId}{a:Value}(h:Be w g t #[a])(u:Value)(hu:Ag u=false):∃ W,W=w.setCell ⟨g,0,none⟩ u/\Be W g t #[u]/\Cj [g] w W:=
 ⟨_,rfl,h.set_ 0 hu,Cj.set_ h.nodig 0 u⟩
theorem Be.cells1{w:World}{g:Nat}{t:TypeId}{a:Value}(h:Be w g t #[a]):w.cell? ⟨g,0,none⟩=some a:=h.cell rfl
theorem AY.up1{g0:Nat}{w w':World}{v:Value}{F:Nat->Rat}(h:AY (g0+1) w v F)(U:Cj [g0] w w'):AY (g0+1) w' v F:=by
 obtain⟨l,⟨A,c,h1,h2,h3,h4⟩,h5,rfl⟩:=h;refine⟨l,⟨A,c,h1,h2,h3,fun h0=>?_⟩,h5,rfl⟩;obtain⟨g,o,ha,hb,hc⟩:=h4 h0;refine⟨g,o,ha,hb,fun j hj=>?_⟩;obtain⟨cs,q1,q2,q3⟩:=hc j hj;refine⟨cs,q1,fun i hi=>?_,q3.kd U.kd⟩;have e:cs[i]? = some (cs[i]'(Aa)):=Array.getElem?_eq_getElem Aa;rw[e];exact NA U Dn ((q2 i hi).trans e)
theorem AY.own{b:Nat}{A B:World}{row:Option Nat}{v:Value}{F:Nat->Rat}(h:AY b A v F)(hg:A.grownBy B row)(hr:∀ r,row=some r->∃ o:Obj,A.heap[r]? = some o/\o.isCells=false):AY b B v F:=by
 obtain⟨l,⟨A',c,h1,h2,h3,h4⟩,h5,rfl⟩:=h;refine⟨l,⟨A',c,h1,h2,h3,fun h0=>?_⟩,h5,rfl⟩;obtain⟨g,o,ha,hb,hc⟩:=h4 h0;refine⟨g,o,ha,hb,fun j hj=>?_⟩;obtain⟨cs,q1,q2,q3⟩:=hc j hj;refine⟨cs,q1,fun i hi=>?_,q3.kd (KD.own hg hr)⟩;have e:cs[i]? = some (cs[i]'(Aa)):=Array.getElem?_eq_getElem Aa;rw[e];exact cell_kept ((q2 i hi).trans e) hg hr
structure Qn(F:Nat->Rat)(S n M T:Nat):Prop where
 z:ZI F
 f:Ae F
 n0:F≠pz
 s:∀ i,qsz (F i)<=S
 d:∀ i,qsz (pd (pp F) i)<=S
 t:∀ i,qsz (yc (pp F) i)<=T
 p:pl F<=n
 n9:n<=16
 m:(S+1)*2^(n+(n - 1))<=M
 b:M+(n+(n - 1)+1)*(M+1)+M<=549755813888
 k:S+(n+2)*(T+1)+T<=1099511627776
theorem Qn.sS{F:Nat->Rat}{S n M T:Nat}(h:Qn F S n M T):S<=M:=by
 have:=Nat.mul_le_mul_left (S+1) (Nat.one_le_two_pow (n:=n+(n - 1)));have:=h.m;omega
structure FW(W:Nat->Rat)(S D M:Nat):Prop where
 z:ZI W
 f:Ae W
 s:∀ i,qsz (W i)<=S
 d:∀ i,qsz (pd W i)<=S
 e:pl W+pl (pd W)=D
 m:jV W (pd W) S M
 b:M+(D+1)*(M+1)<=1000000
 D9:D<=900
def NU(base:Nat)(t:TypeId)(w:World)(v:Value)(W:Nat->Rat):Prop:=∃ c us K,v = .agg #[c]/\PG W (pd W) K/\K<=pl (pd W)+1/\Js base base t w c us (Gp W (pd W) K)
theorem NU.ext{base:Nat}{t:TypeId}{w w':World}{v:Value}{W:Nat->Rat}(h:NU base t w v W)(x:Ext w w'):NU base t w' v W:=by
 obtain⟨c,us,K,h1,h2,h3,h4⟩:=h;exact⟨c,us,K,h1,h2,h3,h4.ext x⟩
theorem FW.SM{W:Nat->Rat}{S D M:Nat}(h:FW W S D M):S < M:=h.m.1
theorem FW.of2{W:Nat->Rat}{S D M:Nat}(z:ZI W)(f:Ae W)(s:∀ i,qsz (W i)<=S)(d:∀ i,qsz (pd W i)<=S)(e:pl W+pl (pd W)=D)(m:(S+1)*2^D<=M)(b:M+(D+1)*(M+1)<=1000000)(D9:D<=900):FW W S D M:=
 ⟨z,f,s,d,e,jV.of2 f (Bw f) z (CU z) s d (by rw[e];exact m),b,D9⟩
theorem Js.upd1{base eb g:Nat}{t t':TypeId}{w w':World}{v x:Value}{us:List Value}{l:List (Nat->Rat)}(h:Js base eb t w v us l)(hx:Sc x=false)(e:Be w g t' #[x])(hg:g < base)(U:Cj [g] w w'):Js base eb t w' v us l:=by
 have hb:=BH.blk_ge h.out;have hne:∀ g'∈blk v,g'∉[g]:=fun g' hg' hm=>by
  have:=hb g' hg';have:g'=g:=by simpa using hm
  omega
 have hN:O7 w (.slice (some ⟨g,0,none⟩) 1 1):=OP e.1 (by simpa using hx);refine⟨BH.upd h.out U hne fun _ _ q=>q,h.len,fun g' hg' i c hc=>?_,fun i a b=>(h.el i a b).updB U fun g' hg'=>hN g' (by simpa[blk,Value.ownBlock] using hg')⟩;obtain⟨o,ho⟩:∃ o,w.heap[g']? = some o:=⟨_,Array.getElem?_eq_getElem (hb g' hg').2⟩
 have hk:=U.1 g' o (hne g' hg') ho;rw[World.cell?_of_block (hk.trans ho.symm)]at hc;exact h.nb g' hg' i c hc
theorem FW.mem{W:Nat->Rat}{S D M K:Nat}(h:FW W S D M)(hK:PG W (pd W) K):∀ F∈Gp W (pd W) K,(∀ i,qsz (F i)<=M)/\pl F<=D/\Ae F:=by
 intro F hF;obtain⟨k,hk,rfl⟩:∃ k,k < K/\F=Ch W (pd W) k:=by
  unfold Gp at hF;obtain⟨k,h1,h2⟩:=List.mem_map.1 hF;exact⟨k,List.mem_range.1 h1,h2.symm⟩
 have hst:∀ j,(∀ i,1<=i->i<=j->Ch W (pd W) i≠pz)->F7 W (pd W) D S (Ch W (pd W) j) (Ch W (pd W) (j+1)):=fun j hj=>by
  rw[<-h.e];exact IA h.f (Bw h.f) h.z (CU h.z) h.s h.d j hj
 obtain⟨f1,f2,z1,z2,hd,q1,q2⟩:=(hst k fun i a b=>hK.2.2 i a Aa).facts;exact⟨(h.m.2 k fun i a b=>hK.2.2 i a Aa).1,Aa,f1⟩
def Sk(F:Nat->Rat):Prop:=∃ i b,BL (F i).num.natAbs b/\4096 < b
noncomputable def D7(F:Nat->Rat):Int:=open Classical in if F=pz then 5 else if 33 < pl F\/Sk F then 7 else 0
theorem Ov{F:Nat->Rat}(h:F=pz):D7 F=5:=by unfold D7;rw[if_pos h]
theorem JD{F:Nat->Rat}(h0:F≠pz)(h:33 < pl F\/Sk F):D7 F=7:=by unfold D7;rw[if_neg h0,if_pos h]
theorem J7{F:Nat->Rat}(h0:F≠pz)(h1:¬ 33 < pl F)(h2:¬ Sk F):D7 F=0:=by unfold D7;rw[if_neg h0,if_neg (fun q=>q.elim h1 h2)]
theorem Fv(F:Nat->Rat):(F=pz/\D7 F=5)\/(F≠pz/\D7 F=7)\/(F≠pz/\pl F<=33/\¬ Sk F/\D7 F=0):=by
 by_cases h0:F=pz
 ·exact .inl ⟨h0,Ov h0⟩
 by_cases h:33 < pl F\/Sk F
 ·exact .inr (.inl ⟨h0,JD h0 h⟩)
 ·exact .inr (.inr ⟨h0,Aa,fun q=>h (.inr q),J7 h0 (fun q=>h (.inl q)) fun q=>h (.inr q)⟩)
theorem dP{F:Nat->Rat}(z:ZI F)(h:¬ Sk F)(i:Nat):qsz (F i)<=129:=by
 obtain⟨b,hb⟩:=BL.ex (F i).num.natAbs;have h1:b<=4096:=by
  rcases Nat.lt_or_ge 4096 b with q | q
  ·exact absurd ⟨i,b,hb,q⟩ h
  ·exact q
 have h2:(F i).num.natAbs < bp 129:=by
  obtain⟨E,hE⟩:∃ E,E=129:=⟨_,rfl⟩
  rw[<-hE,Cq];exact Nat.lt_of_lt_of_le hb.1 (Nat.pow_le_pow_right Ab Aa)
 have h3:=Cf h2;rw[z.num i,Bz];omega
def R6(F:Nat->Rat)(w:World)(r:Value):Prop:=∃ u,r = .tuple #[u,.int .i64 (D7 F)]/\(D7 F=0->AY 0 w u F)/\(D7 F≠0->u = .slice none 0 0)
def jT(b:Nat)(F:Nat->Rat)(w:World)(r:Value):Prop:=∃ u,r = .tuple #[u,.int .i64 (D7 F)]/\(D7 F=0->AY b w u F)/\(D7 F≠0->u = .slice none 0 0)
theorem R6.ext{F:Nat->Rat}{w w':World}{r:Value}(h:R6 F w r)(x:Ext w w'):R6 F w' r:=by
 obtain⟨u,h1,h2,h3⟩:=h;exact⟨u,h1,fun e=>(h2 e).ext x,h3⟩
def jC(F:Nat->Rat)(r:Value):Prop:=∃ b A n c,r = .tuple #[.agg #[.bool b,.slice A n c],.int .i64 (D7 F)]
theorem bM(l:List (Nat->Rat))(x:Rat):V l x<=l.length:=by
 unfold V;have:=Xa (l.map fun F=>BB (ev F x)) 0;simpa using this
def X7(w:World)(v:Value)(x y:Int):Prop:=∃ a b,v = .tuple #[a,b]/\AC w a x/\AC w b y
theorem X7.ext{w w':World}{v:Value}{x y:Int}(h:X7 w v x y)(k:Ext w w'):X7 w' v x y:=by
 obtain⟨a,b,h1,h2,h3⟩:=h;exact⟨a,b,h1,h2.kd k.kd,h3.kd k.kd⟩
theorem Ff.lower{F G:Nat->Rat}{n s t i j:Nat}{Q R:Nat->Rat}(h:Ff F G n s t i Q R)(hj:j<=i)(hs:Bq (j+pl G - 1) R):Ff F G n s t j Q R:=
 ⟨fun m hm=>h.1 m Aa,h.2.1,hs,h.2.2.2.1,h.2.2.2.2.1,h.2.2.2.2.2.1,fun m=>by
  have h1:=h.2.2.2.2.2.2 m;have h2:(n - i)*(t+1)<=(n - j)*(t+1):=Nat.mul_le_mul_right _ Aa;omega⟩
structure Tz(F G:Nat->Rat)(n s t j:Nat)(Q R:Nat->Rat):Prop where
 eq:psc (ld G^j) F=pad (cv Q G) R
 zQ:ZI Q
 zR:ZI R
 fQ:Bq n Q
 fR:Ae R
 deg:pl R+j<=pl F
 qQ:∀ i,qsz (Q i)<=s+j*(t+1)
 qR:∀ i,qsz (R i)<=s+j*(t+1)
theorem Tz.start{F G:Nat->Rat}{n s t:Nat}(hF:Ae F)(hz:ZI F)(hs:∀ i,qsz (F i)<=s):Tz F G n s t 0 pz F where
 eq:=by rw[Rat.pow_zero,Cu,Cv];funext m;simp only[pad,pz];grind
 zQ:=ZI.pz
 zR:=hz
 fQ:=Bq.pz n
 fR:=hF
 deg:=Nat.le_refl _
 qQ:=fun i=>by have h1:=Dw (F 0);have h2:=hs 0;show qsz 0<=_;have:qsz (0:Rat)=1:=Ab;omega
 qR:=fun i=>by have:=hs i;omega
theorem Tz.step{F G:Nat->Rat}{n s t j:Nat}{Q R:Nat->Rat}(h:Tz F G n s t j Q R)(hn:n=pl F+1 - pl G)(fG:Ae G)(h0:G≠pz)(zG:ZI G)(ht:∀ i,qsz (G i)<=t)(hl:pl G<=pl R){k:Nat}(hk:k=pl R - pl G){x:Int}(hx:(x:Rat)=R (pl R - 1)) :
  Tz F G n s t (j+1) (pad (psc (ld G) Q) (mono k (x:Rat))) (psb (psc (ld G) R) (cv (mono k (x:Rat)) G))/\pl (psb (psc (ld G) R) (cv (mono k (x:Rat)) G)) < pl R:=by
 have hp:=AQ fG h0;have hld:=CW fG h0;have zl:∃ y:Int,ld G=(y:Rat):=zG _;obtain⟨y,hy⟩:=zl;have hsup:Bq (k+pl G) (psc (ld G) R):=((AB h.fR).mono Aa).psc _;have e1:(x:Rat)=psc (ld G) R (k+pl G - 1) / ld G:=by
  show _=ld G*R (k+pl G - 1) / ld G;rw[show k+pl G - 1=pl R - 1 from Aa,<-hx];grind
 have hs2:Bq (k+pl G - 1) (psb (psc (ld G) R) (cv (mono k (x:Rat)) G)):=by
  rw[e1];exact EW fG h0 hsup
 have hle:=BX hs2;have hxq:qsz (x:Rat)<=s+j*(t+1):=by rw[hx];exact h.qR _
 have hlq:qsz (ld G)<=t:=ht _;have hj:(j+1)*(t+1)=j*(t+1)+(t+1):=Nat.succ_mul _ _;have o1:qsz (0:Rat)=1:=by decide
 have zsR:ZI (psc (ld G) R):=by rw[hy];exact h.zR.psc y
 have zsQ:ZI (psc (ld G) Q):=by rw[hy];exact h.zQ.psc y
 refine⟨⟨?_,zsQ.pad (ZI.mono k x),zsR.psb ((ZI.mono k x).cv zG),(h.fQ.psc _).pad ((ER k _).mono (by have:=h.deg;omega)),⟨_,hs2⟩,by have:=h.deg;omega,fun i=>?_,fun i=>?_⟩,Aa⟩
 ·have e2:psc (ld G^(j+1)) F=psc (ld G) (psc (ld G^j) F):=by
   rw[C9,Rat.pow_succ,Rat.mul_comm]
  rw[e2,h.eq,D5,Cz]
  funext m;simp only[psc,pad,psb];grind
 ·have a1:=WC zsQ (ZI.mono k x) i i
  have a2:qsz (psc (ld G) Q i)<=qsz (ld G)+qsz (Q i):=CG _ _;have a3:=h.qQ i;have a4:qsz (mono k (x:Rat) i)<=s+j*(t+1):=by
   unfold mono;split
   ·exact hxq
   ·have:=Dw (x:Rat);omega
  show qsz (psc (ld G) Q i+mono k (x:Rat) i)<=_;omega
 ·have a1:=Nq zsR ((ZI.mono k x).cv zG) i i
  have a2:qsz (psc (ld G) R i)<=qsz (ld G)+qsz (R i):=CG _ _;have a3:=h.qR i;have a4:qsz (cv (mono k (x:Rat)) G i)<=qsz (x:Rat)+t:=by
   rw[Gf];show qsz ((x:Rat)*sh k G i)<=_;have b1:=CG (x:Rat) (sh k G i);have b2:qsz (sh k G i)<=t:=by
    unfold sh;split
    ·have:=Dw (ld G);omega
    ·exact ht _
   omega
  show qsz (psc (ld G) R i - cv (mono k (x:Rat)) G i)<=_;omega
theorem Qu(a:Rat)(m:Nat):∀ n:Nat,a^(m+n)=a^m*a^n
 | 0=>by rw[Nat.add_zero,Rat.pow_zero,Rat.mul_one]
 | n+1=>by rw[<-Nat.add_assoc,Rat.pow_succ,Qu a m n,Rat.pow_succ,Rat.mul_assoc]
theorem Tz.end_{F G:Nat->Rat}{n s t j:Nat}{Q R:Nat->Rat}(h:Tz F G n s t j Q R)(hn:n=pl F+1 - pl G)(fF:Ae F)(fG:Ae G)(h0:G≠pz)(hl:pl R < pl G)(hj:j<=n) :
  psc (ld G^(n - j)) Q=Gr F G n/\psc (ld G^(n - j)) R=D6 F G n:=by
 have hp:=AQ fG h0;have e1:psc (ld G^n) F=pad (cv (psc (ld G^(n - j)) Q) G) (psc (ld G^(n - j)) R):=by
  have e2:ld G^n=ld G^(n - j)*ld G^j:=by rw[<-Qu];congr 1;omega
  rw[e2,<-C9,h.eq,Cz]
  funext m;simp only[psc,pad];grind
 have e3:psc (ld G^n) F=pad (cv (psc (ld G^n) (pq F G)) G) (psc (ld G^n) (pr F G)):=by
  rw[Cz];have h1:=KL F G
  funext m
  have h2:=congrFun h1 m;simp only[psc,pad]at h2 ⊢;rw[h2];grind
 have h1:=Ma fG (Ae.psc _ ⟨n,h.fQ⟩) ((Dy F G).psc _) h0 e1 e3 (((AB h.fR).mono Aa).psc _) ((Er fF fG h0).psc _);have h2:=J4 fF fG h0;rw[<-hn]at h2;exact⟨h1.1.trans h2.1.symm,h1.2.trans h2.2.symm⟩
def V8(w:World)(v:Value)(p q:Rat):Prop:=∃ b1 A1 n1 c1 b2 A2 n2 c2 b3 A3 n3 c3 b4 A4 n4 c4,v = .agg #[.bool b1,.slice A1 n1 c1,.bool b2,.slice A2 n2 c2,.bool b3,.slice A3 n3 c3,.bool b4,.slice A4 n4 c4]/\BN w (.agg #[.bool b1,.slice A1 n1 c1,.bool b2,.slice A2 n2 c2]) p/\BN w (.agg #[.bool b3,.slice A3 n3 c3,.bool b4,.slice A4 n4 c4]) q
theorem V8.ext{w w':World}{v:Value}{p q:Rat}(h:V8 w v p q)(e:Ext w w'):V8 w' v p q:=by
 obtain⟨b1,A1,n1,c1,b2,A2,n2,c2,b3,A3,n3,c3,b4,A4,n4,c4,h1,h2,h3⟩:=h;exact⟨b1,A1,n1,c1,b2,A2,n2,c2,b3,A3,n3,c3,b4,A4,n4,c4,h1,h2.ext e,h3.ext e⟩
theorem Be.cells8{w:World}{g:Nat}{t:TypeId}{x0 x1 x2 x3 x4 x5 x6 x7:Value}(h:Be w g t #[x0,x1,x2,x3,x4,x5,x6,x7]) :
  w.cell? ⟨g,0,none⟩=some x0/\w.cell? ⟨g,1,none⟩=some x1/\w.cell? ⟨g,2,none⟩=some x2/\w.cell? ⟨g,3,none⟩=some x3/\w.cell? ⟨g,4,none⟩=some x4/\w.cell? ⟨g,5,none⟩=some x5/\w.cell? ⟨g,6,none⟩=some x6/\w.cell? ⟨g,7,none⟩=some x7:=
 ⟨h.cell rfl,h.cell rfl,h.cell rfl,h.cell rfl,h.cell rfl,h.cell rfl,h.cell rfl,h.cell rfl⟩
noncomputable def rts(W:Nat->Rat)(K:Nat)(p q:Rat):Int:=(V (Gp W (pd W) K) p:Nat) - (V (Gp W (pd W) K) q:Nat)
theorem NU.cell{base:Nat}{t:TypeId}{w:World}{v:Value}{W:Nat->Rat}(h:NU base t w v W):∃ A n c,v = .agg #[.slice A n c]:=by
 obtain⟨c,us,K,rfl,h2,h3,h4⟩:=h;obtain⟨A,c,rfl⟩:=h4.shape;exact⟨_,_,_,rfl⟩
theorem Be.put8{w:World}{g:Nat}{t:TypeId}{a b c d a' b' c' d':Value}(h:Be w g t #[a,b,c,d,a',b',c',d'])(x0 x1 x2 x3 x4 x5 x6 x7:Value)(h0:Ag x0=false:=by rfl)(h1:Ag x1=false:=by rfl)(h2:Ag x2=false:=by rfl)(h3:Ag x3=false:=by rfl)(h4:Ag x4=false:=by rfl)(h5:Ag x5=false:=by rfl)(h6:Ag x6=false:=by rfl)(h7:Ag x7=false:=by rfl) :
  ∃ W,W=(((((((w.setCell ⟨g,0,none⟩ x0).setCell ⟨g,1,none⟩ x1).setCell ⟨g,2,none⟩ x2).setCell ⟨g,3,none⟩ x3).setCell ⟨g,4,none⟩ x4).setCell ⟨g,5,none⟩ x5).setCell ⟨g,6,none⟩ x6).setCell ⟨g,7,none⟩ x7/\Be W g t #[x0,x1,x2,x3,x4,x5,x6,x7]/\Cj [g] w W:=by
 have k0:Be (w.setCell ⟨g,0,none⟩ x0) g t #[x0,b,c,d,a',b',c',d']:=h.set_ 0 h0;have k1:Be ((w.setCell ⟨g,0,none⟩ x0).setCell ⟨g,1,none⟩ x1) g t #[x0,x1,c,d,a',b',c',d']:=k0.set_ 1 h1;have k2:Be (((w.setCell ⟨g,0,none⟩ x0).setCell ⟨g,1,none⟩ x1).setCell ⟨g,2,none⟩ x2) g t #[x0,x1,x2,d,a',b',c',d']:=k1.set_ 2 h2;have k3:Be ((((w.setCell ⟨g,0,none⟩ x0).setCell ⟨g,1,none⟩ x1).setCell ⟨g,2,none⟩ x2).setCell ⟨g,3,none⟩ x3) g t #[x0,x1,x2,x3,a',b',c',d']:=k2.set_ 3 h3
 have k4:Be (((((w.setCell ⟨g,0,none⟩ x0).setCell ⟨g,1,none⟩ x1).setCell ⟨g,2,none⟩ x2).setCell ⟨g,3,none⟩ x3).setCell ⟨g,4,none⟩ x4) g t #[x0,x1,x2,x3,x4,b',c',d']:=k3.set_ 4 h4;have k5:Be ((((((w.setCell ⟨g,0,none⟩ x0).setCell ⟨g,1,none⟩ x1).setCell ⟨g,2,none⟩ x2).setCell ⟨g,3,none⟩ x3).setCell ⟨g,4,none⟩ x4).setCell ⟨g,5,none⟩ x5) g t #[x0,x1,x2,x3,x4,x5,c',d']:=k4.set_ 5 h5;have k6:Be (((((((w.setCell ⟨g,0,none⟩ x0).setCell ⟨g,1,none⟩ x1).setCell ⟨g,2,none⟩ x2).setCell ⟨g,3,none⟩ x3).setCell ⟨g,4,none⟩ x4).setCell ⟨g,5,none⟩ x5).setCell ⟨g,6,none⟩ x6) g t #[x0,x1,x2,x3,x4,x5,x6,d']:=k5.set_ 6 h6
 have k7:Be ((((((((w.setCell ⟨g,0,none⟩ x0).setCell ⟨g,1,none⟩ x1).setCell ⟨g,2,none⟩ x2).setCell ⟨g,3,none⟩ x3).setCell ⟨g,4,none⟩ x4).setCell ⟨g,5,none⟩ x5).setCell ⟨g,6,none⟩ x6).setCell ⟨g,7,none⟩ x7) g t #[x0,x1,x2,x3,x4,x5,x6,x7]:=k6.set_ 7 h7;exact⟨_,rfl,k7,(((((((Cj.set_ h.nodig 0 x0).trans (Cj.set_ k0.nodig 1 x1)).trans (Cj.set_ k1.nodig 2 x2)).trans (Cj.set_ k2.nodig 3 x3)).trans (Cj.set_ k3.nodig 4 x4)).trans (Cj.set_ k4.nodig 5 x5)).trans (Cj.set_ k5.nodig 6 x6)).trans (Cj.set_ k6.nodig 7 x7)⟩
theorem RQ{p q:Rat}:decide (Eb (p - q) < 0)=decide (p < q):=by
 rw[Fh];unfold BB;by_cases h:p < q
 ·rw[if_neg Af,if_pos Af,decide_eq_true h];rfl
 ·rw[decide_eq_false h]
  split
  ·rfl
  ·rw[if_neg Af];rfl
def Kj(w:World)(v:Value)(p q:Rat):Prop:=∃ b1 A1 n1 c1 b2 A2 n2 c2 b3 A3 n3 c3 b4 A4 n4 c4,v = .agg #[.bool b1,.slice A1 n1 c1,.bool b2,.slice A2 n2 c2,.bool b3,.slice A3 n3 c3,.bool b4,.slice A4 n4 c4]/\BQ w (.agg #[.bool b1,.slice A1 n1 c1,.bool b2,.slice A2 n2 c2]) p/\BQ w (.agg #[.bool b3,.slice A3 n3 c3,.bool b4,.slice A4 n4 c4]) q
theorem Kj.ext{w w':World}{v:Value}{p q:Rat}(h:Kj w v p q)(e:Ext w w'):Kj w' v p q:=by
 obtain⟨b1,A1,n1,c1,b2,A2,n2,c2,b3,A3,n3,c3,b4,A4,n4,c4,h1,h2,h3⟩:=h;exact⟨b1,A1,n1,c1,b2,A2,n2,c2,b3,A3,n3,c3,b4,A4,n4,c4,h1,h2.ext e,h3.ext e⟩
theorem Kj.has{w:World}{v:Value}{p q:Rat}(h:Kj w v p q)(hp:qsz p<=274877906944)(hq:qsz q<=274877906944):V8 w v p q:=by
 obtain⟨b1,A1,n1,c1,b2,A2,n2,c2,b3,A3,n3,c3,b4,A4,n4,c4,h1,h2,h3⟩:=h;exact⟨b1,A1,n1,c1,b2,A2,n2,c2,b3,A3,n3,c3,b4,A4,n4,c4,h1,h2.has hp,h3.has hq⟩
/-! ### bounds of values -/
theorem IZ(B:Rat)(hB:0<=B):∀(n:Nat) (F:Nat->Rat),∃ M,0<=M/\∀ x,ab x<=B->ab (CR n F x)<=M
 | 0,F=>⟨0,Ab,fun x _=>by show ab 0<=0;decide⟩
 | n+1,F=>by
  obtain⟨M,h0,h⟩:=IZ B hB n (tl F);refine⟨ab (F 0)+B*M,by have:=Aj (F 0);have:=Rat.mul_nonneg hB h0;grind,fun x hx=>?_⟩;rw[DT];have h1:=FD (F 0) (x*CR n (tl F) x);have h2:ab (x*CR n (tl F) x)<=B*M:=by rw[Cg];exact EP hx (h x hx) (Aj _) hB
  grind
theorem UI(B:Rat)(hB:0<=B):∀(n:Nat) (F:Nat->Rat),∃ L,0<=L/\∀ x y,ab x<=B->ab y<=B->ab (CR n F x - CR n F y)<=L*ab (x - y)
 | 0,F=>⟨0,Ab,fun x y _ _=>by show ab (0 - 0)<=0*_;rw[Rat.zero_mul,show(0:Rat) - 0=0 by grind];decide⟩
 | n+1,F=>by
  obtain⟨L,h0,h⟩:=UI B hB n (tl F);obtain⟨M,m0,hM⟩:=IZ B hB n (tl F);refine⟨M+B*L,by have:=Rat.mul_nonneg hB h0;grind,fun x y hx hy=>?_⟩;rw[DT,DT];have e:F 0+x*CR n (tl F) x - (F 0+y*CR n (tl F) y)=(x - y)*CR n (tl F) x+y*(CR n (tl F) x - CR n (tl F) y):=by grind
  rw[e];have h1:=FD ((x - y)*CR n (tl F) x) (y*(CR n (tl F) x - CR n (tl F) y));have h2:ab ((x - y)*CR n (tl F) x)<=M*ab (x - y):=by
   rw[Cg];have:=EP (Std.le_refl (ab (x - y))) (hM x hx) (Aj _) (Aj _);grind
  have h3:ab (y*(CR n (tl F) x - CR n (tl F) y))<=B*(L*ab (x - y)):=by rw[Cg];exact EP hy (h x y hx hy) (Aj _) hB
  grind
theorem iX(F:Nat->Rat):pd F=pad (tl F) (cs 0 (pd (tl F))):=by
 funext i
 match i with
 | 0=>show((0+1:Nat):Rat)*F 1=F 1+0;have:((0+1:Nat):Rat)=1:=rfl;rw[this];grind
 | i+1 =>
  show((i+1+1:Nat):Rat)*F (i+1+1)=F (i+1+1)+((i+1:Nat):Rat)*F (i+1+1);have:((i+1+1:Nat):Rat)=((i+1:Nat):Rat)+1:=by push_cast;rfl
  rw[this];grind
theorem Yx(n:Nat){F:Nat->Rat}(x:Rat):CR (n+1) (pd F) x=CR (n+1) (tl F) x+x*CR n (pd (tl F)) x:=by
 conv=>lhs;rw[iX F,U0]
 congr 1;rw[DT];show 0+x*CR n (pd (tl F)) x=_;grind
theorem Uk(B:Rat)(hB:0<=B):∀(n:Nat) (F:Nat->Rat),Bq n F->∃ R,0<=R/\∀ x y,ab x<=B->ab y<=B->∃ r,ab r<=R/\CR n F y - CR n F x=(y - x)*(CR n (pd F) x+(y - x)*r)
 | 0,F,_=>⟨0,Ab,fun x y _ _=>⟨0,Ab,by show(0:Rat) - 0=_*(0+_*0);grind⟩⟩
 | n+1,F,hs=>by
  obtain⟨R,h0,h⟩:=Uk B hB n (tl F) hs.tl;obtain⟨M,m0,hM⟩:=IZ B hB n (pd (tl F));refine⟨M+B*R,by have:=Rat.mul_nonneg hB h0;grind,fun x y hx hy=>?_⟩;obtain⟨r,hr,e⟩:=h x y hx hy;refine⟨CR n (pd (tl F)) x+y*r,?_,?_⟩
  ·have h1:=FD (CR n (pd (tl F)) x) (y*r)
   have h2:ab (y*r)<=B*R:=by rw[Cg];exact EP hy hr (Aj _) hB
   have h3:=hM x hx;grind
  ·have e1:CR (n+1) (pd F) x=CR n (tl F) x+x*CR n (pd (tl F)) x:=by
    rw[Yx];congr 1;exact LW hs.tl (Nat.le_succ n) x
   rw[e1,DT,DT];grind
theorem Gx{F:Nat->Rat}(h:Ae F){B:Rat}(hB:0<=B):∃ M,0<=M/\∀ x,ab x<=B->ab (ev F x)<=M:=IZ B hB (pl F) F
theorem Pb{F:Nat->Rat}(h:Ae F){B:Rat}(hB:0<=B):∃ L,0<=L/\∀ x y,ab x<=B->ab y<=B->ab (ev F x - ev F y)<=L*ab (x - y):=UI B hB (pl F) F
theorem dO{F:Nat->Rat}(h:Ae F){B:Rat}(hB:0<=B):∃ R,0<=R/\∀ x y,ab x<=B->ab y<=B->∃ r,ab r<=R/\ev F y - ev F x=(y - x)*(ev (pd F) x+(y - x)*r):=by
 obtain⟨R,h0,k⟩:=Uk B hB (pl F) F (AB h);refine⟨R,h0,fun x y hx hy=>?_⟩;obtain⟨r,hr,e⟩:=k x y hx hy;refine⟨r,hr,?_⟩;have e1:ev (pd F) x=CR (pl F) (pd F) x:=EA (Qi ((AB h).mono (Nat.le_succ _))) x;rw[e1];exact e
theorem UJ(P:Nat->Rat->Prop)(mono:∀ i s t,P i s->s<=t->P i t):∀ m,(∀ i,i < m->∃ T,P i T)->∃ T,1<=T/\∀ i,i < m->P i T
 | 0,_=>⟨1,Ab,fun i hi=>Aa⟩
 | m+1,h=>by
  obtain⟨T,h1,h2⟩:=UJ P mono m fun i hi=>h i Aa;obtain⟨S,hS⟩:=h m Aa;refine⟨T+ab S,by have:=Aj S;grind,fun i hi=>?_⟩;by_cases e:i=m
  ·subst e;exact mono _ _ _ hS (by have:=U5 S;grind)
  ·exact mono _ _ _ (h2 i Aa) (by have:=Aj S;grind)
/-! ### the chain -/
theorem Q0{F:Nat->Rat}(zF:ZI F)(fF:Ae F)(h0:F≠pz):∃ c:Rat,0 < c/\rd F=psc c F:=by
 have h1:=Jw zF fF h0;have h2:(0:Rat) < ((cn F:Nat):Rat):=by
  have:0 < cn F:=Nat.pos_of_ne_zero h1;exact_mod_cast this
 refine⟨1 / ((cn F:Nat):Rat),?_,rfl⟩;have h3:((cn F:Nat):Rat)*(1 / ((cn F:Nat):Rat))=1:=by grind
 rcases Std.lt_trichotomy 0 (1 / ((cn F:Nat):Rat))with a | a | a
 ·exact a
 ·rw[<-a,Rat.mul_zero]at h3;exact absurd h3 Ab
 ·exfalso
  have:=JS h2 a;grind
theorem iR{A B:Nat->Rat}(fA:Ae A)(fB:Ae B)(h0:B≠pz):nx A B=pz↔pr A B=pz:=by
 constructor
 ·intro h
  have:=(L6 fA fB h0).2.2.1;rw[h,BJ]at this;exact(BF (EE fA fB)).1 this.symm
 ·exact J3
theorem F7.dv{F0 G0 A B:Nat->Rat}{D S:Nat}(h:F7 F0 G0 D S A B){E:Nat->Rat}(hE:Ae E):(Dv E A/\Dv E B)↔(Dv E F0/\Dv E G0):=by
 obtain⟨A',B',e,d,h,rfl,rfl,he,hd⟩:=h;rw[FH (EY he),FH (EY hd)];exact h.dv E hE
theorem Lf{F G E:Nat->Rat}(c:Cx F G)(hE:Ae E)(h1:Dv E F)(h2:Dv E G):pl E=1:=Cx.self hE ((c.dv h1).symm.dv h2)
theorem F7.cop{F0 G0 A B:Nat->Rat}{D S:Nat}(h:F7 F0 G0 D S A B)(c:Cx F0 G0):Cx A B:=by
 obtain⟨fA,fB,-⟩:=h.facts;obtain⟨U,V,E,fU,fV,hg,e⟩:=Xu (pl B) fA fB (Nat.le_refl _);obtain⟨d1,d2⟩:=(h.dv hg.1).1 ⟨hg.2.2.1,hg.2.2.2.1⟩;have h1:=Lf c hg.1 d1 d2;have hne:E≠pz:=fun q=>by rw[q,BJ]at h1;omega
 have hl:=hg.2.1 hne;have hE:E=pone:=by
  funext i
  match i with
  | 0 =>
   have:ld E=E 0:=by unfold ld;rw[h1]
   rw[<-this,hl];rfl
  | i+1=>exact(AB hg.1) (i+1) Aa
 exact⟨U,V,fU,fV,by rw[e,hE]⟩
noncomputable def vx(F:Nat->Rat)(K:Nat)(x:Rat):Nat:=Vi (fun i=>ev (Ch F (pd F) i) x) K
noncomputable def Im(F:Nat->Rat)(x y:Rat):Nat:=open Classical in if ev F x≠0/\BB (ev F y)≠BB (ev F x)then 1 else 0
theorem Ga{c q:Rat}(h:0 < c):BB (c*q)=BB q:=by
 unfold BB;rcases Std.lt_trichotomy q 0 with a | a | a
 ·have:=JS h a
  rw[if_neg (show ¬ 0 < c*q by grind),if_pos this,if_neg (show ¬ 0 < q by grind),if_pos a]
 ·rw[a,Rat.mul_zero]
 ·have:=Rat.mul_pos h a
  rw[if_pos this,if_pos a]
section
variable{F:Nat->Rat}{K:Nat}
structure Em(F:Nat->Rat)(K:Nat):Prop where
 z:ZI F
 f:Ae F
 n:F≠pz
 c:Cx F (pd F)
 k:PG F (pd F) K
theorem Em.st(h:Em F K){S:Nat}(hS:∀ i,qsz (F i)<=S)(hS2:∀ i,qsz (pd F i)<=S)(i:Nat)(hi:i < K):F7 F (pd F) (pl F+pl (pd F)) S (Ch F (pd F) i) (Ch F (pd F) (i+1)):=
 IA h.f (Bw h.f) h.z (CU h.z) hS hS2 i fun j a b=>h.k.2.2 j a Aa
theorem Em.room(h:Em F K):∃ S,(∀ i,qsz (F i)<=S)/\∀ i,qsz (pd F i)<=S:=by
 obtain⟨S,hS⟩:=Dk h.f;obtain⟨T,hT⟩:=Dk (Bw h.f);exact⟨max S T,fun i=>Nat.le_trans (hS i) (Nat.le_max_left _ _),fun i=>Nat.le_trans (hT i) (Nat.le_max_right _ _)⟩
theorem Em.ne0(h:Em F K):Ch F (pd F) 0≠pz:=by
 obtain⟨c,hc,e⟩:=Q0 h.z h.f h.n;intro q;have e2:Ch F (pd F) 0=rd F:=rfl;rw[e2,e]at q;have:=CK (show c≠0 by grind) h.f;rw[q,BJ]at this;exact h.n ((BF h.f).1 this.symm)
theorem Em.ne(h:Em F K){i:Nat}(hi:i < K):Ch F (pd F) i≠pz:=by
 match i with
 | 0=>exact h.ne0
 | i+1=>exact h.k.2.2 (i+1) Aa hi
theorem Em.fin(h:Em F K){i:Nat}(hi:i < K):Ae (Ch F (pd F) i):=by
 obtain⟨S,a,b⟩:=h.room;exact(h.st a b i hi).facts.1
theorem Em.last(h:Em F K):pl (Ch F (pd F) (K - 1))=1:=by
 obtain⟨S,a,b⟩:=h.room;have hK:=h.k.1;have h1:=h.st a b (K - 1) Aa;have e:K - 1+1=K:=by omega
 rw[e,h.k.2.1]at h1;obtain⟨fA,-⟩:=h1.facts;exact Lf h.c fA ((h1.dv fA).1 ⟨Dv.refl _,Dv.zero _⟩).1 ((h1.dv fA).1 ⟨Dv.refl _,Dv.zero _⟩).2
theorem Em.recr(h:Em F K){i:Nat}(hi:i+2 < K):∃ q c,Ae q/\0 < c/\∀ x,ev (Ch F (pd F) i) x=ev q x*ev (Ch F (pd F) (i+1)) x - c*ev (Ch F (pd F) (i+2)) x:=by
 have f0:=h.fin (show i < K by omega);have f1:=h.fin (show i+1 < K by omega);have n1:=h.ne (show i+1 < K by omega);have n2:=h.ne hi;have hp:pr (Ch F (pd F) i) (Ch F (pd F) (i+1))≠pz:=fun q=>n2 ((iR f0 f1 n1).2 q);obtain⟨-,fx,-,-,hc⟩:=L6 f0 f1 n1;obtain⟨c,hc0,e⟩:=hc hp;refine⟨pq (Ch F (pd F) i) (Ch F (pd F) (i+1)),c,Dy _ _,hc0,fun x=>?_⟩;have e2:=KL (Ch F (pd F) i) (Ch F (pd F) (i+1));have e3:ev (Ch F (pd F) i) x=ev (pad (cv (pq (Ch F (pd F) i) (Ch F (pd F) (i+1))) (Ch F (pd F) (i+1))) (pr (Ch F (pd F) i) (Ch F (pd F) (i+1)))) x:=by rw[<-e2]
 rw[e3,IK ((Dy _ _).cv f1) (EE f0 f1),Ei (Dy _ _) f1,e,FM _ fx];show _ + -c*ev (nx (Ch F (pd F) i) (Ch F (pd F) (i+1))) x=_ - c*ev (Ch F (pd F) (i+2)) x;rw[JZ];grind
theorem Ic{c:Rat}(h:0 < c):0 < 1 / c/\1 / c*c=1:=by
 have e:1 / c*c=1:=by grind
 refine⟨?_,e⟩;rcases Std.lt_trichotomy 0 (1 / c)with p | p | p
 ·exact p
 ·rw[<-p,Rat.zero_mul]at e;exact absurd e Ab
 ·have:=JS h p;grind
theorem RA{p q t s:Rat}(h1:p<=t*q)(h2:0<=q)(h3:t<=s):p<=s*q:=Std.le_trans h1 (Rat.mul_le_mul_of_nonneg_right h3 h2)
theorem aA{a b c d:Rat}(ha:1<=a)(hb:1<=b)(hc:1<=c):a<=a+b+c+ab d/\b<=a+b+c+ab d/\c<=a+b+c+ab d/\d<=a+b+c+ab d/\1<=a+b+c+ab d:=by
 have h1:=Aj d;have h2:=U5 d;refine⟨?_,?_,?_,?_,?_⟩<;>grind
theorem Eo{a b c:Rat}(h:a<=b)(hc:0<=c):a<=b+c:=by grind
theorem DD{a b c:Rat}(h:a<=c)(hb:0<=b):a<=b+c:=by grind
theorem Em.lipT(h:Em F K){B:Rat}(hB:0<=B):∃ T,1<=T/\∀ i,i < K->∀ x y,ab x<=B->ab y<=B->ab (ev (Ch F (pd F) i) x - ev (Ch F (pd F) i) y)<=T*ab (x - y):=
 UJ (fun i T=>∀ x y,ab x<=B->ab y<=B->ab (ev (Ch F (pd F) i) x - ev (Ch F (pd F) i) y)<=T*ab (x - y)) (fun i s t p q x y hx hy=>RA (p x y hx hy) (Aj _) q) K fun i hi=>by
  obtain⟨L,-,hL⟩:=Pb (h.fin hi) hB;exact⟨L,hL⟩
theorem Em.bezT(h:Em F K){B:Rat}(hB:0<=B):∃ T,1<=T/\∀ i,i < K->∃ U W,Ae U/\Ae W/\pad (cv U (Ch F (pd F) i)) (cv W (Ch F (pd F) (i+1)))=pone/\∀ x,ab x<=B->ab (ev U x)<=T/\ab (ev W x)<=T:=by
 obtain⟨S,a,b⟩:=h.room;refine UJ (fun i T=>∃ U W,Ae U/\Ae W/\pad (cv U (Ch F (pd F) i)) (cv W (Ch F (pd F) (i+1)))=pone/\∀ x,ab x<=B->ab (ev U x)<=T/\ab (ev W x)<=T) (fun i s t p q=>?_) K fun i hi=>?_
 ·obtain⟨U,W,c1,c2,c3,c4⟩:=p
  exact⟨U,W,c1,c2,c3,fun x hx=>⟨Std.le_trans (c4 x hx).1 q,Std.le_trans (c4 x hx).2 q⟩⟩
 ·obtain⟨U,W,c1,c2,c3⟩:=(h.st a b i hi).cop h.c
  obtain⟨M,m0,hM⟩:=Gx c1 hB;obtain⟨N,n0,hN⟩:=Gx c2 hB;exact⟨M+N,U,W,c1,c2,c3,fun x hx=>⟨Eo (hM x hx) n0,DD (hN x hx) m0⟩⟩
theorem Em.recT(h:Em F K){B:Rat}(hB:0<=B):∃ T,1<=T/\∀ i,i < K->i+2 < K->∃ q c,Ae q/\0 < c/\(∀ x,ev (Ch F (pd F) i) x=ev q x*ev (Ch F (pd F) (i+1)) x - c*ev (Ch F (pd F) (i+2)) x)/\(∀ x,ab x<=B->ab (ev q x)<=T)/\1<=T*c:=by
 refine UJ (fun i T=>i+2 < K->∃ q c,Ae q/\0 < c/\(∀ x,ev (Ch F (pd F) i) x=ev q x*ev (Ch F (pd F) (i+1)) x - c*ev (Ch F (pd F) (i+2)) x)/\(∀ x,ab x<=B->ab (ev q x)<=T)/\1<=T*c) (fun i s t p q hi=>?_) K fun i hi=>?_
 ·obtain⟨u,c,c1,c2,c3,c4,c5⟩:=p hi
  exact⟨u,c,c1,c2,c3,fun x hx=>Std.le_trans (c4 x hx) q,RA c5 (Std.le_of_lt c2) q⟩
 ·by_cases hi2:i+2 < K
  ·obtain⟨q,c,c1,c2,c3⟩:=h.recr hi2
   obtain⟨M,m0,hM⟩:=Gx c1 hB;obtain⟨hp,e⟩:=Ic c2;refine⟨M+1 / c,fun _=>⟨q,c,c1,c2,c3,fun x hx=>Eo (hM x hx) (Std.le_of_lt hp),?_⟩⟩;have h1:=Rat.mul_nonneg m0 (Std.le_of_lt c2);rw[Rat.add_mul,e];exact DD (Std.le_refl _) h1
  ·exact⟨0,fun q=>absurd q hi2⟩
theorem Em.topT(h:Em F K){B:Rat}(hB:0<=B)(hK1:1 < K):∃ k T4:Rat,0 < k/\1<=T4*k/\∀ x y,ab x<=B->ab y<=B->∃ r,ab r<=T4/\ev (Ch F (pd F) 0) y - ev (Ch F (pd F) 0) x=(y - x)*(k*ev (Ch F (pd F) 1) x+(y - x)*r):=by
 obtain⟨c0,hc0,e0⟩:=Q0 h.z h.f h.n;obtain⟨R,hR0,hR⟩:=dO h.f hB;have e00:Ch F (pd F) 0=rd F:=rfl;have e01:Ch F (pd F) 1=rd (pd F):=rfl;have n1:pd F≠pz:=fun q=>h.ne hK1 (by rw[e01,q,WH]);obtain⟨c1,hc1,e1⟩:=Q0 (CU h.z) (Bw h.f) n1;obtain⟨hp1,i1⟩:=Ic hc1;have hk:0 < c0*(1 / c1):=Rat.mul_pos hc0 hp1;obtain⟨hp2,i2⟩:=Ic hk;have hcR:=Rat.mul_nonneg (Std.le_of_lt hc0) hR0;obtain⟨k,hkd⟩:∃ k,k=c0*(1 / c1):=⟨_,rfl⟩
 rw[<-hkd]at hk hp2 i2;refine⟨k,1 / k+c0*R,hk,?_,fun x y hx hy=>?_⟩
 ·rw[Rat.add_mul,i2]
  exact Eo (Std.le_refl _) (Rat.mul_nonneg hcR (Std.le_of_lt hk))
 ·obtain⟨r,hr,e⟩:=hR x y hx hy
  refine⟨c0*r,?_,?_⟩
  ·rw[Cg,DJ (Std.le_of_lt hc0)]
   exact DD (Rat.mul_le_mul_of_nonneg_left hr (Std.le_of_lt hc0)) (Std.le_of_lt hp2)
  ·rw[e00,e01,e0,e1,FM _ h.f,FM _ h.f,FM _ (Bw h.f)]
   obtain⟨P,hP⟩:∃ P,P=ev (pd F) x:=⟨_,rfl⟩
   rw[<-hP]at e ⊢;have e6:c0*ev F y - c0*ev F x=c0*(ev F y - ev F x):=by rw[Rat.sub_eq_add_neg,Rat.sub_eq_add_neg,Rat.mul_add,Rat.mul_neg]
   rw[e6,e,hkd];clear hR hr e hx hy hcR h hk hp2 i2 e6;have e7:c0*(1 / c1)*(c1*P)=c0*P*(1 / c1*c1):=by grind
   rw[e7,i1];grind
theorem Em.cells(h:Em F K){B:Rat}(hB:0<=B):∃ T,1<=T/\∀ x y,ab x<=B->ab y<=B->x < y->4*(T*(T*(T*(T*(y - x))))) < 1->KA (K - 1) (fun i=>ev (Ch F (pd F) i) x) (fun i=>ev (Ch F (pd F) i) y) T (y - x):=by
 have hK:=h.k.1;obtain⟨T1,t1,h1⟩:=h.lipT hB;obtain⟨T2,t2,h2⟩:=h.bezT hB;obtain⟨T3,t3,h3⟩:=h.recT hB;obtain⟨k,T4,h4⟩:∃ k T4:Rat,1 < K->0 < k/\1<=T4*k/\∀ x y,ab x<=B->ab y<=B->∃ r,ab r<=T4/\ev (Ch F (pd F) 0) y - ev (Ch F (pd F) 0) x=(y - x)*(k*ev (Ch F (pd F) 1) x+(y - x)*r):=by
  by_cases hK1:1 < K
  ·obtain⟨k,T4,q⟩:=h.topT hB hK1;exact⟨k,T4,fun _=>q⟩
  ·exact⟨0,0,fun q=>absurd q hK1⟩
 obtain⟨l1,l2,l3,l4,l5⟩:=aA (d:=T4) t1 t2 t3;obtain⟨T,hT⟩:∃ T,T=T1+T2+T3+ab T4:=⟨_,rfl⟩
 rw[<-hT]at l1 l2 l3 l4 l5;refine⟨T,l5,fun x y hx hy hxy hsm=>?_⟩;have hlast:=h.last;have hcl:∀ z,ev (Ch F (pd F) (K - 1)) z=Ch F (pd F) (K - 1) 0:=fun z=>by
  unfold ev;rw[hlast,DT];show _+z*0=_;rw[Rat.mul_zero,Rat.add_zero]
 have hd0:0 < y - x:=by clear hsm h1 h2 h3 h4 hcl;grind
 have hdxy:ab (x - y)=y - x:=by
  clear hsm h1 h2 h3 h4 hcl;unfold ab;rw[if_pos Af];grind
 have hfin:∀ i,i < K->Ae (Ch F (pd F) i):=fun i hi=>h.fin hi;have hne:=CW (hfin (K - 1) Aa) (h.ne (show K - 1 < K by omega));have hbz:∀ z,ab z<=B->∀ i,i+1 < K->∃ U W,U*ev (Ch F (pd F) i) z+W*ev (Ch F (pd F) (i+1)) z=1/\ab U<=T/\ab W<=T:=fun z hz i hi=>by
  obtain⟨U,W,c1,c2,c3,c4⟩:=h2 i Aa;refine⟨ev U z,ev W z,?_,Std.le_trans (c4 z hz).1 l2,Std.le_trans (c4 z hz).2 l2⟩;rw[<-Ei c1 (hfin i Aa),<-Ei c2 (hfin (i+1) hi),<-IK (c1.cv (hfin i Aa)) (c2.cv (hfin (i+1) hi)),c3,M4]
 have hrc:∀ z,ab z<=B->∀ i,i+2 < K->∃ q c,ev (Ch F (pd F) i) z=q*ev (Ch F (pd F) (i+1)) z - c*ev (Ch F (pd F) (i+2)) z/\ab q<=T/\0 < c/\1<=T*c:=fun z hz i hi=>by
  obtain⟨q,c,c1,c2,c3,c4,c5⟩:=h3 i Aa hi;exact⟨ev q z,c,c3 z,Std.le_trans (c4 z hz) l3,c2,RA c5 (Std.le_of_lt c2) l3⟩
 refine⟨l5,hd0,hsm,fun i hi=>?_,fun i hi=>hbz x hx i Aa,fun i hi=>hbz y hy i Aa,fun i hi=>hrc x hx i Aa,fun i hi=>hrc y hy i Aa,⟨by rw[hcl,hcl],?_⟩,fun hm=>?_⟩
 ·have:=h1 i Aa x y hx hy
  rw[hdxy]at this;exact RA this (Std.le_of_lt hd0) l1
 ·show ev (Ch F (pd F) (K - 1)) x≠0
  rw[hcl];unfold ld at hne;rw[hlast]at hne;exact hne
 ·obtain⟨g1,g2,g3⟩:=h4 Aa
  obtain⟨r,hr,e⟩:=g3 x y hx hy;exact⟨k,r,e,g1,RA g2 (Std.le_of_lt g1) l4,Std.le_trans hr l4⟩
theorem Sz{T:Rat}(hT:1<=T):∃ δ:Rat,0 < δ/\∀ d,d<=δ->4*(T*(T*(T*(T*d)))) < 1:=by
 have hT0:0 < T:=by grind
 have p2:=Rat.mul_pos hT0 hT0;have p3:=Rat.mul_pos hT0 p2;have p4:=Rat.mul_pos hT0 p3;obtain⟨P,hP⟩:∃ P,P=T*(T*(T*T)):=⟨_,rfl⟩
 rw[<-hP]at p4;obtain⟨hδ,hi⟩:=Ic (show 0 < 8*P by grind);refine⟨1 / (8*P),hδ,fun d hd=>?_⟩;have e:T*(T*(T*(T*d)))=P*d:=by rw[hP];grind
 rw[e];have h1:=Rat.mul_le_mul_of_nonneg_left hd (show 0<=P by grind);obtain⟨X,hX⟩:∃ X,X=1 / (8*P):=⟨_,rfl⟩
 rw[<-hX]at h1 hi;have h2:X*(8*P)=8*(P*X):=by grind
 rw[h2]at hi;clear h2 hX e hP p2 p3 hδ;grind
theorem Em.local_(h:Em F K){B:Rat}(hB:0<=B):∃ δ:Rat,0 < δ/\∀ x y,ab x<=B->ab y<=B->x < y->y - x<=δ->vx F K x=vx F K y+Im F x y:=by
 obtain⟨T,hT,hc⟩:=h.cells hB;obtain⟨δ,hδ,hs⟩:=Sz hT;refine⟨δ,hδ,fun x y hx hy hxy hd=>?_⟩;have hs:=(hc x y hx hy hxy (hs _ hd)).sturm;have hK:=h.k.1;rw[show K - 1+1=K by omega]at hs;obtain⟨c0,hc0,e0⟩:=Q0 h.z h.f h.n;have e00:∀ z,ev (Ch F (pd F) 0) z=c0*ev F z:=fun z=>by
  show ev (rd F) z=_;rw[e0,FM _ h.f]
 have e2:(if BB (ev (Ch F (pd F) 0) x)≠0/\BB (ev (Ch F (pd F) 0) y)≠BB (ev (Ch F (pd F) 0) x)then 1 else 0)=Im F x y:=by
  rw[e00,e00,Ga hc0,Ga hc0];unfold Im;have hz:BB (ev F x)≠0↔ev F x≠0:=by rw[Ne,DC]
  by_cases c:ev F x≠0/\BB (ev F y)≠BB (ev F x)
  ·rw[if_pos ⟨hz.2 c.1,c.2⟩,if_pos c]
  ·rw[if_neg (fun q=>c ⟨hz.1 q.1,q.2⟩),if_neg c]
 rw[e2]at hs;exact hs
end
theorem kX(q:Rat):∃ n:Nat,0 < n/\q<=(n:Rat):=by
 refine⟨q.num.natAbs+1,Aa,?_⟩;have h1:(0:Rat)<=((q.num.natAbs:Nat):Rat):=by exact_mod_cast Nat.zero_le _
 have h2:(((q.num.natAbs+1:Nat)):Rat)=((q.num.natAbs:Nat):Rat)+1:=by push_cast;rfl
 rw[h2];rcases Std.lt_trichotomy 0 q with a | a | a
 ·have hd:(1:Rat)<=((q.den:Nat):Rat):=by
   have:=q.den_pos;exact_mod_cast this
  have e:q*((q.den:Nat):Rat)=((q.num:Int):Rat):=by
   have h3:=Gn q;have hd0:((q.den:Nat):Rat)≠0:=Jp q.den_pos
   conv=>lhs;rw[h3]
   grind
  have h4:q*1<=q*((q.den:Nat):Rat):=Rat.mul_le_mul_of_nonneg_left hd (Std.le_of_lt a);have h5:((q.num:Int):Rat)<=((q.num.natAbs:Nat):Rat):=by
   have h6:q.num<=((q.num.natAbs:Nat):Int):=by omega
   have h7:((q.num:Int):Rat)<=((((q.num.natAbs:Nat):Int)):Rat):=by exact_mod_cast h6
   exact h7
  grind
 ·rw[<-a];grind
 ·grind
theorem EN{a b z B:Rat}(ha:ab a<=B)(hb:ab b<=B)(h1:a<=z)(h2:z<=b):ab z<=B:=by
 rw[Fe]at *;exact⟨Std.le_trans ha.1 h1,Std.le_trans h2 hb.2⟩
noncomputable def VW(F:Nat->Rat)(a s:Rat):Nat->Nat
 | 0=>0
 | n+1=>VW F a s n+Im F (a+((n:Nat):Rat)*s) (a+((n+1:Nat):Rat)*s)
section
variable{F:Nat->Rat}{K:Nat}
theorem CO(n:Nat):((n+1:Nat):Rat)=((n:Nat):Rat)+1:=by push_cast;rfl
theorem Eh(n:Nat):(0:Rat)<=((n:Nat):Rat):=by exact_mod_cast Nat.zero_le n
theorem WR{V:Rat->Nat}{B δ:Rat}(hl:∀ x y,ab x<=B->ab y<=B->x < y->y - x<=δ->V x=V y+Im F x y){a s:Rat}(hs:0 < s)(hsδ:s<=δ):∀ n,(∀ j,j<=n->ab (a+((j:Nat):Rat)*s)<=B)->V a=V (a+((n:Nat):Rat)*s)+VW F a s n
 | 0,_=>by
  have e:a+((0:Nat):Rat)*s=a:=by show a+0*s=a;rw[Rat.zero_mul,Rat.add_zero]
  rw[e];rfl
 | n+1,hj=>by
  have h1:=WR hl hs hsδ n fun j h=>hj j Aa;have e:a+((n+1:Nat):Rat)*s=a+((n:Nat):Rat)*s+s:=by rw[CO];grind
  have h2:=hl (a+((n:Nat):Rat)*s) (a+((n+1:Nat):Rat)*s) (hj n Aa) (hj (n+1) (Nat.le_refl _)) (by rw[e];grind) (by rw[e];grind);rw[h1,h2];show _=_+(VW F a s n+Im F _ _);omega
theorem cut{a b δ:Rat}(hab:a < b)(hδ:0 < δ):∃ n s,0 < n/\0 < s/\s<=δ/\a+((n:Nat):Rat)*s=b/\∀ j,j<=n->a<=a+((j:Nat):Rat)*s/\a+((j:Nat):Rat)*s<=b:=by
 obtain⟨hi,ei⟩:=Ic hδ;obtain⟨n,hn,hq⟩:=kX ((b - a)*(1 / δ));have hn0:(0:Rat) < ((n:Nat):Rat):=by exact_mod_cast hn
 obtain⟨hm,em⟩:=Ic hn0;have hba:0 < b - a:=by grind
 obtain⟨s,hs⟩:∃ s,s=(b - a)*(1 / ((n:Nat):Rat)):=⟨_,rfl⟩
 have hs0:0 < s:=by rw[hs];exact Rat.mul_pos hba hm
 have ens:((n:Nat):Rat)*s=b - a:=by rw[hs];grind
 refine⟨n,s,hn,hs0,?_,by rw[ens];grind,fun j hj=>?_⟩
 ·-- b - a<=n δ
  have h1:=Rat.mul_le_mul_of_nonneg_right hq (show 0<=δ by grind);have e1:(b - a)*(1 / δ)*δ=b - a:=by grind
  rw[e1,<-ens]at h1;rcases Std.lt_trichotomy s δ with c | c | c
  ·exact Std.le_of_lt c
  ·rw[c];exact Std.le_refl _
  ·exfalso
   have:=Rat.mul_lt_mul_of_pos_left c hn0;grind
 ·have h0:=Rat.mul_nonneg (Eh j) (Std.le_of_lt hs0)
  have hjn:((j:Nat):Rat)<=((n:Nat):Rat):=by exact_mod_cast hj
  have h1:=Rat.mul_le_mul_of_nonneg_right hjn (Std.le_of_lt hs0);rw[ens]at h1;refine⟨Af,Af⟩
theorem Em.sums(h:Em F K){a b:Rat}(hab:a < b){ε:Rat}(hε:0 < ε):∃ n s,0 < n/\0 < s/\s<=ε/\a+((n:Nat):Rat)*s=b/\(∀ j,j<=n->a<=a+((j:Nat):Rat)*s/\a+((j:Nat):Rat)*s<=b)/\vx F K a=vx F K b+VW F a s n:=by
 have hB:0<=ab a+ab b:=by have:=Aj a;have:=Aj b;grind
 obtain⟨δ,hδ,hl⟩:=h.local_ hB;have hm:∃ μ:Rat,0 < μ/\μ<=δ/\μ<=ε:=by
  rcases Std.lt_trichotomy δ ε with c | c | c
  ·exact⟨δ,hδ,Std.le_refl _,Std.le_of_lt c⟩
  ·exact⟨δ,hδ,Std.le_refl _,by rw[c];exact Std.le_refl _⟩
  ·exact⟨ε,hε,Std.le_of_lt c,Std.le_refl _⟩
 obtain⟨μ,hμ,h1,h2⟩:=hm;obtain⟨n,s,hn,hs,hsμ,e,hj⟩:=cut hab hμ;refine⟨n,s,hn,hs,Std.le_trans hsμ h2,e,hj,?_⟩;have:=WR hl hs (Std.le_trans hsμ h1) n fun j hjn=>EN (Eo (Std.le_refl _) (Aj b)) (DD (Std.le_refl _) (Aj a)) (hj j hjn).1 (hj j hjn).2;rw[e]at this;exact this
theorem Em.mono(h:Em F K){a b:Rat}(hab:a<=b):vx F K b<=vx F K a:=by
 rcases Std.lt_trichotomy a b with c | c | c
 ·obtain⟨n,s,-,-,-,-,-,e⟩:=h.sums c (ε:=1) Ab
  omega
 ·rw[c];exact Nat.le_refl _
 ·exfalso;grind
theorem OC{a s:Rat}:∀ n,(∀ j,j < n->Im F (a+((j:Nat):Rat)*s) (a+((j+1:Nat):Rat)*s)=0)->VW F a s n=0
 | 0,_=>rfl
 | n+1,hj=>by
  show VW F a s n+Im F _ _=0;rw[OC n fun j h=>hj j Aa,hj n Aa]
theorem Em.flat(h:Em F K){a b ε:Rat}(hab:a<=b)(hε:0 < ε)(hf:∀ z,a<=z->z<=b->ε<=ab (ev F z)):vx F K a=vx F K b:=by
 rcases Std.lt_trichotomy a b with c | c | c
 ·have hB:0<=ab a+ab b:=by have:=Aj a;have:=Aj b;grind
  obtain⟨L,hL0,hL⟩:=Pb h.f hB;obtain⟨hi,ei⟩:=Ic (show 0 < L+1 by grind);have hμ:0 < ε*(1 / (L+1))*(1 / 2):=Rat.mul_pos (Rat.mul_pos hε hi) Af;obtain⟨n,s,hn,hs,hsμ,e,hj,hv⟩:=h.sums c hμ;have hLs:L*s < ε:=by
   have h1:=Rat.mul_le_mul_of_nonneg_left hsμ (show 0<=L+1 by grind);have e1:(L+1)*(ε*(1 / (L+1))*(1 / 2))=ε*(1 / 2):=by grind
   rw[e1]at h1;grind
  have hz:=OC (F:=F) (a:=a) (s:=s) n fun j hjn=>by
   unfold Im;refine if_neg fun q=>?_;obtain⟨x1,x2⟩:=hj j Aa;obtain⟨y1,y2⟩:=hj (j+1) Aa;have bx:=EN (Eo (Std.le_refl (ab a)) (Aj b)) (DD (Std.le_refl _) (Aj a)) x1 x2;have by_:=EN (Eo (Std.le_refl (ab a)) (Aj b)) (DD (Std.le_refl _) (Aj a)) y1 y2;have hl:=hL _ _ bx by_;have ed:ab (a+((j:Nat):Rat)*s - (a+((j+1:Nat):Rat)*s))=s:=by
    have:a+((j:Nat):Rat)*s - (a+((j+1:Nat):Rat)*s) = - s:=by rw[CO];grind
    rw[this,Mo,DJ (Std.le_of_lt hs)]
   rw[ed]at hl;have:=(Gg hl (fun t=>q.2 t.1.symm)).1;have h3:=hf _ x1 x2;grind
  rw[hz]at hv;exact hv
 ·rw[c]
 ·exfalso;grind
theorem fJ{f:Nat->Rat}(hf:Ae f)(h0:f≠pz){B z:Rat}(hB:1<=B)(hc:∀ i,i < pl f - 1->ab (f i)<=ab (ld f)*(B - 1))(hz:B<=ab z):ab (ld f)<=ab (ev f z):=by
 have hp:=AQ hf h0;have hl:=Aj (ld f);have key:∀ k,k < pl f->ab (ld f)<=ab (hor f z (pl f) (pl f - 1 - k)):=by
  intro k;induction k with
  | zero =>
   intro _;have e:=Np f z (show pl f - 1 < pl f by omega);rw[show pl f - 1+1=pl f by omega,TV,Rat.zero_mul,Rat.zero_add]at e;rw[Nat.sub_zero,e];exact Std.le_refl _
  | succ k ih =>
   intro hk;have h1:=ih Aa;have e:=Np f z (show pl f - 1 - (k+1) < pl f by omega);rw[show pl f - 1 - (k+1)+1=pl f - 1 - k by omega]at e;have h2:=hc (pl f - 1 - (k+1)) Aa;have h3:ab (ld f)*ab z<=ab (hor f z (pl f) (pl f - 1 - k)*z):=by rw[Cg];exact Rat.mul_le_mul_of_nonneg_right h1 (Aj _)
   have h4:ab (hor f z (pl f) (pl f - 1 - k)*z)<=ab (hor f z (pl f) (pl f - 1 - (k+1)))+ab (f (pl f - 1 - (k+1))):=by
    have:=WN (hor f z (pl f) (pl f - 1 - (k+1))) (f (pl f - 1 - (k+1)));have e2:hor f z (pl f) (pl f - 1 - (k+1)) - f (pl f - 1 - (k+1))=hor f z (pl f) (pl f - 1 - k)*z:=by rw[e];grind
    rw[e2]at this;exact this
   have h5:ab (ld f)*B<=ab (ld f)*ab z:=Rat.mul_le_mul_of_nonneg_left hz hl;have h6:ab (ld f)*(B - 1)=ab (ld f)*B - ab (ld f):=by grind
   rw[h6]at h2;clear hc ih e h0 hf;grind
 have:=key (pl f - 1) Aa;rw[show pl f - 1 - (pl f - 1)=0 by omega,RS]at this;exact this
theorem Em.beyond(h:Em F K){f q:Nat->Rat}(hf:Ae f)(h0:f≠pz)(fq:Ae q)(e:f=cv q F){B:Rat}(hB:1<=B)(hc:∀ i,i < pl f - 1->ab (f i)<=ab (ld f)*(B - 1)){a b:Rat}(hab:a<=b)(hout:∀ z,a<=z->z<=b->B<=ab z):vx F K a=vx F K b:=by
 have hBn:0<=ab a+ab b:=by have:=Aj a;have:=Aj b;grind
 obtain⟨M,hM0,hM⟩:=Gx fq hBn;obtain⟨hi,ei⟩:=Ic (show 0 < M+1 by grind);have hl:0 < ab (ld f):=Sg.2 (CW hf h0);refine h.flat hab (Rat.mul_pos hl hi) fun z h1 h2=>?_;have hc1:=fJ hf h0 hB hc (hout z h1 h2);have hb:=hM z (EN (Eo (Std.le_refl (ab a)) (Aj b)) (DD (Std.le_refl _) (Aj a)) h1 h2);rw[e,Ei fq h.f,Cg,<-e]at hc1;have hz:=Aj (ev F z);have h3:ab (ev q z)*ab (ev F z)<=(M+1)*ab (ev F z):=Rat.mul_le_mul_of_nonneg_right Af hz
 have h4:=Std.le_trans hc1 h3;have h5:=Rat.mul_le_mul_of_nonneg_right h4 (Std.le_of_lt hi);have e2:(M+1)*ab (ev F z)*(1 / (M+1))=ab (ev F z):=by grind
 rw[e2]at h5;exact h5
theorem Em.total(h:Em F K){f q:Nat->Rat}(hf:Ae f)(h0:f≠pz)(fq:Ae q)(e:f=cv q F){B:Rat}(hB:1<=B)(hc:∀ i,i < pl f - 1->ab (f i)<=ab (ld f)*(B - 1)){a b:Rat}(hab:a<=b):vx F K a+vx F K B<=vx F K (-B)+vx F K b:=by
 -- the ends outside
 have h1:vx F K a<=vx F K (-B):=by
  rcases Std.lt_trichotomy a (-B)with c | c | c
  ·have:=h.beyond hf h0 fq e hB hc (Std.le_of_lt c) (fun z _ z2=>by
    unfold ab;rw[if_pos Af];grind)
   omega
  ·rw[c];exact Nat.le_refl _
  ·exact h.mono (Std.le_of_lt c)
 have h2:vx F K B<=vx F K b:=by
  rcases Std.lt_trichotomy B b with c | c | c
  ·have:=h.beyond hf h0 fq e hB hc (Std.le_of_lt c) (fun z z1 _=>by
    unfold ab;rw[if_neg Af];exact z1)
   omega
  ·rw[c];exact Nat.le_refl _
  ·exact h.mono (Std.le_of_lt c)
 omega
end
theorem Mt{P:Rat->Rat->Prop}{a b δ:Rat}(hδ:0 < δ)(hab:a < b)(hc:∀ x y,a<=x->x < y->y<=b->y - x<=δ->P x y)
  (ht:∀ x y z,a<=x->x < y->y < z->z<=b->P x y->P y z->P x z):P a b:=by
 obtain⟨n,s,hn,hs,hsδ,e,hj⟩:=cut hab hδ;have key:∀ k,k < n->P a (a+((k+1:Nat):Rat)*s):=by
  intro k;induction k with
  | zero =>
   intro h;have e1:a+((0+1:Nat):Rat)*s=a+s:=by rw[CO];show a+(0+1)*s=_;grind
   have:=(hj 1 Aa).2;rw[show((1:Nat):Rat)=((0+1:Nat):Rat)from rfl]at this;rw[e1]at this ⊢;exact hc a (a+s) (Std.le_refl _) Af this Af
  | succ k ih =>
   intro h;have e1:a+((k+1+1:Nat):Rat)*s=a+((k+1:Nat):Rat)*s+s:=by rw[CO];grind
   have h1:=hj (k+1) Aa;have h2:=hj (k+1+1) Aa;have h3:a < a+((k+1:Nat):Rat)*s:=by
    have:=Rat.mul_nonneg (Eh k) (Std.le_of_lt hs);rw[CO];grind
   refine ht a (a+((k+1:Nat):Rat)*s) _ (Std.le_refl _) h3 (by rw[e1];grind) h2.2 (ih Aa) ?_;exact hc _ _ h1.1 (by rw[e1];grind) h2.2 (by rw[e1];grind)
 have:=key (n - 1) Aa;rw[show n - 1+1=n by omega,e]at this;exact this
noncomputable def rt(F:Nat->Rat)(K:Nat)(p q:Rat):Int:=(vx F K p:Int) - (vx F K q:Int)
section
variable{F:Nat->Rat}{K:Nat}
theorem IU(F:Nat->Rat)(K:Nat)(p q r:Rat):rt F K p q+rt F K q r=rt F K p r:=by unfold rt;omega
theorem PR(F:Nat->Rat)(K:Nat)(p:Rat):rt F K p p=0:=by unfold rt;omega
theorem Em.rt_nonneg(h:Em F K){p q:Rat}(hpq:p<=q):0<=rt F K p q:=by have:=h.mono hpq;unfold rt;omega
theorem Em.rt_sub(h:Em F K){p x y q:Rat}(h1:p<=x)(h2:x<=y)(h3:y<=q):rt F K x y<=rt F K p q:=by
 have:=h.rt_nonneg h1;have:=h.rt_nonneg h3;have:=IU F K p x y;have:=IU F K p y q;omega
theorem Em.loc(h:Em F K)(a b:Rat):∃ δ:Rat,0 < δ/\∀ x y,a<=x->x < y->y<=b->y - x<=δ->rt F K x y=Im F x y:=by
 have hB:0<=ab a+ab b:=by have:=Aj a;have:=Aj b;grind
 obtain⟨δ,hδ,hl⟩:=h.local_ hB;refine⟨δ,hδ,fun x y h1 h2 h3 h4=>?_⟩;have:=hl x y (EN (Eo (Std.le_refl (ab a)) (Aj b)) (DD (Std.le_refl _) (Aj a)) h1 Af)
  (EN (Eo (Std.le_refl (ab a)) (Aj b)) (DD (Std.le_refl _) (Aj a)) Af h3) h2 h4
 unfold rt;omega
theorem Ip{q:Rat}(h:BB q≠0):q≠0:=fun e=>h (DC.2 e)
theorem N9{q:Rat}(h:q≠0):BB q≠0:=fun e=>h (DC.1 e)
theorem WG{x y:Rat}(h:(Im F x y:Int)=0)(hx:ev F x≠0):BB (ev F y)=BB (ev F x):=by
 unfold Im at h
 split at h
 ·omega
 ·rename_i c
  exact Classical.byContradiction fun e=>c ⟨hx,e⟩
theorem ZO{x y:Rat}(hx:ev F x≠0)(h:BB (ev F y)≠BB (ev F x)):(Im F x y:Int)=1:=by
 unfold Im;rw[if_pos ⟨hx,h⟩];rfl
theorem iE(F:Nat->Rat)(x y:Rat):0<=(Im F x y:Int)/\(Im F x y:Int)<=1:=by
 unfold Im;split<;>simp
theorem Em.sg_const(h:Em F K){p q:Rat}(hpq:p<=q)(h0:rt F K p q=0)(hp:ev F p≠0):BB (ev F q)=BB (ev F p):=by
 rcases Std.lt_trichotomy p q with c | c | c
 ·obtain⟨δ,hδ,hl⟩:=h.loc p q
  refine Mt (P:=fun x y=>rt F K x y=0->ev F x≠0->BB (ev F y)=BB (ev F x)) hδ c (fun x y a b c d e f=>?_) (fun x y z a b c d e f g k=>?_) h0 hp
  ·rw[hl x y a b c d]at e
   exact WG e f
  ·have h1:=h.rt_nonneg (Std.le_of_lt b)
   have h2:=h.rt_nonneg (Std.le_of_lt c);have h3:=IU F K x y z;have e1:=e Aa k;have e2:=f Aa (Ip (by rw[e1];exact N9 k));rw[e2,e1]
 ·rw[c]
 ·exfalso;grind
theorem NQ(hf:Ae F)(h0:F≠pz){p z δ:Rat}(hp:p < z)(hδ:0 < δ):∃ x,p < x/\x < z/\z - x<=δ/\ev F x≠0:=by
 obtain⟨μ,hμ,m1,m2⟩:∃ μ:Rat,0 < μ/\μ<=δ/\μ < z - p:=by
  rcases Std.lt_trichotomy δ (z - p)with c | c | c
  ·exact⟨δ,hδ,Std.le_refl _,c⟩
  ·exact⟨δ / 2,Af,Af,Af⟩
  ·exact⟨(z - p) / 2,Af,Af,Af⟩
 refine Classical.byContradiction fun hn=>?_;have hz:∀ x,z - μ<=x->x < z->ev F x=0:=fun x a b=>Classical.byContradiction fun e=>hn ⟨x,Af,b,Af,e⟩;have hpl:=AQ hf h0;obtain⟨n,hn'⟩:∃ n,n=pl F:=⟨_,rfl⟩
 have hn0:(0:Rat) < ((n:Nat):Rat):=by rw[hn'];exact_mod_cast hpl
 obtain⟨hi,ei⟩:=Ic hn0;obtain⟨s,hs⟩:∃ s,s=μ*(1 / ((n:Nat):Rat)):=⟨_,rfl⟩
 have hs0:0 < s:=by rw[hs];exact Rat.mul_pos hμ hi
 have ens:((n:Nat):Rat)*s=μ:=by rw[hs];grind
 have hlist:((List.range n).map fun j:Nat=>z - μ+((j:Nat):Rat)*s).Nodup:=by
  rw[List.nodup_iff_pairwise_ne,List.pairwise_map];refine List.Pairwise.imp ?_ List.pairwise_lt_range;intro i j hij e;have hij':((i:Nat):Rat)+1<=((j:Nat):Rat):=by rw[<-CO];exact_mod_cast hij
  have:=Rat.mul_le_mul_of_nonneg_right hij' (Std.le_of_lt hs0);grind
 refine h0 (I7 (l:=(List.range n).map fun j:Nat=>z - μ+((j:Nat):Rat)*s) (by rw[List.length_map,List.length_range,hn'];exact AB hf) hlist ?_);intro x hx;obtain⟨j,hj,rfl⟩:=List.mem_map.1 hx;have hj:=List.mem_range.1 hj;have h1:=Rat.mul_nonneg (Eh j) (Std.le_of_lt hs0);have hij':((j:Nat):Rat)+1<=((n:Nat):Rat):=by rw[<-CO];exact_mod_cast hj
 have:=Rat.mul_le_mul_of_nonneg_right hij' (Std.le_of_lt hs0);exact hz _ Af Af
theorem Em.zero_counts(h:Em F K){p z q:Rat}(h1:p < z)(h2:z<=q)(hz:ev F z=0):1<=rt F K p q:=by
 obtain⟨δ,hδ,hl⟩:=h.loc p z;obtain⟨x,a,b,c,d⟩:=NQ h.f h.n h1 hδ;have e1:=hl x z (Std.le_of_lt a) b (Std.le_refl _) c;rw[ZO d (by rw[hz,DC.2 rfl];exact fun e=>N9 d e.symm)]at e1;have:=h.rt_sub (Std.le_of_lt a) (Std.le_of_lt b) h2;omega
theorem Em.change_counts(h:Em F K){p q:Rat}(hpq:p<=q)(hp:ev F p≠0)(hc:BB (ev F q)≠BB (ev F p)):1<=rt F K p q:=by
 have h1:=h.rt_nonneg hpq;rcases Int.lt_or_le 0 (rt F K p q)with a | a
 ·exact a
 ·exact absurd (h.sg_const hpq Aa hp) hc
theorem Em.free(h:Em F K){p q x y:Rat}(h0:rt F K p q=0)(h1:p < x)(h2:x<=y)(h3:y<=q):ev F x≠0/\BB (ev F y)=BB (ev F x):=by
 have hx:ev F x≠0:=fun e=>by
  have:=h.zero_counts h1 (Std.le_trans h2 h3) e;omega
 have:=h.rt_sub (Std.le_of_lt h1) h2 h3;have:=h.rt_nonneg h2;exact⟨hx,h.sg_const h2 Aa hx⟩
end
theorem Fg(p q:Rat):BB (p*q)=BB p*BB q:=by
 rcases Std.lt_trichotomy p 0 with a | a | a
 ·rcases Std.lt_trichotomy q 0 with b | b | b
  ·have:=R7 a b
   unfold BB;rw[if_pos this,if_neg Af,if_pos a,if_neg Af,if_pos b];rfl
  ·rw[b,Rat.mul_zero,show BB 0=0 from DC.2 rfl];simp
  ·have:=JS b a
   rw[Rat.mul_comm]at this;unfold BB;rw[if_neg Af,if_pos this,if_neg Af,if_pos a,if_pos b];rfl
 ·rw[a,Rat.zero_mul,show BB 0=0 from DC.2 rfl];simp
 ·rw[Ga a]
  unfold BB;rw[if_pos a];simp
theorem Cx.cell{A B:Nat->Rat}(fA:Ae A)(fB:Ae B)(c:Cx A B)(a b:Rat):∃ δ:Rat,0 < δ/\∀ x y,a<=x->x < y->y<=b->y - x<=δ ->
  (BB (ev A y)=BB (ev A x)/\ev A x≠0)\/(BB (ev B y)=BB (ev B x)/\ev B x≠0):=by
 obtain⟨U,W,fU,fW,e⟩:=c;have hB:0<=ab a+ab b:=by have:=Aj a;have:=Aj b;grind
 obtain⟨M,hM0,hM⟩:=Gx fU hB;obtain⟨N,hN0,hN⟩:=Gx fW hB;obtain⟨L,hL0,hL⟩:=Pb fA hB;obtain⟨R,hR0,hR⟩:=Pb fB hB;obtain⟨T,hT⟩:∃ T,T=M*L+N*R+1:=⟨_,rfl⟩
 have hML:=Rat.mul_nonneg hM0 hL0;have hNR:=Rat.mul_nonneg hN0 hR0;obtain⟨hi,ei⟩:=Ic (show 0 < T by grind);refine⟨1 / T*(1 / 2),Af,fun x y h1 h2 h3 h4=>?_⟩;have bx:=EN (Eo (Std.le_refl (ab a)) (Aj b)) (DD (Std.le_refl _) (Aj a)) h1 (show x<=b by grind);have by_:=EN (Eo (Std.le_refl (ab a)) (Aj b)) (DD (Std.le_refl _) (Aj a)) (show a<=y by grind) h3;have eab:ab (x - y)=y - x:=by rw[show x - y = -(y - x) by grind,Mo,DJ Af]
 have l1:=hL x y bx by_;have l2:=hR x y bx by_;rw[eab]at l1 l2;by_cases c1:BB (ev A x)=BB (ev A y)/\BB (ev A x)≠0
 ·exact .inl ⟨c1.1.symm,Ip c1.2⟩
 by_cases c2:BB (ev B x)=BB (ev B y)/\BB (ev B x)≠0
 ·exact .inr ⟨c2.1.symm,Ip c2.2⟩
 exfalso;have s1:=(Gg l1 c1).1;have s2:=(Gg l2 c2).1;have e1:ev U x*ev A x+ev W x*ev B x=1:=by
  rw[<-Ei fU fA,<-Ei fW fB,<-IK (fU.cv fA) (fW.cv fB),e];have:ev pone x=CR 1 pone x:=EA DX x;rw[this];show pone 0+x*0=1;show(1:Rat)+x*0=1;grind
 have h5:ab (ev U x*ev A x)<=M*(L*(y - x)):=by rw[Cg];exact EP (hM x bx) s1 (Aj _) hM0
 have h6:ab (ev W x*ev B x)<=N*(R*(y - x)):=by rw[Cg];exact EP (hN x bx) s2 (Aj _) hN0
 have h7:=FD (ev U x*ev A x) (ev W x*ev B x);rw[e1,show ab 1=1 from by decide]at h7;have h8:=Rat.mul_le_mul_of_nonneg_left h4 (show 0<=T by grind);have e8:T*(1 / T*(1 / 2))=1 / 2:=by grind
 rw[e8]at h8;have e9:M*(L*(y - x))+N*(R*(y - x))=T*(y - x) - (y - x):=by rw[hT];grind
 grind
theorem Em.rt_mul{A B:Nat->Rat}{K L M:Nat}(hA:Em A K)(hB:Em B L)(hC:Em (cv A B) M)(c:Cx A B){p q:Rat}(hpq:p<=q):rt (cv A B) M p q=rt A K p q+rt B L p q:=by
 rcases Std.lt_trichotomy p q with hlt | heq | hgt
 ·obtain⟨d1,g1,l1⟩:=hA.loc p q
  obtain⟨d2,g2,l2⟩:=hB.loc p q;obtain⟨d3,g3,l3⟩:=hC.loc p q;obtain⟨d4,g4,l4⟩:=c.cell hA.f hB.f p q;obtain⟨d,hd,q1,q2,q3,q4⟩:∃ d:Rat,0 < d/\d<=d1/\d<=d2/\d<=d3/\d<=d4:=by
   have two:∀ u v:Rat,0 < u->0 < v->∃ w,0 < w/\w<=u/\w<=v:=fun u v hu hv=>by
    rcases Std.lt_trichotomy u v with c | c | c
    ·exact⟨u,hu,Std.le_refl _,Std.le_of_lt c⟩
    ·exact⟨u,hu,Std.le_refl _,Af⟩
    ·exact⟨v,hv,Std.le_of_lt c,Std.le_refl _⟩
   obtain⟨u,hu,u1,u2⟩:=two d1 d2 g1 g2;obtain⟨v,hv,v1,v2⟩:=two d3 d4 g3 g4;obtain⟨w,hw,w1,w2⟩:=two u v hu hv;exact⟨w,hw,Af,Af,Af,Af⟩
  refine Mt (P:=fun x y=>rt (cv A B) M x y=rt A K x y+rt B L x y) hd hlt (fun x y a1 a2 a3 a4=>?_) (fun x y z a1 a2 a3 a4 e f=>?_)
  ·rw[l1 x y a1 a2 a3 Af,l2 x y a1 a2 a3 Af,l3 x y a1 a2 a3 Af]
   have e1:=Ei hA.f hB.f x;have e2:=Ei hA.f hB.f y;rcases l4 x y a1 a2 a3 Af with⟨s,n⟩ | ⟨s,n⟩
   ·have j1:Im A x y=0:=by unfold Im;exact if_neg fun q=>q.2 s
    have j2:Im (cv A B) x y=Im B x y:=by
     unfold Im;rw[e1,e2,Fg,Fg,s];have hs:=N9 n;have:(ev A x*ev B x≠0/\BB (ev A x)*BB (ev B y)≠BB (ev A x)*BB (ev B x))↔(ev B x≠0/\BB (ev B y)≠BB (ev B x)):=by
      refine and_congr ⟨fun h e=>h (by rw[e,Rat.mul_zero]),fun h e=>?_⟩ ⟨fun h e=>h (by rw[e]),fun h e=>h (Int.eq_of_mul_eq_mul_left hs e)⟩;rcases Rat.mul_eq_zero.1 e with k | k
      ·exact n k
      ·exact h k
     simp only[this]
    omega
   ·have j1:Im B x y=0:=by unfold Im;exact if_neg fun q=>q.2 s
    have j2:Im (cv A B) x y=Im A x y:=by
     unfold Im;rw[e1,e2,Fg,Fg,s];have hs:=N9 n;have:(ev A x*ev B x≠0/\BB (ev A y)*BB (ev B x)≠BB (ev A x)*BB (ev B x))↔(ev A x≠0/\BB (ev A y)≠BB (ev A x)):=by
      refine and_congr ⟨fun h e=>h (by rw[e,Rat.zero_mul]),fun h e=>?_⟩ ⟨fun h e=>h (by rw[e]),fun h e=>h (Int.eq_of_mul_eq_mul_right hs e)⟩;rcases Rat.mul_eq_zero.1 e with k | k
      ·exact h k
      ·exact n k
     simp only[this]
    omega
  ·have h1:=IU (cv A B) M x y z;have h2:=IU A K x y z;have h3:=IU B L x y z
   omega
 ·rw[heq,PR,PR,PR];rfl
 ·exfalso;grind
def Jo(B:Rat)(F:Nat->Rat):Prop:=∀ i,ab (F i)<=B
theorem CP{a b c:Rat}(h:a<=b)(hc:0<=c):a*c<=b*c:=Rat.mul_le_mul_of_nonneg_right h hc
theorem Ce{a b c:Rat}(h:a<=b)(hc:0<=c):c*a<=c*b:=Rat.mul_le_mul_of_nonneg_left h hc
theorem Jo.lin{F:Nat->Rat}{B R a:Rat}(h:Jo B F)(ha:ab a<=R):Jo (B*(1+R)) (cv F (Hp.lin a)):=by
 intro i;have hB:0<=B:=by have:=h 0;have:=Aj (F 0);grind
 have e:cv F (Hp.lin a)=pad (psc (-a) F) (cs 0 F):=by rw[AX];unfold Hp.lin;rw[Lx,Ck]
 have e2:cv F (Hp.lin a) i = -a*F i+cs 0 F i:=by rw[e];rfl
 have h1:ab (cs 0 F i)<=B:=by
  cases i with
  | zero=>show ab 0<=B;rw[show ab 0=0 from by decide];exact hB
  | succ i=>exact h i
 rw[e2];have h2:=FD (-a*F i) (cs 0 F i);have h3:ab (-a*F i)=ab a*ab (F i):=by rw[Cg,Mo]
 have h4:ab a*ab (F i)<=R*B:=by
  have:=CP ha (Aj (F i));have h0:0<=R:=by have:=Aj a;grind
  have:=Ce (h i) h0;grind
 grind
theorem bX:ab 1=1:=by decide
theorem Dt:ab 0=0:=by decide
theorem Jo.lgp{X:Nat->Rat}{R:Rat}(i:Nat)(h0:0<=R):∀ n,(∀ k,k < n->ab (X k)<=R)->Jo ((1+R)^n) (lgp X i n)
 | 0,_=>fun j=>by
  rw[Rat.pow_zero];show ab (pone j)<=1;unfold pone;cases j with
  | zero=>show ab 1<=1;rw[bX];grind
  | succ j=>show ab 0<=1;rw[Dt];grind
 | n+1,h=>by
  have ih:=Jo.lgp i h0 n fun k hk=>h k Aa;rw[Fy,Rat.pow_succ]
  split
  ·intro j
   have h1:=ih j;have h2:0<=(1+R)^n:=by have:=ih 0;have:=Aj (Hp.lgp X i n 0);grind
   have h3:(1+R)^n*0<=(1+R)^n*R:=Ce h0 h2;grind
  ·exact ih.lin (h n Aa)
theorem Uw{a b:Rat}(h0:0<=a)(h:a<=b):∀ n:Nat,0<=a^n/\a^n<=b^n
 | 0=>by rw[Rat.pow_zero,Rat.pow_zero];exact⟨Ab,Af⟩
 | n+1=>by
  have ih:=Uw h0 h n;rw[Rat.pow_succ,Rat.pow_succ];have h1:=CP ih.2 h0;have h2:0<=b^n:=by grind
  have h3:=Ce h h2;have h4:=CP ih.1 h0;exact⟨Af,Af⟩
theorem Jo.psc{F:Nat->Rat}{B:Rat}(h:Jo B F){a A:Rat}(ha:ab a<=A):Jo (A*B) (psc a F):=fun i=>by
 show ab (a*F i)<=_;rw[Cg];have h1:=CP ha (Aj (F i));have h0:0<=A:=by have:=Aj a;grind
 have h2:=Ce (h i) h0;grind
theorem Jo.pad{F G:Nat->Rat}{A B:Rat}(h:Jo A F)(k:Jo B G):Jo (A+B) (pad F G):=fun i=>by
 show ab (F i+G i)<=_;have:=FD (F i) (G i);have:=h i;have:=k i;grind
theorem OZ{F:Nat->Rat}{B R x:Rat}(h:Jo B F)(h0:0<=R)(hx:ab x<=R):∀ n,ab (CR n F x)<=B*(n:Rat)*(1+R)^n
 | 0=>by
  have hB:0<=B:=by have:=h 0;have:=Aj (F 0);grind
  show ab 0<=_;rw[Dt,Rat.pow_zero];show(0:Rat)<=B*0*1;grind
 | n+1=>by
  have hB:0<=B:=by have:=h 0;have:=Aj (F 0);grind
  have ih:=OZ (F:=tl F) (fun i=>h (i+1)) h0 hx n;rw[DT,Rat.pow_succ];have h1:=FD (F 0) (x*CR n (tl F) x);have h2:=h 0;have h3:ab (x*CR n (tl F) x)=ab x*ab (CR n (tl F) x):=Cg _ _;have h4:=CP hx (Aj (CR n (tl F) x));have h5:=Ce ih h0;have hp:=Uw (a:=1) (b:=1+R) Ab Af n;have hp2:(1:Rat)^n=1:=by
   clear ih h1 h2 h3 h4 h5 hp;induction n with
   | zero=>rfl
   | succ n ih=>rw[Rat.pow_succ,ih];grind
  rw[hp2]at hp;have hn0:(0:Rat)<=(n:Rat):=by exact_mod_cast Nat.zero_le n
  obtain⟨P,hP⟩:∃ P,P=(1+R)^n:=⟨_,rfl⟩
  rw[<-hP]at h5 hp ⊢;have hc:(((n+1:Nat):Rat))=(n:Rat)+1:=by push_cast;rfl
  rw[hc];have hBn:0<=B*(n:Rat):=by have:=Ce hn0 hB;grind
  have q1:R*(B*(n:Rat)*P)<=B*(n:Rat)*P*(1+R):=by
   have:0<=B*(n:Rat)*P:=by have:=Ce (show(0:Rat)<=P by grind) hBn;grind
   grind
  have q2:B*1<=B*(P*(1+R)):=Ce (by
   have:=CP hp.2 (show 0<=1+R by grind);grind) hB
  grind
theorem JN(x:Int):ab (x:Rat)=((x.natAbs:Nat):Rat):=by
 unfold ab
 split
 ·rename_i h
  have:x < 0:=by exact_mod_cast h
  have e:((x.natAbs:Nat):Int) = -x:=by omega
  rw[show((x.natAbs:Nat):Rat)=(((x.natAbs:Nat):Int):Rat)from rfl,e];simp
 ·rename_i h
  have:0<=x:=Int.not_lt.1 fun h'=>h (by exact_mod_cast h');have e:((x.natAbs:Nat):Int)=x:=by omega
  rw[show((x.natAbs:Nat):Rat)=(((x.natAbs:Nat):Int):Rat)from rfl,e]
theorem Vt{y z Y:Rat}(hy:ab y<=Y)(hz:1<=ab z):ab (y / z)<=Y:=by
 have hne:z≠0:=fun e=>by rw[e,Dt]at hz;exact absurd hz Ab
 have h1:ab (y / z)*ab z=ab y:=by rw[<-Cg,show y / z*z=y by grind]
 have h2:=Ce hz (Aj (y / z));grind
theorem ZI.lgp{X:Nat->Rat}(i:Nat):∀ n,(∀ k,k < n->∃ m:Int,X k=(m:Rat))->ZI (lgp X i n)
 | 0,_=>fun j=>by cases j with | zero=>exact⟨1,rfl⟩ | succ j=>exact⟨0,rfl⟩
 | n+1,h=>by
  have ih:=ZI.lgp i n fun k hk=>h k Aa;rw[Fy]
  split
  ·exact ih
  ·obtain⟨m,hm⟩:=h n Aa
   have e:Hp.cv (Hp.lgp X i n) (lin (X n))=Hp.pad (Hp.psc (-X n) (Hp.lgp X i n)) (cs 0 (Hp.lgp X i n)):=by rw[AX];unfold lin;rw[Lx,Ck]
   intro j;rw[e];obtain⟨a,ha⟩:=ih j;obtain⟨b,hb⟩:∃ b:Int,cs 0 (Hp.lgp X i n) j=(b:Rat):=by
    cases j with
    | zero=>exact⟨0,rfl⟩
    | succ j=>exact ih j
   refine⟨-m*a+b,?_⟩;show -X n*Hp.lgp X i n j+cs 0 (Hp.lgp X i n) j=_;rw[ha,hb,hm]
   push_cast
   rfl
theorem Pi{F D:Nat->Rat}{n:Nat}{B:Rat}(zF:ZI F)(fF:Ae F)(h0:F≠pz)(zD:ZI D)(fD:Ae D)(hd:J6 F D)(hn:pl F<=n)(hB:Jo B F) :
  Jo ((n:Rat)*(B*(n:Rat)*(1+2*(n:Rat))^n*(1+2*(n:Rat))^n)) D:=by
 obtain⟨X,hA,hX⟩:=OB fF h0 hn;obtain⟨Q,zQ,fQ,e⟩:=hd;obtain⟨R,hR⟩:∃ R:Rat,R=2*(n:Rat):=⟨_,rfl⟩
 have hR0:0<=R:=by
  have:(0:Rat)<=(n:Rat):=by exact_mod_cast Nat.zero_le n
  grind
 rw[<-hR];have hXi:∀ k,k < n->∃ m:Int,X k=(m:Rat):=fun k hk=>by obtain⟨-,m,-,h2⟩:=hX k hk;exact⟨m,h2⟩
 have hXR:∀ k,k < n->ab (X k)<=R:=fun k hk=>by
  obtain⟨-,m,h1,h2⟩:=hX k hk;rw[h2,JN,hR];have:((((m:Nat):Int).natAbs:Nat):Rat)=((m:Nat):Rat):=by simp
  rw[this];have h3:((m:Nat):Rat)<=((2*n:Nat):Rat):=by exact_mod_cast Nat.le_of_lt h1
  have h4:((2*n:Nat):Rat)=2*(n:Rat):=by push_cast;rfl
  grind
 obtain⟨YY,hYY⟩:∃ YY,YY=B*(n:Rat)*(1+R)^n:=⟨_,rfl⟩
 rw[<-hYY];have hY:∀ k,k < n->ab (ev D (X k))<=YY:=fun k hk=>by
  obtain⟨h3,m,-,h4⟩:=hX k hk;have h1:=OZ hB hR0 (hXR k hk) n;rw[<-EA ((AB fF).mono hn),<-hYY]at h1;have h5:ev F (X k)=ev Q (X k)*ev D (X k):=by rw[e,Ei fQ fD]
  rw[h4]at h1 h3 h5 ⊢;obtain⟨a,ha⟩:=Ny zF (m:Int);obtain⟨b,hb⟩:=Ny zQ (m:Int);obtain⟨c,hc⟩:=Ny zD (m:Int);rw[ha]at h1 h3;rw[ha,hb,hc]at h5;rw[hc];have h6:a=b*c:=by exact_mod_cast h5
  have h7:a≠0:=fun e=>h3 (by rw[e];rfl);have h8:c.natAbs<=a.natAbs:=Nat.le_of_dvd Aa (Int.natAbs_dvd_natAbs.2 ⟨b,by rw[h6,Int.mul_comm]⟩);rw[JN]at h1 ⊢;have:((c.natAbs:Nat):Rat)<=((a.natAbs:Nat):Rat):=by exact_mod_cast h8
  grind
 have hDn:D≠pz:=fun e2=>h0 (by rw[e,e2,Jz]);have hDl:pl D<=pl F:=Dv.le fD fF h0 ⟨Q,fQ,e⟩;obtain⟨Y,hYe⟩:∃ Y,Y=fun k=>ev D (X k):=⟨_,rfl⟩
 have hD:D=Zq X Y n n:=Kt hA ((AB fD).mono Aa) (OW X Y n n (Nat.le_refl _)) fun k hk=>by
  rw[WI hA hk n (Nat.le_refl _),if_pos hk,hYe]
 have hc:∀ j,j < n->Jo (YY*(1+R)^n) (fZ X Y n j):=fun j hj=>by
  refine(Jo.lgp (R:=R) j hR0 n hXR).psc (Vt (by rw[hYe];exact hY j hj) ?_);have h1:=WQ X (i:=j) (n:=n) (x:=X j) fun k hk hne=>hA.ne hj hk hne;obtain⟨m,hm⟩:=hXi j hj;rw[hm]at h1 ⊢;obtain⟨y,hy⟩:=Ny (ZI.lgp j n hXi) m;rw[hy]at h1 ⊢;rw[JN];have:y≠0:=fun e=>h1 (by rw[e];rfl);have h2:1<=y.natAbs:=by omega
  exact_mod_cast h2
 have hl:∀ m,m<=n->Jo ((m:Rat)*(YY*(1+R)^n)) (Zq X Y n m):=by
  intro m;induction m with
  | zero =>
   intro _ i;show ab 0<=(0:Rat)*_;rw[Dt];grind
  | succ m ih =>
   intro h i;have h1:=((ih Aa).pad (hc m h)) i;have hc:(((m+1:Nat):Rat))=(m:Rat)+1:=by push_cast;rfl
   rw[hc];show ab (Hp.pad (Zq X Y n m) (fZ X Y n m) i)<=_;grind
 rw[hD];exact hl n (Nat.le_refl _)
noncomputable def GN(F:Nat->Rat):Nat->Rat
 | 0=>0
 | k+1=>if GN F k < ab (F k / ld F)then ab (F k / ld F)else GN F k
theorem FI(F:Nat->Rat):∀ k,0<=GN F k
 | 0=>by show(0:Rat)<=0;decide
 | k+1=>by
  rw[GN]
  split
  ·exact Aj _
  ·exact FI F k
theorem Xe(F:Nat->Rat){i:Nat}:∀ {k},i < k->ab (F i / ld F)<=GN F k
 | 0,h=>by omega
 | k+1,h=>by
  rw[GN];rcases Nat.lt_or_ge i k with a | a
  ·have:=Xe F (k:=k) a
   split<;>grind
  ·obtain rfl:i=k:=by omega
   split<;>grind
theorem NM(q:Rat):qsz (ab q)=qsz q:=by
 unfold ab
 split
 ·exact Gd q
 ·rfl
theorem LX{F:Nat->Rat}{s:Nat}(h:∀ i,qsz (F i)<=s)(hs:1<=s):∀ k,qsz (GN F k)<=2*s
 | 0=>by show qsz 0<=_;rw[IM];omega
 | k+1=>by
  rw[GN]
  split
  ·rw[NM]
   have h1:=Jc (F k) (ld F);have h2:=h k;have h3:qsz (ld F)<=s:=h _;omega
  ·exact LX h hs k
def P2(r:Rat)(j:Nat):Prop:=r < 2^j/\∀ i,i < j->(2:Rat)^i<=r
theorem P2.uniq{r:Rat}{i j:Nat}(h:P2 r i)(k:P2 r j):i=j:=by
 rcases Nat.lt_trichotomy i j with a | a | a
 ·have:=k.2 i a;have:=h.1;grind
 ·exact a
 ·have:=h.2 j a;have:=k.1;grind
theorem Bt(n:Nat):((2:Rat)^n)=((2^n:Nat):Rat):=by
 induction n with
 | zero=>rfl
 | succ n ih=>rw[Rat.pow_succ,ih,Nat.pow_succ];push_cast;rfl
theorem P2.ex{r:Rat}{N:Nat}(h:r<=(N:Rat)):∃ j,P2 r j/\j<=N:=by
 have hN:r < 2^N:=by
  have h1:N < 2^N:=Nat.lt_two_pow_self;have h2:(N:Rat) < ((2^N:Nat):Rat):=by exact_mod_cast h1
  rw[Bt];grind
 have key:∀ n,r < 2^n->∃ j,P2 r j/\j<=n:=by
  intro n;induction n with
  | zero=>intro h;exact⟨0,⟨h,fun i hi=>Aa⟩,Nat.le_refl _⟩
  | succ n ih =>
   intro hn;by_cases h1:r < 2^n
   ·obtain⟨j,a,b⟩:=ih h1
    exact⟨j,a,Aa⟩
   ·refine⟨n+1,⟨hn,fun i hi=>?_⟩,Nat.le_refl _⟩
    have h3:(2:Nat)^i<=2^n:=Nat.pow_le_pow_right Ab Aa;have h4:((2^i:Nat):Rat)<=((2^n:Nat):Rat):=by exact_mod_cast h3
    rw[<-Bt,<-Bt]at h4;grind
 exact key N hN
theorem LY{m n:Nat}(h:m<=n):((m:Nat):Rat)<=((n:Nat):Rat):=by exact_mod_cast h
theorem BP(n:Nat):(0:Rat) < 2^n:=by rw[Bt];exact_mod_cast Nat.two_pow_pos n
theorem KN(n:Nat):(1:Rat)<=2^n:=by rw[Bt];exact_mod_cast Nat.one_le_two_pow
theorem K5{m n:Nat}(h:m<=n):(2:Rat)^m<=2^n:=by rw[Bt,Bt];exact_mod_cast Nat.pow_le_pow_right Ab h
theorem CZ(m n:Nat):(2:Rat)^(m+n)=2^m*2^n:=by rw[Bt,Bt,Bt,Nat.pow_add];push_cast;rfl
theorem Oi(n:Nat):((n:Nat):Rat)<=2^n:=by rw[Bt];exact_mod_cast Nat.le_of_lt Nat.lt_two_pow_self
theorem RY{a b c d:Rat}(h1:a<=b)(h2:c<=d)(hc:0<=c)(hb:0<=b):a*c<=b*d:=EP h1 h2 hc hb
theorem Na{q:Rat}{s:Nat}(h:qsz q<=s):ab q<=2^(32*s)/\(q≠0->1<=ab q*2^(32*s)):=by
 have hn:q.num.natAbs<=2^(32*s):=by
  have:=Ef.1 (Nat.le_trans (M7 q) h);rw[Cq]at this;omega
 have hd:q.den<=2^(32*s):=by
  have:=Ef.1 (Nat.le_trans (K9 q) h);rw[Cq,Int.natAbs_natCast]at this;omega
 have hd0:(0:Rat) < ((q.den:Nat):Rat):=by exact_mod_cast q.den_pos
 have hd1:(1:Rat)<=((q.den:Nat):Rat):=by exact_mod_cast q.den_pos
 have e:q*((q.den:Nat):Rat)=(q.num:Rat):=by
  have:=Gn q;have h0:((q.den:Nat):Rat)≠0:=by grind
  grind
 have e2:ab q*((q.den:Nat):Rat)=((q.num.natAbs:Nat):Rat):=by
  rw[<-JN,<-e,Cg,DJ (Std.le_of_lt hd0)]
 have hq:=Aj q;rw[Bt];constructor
 ·have h1:((q.num.natAbs:Nat):Rat)<=((2^(32*s):Nat):Rat):=LY hn
  have h2:=RY (Std.le_refl (ab q)) hd1 Ab hq;grind
 ·intro hq0
  have h1:(1:Rat)<=((q.num.natAbs:Nat):Rat):=by
   have:1<=q.num.natAbs:=by
    have:q.num≠0:=fun e=>hq0 (Rat.num_eq_zero.1 e);omega
   exact_mod_cast this
  have h2:=RY (Std.le_refl (ab q)) (LY hd) (Std.le_of_lt hd0) hq;grind
theorem fO{F:Nat->Rat}(z:ZI F){i:Nat}(h:F i≠0):1<=ab (F i):=by
 obtain⟨m,hm⟩:=z i;rw[hm,JN];have:m≠0:=fun e=>h (by rw[hm,e];rfl);have:1<=m.natAbs:=by omega
 exact_mod_cast this
theorem ZG{F:Nat->Rat}(h:F≠pz):∃ i,F i≠0:=Classical.byContradiction fun e=>h (funext fun i=>Classical.byContradiction fun k=>e ⟨i,k⟩)
theorem Gs(m:Nat):∀ n:Nat,((m:Nat):Rat)^n=((m^n:Nat):Rat)
 | 0=>rfl
 | n+1=>by rw[Rat.pow_succ,Gs m n,Nat.pow_succ];push_cast;rfl
theorem SS{F:Nat->Rat}{a b n:Nat}(h:Jo (2^a) F){x:Rat}(hx:ab x<=2^b - 1):ab (CR n F x)<=2^(a+n+b*n):=by
 have h1:=OZ h (show(0:Rat)<=2^b - 1 by have:=KN b;grind) hx n;have e:(1:Rat)+(2^b - 1)=2^b:=by grind
 have e2:((2:Rat)^b)^n=2^(b*n):=by
  rw[Bt,Bt,Nat.pow_mul];exact Gs (2^b) n
 rw[e,e2]at h1;rw[CZ,CZ];have h2:=RY (RY (Std.le_refl ((2:Rat)^a)) (Oi n) (Eh n) (Std.le_of_lt (BP a))) (Std.le_refl ((2:Rat)^(b*n))) (Std.le_of_lt (BP _)) (Rat.mul_nonneg (Std.le_of_lt (BP a)) (Std.le_of_lt (BP n)));exact Std.le_trans h1 h2
theorem Jo.tl{F:Nat->Rat}{B:Rat}(h:Jo B F):Jo B (Hp.tl F):=fun i=>h (i+1)
theorem Qq{a b:Nat}{x y:Rat}(hx:ab x<=2^b - 1)(hy:ab y<=2^b - 1):∀(n:Nat) (F:Nat->Rat),Jo (2^a) F->ab (CR n F x - CR n F y)<=2^(a+2*n+b*n)*ab (x - y)
 | 0,F,_=>by
  show ab (0 - 0)<=_;rw[show(0:Rat) - 0=0 by grind,Dt];exact Rat.mul_nonneg (Std.le_of_lt (BP _)) (Aj _)
 | n+1,F,h=>by
  have ih:=Qq hx hy n (tl F) h.tl;have hv:=SS (n:=n) h.tl hx;have hd:=Aj (x - y);have e:F 0+x*CR n (tl F) x - (F 0+y*CR n (tl F) y)=(x - y)*CR n (tl F) x+y*(CR n (tl F) x - CR n (tl F) y):=by grind
  rw[DT,DT,e];have h1:=FD ((x - y)*CR n (tl F) x) (y*(CR n (tl F) x - CR n (tl F) y));have h2:ab ((x - y)*CR n (tl F) x)<=2^(a+n+b*n)*ab (x - y):=by
   rw[Cg,Rat.mul_comm];exact CP hv hd
  have hy2:ab y<=2^b:=by grind
  have h3:ab (y*(CR n (tl F) x - CR n (tl F) y))<=2^b*(2^(a+2*n+b*n)*ab (x - y)):=by
   rw[Cg];exact RY hy2 ih (Aj _) (Std.le_of_lt (BP b))
  have h4:(2:Rat)^(a+n+b*n)<=2^(a+2*n+b*n+b):=K5 Aa;have h5:=CP h4 hd;have e3:(2:Rat)^b*(2^(a+2*n+b*n)*ab (x - y))=2^(a+2*n+b*n+b)*ab (x - y):=by rw[CZ _ b];grind
  have e4:(2:Rat)^(a+2*(n+1)+b*(n+1))=4*2^(a+2*n+b*n+b):=by
   rw[show a+2*(n+1)+b*(n+1)=2+(a+2*n+b*n+b) by rw[Nat.mul_succ,Nat.mul_succ];omega,CZ 2];congr 1
  rw[e4];have h6:=Rat.mul_nonneg (Std.le_of_lt (BP (a+2*n+b*n+b))) hd;grind
theorem Jo.pd{F:Nat->Rat}{a n:Nat}(h:Jo (2^a) F)(hs:Bq (n+1) F):Jo (2^(a+n)) (Hp.pd F):=fun i=>by
 show ab (((i+1:Nat):Rat)*F (i+1))<=_;by_cases hi:i+1<=n
 ·rw[Cg,DJ (Eh _),CZ,Rat.mul_comm ((2:Rat)^a)]
  refine RY (Std.le_trans (LY hi) (Oi n)) (h _) (Aj _) (Std.le_of_lt (BP n))
 ·rw[hs (i+1) Aa,Rat.mul_zero,Dt]
  exact Std.le_of_lt (BP _)
theorem QO{a b:Nat}{x y:Rat}(hx:ab x<=2^b - 1)(hy:ab y<=2^b - 1):∀(n:Nat) (F:Nat->Rat),Jo (2^a) F->Bq n F ->
  ∃ r,ab r<=2^(a+3*n+b*n)/\CR n F y - CR n F x=(y - x)*(CR n (pd F) x+(y - x)*r)
 | 0,F,_,_=>⟨0,by rw[Dt];exact Std.le_of_lt (BP _),by show(0:Rat) - 0=_*(0+_*0);grind⟩
 | n+1,F,h,hs=>by
  obtain⟨r,hr,e⟩:=QO hx hy n (tl F) h.tl hs.tl;have hpd:Jo (2^(a+n)) (pd (tl F)):=Jo.pd h.tl (hs.tl.mono (Nat.le_succ n));have hv:=SS (n:=n) hpd hx;refine⟨CR n (pd (tl F)) x+y*r,?_,?_⟩
  ·have h1:=FD (CR n (pd (tl F)) x) (y*r)
   have hy2:ab y<=2^b:=by grind
   have h2:ab (y*r)<=2^b*2^(a+3*n+b*n):=by rw[Cg];exact RY hy2 hr (Aj _) (Std.le_of_lt (BP b))
   have h3:(2:Rat)^(a+n+n+b*n)<=2^(a+3*n+b*n+b):=K5 Aa;have e3:(2:Rat)^b*2^(a+3*n+b*n)=2^(a+3*n+b*n+b):=by rw[CZ _ b];grind
   have e4:(2:Rat)^(a+3*(n+1)+b*(n+1))=8*2^(a+3*n+b*n+b):=by
    rw[show a+3*(n+1)+b*(n+1)=3+(a+3*n+b*n+b) by rw[Nat.mul_succ,Nat.mul_succ];omega,CZ 3];congr 1
   have h6:=BP (a+3*n+b*n+b);grind
  ·have e1:CR (n+1) (pd F) x=CR n (tl F) x+x*CR n (pd (tl F)) x:=by
    rw[Yx];congr 1;exact LW hs.tl (Nat.le_succ n) x
   rw[e1,DT,DT];grind
/-! ### two polynomials without a common root are not small together -/
def Ik(S D b:Nat):Nat:=96*(2*((S+1)*2^D)+(D+1)*((S+1)*2^D+1))+(D+1)+b*(D+1)+1
section
variable{F0 G0 A B:Nat->Rat}{D S:Nat}
theorem F7.low1(h:F7 F0 G0 D S A B)(h0:B≠pz){b:Nat}{x e:Rat}(hx:ab x<=2^b - 1)(hA:ab (ev A x)<=e)(hB:ab (ev B x)<=e):ab (ev (nx A B) x)<=e*2^(Ik S D b):=by
 obtain⟨fA,fB,zA,zB,hd,qA,qB⟩:=h.facts;obtain⟨M,hM⟩:∃ M,M=(S+1)*2^D:=⟨_,rfl⟩
 have he0:0<=e:=Std.le_trans (Aj _) hA;obtain⟨cA,cB,cR⟩:=h.clear h0 (M:=M) (by rw[hM];exact qA) (by rw[hM];exact qB);obtain⟨zN,fN,-,-,hN⟩:=L6 fA fB h0;by_cases hR:pr A B=pz
 ·rw[J3 hR,QI,Dt]
  exact Rat.mul_nonneg he0 (Std.le_of_lt (BP _))
 obtain⟨c,hc,ec⟩:=hN hR;have hq:∀ i,qsz (pq A B i)<=2*M+(D+1)*(M+1):=fun i=>by
  have h1:=PM (n:=pl A+1 - pl B) ((AB fA).mono (by have:=AQ fB h0;omega)) fB h0 cA cB i;have h2:(pl A+1 - pl B)*(M+1)<=(D+1)*(M+1):=Nat.mul_le_mul_right _ Aa;omega
 obtain⟨X,hX⟩:∃ X,X=2*M+(D+1)*(M+1):=⟨_,rfl⟩
 rw[<-hX]at hq
 -- the factor c
 have hcl:1<=c*2^(64*X):=by
  obtain⟨i,hi⟩:=ZG hR;have e1:pr A B i = -c*nx A B i:=by rw[ec];rfl
  have hni:nx A B i≠0:=fun q=>hi (by rw[e1,q,Rat.mul_zero]);have h1:=(Na (Nat.le_trans (cR.elem i) (show _<=X by omega))).2 hi;have h2:ab (nx A B i)<=2^(32*X):=(Na (Nat.le_trans ((h.step h0).facts.2.2.2.2.2.2 i) (show _<=X by omega))).1;rw[e1,Cg,Mo,DJ (Std.le_of_lt hc)]at h1;have h3:=RY (RY (Std.le_refl c) h2 (Aj _) (Std.le_of_lt hc)) (Std.le_refl ((2:Rat)^(32*X))) (Std.le_of_lt (BP _)) (Rat.mul_nonneg (Std.le_of_lt hc) (Std.le_of_lt (BP _)))
  rw[show 64*X=32*X+32*X by omega,CZ];grind
 -- the quotient's value
 have hqv:ab (ev (pq A B) x)<=2^(32*X+(D+1)+b*(D+1)):=by
  have hsup:Bq (D+1) (pq A B):=(L9 (n:=pl A+1 - pl B) ((AB fA).mono (by have:=AQ fB h0;omega)) fB h0).mono Aa;rw[EA hsup];exact SS (fun i=>(Na (hq i)).1) hx
 have e2:c*ev (nx A B) x=ev (pq A B) x*ev B x - ev A x:=by
  have e3:ev A x=ev (pq A B) x*ev B x+ev (pr A B) x:=by
   conv=>lhs;rw[KL A B]
   rw[IK ((Dy A B).cv fB) (EE fA fB),Ei (Dy A B) fB]
  rw[ec,FM _ fN]at e3;grind
 obtain⟨Q,hQ⟩:∃ Q:Rat,Q=2^(32*X+(D+1)+b*(D+1)):=⟨_,rfl⟩
 rw[<-hQ]at hqv;have hQ1:1<=Q:=by rw[hQ];exact KN _
 have h5:c*ab (ev (nx A B) x)<=2*(Q*e):=by
  have h6:=WN (ev (pq A B) x*ev B x) (ev A x);rw[<-e2,Cg,DJ (Std.le_of_lt hc),Cg]at h6;have h7:=RY hqv hB (Aj _) Af;have h8:=RY hQ1 (Std.le_refl e) he0 Af;grind
 have h9:=RY (Std.le_refl (ab (ev (nx A B) x))) hcl Ab (Aj _);have h10:=CP h5 (Std.le_of_lt (BP (64*X)));have e11:(2:Rat)^(Ik S D b)=2*Q*2^(64*X):=by
  rw[hQ,show Ik S D b=1+(32*X+(D+1)+b*(D+1))+64*X by unfold Ik;rw[<-hM,<-hX];omega,CZ,CZ 1];congr 1
 rw[e11];grind
theorem F7.low(c:Cx F0 G0){b:Nat}{x:Rat}(hx:ab x<=2^b - 1):∀(n:Nat) {A B:Nat->Rat} {e:Rat},F7 F0 G0 D S A B->pl B<=n->ab (ev A x)<=e->ab (ev B x)<=e->1<=e*2^(n*Ik S D b):=by
 intro n;induction n with
 | zero =>
  intro A B e h hn hA hB;obtain⟨fA,fB,zA,zB,hd,qA,qB⟩:=h.facts;have hBz:B=pz:=(BF fB).1 Aa;have hc:=h.cop c;rw[hBz]at hc;have hA1:pl A=1:=Lf hc fA (Dv.refl A) (Dv.zero A);have e1:ev A x=A 0:=by unfold ev;rw[hA1];show A 0+x*0=A 0;grind
  have hA0:A 0≠0:=by have:=EH fA Aa;rwa[hA1]at this
  have h1:=fO zA hA0;rw[e1]at hA;rw[Nat.zero_mul,Rat.pow_zero];grind
 | succ n ih =>
  intro A B e h hn hA hB;have hY:=KN (Ik S D b);have he0:0<=e:=Std.le_trans (Aj _) hA;have hgrow:e<=e*2^Ik S D b:=by have:=RY (Std.le_refl e) hY Ab he0;grind
  have e3:(2:Rat)^((n+1)*Ik S D b)=2^Ik S D b*2^(n*Ik S D b):=by rw[Nat.succ_mul,Nat.add_comm,CZ]
  by_cases h0:B=pz
  ·have:=ih h (by rw[h0,BJ];omega) hA hB
   have h2:=CP hgrow (Std.le_of_lt (BP (n*Ik S D b)));rw[e3];grind
  ·have hN:=h.low1 h0 hx hA hB
   obtain⟨fA,fB,zA,zB,hd,qA,qB⟩:=h.facts;have hlt:=(L6 fA fB h0).2.2.2.1;have:=ih (h.step h0) Aa (Std.le_trans hB hgrow) hN;rw[e3];grind
end
theorem aO{F:Nat->Rat}(zF:ZI F)(fF:Ae F)(x:Rat):ab (ev (rd F) x)<=ab (ev F x):=by
 unfold rd;rw[FM _ fF,Cg];have h1:ab (1 / ((cn F:Nat):Rat))<=1:=by
  rcases Nat.eq_zero_or_pos (cn F)with h | h
  ·rw[h,show(1:Rat) / ((0:Nat):Rat)=0 from by rw[Rat.div_def];show 1*(0:Rat)⁻¹ = 0;rw[Rat.inv_zero,Rat.mul_zero],Dt];decide
  ·have hp:(0:Rat) < ((cn F:Nat):Rat):=by exact_mod_cast h
   have h1':(1:Rat)<=((cn F:Nat):Rat):=by exact_mod_cast h
   obtain⟨hi,ei⟩:=Ic hp;rw[DJ (Std.le_of_lt hi)];have:=RY (Std.le_refl (1 / ((cn F:Nat):Rat))) h1' Ab (Std.le_of_lt hi);grind
 have:=CP h1 (Aj (ev F x));grind
def Vm(S D b:Nat):Nat:=D*Ik S D b
theorem Cx.low{F G:Nat->Rat}{S D b:Nat}(c:Cx F G)(fF:Ae F)(fG:Ae G)(zF:ZI F)(zG:ZI G)(qF:∀ i,qsz (F i)<=S)(qG:∀ i,qsz (G i)<=S)(hD:pl F+pl G=D)
  {x e:Rat} (hx:ab x<=2^b - 1) (h1:ab (ev F x)<=e) (h2:ab (ev G x)<=e):1<=e*2^(Vm S D b):=by
 have hs:=F7.start fF fG zF zG qF qG;rw[hD]at hs;have he0:0<=e:=Std.le_trans (Aj _) h1;refine hs.low c hx D ?_ (Std.le_trans (aO zF fF x) h1) (Std.le_trans (aO zG fG x) h2);have:=hs.facts.2.2.2.2.1;omega
structure SF(F:Nat->Rat):Prop where
 p:Bn F
 c:Cx F (pd F)
theorem Bn.eq_dv{F G:Nat->Rat}(h:Bn F)(k:Bn G)(a:Dv F G)(b:Dv G F):F=G:=by
 have e:mn F=mn G:=Um (Lb h.f) (Lb k.f) (fun _=>Uu h.f h.n) (fun _=>Uu k.f k.n) ((GA h.f).trans (a.trans (GD G))) ((GA k.f).trans (b.trans (GD F)));have hl:=CW h.f h.n;have kl:=CW k.f k.n;have e1:F=psc (ld F) (mn F):=by unfold mn;rw[C9,show ld F*(1 / ld F)=1 by grind,Cu]
 have e2:mn G=psc (1 / ld G) G:=rfl;have e3:F=psc (ld F*(1 / ld G)) G:=by
  conv=>lhs;rw[e1,e,e2,C9]
 have e4:Hp.pp F=Hp.pp G:=Pz h.z k.z k.f k.n (by
  intro q;have:=KX kl;rcases Rat.mul_eq_zero.1 q with x | x
  ·exact hl x
  ·exact this x) e3
 rw[h.self,k.self]at e4;exact e4
theorem kD{H A B:Nat->Rat}(h:Dv H A)(k:Dv H B):Dv (cv H H) (cv A B):=by
 obtain⟨Q1,f1,rfl⟩:=h;obtain⟨Q2,f2,rfl⟩:=k;refine⟨cv Q1 Q2,f1.cv f2,?_⟩;rw[Ai,Ai,<-Ai H Q2 H,AX H Q2,Ai]
theorem Wn{g:Nat->Rat}(h:Bn g):SF (y0 g):=by
 obtain⟨hC,hW,e,-,-⟩:=Ec h;refine⟨hW,?_⟩;refine Classical.byContradiction fun hn=>?_;obtain⟨hE,hP,e2,-,-⟩:=Ec hW;have h1:1 < pl (yc (y0 g)):=by
  rcases Nat.lt_or_ge 1 (pl (yc (y0 g)))with a | a
  ·exact a
  ·exact absurd (Cx.of_gcd hW (CU hW.z) (Bw hW.f) a) hn
 obtain⟨N,hN⟩:=Uy hW;by_cases hc:pl (Df (yc (y0 g)) (y0 (y0 g)))<=1
 ·have c1:=Cx.of_gcd hE hP.z hP.f hc
  have c2:=(Cx.pw hE.f hP.f c1 N).symm.symm;have:=Cx.self hE.f (((c2.symm).dv hN));omega
 ·obtain⟨hH,-,-,d1,d2,-⟩:=hE.gcd hP.z hP.f
  have h2:Dv (cv (Df (yc (y0 g)) (y0 (y0 g))) (Df (yc (y0 g)) (y0 (y0 g)))) (y0 g):=by
   have:=kD d2 d1;rw[<-e2]at this;exact this
  have:=Zy h hH h2;omega
theorem SF.stf{F:Nat->Rat}(h:SF F):∃ K,Em F K:=by
 obtain⟨S,hS⟩:=Dk h.p.f;obtain⟨T,hT⟩:=Dk (Bw h.p.f);obtain⟨K,hK,-⟩:=GG h.p.f (Bw h.p.f) h.p.z (CU h.p.z) (S:=max S T) (fun i=>Nat.le_trans (hS i) (Nat.le_max_left _ _)) (fun i=>Nat.le_trans (hT i) (Nat.le_max_right _ _));exact⟨K,h.p.z,h.p.f,h.p.n,h.c,hK⟩
noncomputable def kn(F:Nat->Rat):Nat:=open Classical in if h:∃ K,PG F (pd F) K then Classical.choose h else 0
theorem PG.kn{F:Nat->Rat}{K:Nat}(h:PG F (pd F) K):Hp.kn F=K:=by
 have hx:∃ K,PG F (pd F) K:=⟨K,h⟩
 unfold Hp.kn;rw[dif_pos hx];exact(Classical.choose_spec hx).uniq h
theorem SF.st{F:Nat->Rat}(h:SF F):Em F (kn F):=by
 obtain⟨K,hK⟩:=h.stf;rw[hK.k.kn];exact hK
noncomputable def rc(F:Nat->Rat)(p q:Rat):Int:=rt F (kn F) p q
theorem Lh(F:Nat->Rat)(p q r:Rat):rc F p q+rc F q r=rc F p r:=IU F _ p q r
theorem SF.nonneg{F:Nat->Rat}(h:SF F){p q:Rat}(hpq:p<=q):0<=rc F p q:=h.st.rt_nonneg hpq
theorem SF.sub{F:Nat->Rat}(h:SF F){p x y q:Rat}(h1:p<=x)(h2:x<=y)(h3:y<=q):rc F x y<=rc F p q:=h.st.rt_sub h1 h2 h3
theorem SF.free{F:Nat->Rat}(h:SF F){p q x y:Rat}(h0:rc F p q=0)(h1:p < x)(h2:x<=y)(h3:y<=q):ev F x≠0/\BB (ev F y)=BB (ev F x):=h.st.free h0 h1 h2 h3
theorem SF.mul{A B:Nat->Rat}(hA:SF A)(hB:SF B)(hC:SF (cv A B))(c:Cx A B){p q:Rat}(hpq:p<=q):rc (cv A B) p q=rc A p q+rc B p q:=Em.rt_mul hA.st hB.st hC.st c hpq
theorem SF.split{A B:Nat->Rat}(hA:Bn A)(hB:Bn B)(h:SF (cv A B)):SF A/\SF B/\Cx A B:=by
 have half:∀ {A B:Nat->Rat},Bn A->Bn B->Cx (cv A B) (pd (cv A B))->Cx A (pd A)/\Cx A B:=by
  intro A B hA hB ⟨U,V,fU,fV,e⟩;have fA':=Bw hA.f;have fB':=Bw hB.f;rw[Kk]at e;constructor
  ·refine⟨pad (cv U B) (cv V (pd B)),cv V B,(fU.cv hB.f).pad (fV.cv fB'),fV.cv hB.f,?_⟩
   rw[<-e,D5,F8];have e1:cv (cv U B) A=cv U (cv A B):=by rw[Ai,AX B A]
   have e2:cv (cv V (pd B)) A=cv V (cv A (pd B)):=by rw[Ai,AX (pd B) A]
   have e3:cv (cv V B) (pd A)=cv V (cv (pd A) B):=by rw[Ai,AX B (pd A)]
   rw[e1,e2,e3]
   funext n;simp only[pad];grind
  ·refine⟨pad (cv U B) (cv V (pd B)),cv V (pd A),(fU.cv hB.f).pad (fV.cv fB'),fV.cv fA',?_⟩
   rw[<-e,D5,F8];have e1:cv (cv U B) A=cv U (cv A B):=by rw[Ai,AX B A]
   have e2:cv (cv V (pd B)) A=cv V (cv A (pd B)):=by rw[Ai,AX (pd B) A]
   have e3:cv (cv V (pd A)) B=cv V (cv (pd A) B):=by rw[Ai]
   rw[e1,e2,e3]
   funext n;simp only[pad];grind
 obtain⟨a1,a2⟩:=half hA hB h.c;obtain⟨b1,-⟩:=half hB hA (by rw[AX];exact h.c);exact⟨⟨hA,a1⟩,⟨hB,b1⟩,a2⟩
theorem SF.factor{W A:Nat->Rat}(h:SF W)(hA:Bn A)(hd:J6 W A):SF A/\SF (pq W A)/\Cx A (pq W A)/\W=cv A (pq W A):=by
 obtain⟨q1,q2⟩:=h.p.quot hA hd;have e:W=cv A (pq W A):=by rw[AX];exact q2
 have hs:SF (cv A (pq W A)):=by rw[<-e];exact h
 obtain⟨a,b,c⟩:=SF.split hA q1 hs;exact⟨a,b,c,e⟩
theorem Bn.zdv{F D:Nat->Rat}(h:Bn F)(k:Bn D)(hd:Dv D F):J6 F D:=by
 obtain⟨Q,fQ,e⟩:=hd;exact⟨Q,Uc h.z h.f k.z k.f k.n fQ e (by rw[k.c];exact Nat.one_dvd _),fQ,e⟩
theorem SF.rc_le{W A:Nat->Rat}(h:SF W)(hA:Bn A)(hd:Dv A W){p q:Rat}(hpq:p<=q):rc A p q<=rc W p q:=by
 obtain⟨a,b,c,e⟩:=h.factor hA (h.p.zdv hA hd);have h1:=SF.mul a b (by rw[<-e];exact h) c hpq;rw[<-e]at h1;have:=b.nonneg hpq;omega
theorem SH{E D:Nat->Rat}(hE:SF E)(hD:Bn D)(h:Dv E D):Dv E (y0 D):=by
 obtain⟨hC,hW,e,-,-⟩:=Ec hD;obtain⟨N,hN⟩:=Uy hD;have h1:Dv E (pw (y0 D) (N+1)):=by
  obtain⟨Q,fQ,eQ⟩:=hN;refine h.trans ⟨Q,fQ,?_⟩;show cv (pw (y0 D) N) (y0 D)=_
  conv=>rhs;rw[e]
  rw[eQ,Ai,AX (yc D)]
 obtain⟨hH,z1,z2,d1,d2,-⟩:=hE.p.gcd hW.z hW.f;obtain⟨f1,f2,f3,f4⟩:=hE.factor hH z1
 -- the rest of E is coprime to the square-free part
 have h2:Cx (pq E (Df E (y0 D))) (y0 D):=by
  refine Cx.of_gcd f2.p hW.z hW.f ?_;obtain⟨kG,-,-,g1,g2,-⟩:=f2.p.gcd hW.z hW.f;have g3:Dv (Df (pq E (Df E (y0 D))) (y0 D)) E:=g1.trans ⟨Df E (y0 D),hH.f,f4⟩;have g4:Dv (Df (pq E (Df E (y0 D))) (y0 D)) (Df E (y0 D)):=by
   have:=(EG hE.p.f hW.f hE.p.z hW.z).2.2.2.2.2.2.2.2 _ kG.f g3 g2;exact this.trans (GA hH.f)
  have:=Cx.self kG.f ((f3.dv g4).symm.dv g1);omega
 have h3:=Cx.pw f2.p.f hW.f h2 (N+1);have h4:Dv (pq E (Df E (y0 D))) (pw (y0 D) (N+1)):=Dv.trans ⟨Df E (y0 D),hH.f,f4⟩ h1;have h5:=f2.p.one (by have:=Cx.self f2.p.f (h3.symm.dv h4);omega);rw[h5,I4]at f4;have:Dv (Df E (y0 D)) (y0 D):=d2;rw[<-f4]at this;exact this
noncomputable def sqf(F:Nat->Rat):Nat->Rat:=y0 (pp F)
theorem C8{F:Nat->Rat}(z:ZI F)(f:Ae F)(h0:F≠pz):SF (sqf F):=Wn (Bn.pp z f h0)
theorem Ev{F:Nat->Rat}(z:ZI F)(f:Ae F)(h0:F≠pz):Dv (sqf F) F:=by
 obtain⟨hC,hW,e,-,-⟩:=Ec (Bn.pp z f h0);have h1:Dv (sqf F) (pp F):=⟨yc (pp F),hC.f,by rw[AX];exact e⟩
 conv=>arg 2;rw[Ow z f h0]
 exact h1.psc _
theorem G9{E F:Nat->Rat}(z:ZI F)(f:Ae F)(h0:F≠pz)(hE:SF E)(h:Dv E F):Dv E (sqf F):=
 SH hE (Bn.pp z f h0) ((DK z f).2 h)
theorem KV{F G:Nat->Rat}(zF:ZI F)(fF:Ae F)(zG:ZI G)(fG:Ae G)(h0:F≠pz):Df F G≠pz:=fun e=>by
 have h:=(EG fF fG zF zG).2.2.2.2.2.2.1;rw[e,Lm]at h;exact h0 (Lp h)
theorem Zb{F G:Nat->Rat}(zF:ZI F)(fF:Ae F)(hF:F≠pz)(zG:ZI G)(fG:Ae G)(hG:G≠pz):sqf (Df F G)=Df (sqf F) (sqf G):=by
 have k:=EG fF fG zF zG;have n:=KV zF fF zG fG hF;have s1:=C8 zF fF hF;have s2:=C8 zG fG hG;have s3:=C8 k.2.1 k.1 n;obtain⟨p4,z1,z2,d1,d2,-⟩:=s1.p.gcd s2.p.z s2.p.f;have s4:=(s1.factor p4 z1).1;have dF:Dv (Df F G) F:=(GD _).trans k.2.2.2.2.2.2.1;have dG:Dv (Df F G) G:=(GD _).trans k.2.2.2.2.2.2.2.1;have hd:=Ev k.2.1 k.1 n;refine s3.p.eq_dv p4 ?_ ?_
 ·have a1:=G9 zF fF hF s3 (hd.trans dF)
  have a2:=G9 zG fG hG s3 (hd.trans dG);exact((EG s1.p.f s2.p.f s1.p.z s2.p.z).2.2.2.2.2.2.2.2 _ s3.p.f a1 a2).trans (GA p4.f)
 ·refine G9 k.2.1 k.1 n s4 ?_
  exact(k.2.2.2.2.2.2.2.2 _ p4.f (d1.trans (Ev zF fF hF)) (d2.trans (Ev zG fG hG))).trans (GA k.1)
theorem SF.meet{W X:Nat->Rat}(hW:SF W)(hX:SF X):∃ U V,SF (Df W X)/\SF U/\SF V/\W=cv (Df W X) U/\X=cv (Df W X) V/\Cx (Df W X) U/\Cx (Df W X) V/\Cx U V/\Cx U X /\
  (∀ p q:Rat,p<=q->rc W p q=rc (Df W X) p q+rc U p q)/\(∀ p q:Rat,p<=q->rc X p q=rc (Df W X) p q+rc V p q):=by
 obtain⟨p1,z1,z2,d1,d2,-⟩:=hW.p.gcd hX.p.z hX.p.f;obtain⟨a1,a2,a3,a4⟩:=hW.factor p1 z1;obtain⟨b1,b2,b3,b4⟩:=hX.factor p1 z2;have k:=EG hW.p.f hX.p.f hW.p.z hX.p.z;have cUV:Cx (pq W (Df W X)) (pq X (Df W X)):=by
  refine Cx.of_gcd a2.p b2.p.z b2.p.f ?_;obtain⟨kG,-,-,g1,g2,-⟩:=a2.p.gcd b2.p.z b2.p.f;have g3:=k.2.2.2.2.2.2.2.2 _ kG.f (g1.trans ⟨Df W X,p1.f,a4⟩) (g2.trans ⟨Df W X,p1.f,b4⟩);have:=Cx.self kG.f ((a3.dv (g3.trans (GA p1.f))).symm.dv g1);omega
 refine⟨pq W (Df W X),pq X (Df W X),a1,a2,b2,a4,b4,a3,b3,cUV,?_,fun p q hpq=>?_,fun p q hpq=>?_⟩
 ·have:=Cx.mul a2.p.f p1.f b2.p.f a3.symm cUV
  rw[<-b4]at this;exact this
 ·have h1:=SF.mul a1 a2 (by rw[<-a4];exact hW) a3 hpq
  rw[<-a4]at h1;exact h1
 ·have h1:=SF.mul b1 b2 (by rw[<-b4];exact hX) b3 hpq
  rw[<-b4]at h1;exact h1
def PV(S D b:Nat):Nat:=32*S+(3+b)*D
def Nv(S D b:Nat):Nat:=PV S D b+Vm S D b+2
theorem TL{F:Nat->Rat}{S:Nat}(h:∀ i,qsz (F i)<=S):Jo (2^(32*S)) F:=fun i=>(Na (h i)).1
theorem Tk{F:Nat->Rat}{S D b:Nat}(qF:∀ i,qsz (F i)<=S)(hD:pl F<=D){x y:Rat}(hx:ab x<=2^b - 1)(hy:ab y<=2^b - 1):ab (ev F x - ev F y)<=2^(PV S D b)*ab (x - y):=by
 have h:=Qq hx hy (pl F) F (TL qF);refine Std.le_trans h (CP (K5 ?_) (Aj _));unfold PV;have h1:b*pl F<=b*D:=Nat.mul_le_mul_left _ hD;rw[Nat.add_mul];omega
theorem dN{F:Nat->Rat}{S D b:Nat}(fF:Ae F)(qF:∀ i,qsz (F i)<=S)(hD:pl F<=D){x y:Rat}(hx:ab x<=2^b - 1)(hy:ab y<=2^b - 1):∃ r,ab r<=2^(PV S D b)/\ev F y - ev F x=(y - x)*(ev (pd F) x+(y - x)*r):=by
 obtain⟨r,hr,e⟩:=QO hx hy (pl F) F (TL qF) (AB fF);refine⟨r,Std.le_trans hr (K5 ?_),?_⟩
 ·unfold PV
  have h1:b*pl F<=b*D:=Nat.mul_le_mul_left _ hD;rw[Nat.add_mul];omega
 ·have e1:ev (pd F) x=CR (pl F) (pd F) x:=EA (Qi ((AB fF).mono (Nat.le_succ _))) x
  rw[e1];exact e
theorem Em.small_pt{F:Nat->Rat}{K:Nat}(h:Em F K){x y ε:Rat}(hxy:x<=y)(hε:0 < ε)(hr:1<=rt F K x y):∃ z,x<=z/\z<=y/\ab (ev F z) < ε:=by
 refine Classical.byContradiction fun hn=>?_;have:=h.flat hxy hε fun z a b=>by
  rcases Std.lt_trichotomy ε (ab (ev F z))with c | c | c
  ·exact Std.le_of_lt c
  ·rw[c];exact Std.le_refl _
  ·exact absurd ⟨z,a,b,c⟩ hn
 unfold rt at hr;omega
theorem Oj{q:Rat}(h:0 < q):BB q=1:=by unfold BB;rw[if_pos h]
theorem Oa{q:Rat}(h:q < 0):BB q = -1:=by unfold BB;rw[if_neg Af,if_pos h]
theorem Rx:BB 0=0:=by decide
theorem Zf{F:Nat->Rat}{u v w:Rat}(h:(ev F u < ev F v/\ev F v < ev F w)\/(ev F w < ev F v/\ev F v < ev F u)):Im F u w=Im F u v+Im F v w:=by
 unfold Im;generalize ev F u=a at *;generalize ev F v=b at *;generalize ev F w=c at *;rcases Std.lt_trichotomy a 0 with ha | ha | ha<;>rcases Std.lt_trichotomy b 0 with hb | hb | hb<;>rcases Std.lt_trichotomy c 0 with hc | hc | hc
 all_goals first
  | (exfalso;grind)
  | skip
 all_goals(try have ea:=Oa ha);(try have ea:=Oj ha);(try have eb:=Oa hb);(try have eb:=Oj hb);(try have ec:=Oa hc);(try have ec:=Oj hc)
 all_goals(try(have na:a≠0:=by grind));(try(have nb:b≠0:=by grind));(try(have nc:c≠0:=by grind))
 all_goals(try subst ha);(try subst hb);(try subst hc);simp_all [Rx]
theorem Em.sep{F:Nat->Rat}{K S D b:Nat}(h:Em F K)(qF:∀ i,qsz (F i)<=S)(qG:∀ i,qsz (pd F i)<=S)(hD:pl F+pl (pd F)=D){x y:Rat}(hx:ab x<=2^b - 1)(hy:ab y<=2^b - 1)(hxy:x < y)(hd:(y - x)*2^(Nv S D b)<=1):rt F K x y<=1:=by
 refine Classical.byContradiction fun hn=>?_;obtain⟨d,hdd⟩:∃ d,d=y - x:=⟨_,rfl⟩
 have hd0:0 < d:=by grind
 obtain⟨L,hL⟩:∃ L:Rat,L=2^(PV S D b):=⟨_,rfl⟩
 have hL0:0 < L:=by rw[hL];exact BP _
 obtain⟨E,hE⟩:∃ E:Rat,E=2^(Vm S D b):=⟨_,rfl⟩
 have hE0:0 < E:=by rw[hE];exact BP _
 have hLd:=Rat.mul_pos hL0 hd0;have hsmall:4*(L*d*E)<=1:=by
  have e:(2:Rat)^(Nv S D b)=L*E*4:=by
   unfold Nv;rw[CZ,CZ,<-hL,<-hE];congr 1
  rw[e,<-hdd]at hd;grind
 have hin:∀ z,x<=z->z<=y->ab z<=2^b - 1:=fun z a c=>EN hx hy a c;have hdist:∀ z z',x<=z->z<=y->x<=z'->z'<=y->ab (z - z')<=d:=fun z z' a c a' c'=>Fe.2 ⟨Af,Af⟩;have lF:∀ z z',x<=z->z<=y->x<=z'->z'<=y->ab (ev F z - ev F z')<=L*d:=fun z z' a c a' c'=>by
  have:=Tk qF (show pl F<=D by omega) (hin z a c) (hin z' a' c');rw[<-hL]at this;exact Std.le_trans this (Ce (hdist z z' a c a' c') (Std.le_of_lt hL0))
 have lG:∀ z z',x<=z->z<=y->x<=z'->z'<=y->ab (ev (pd F) z - ev (pd F) z')<=L*d:=fun z z' a c a' c'=>by
  have:=Tk qG (show pl (pd F)<=D by omega) (hin z a c) (hin z' a' c');rw[<-hL]at this;exact Std.le_trans this (Ce (hdist z z' a c a' c') (Std.le_of_lt hL0))
 obtain⟨z0,z1,z2,z3⟩:=h.small_pt (Std.le_of_lt hxy) hLd Aa;have hall:∀ z,x<=z->z<=y->ab (ev F z)<=2*(L*d):=fun z a c=>by
  have h1:=lF z z0 a c z1 z2;have h2:=FD (ev F z - ev F z0) (ev F z0);have e:ev F z - ev F z0+ev F z0=ev F z:=by grind
  rw[e]at h2;grind
 have hbig:∀ z,x<=z->z<=y->L*d < ab (ev (pd F) z):=fun z a c=>by
  rcases Std.lt_trichotomy (L*d) (ab (ev (pd F) z))with q | q | q
  ·exact q
  all_goals
   exfalso;have:=Cx.low h.c h.f (Bw h.f) h.z (CU h.z) qF qG hD (hin z a c) (hall z a c) (show ab (ev (pd F) z)<=2*(L*d) by grind);rw[<-hE]at this;grind
 have hs0:BB (ev (pd F) x)≠0:=by
  have:=hbig x (Std.le_refl _) (Std.le_of_lt hxy);intro q;rw[DC.1 q,Dt]at this;grind
 have hmono:∀ u v,x<=u->u < v->v<=y->BB (ev F v - ev F u)=BB (ev (pd F) x):=fun u v a c a'=>by
  have hu:u<=y:=by grind
  have b1:=hbig u a hu;have s1:=Pk (p:=ev (pd F) u) (q:=ev (pd F) x) (by
   have:=lG u x a hu (Std.le_refl _) (Std.le_of_lt hxy);grind)
  obtain⟨r,hr,e⟩:=dN h.f qF (show pl F<=D by omega) (hin u a hu) (hin v Af a');rw[e,Ga (show 0 < v - u by grind),<-s1.1];refine(Pk ?_).1.symm;have e2:ev (pd F) u - (ev (pd F) u+(v - u)*r) = -((v - u)*r):=by grind
  rw[e2,Mo,Cg];rw[<-hL]at hr;have h4:=RY (show ab (v - u)<=d from Fe.2 ⟨Af,Af⟩) hr (Aj _) (Std.le_of_lt hd0);grind
 obtain⟨δ,hδ,hl⟩:=h.loc x y;have key:rt F K x y=Im F x y:=by
  refine Mt (P:=fun u v=>rt F K u v=Im F u v) hδ hxy (fun u v a1 a2 a3 a4=>hl u v a1 a2 a3 a4) (fun u v w a1 a2 a3 a4 e f=>?_);have m1:=hmono u v a1 a2 Af;have m2:=hmono v w Af a3 a4;have m3:=IU F K u v w;have m4:Im F u w=Im F u v+Im F v w:=by
   refine Zf ?_;rcases Std.lt_trichotomy (ev (pd F) x) 0 with c | c | c
   ·rw[Oa c]at m1 m2
    refine .inr ⟨?_,?_⟩
    ·rcases Std.lt_trichotomy (ev F w - ev F v) 0 with q | q | q
     ·grind
     ·rw[q,Rx]at m2;exact absurd m2 Ab
     ·rw[Oj q]at m2;exact absurd m2 Ab
    ·rcases Std.lt_trichotomy (ev F v - ev F u) 0 with q | q | q
     ·grind
     ·rw[q,Rx]at m1;exact absurd m1 Ab
     ·rw[Oj q]at m1;exact absurd m1 Ab
   ·exact absurd (DC.2 c) hs0
   ·rw[Oj c]at m1 m2
    refine .inl ⟨?_,?_⟩
    ·rcases Std.lt_trichotomy (ev F v - ev F u) 0 with q | q | q
     ·rw[Oa q]at m1;exact absurd m1 Ab
     ·rw[q,Rx]at m1;exact absurd m1 Ab
     ·grind
    ·rcases Std.lt_trichotomy (ev F w - ev F v) 0 with q | q | q
     ·rw[Oa q]at m2;exact absurd m2 Ab
     ·rw[q,Rx]at m2;exact absurd m2 Ab
     ·grind
  omega
 have:=(iE F x y).2;omega
theorem Cx.sep{A B:Nat->Rat}{S D b:Nat}(hA:SF A)(hB:SF B)(c:Cx A B)(qA:∀ i,qsz (A i)<=S)(qB:∀ i,qsz (B i)<=S)(hD:pl A+pl B=D){x y:Rat}(hx:ab x<=2^b - 1)(hy:ab y<=2^b - 1)(hxy:x < y)(hd:(y - x)*2^(Nv S D b)<=1) :
  rc A x y=0\/rc B x y=0:=by
 refine Classical.byContradiction fun hn=>?_;have n1:=hA.nonneg (Std.le_of_lt hxy);have n2:=hB.nonneg (Std.le_of_lt hxy);obtain⟨d,hdd⟩:∃ d,d=y - x:=⟨_,rfl⟩
 have hd0:0 < d:=by grind
 obtain⟨L,hL⟩:∃ L:Rat,L=2^(PV S D b):=⟨_,rfl⟩
 have hL0:0 < L:=by rw[hL];exact BP _
 obtain⟨E,hE⟩:∃ E:Rat,E=2^(Vm S D b):=⟨_,rfl⟩
 have hE0:0 < E:=by rw[hE];exact BP _
 have hLd:=Rat.mul_pos hL0 hd0;have hsmall:4*(L*d*E)<=1:=by
  have e:(2:Rat)^(Nv S D b)=L*E*4:=by
   unfold Nv;rw[CZ,CZ,<-hL,<-hE];congr 1
  rw[e,<-hdd]at hd;grind
 have one:∀ {P:Nat->Rat},SF P->(∀ i,qsz (P i)<=S)->pl P<=D->1<=rc P x y->ab (ev P x)<=2*(L*d):=fun {P} hP qP hp h1=>by
  obtain⟨z,z1,z2,z3⟩:=hP.st.small_pt (Std.le_of_lt hxy) hLd h1;have h2:=Tk qP hp hx (EN hx hy z1 z2);rw[<-hL]at h2;have h3:=Ce (show ab (x - z)<=d from Fe.2 ⟨Af,Af⟩) (Std.le_of_lt hL0);have h4:=FD (ev P x - ev P z) (ev P z);have e:ev P x - ev P z+ev P z=ev P x:=by grind
  rw[e]at h4;grind
 have a1:=one hA qA Aa Aa;have a2:=one hB qB Aa Aa;have:=Cx.low c hA.p.f hB.p.f hA.p.z hB.p.z qA qB hD hx a1 a2;rw[<-hE]at this;grind
section
variable{P:Program}
theorem O3(w:World)(k base:Nat)(t ty e:TypeId)(i:TypeInfo)(z:Value)(bytes:Nat)(ht:P.underlying t=some (.slice e))(hi:P.info? e=some i)(hz:i.zero=some z)
  (hsize:i.size=k) (hby:i.bytes=bytes) (hzs:z.cells.size=k) (hzd:nodig z.cells=true) (hsz:0 < k)
  (v:Value) (n:Nat) (xs:List Value) (hown:LK k base e w v n xs)
  (a:Addr) (c:Nat) (news:List Value) (hl:news.length=k) (hnews:∀ j u,news[j]? = some u->w.cell? (a.add j)=some u) (h1:∀ u∈news,u.oneCell'=true) (hnd:∀ u∈news,Ag u=false)
  (h63:n+1<=maxLen) (hbytes:(n+1)*bytes<=140737488355328) (hbase:base<=w.heap.size) :
  ∃ v' w',(Builtin.append_ #[t,t] ty #[v,.slice (some a) 1 c]).run P w = .ok v' w'/\LK k base e w' v' (n+1) (xs ++ news)/\Cj (blk v) w w'/\∀ g∈blk v',g∈blk v\/w.heap.size<=g:=by
 subst hsize;subst hby;have hl':news.length=1*i.size:=by rw[Nat.one_mul];exact hl
 have hlen:(xs ++ news).length=(n+1)*i.size:=by rw[List.length_append,hown.1,hl,Nat.succ_mul]
 have hsmall:n+1<=9223372036854775807:=by simp only[maxLen]at h63;omega
 have hzl:=BZ.1 hzd;have hzc:∀ m,∀ u∈(Builtin.zeroCells z.cells m).toList,Ag u=false:=by
  intro m u hu;simp only[Builtin.zeroCells,Array.toList_map,Array.toList_range,List.mem_map,List.mem_range]at hu;obtain⟨j,hj,rfl⟩:=hu;have:j % z.cells.size < z.cells.size:=Nat.mod_lt _ Aa;rw[getElem!_pos z.cells _ this];exact hzl _ Ac
 have hxd:∀ u∈xs,Ag u=false:=by
  rcases hown.2 with⟨_,h0⟩ | ⟨g,cap,cur,_,_,hb,_,_,_,htake⟩
  ·intro u hu
   have:xs=[]:=List.eq_nil_of_length_eq_zero (by rw[hown.1,h0,Nat.zero_mul]);rw[this]at hu;cases hu
  ·intro u hu
   rw[<-htake]at hu;exact BZ.1 hb.2 _ (List.mem_of_mem_take hu)
 have grown:∀(old:Nat),old < n+1 ->
   LK i.size base e (w.drew.alloc (.cells (xs.toArray ++ news.toArray ++ Builtin.zeroCells z.cells (grownCap w (n+1) old e - (n+1))) e)) (.slice (some ⟨w.heap.size,0,none⟩) (n+1) (grownCap w (n+1) old e)) (n+1) (xs ++ news) /\
   ∀ G,Cj G w (w.drew.alloc (.cells (xs.toArray ++ news.toArray ++ Builtin.zeroCells z.cells (grownCap w (n+1) old e - (n+1))) e)):=by
  intro old ho;have hge:=grownCap_ge w (n+1) old e;have hcm:grownCap w (n+1) old e<=maxLen:=grownCap_le_maxLen w (n+1) old e h63;refine⟨⟨hlen,.inr ⟨w.heap.size,_,_,rfl,hbase,⟨heap_alloc_new w.drew _,?_⟩,hge,hcm,?_,?_⟩⟩,fun G=>Cj.of_ext ((Ext.refl w).drew.alloc _)⟩
  ·rw[BZ]
   intro u hu;simp only[Array.toList_append,List.mem_append]at hu;rcases hu with(hu | hu) | hu
   ·exact hxd u (by simpa using hu)
   ·exact hnd u (by simpa using hu)
   ·exact hzc _ u hu
  ·simp only[Array.size_append,List.size_toArray,size_zeroCells,hzs,hown.1,hl]
   rw[<-Nat.succ_mul,<-Nat.add_mul];congr 1;omega
  ·simp only[Array.toList_append,List.append_assoc]
   rw[<-List.append_assoc,<-hlen];exact List.take_left
 rcases hown.2 with⟨rfl,rfl⟩ | ⟨g,cap,cur,rfl,hbg,hb,hnc,hcm,hcs,htake⟩
 ·have hx:xs=[]:=List.eq_nil_of_length_eq_zero (by simpa using hown.1)
  subst hx;have hr:=run_append_nil (P:=P) w t ty e i z ht hi hz a 1 c news hl' hnews Aa Aa (by have hb:=hbytes;simp only[Nat.zero_add]at hb;omega);have hgr:=grown 0 Aa;simp only[Nat.zero_add,List.nil_append,Array.empty_append]at hgr ⊢;exact⟨_,_,hr,hgr.1,hgr.2 _,fun g' hg' => .inr (by simp[blk,Value.ownBlock]at hg';omega)⟩
 ·have hg:=hb.1
  by_cases hroom:n+1<=cap
  ·have hfit:n*i.size+news.length<=cur.size:=by rw[hl,hcs,<-Nat.succ_mul];exact Nat.mul_le_mul_right _ hroom
   have hr:=run_append_room (P:=P) w t ty e i ht hi g n cap cur hg a 1 c news hl' hnews h1 hroom hfit;have hnew:∀ u∈cur.toList.take (n*i.size) ++ news ++ cur.toList.drop (n*i.size+news.length),Ag u=false:=by
    intro u hu;simp only[List.mem_append]at hu;rcases hu with(hu | hu) | hu
    ·exact BZ.1 hb.2 _ (List.mem_of_mem_take hu)
    ·exact hnd u hu
    ·exact BZ.1 hb.2 _ (List.mem_of_mem_drop hu)
   have hbx:Be (w.setRow g (cur.toList.take (n*i.size) ++ news ++ cur.toList.drop (n*i.size+news.length)).toArray) g e _:=⟨setRow_heap w g cur _ e _ hg,BZ.2 (by simpa using hnew)⟩
   refine⟨_,_,hr,⟨hlen,.inr ⟨g,cap,_,rfl,hbg,hbx,hroom,hcm,?_,?_⟩⟩,⟨fun g' o hg' ho=>?_,ND hb fun h hne _=>setRow_other w g h _ hne,fun a' ha hG=>?_⟩,fun g' hg' => .inl hg'⟩
   ·simp only[List.size_toArray,List.length_append,List.length_take,List.length_drop,Array.length_toList]
    omega
   ·rw[htake,<-hlen]
    exact List.take_left
   ·rw[setRow_other w g g' _ (fun e=>hg' (by simp[blk,Value.ownBlock,e]))];exact ho
   ·have hga:a'.heap.size<=g:=hG g (by simp[blk,Value.ownBlock])
    exact ha.grown (row:=some g) ⟨rfl,rfl,rfl,by simp[World.setRow],fun k _ hk=>setRow_other w g k _ (fun e=>hk (by rw[e]))⟩ (fun k hk=>by cases hk;exact hga)
  ·have holds:∀ j u,xs[j]? = some u->w.cell? ((⟨g,0,none⟩:Addr).add j)=some u:=hown.owns.cells (g:=g) rfl
   have hr:=run_append_grow (P:=P) w t ty e i z ht hi hz ⟨g,0,none⟩ n cap xs hown.1 holds a 1 c news hl' hnews Aa Aa (growslice_fits Aa hbytes);have hgr:=grown cap Aa;exact⟨_,_,hr,hgr.1,hgr.2 _,fun g' hg' => .inr (by simp[blk,Value.ownBlock]at hg';omega)⟩
end
section
variable{α:Type}{k:Nat}{rd:World->Value->α->Prop}{base:Nat}{e:TypeId}{w w':World}{v:Value}{l:List α}
theorem BH.append_at{P:Program}(h:BH k rd base e w v l)(t ty:TypeId)(i:TypeInfo)(z:Value)(bytes:Nat)(ht:P.underlying t=some (.slice e))(hi:P.info? e=some i)(hz:i.zero=some z)
  (hsize:i.size=k) (hby:i.bytes=bytes) (hzs:z.cells.size=k) (hzd:nodig z.cells=true) (hsz:0 < k) {x:α}
  (a:Addr) (c:Nat) (news:Array Value) (hl:news.size=k) (hx:rd w (.agg news) x) (hnews:∀ j u,news.toList[j]? = some u->w.cell? (a.add j)=some u) (h1:∀ u∈news.toList,u.oneCell'=true) (hnd:nodig news=true)
  (h63:l.length+1<=maxLen) (hbytes:(l.length+1)*bytes<=140737488355328) (hbase:base<=w.heap.size) (hr:∀ w' u y,KD w w'->rd w u y->rd w' u y) :
  ∃ v' w',(Builtin.append_ #[t,t] ty #[v,.slice (some a) 1 c]).run P w = .ok v' w'/\BH k rd base e w' v' (l ++ [x])/\Cj (blk v) w w'/\∀ g∈blk v',g∈blk v\/w.heap.size<=g:=by
 obtain⟨ess,g1,g2,g3,g5⟩:=h;obtain⟨v',w',hrun,hown,hupd,hat⟩:=O3 (P:=P) w k base t ty e i z bytes ht hi hz hsize hby hzs hzd hsz v l.length _ g3 a c news.toList (by simpa using hl) hnews h1 (BZ.1 hnd) h63 hbytes hbase;refine⟨v',w',hrun,⟨ess ++ [news],by simp[g1],?_,?_,?_⟩,hupd,hat⟩
 ·intro d hd
  rcases List.mem_append.1 hd with hd | hd
  ·exact g2 d hd
  ·simp at hd;subst hd;exact hl
 ·have e1:(ess ++ [news]).flatMap Array.toList=ess.flatMap Array.toList ++ news.toList:=by simp
  rw[e1,List.length_append];exact hown
 ·intro j hj hj'
  rcases Nat.lt_or_ge j l.length with hlt | hge
  ·rw[List.getElem_append_left hlt,List.getElem_append_left Aa]
   exact hr _ _ _ hupd.kd (g5 j hlt Aa)
  ·have:j=l.length:=by simp at hj;omega
   subst this;rw[List.getElem_append_right Aa,List.getElem_append_right Aa];simpa using hr _ _ _ hupd.kd hx
end
theorem Cj.new_trans{G G':List Nat}{w w' w'':World}(h:Cj G w w')(k:Cj G' w' w'')(hG:∀ g∈G',g∈G\/w.heap.size<=g):Cj G w w'':=by
 refine⟨fun g o hg ho=>k.1 g o (fun hm=>?_) (h.1 g o hg ho),h.kd.trans k.kd,fun a e hg=>k.2.2 a (h.2.2 a e hg) fun g hm=>?_⟩
 ·rcases hG g hm with q | q
  ·exact hg q
  ·have:=(Array.getElem?_eq_some_iff.1 ho).1;omega
 ·rcases hG g hm with q | q
  ·exact hg g q
  ·have:=e.size;omega
theorem Cj.none{w w':World}(x:Ext w w')(G:List Nat):Cj G w w':=Cj.of_ext x
theorem Kj.kd{w w':World}{v:Value}{p q:Rat}(h:Kj w v p q)(k:KD w w'):Kj w' v p q:=by
 obtain⟨b1,A1,n1,c1,b2,A2,n2,c2,b3,A3,n3,c3,b4,A4,n4,c4,h1,h2,h3⟩:=h;exact⟨b1,A1,n1,c1,b2,A2,n2,c2,b3,A3,n3,c3,b4,A4,n4,c4,h1,h2.kd k,h3.kd k⟩
theorem V8.kd{w w':World}{v:Value}{p q:Rat}(h:V8 w v p q)(k:KD w w'):V8 w' v p q:=by
 obtain⟨b1,A1,n1,c1,b2,A2,n2,c2,b3,A3,n3,c3,b4,A4,n4,c4,h1,h2,h3⟩:=h;exact⟨b1,A1,n1,c1,b2,A2,n2,c2,b3,A3,n3,c3,b4,A4,n4,c4,h1,h2.kd k,h3.kd k⟩
def lJ:World->Value->Rat×Rat->Prop:=fun w u y=>Kj w u y.1 y.2
def Ep(base:Nat)(e:TypeId)(w:World)(v:Value)(l:List (Rat×Rat)):Prop:=BH 8 lJ base e w v l
theorem Ep.ext{base:Nat}{e:TypeId}{w w':World}{v:Value}{l:List (Rat×Rat)}(h:Ep base e w v l)(x:Ext w w'):Ep base e w' v l:=BH.ext h x fun _ _ q=>q.ext x
theorem Ep.upd{base:Nat}{e:TypeId}{w w':World}{v:Value}{l:List (Rat×Rat)}{G:List Nat}(h:Ep base e w v l)(U:Cj G w w')(hg:∀ g∈blk v,g∉G):Ep base e w' v l:=
 BH.upd h U hg fun _ _ q=>q.kd U.kd
theorem Ep.nil(base:Nat)(e:TypeId)(w:World):Ep base e w (.slice none 0 0) []:=BH.nil 8 lJ base e w
theorem Ep.len{base:Nat}{e:TypeId}{w:World}{v:Value}{l:List (Rat×Rat)}(h:Ep base e w v l):∃ A c,v = .slice A l.length c:=BH.len h
theorem Kj.cells{w:World}{v:Value}{p q:Rat}(h:Kj w v p q):∃ b1 A1 n1 c1 b2 A2 n2 c2 b3 A3 n3 c3 b4 A4 n4 c4,v = .agg #[.bool b1,.slice A1 n1 c1,.bool b2,.slice A2 n2 c2,.bool b3,.slice A3 n3 c3,.bool b4,.slice A4 n4 c4]:=by
 obtain⟨b1,A1,n1,c1,b2,A2,n2,c2,b3,A3,n3,c3,b4,A4,n4,c4,h1,h2,h3⟩:=h;exact⟨b1,A1,n1,c1,b2,A2,n2,c2,b3,A3,n3,c3,b4,A4,n4,c4,h1⟩
noncomputable def iso(R:Rat->Rat->Int):Nat->Rat->Rat->List (Rat×Rat)
 | 0,p,q=>if R p q=0 then [] else [(p,q)]
 | n+1,p,q=>if R p q=0 then [] else if R p q=1 then [(p,q)] else iso R n p ((p+q) / 2) ++ iso R n ((p+q) / 2) q
theorem NJ{R:Rat->Rat->Int}{p q:Rat}(h:R p q=0):∀ n,iso R n p q=[]
 | 0=>by unfold iso;rw[if_pos h]
 | n+1=>by unfold iso;rw[if_pos h]
theorem Ky{R:Rat->Rat->Int}{p q:Rat}(h:R p q=1):∀ n,iso R n p q=[(p,q)]
 | 0=>by unfold iso;rw[if_neg Aa]
 | n+1=>by unfold iso;rw[if_neg Aa,if_pos h]
theorem Nl{R:Rat->Rat->Int}{p q:Rat}{n:Nat}(h0:R p q≠0)(h1:R p q≠1):iso R (n+1) p q=iso R n p ((p+q) / 2) ++ iso R n ((p+q) / 2) q:=by
 rw[iso,if_neg h0,if_neg h1]
def Node(P Q:Rat)(d:Nat)(p q:Rat):Prop:=∃ k:Nat,k < 2^d/\p=P+(Q - P)*(((k:Nat):Rat) / 2^d)/\q=P+(Q - P)*(((k+1:Nat):Rat) / 2^d)
theorem Xd{k d:Nat}(h:k<=2^d):qsz (((k:Nat):Rat) / 2^d)<=d+1:=by
 have e:((k:Nat):Rat) / 2^d=Rat.divInt ((k:Nat):Int) ((2^d:Nat):Int):=by
  rw[Bt,Rat.divInt_eq_div];rfl
 rw[e];have h2:sz (2^d)<=d+1:=by
  have:=IX 2 1 Ab d;rw[Int.natAbs_pow]at this;have e3:((2:Int).natAbs)^d=2^d:=rfl;rw[e3]at this;omega
 refine Dc ?_ ?_ Aa
 ·rw[Int.natAbs_natCast];exact Nat.le_trans (Bf h) h2
 ·rw[Int.natAbs_natCast];exact h2
theorem Node.root(P Q:Rat):Node P Q 0 P Q:=by
 refine⟨0,Ab,?_,?_⟩
 ·rw[show((0:Nat):Rat)=0 from rfl,Rat.pow_zero];grind
 ·rw[show((0+1:Nat):Rat)=1 from rfl,Rat.pow_zero];grind
theorem Node.half{P Q p q:Rat}{d:Nat}(h:Node P Q d p q):Node P Q (d+1) p ((p+q) / 2)/\Node P Q (d+1) ((p+q) / 2) q:=by
 obtain⟨k,hk,rfl,rfl⟩:=h;have h2:(2:Rat)^d≠0:=by have:=BP d;grind
 have e1:(2:Rat)^(d+1)=2^d*2:=Rat.pow_succ _ _;have c1:((2*k:Nat):Rat)=2*((k:Nat):Rat):=by push_cast;rfl
 have c2:((2*k+1:Nat):Rat)=2*((k:Nat):Rat)+1:=by rw[CO,c1]
 have c3:((2*k+1+1:Nat):Rat)=2*((k:Nat):Rat)+2:=by rw[CO,c2];grind
 have c4:((k+1:Nat):Rat)=((k:Nat):Rat)+1:=CO k;have hkk:2*k+1 < 2^(d+1):=by rw[Nat.pow_succ];omega
 constructor
 ·refine⟨2*k,Aa,?_,?_⟩
  ·rw[e1,c1];grind
  ·rw[e1,c2,c4];grind
 ·refine⟨2*k+1,hkk,?_,?_⟩
  ·rw[e1,c2,c4];grind
  ·rw[e1,c3,c4];grind
theorem Node.width{P Q p q:Rat}{d:Nat}(h:Node P Q d p q):(q - p)*2^d=Q - P:=by
 obtain⟨k,hk,rfl,rfl⟩:=h;have h2:(2:Rat)^d≠0:=by have:=BP d;grind
 rw[CO];grind
theorem Node.within{P Q p q:Rat}{d:Nat}(h:Node P Q d p q)(hPQ:P < Q):P<=p/\p < q/\q<=Q:=by
 obtain⟨k,hk,rfl,rfl⟩:=h;have h2:=BP d;obtain⟨hi,ei⟩:=Ic h2;have hd:0 < Q - P:=by grind
 obtain⟨z,hz⟩:∃ z:Rat,z=1 / 2^d:=⟨_,rfl⟩
 rw[<-hz]at hi ei;have e:∀ x:Rat,x / 2^d=x*z:=fun x=>by rw[hz];grind
 rw[e,e];have k0:=Eh k;have k1:((k+1:Nat):Rat)<=((2^d:Nat):Rat):=LY hk;rw[<-Bt]at k1;have a0:=Rat.mul_nonneg (Std.le_of_lt hd) (Rat.mul_nonneg k0 (Std.le_of_lt hi));have a1:=CP k1 (Std.le_of_lt hi);have a2:(2:Rat)^d*z=1:=by grind
 rw[a2]at a1;have a3:=Ce a1 (Std.le_of_lt hd);have a4:=Rat.mul_pos hd hi;rw[CO]at a3 ⊢;refine⟨Af,Af,Af⟩
theorem Node.qsz{P Q p q:Rat}{d a:Nat}(h:Node P Q d p q)(hP:Hp.qsz P<=a)(hQ:Hp.qsz Q<=a):Hp.qsz p<=3*a+d+4/\Hp.qsz q<=3*a+d+4:=by
 obtain⟨k,hk,rfl,rfl⟩:=h;have key:∀ m:Nat,m<=2^d->Hp.qsz (P+(Q - P)*(((m:Nat):Rat) / 2^d))<=3*a+d+4:=fun m hm=>by
  have h1:=OL Q P;have h2:=CG (Q - P) (((m:Nat):Rat) / 2^d);have h3:=Xd hm;have h4:=EM P ((Q - P)*(((m:Nat):Rat) / 2^d));omega
 exact⟨key k Aa,key (k+1) hk⟩
theorem Oy{F:Nat->Rat}(hF:SF F){P Q:Rat}(hPQ:P < Q){N:Nat}(hdeep:∀ d p q,Node P Q d p q->N<=d->rc F p q<=1) :
  ∀(n d:Nat) (p q:Rat),Node P Q d p q->N<=n+d->(∀ x∈iso (rc F) n p q,rc F x.1 x.2=1/\(∃ d',d<=d'/\d'<=n+d/\Node P Q d' x.1 x.2)/\p<=x.1/\x.2<=q) /\
   ((iso (rc F) n p q).length:Int)=rc F p q/\(iso (rc F) n p q).Pairwise fun x y=>x.2<=y.1:=by
 intro n;induction n with
 | zero =>
  intro d p q hn hN;have h1:=hdeep d p q hn Aa;have hw:=hn.within hPQ;have h0:=hF.nonneg (Std.le_of_lt hw.2.1);by_cases hz:rc F p q=0
  ·rw[NJ hz];exact⟨fun x hx=>by simp at hx,by simp[hz],List.Pairwise.nil⟩
  ·rw[Ky (show rc F p q=1 by omega)]
   refine⟨fun x hx=>?_,Dn,Ac⟩;have:x=(p,q):=by simpa using hx
   subst this;exact⟨show rc F p q=1 by omega,⟨d,Nat.le_refl _,Aa,hn⟩,Std.le_refl _,Std.le_refl _⟩
 | succ n ih =>
  intro d p q hn hN;have hw:=hn.within hPQ;have h0:=hF.nonneg (Std.le_of_lt hw.2.1);by_cases hz:rc F p q=0
  ·rw[NJ hz];exact⟨fun x hx=>by simp at hx,by simp[hz],List.Pairwise.nil⟩
  by_cases ho:rc F p q=1
  ·rw[Ky ho]
   refine⟨fun x hx=>?_,by simp[ho],Ac⟩;have:x=(p,q):=by simpa using hx
   subst this;exact⟨ho,⟨d,Nat.le_refl _,Aa,hn⟩,Std.le_refl _,Std.le_refl _⟩
  ·rw[Nl hz ho]
   obtain⟨n1,n2⟩:=hn.half;obtain⟨a1,a2,a3⟩:=ih (d+1) _ _ n1 Aa;obtain⟨b1,b2,b3⟩:=ih (d+1) _ _ n2 Aa;have w1:=(n1.within hPQ).2.1;have w2:=(n2.within hPQ).2.1;have hsum:=Lh F p ((p+q) / 2) q;refine⟨fun x hx=>?_,?_,?_⟩
   ·rcases List.mem_append.1 hx with hx | hx
    ·obtain⟨c1,⟨d',c2,c3,c4⟩,c5,c6⟩:=a1 x hx
     exact⟨c1,⟨d',Aa,Aa,c4⟩,c5,Af⟩
    ·obtain⟨c1,⟨d',c2,c3,c4⟩,c5,c6⟩:=b1 x hx
     exact⟨c1,⟨d',Aa,Aa,c4⟩,Af,c6⟩
   ·rw[List.length_append];push_cast;omega
   ·rw[List.pairwise_append]
    refine⟨a3,b3,fun x hx y hy=>?_⟩;obtain⟨-,-,-,c6⟩:=a1 x hx;obtain⟨-,-,c5,-⟩:=b1 y hy;exact Std.le_trans c6 c5
theorem dY(W:Nat->Rat)(K:Nat)(p q:Rat):rts W K p q=rt W K p q:=by
 have e:∀ x,V (Gp W (pd W) K) x=vx W K x:=fun x=>by
  unfold V vx Vi Gp;rw[List.map_map];rfl
 unfold rts rt;rw[e,e]
theorem La{W:Nat->Rat}{K:Nat}(hK:PG W (pd W) K)(p q:Rat):rts W K p q=rc W p q:=by rw[dY];unfold rc;rw[hK.kn]
theorem VG{G:List Nat}{X Y:World}(U:Cj G X Y){g i:Nat}{x:Value}(hg:g∉G)(h:X.cell? ⟨g,i,none⟩=some x):Y.cell? ⟨g,i,none⟩=some x:=by
 have hb:=World.block_lt_of_cell? X _ h;have ho:X.heap[g]? = some X.heap[g]:=Array.getElem?_eq_getElem hb;have:=U.1 g _ hg ho;rw[World.cell?_of_block (this.trans ho.symm)];exact h
def Tx(base:Nat)(t:TypeId)(w:World)(o:Value)(l:List (Rat×Rat))(e:Ending)(w':World):Prop:=∃ r,e = .returned r/\Ep base t w' r l/\Cj (blk o) w w'/\∀ g∈blk r,g∈blk o\/w.heap.size<=g
theorem gZ(q:Rat):(ab q).num=(q.num.natAbs:Nat)/\(ab q).den=q.den:=by
 unfold ab
 split
 ·rename_i h
  have h1:=JY (q:=-q);have h2:(-q).num = -q.num:=rfl;have h3:0 < -q:=by grind
  have:=h1.2 h3;exact⟨Aa,rfl⟩
 ·rename_i h
  have:0<=q.num:=Rat.num_nonneg.2 Af;exact⟨Aa,rfl⟩
theorem Be.put42{w:World}{g:Nat}{t:TypeId}{a b c d:Value}(h:Be w g t #[a,b,c,d])(u v:Value)(hu:Ag u=false)(hv:Ag v=false) :
  ∃ W,W=(w.setCell ⟨g,0,none⟩ u).setCell ⟨g,1,none⟩ v/\Be W g t #[u,v,c,d]/\Cj [g] w W:=
 ⟨_,rfl,(h.set_ 0 hu).set_ 1 hv,(Cj.set_ h.nodig 0 u).trans (Cj.set_ (h.set_ 0 hu).nodig 1 v)⟩
theorem WF(p q:Rat):ab (p / q)=ab p / ab q:=by
 by_cases h:q=0
 ·rw[h,Dt,Rat.div_def,Rat.div_def,Rat.inv_zero,Rat.mul_zero,Rat.mul_zero];decide
 ·have h1:p / q*q=p:=by grind
  have h2:ab (p / q)*ab q=ab p:=by rw[<-Cg,h1]
  have h3:ab q≠0:=fun e=>h (TR.1 e);grind
theorem Tw{p q:Rat}:decide (Eb (p - q)<=0)=decide (p<=q):=by
 rw[Fh];unfold BB;by_cases h:p<=q
 ·rw[if_neg Af,decide_eq_true h]
  split<;>rfl
 ·rw[decide_eq_false h,if_pos Af];rfl
theorem Kr(n:Nat):(((2:Int)^n:Int):Rat)=2^n:=by push_cast;rfl
theorem F4{p q:Rat}:decide (Eb (p - q) > 0)=decide (q < p):=by
 rw[Fh];unfold BB;by_cases h:q < p
 ·rw[if_pos Af,decide_eq_true h];rfl
 ·rw[decide_eq_false h,if_neg Af]
  split<;>rfl
theorem P2.qsz{r:Rat}{s:Nat}(h0:0<=r)(h:Hp.qsz r<=s):∃ J,P2 r J/\J<=32*s+1:=by
 have h1:=(Na h).1;rw[DJ h0,Bt]at h1;have key:∀ m,r < 2^m->∃ J,P2 r J/\J<=m:=by
  intro m;induction m with
  | zero=>intro h;exact⟨0,⟨h,fun i hi=>Aa⟩,Nat.le_refl _⟩
  | succ m ih =>
   intro h;by_cases h2:r < 2^m
   ·obtain⟨J,a,b⟩:=ih h2;exact⟨J,a,Aa⟩
   ·exact⟨m+1,⟨h,fun i hi=>by have:=K5 (show i<=m by omega);grind⟩,Nat.le_refl _⟩
 refine key (32*s+1) ?_;rw[Rat.pow_succ];have:=BP (32*s);rw[Bt]at this ⊢;grind
end Go.Hp
namespace Go.Proofs.YtmhgnigpmompmaaGreat
open Go.RowKit Go.Hp
theorem Xr(W:World)(base ty g:Nat)(v:Value)(l:List Int)(q:Int){b:Bool}{A:Option Addr}{n c:Nat}(h:Dq base 26 W v l)(hq:AC W (.agg #[.bool b,.slice A n c]) q)(hn:l.length<=1099511627776)(hb:base<=W.heap.size)(hg:g=W.heap.size) :
  ∃ v' w',(Builtin.append_ #[23,23] ty #[v,.slice (some ⟨g,0,none⟩) 1 1]).run Tryz.prog (W.alloc (.cells #[.bool b,.slice A n c] 26)) = .ok v' w'/\(Dq base 26 w' v' (l ++ [q])/\Cj (blk v) (W.alloc (.cells #[.bool b,.slice A n c] 26)) w'):=by
 subst hg;obtain⟨g,cs,e1,h1,h2,h3,h4⟩:=KW.mk hq (base:=W.heap.size) (Nat.le_refl _) 26;cases e1;obtain⟨i0,hi,hz0,hz1,hz2⟩:=info_parts Ki;have ho:=AC.one h4;have hx:=(Ext.refl W).alloc (.cells #[.bool b,.slice A n c] 26);obtain⟨v',w',a,b,c⟩:=BH.append (P:=Tryz.prog) (h.ext hx) 23 ty i0 _ 32 Tryz.underlying23 hi hz0 hz1 hz2 rfl (by simp[nodig,Ag,Value.cells]) Ab ⟨W.heap.size,0,none⟩ 1 cs h3 h4 h2.news ho.1 ho.2.1 (JF hn) Aa (Nat.le_trans hb hx.size) (fun _ _ _ k hq=>AC.kd hq k)
 exact⟨v',w',a,b,c⟩
set_option maxRecDepth 20000 in
theorem SK(v:Value)(l:List Rat)(w:World)(hv:RI 0 w v l)(hn:l.length<=1099511627776)(h0:co l=pz) :
  Bj 116 #[v] w (fun r w'=>Ud w.heap.size 0 pz r w'):=by
 have HV:=Ad hv;obtain⟨A0,c0,rfl⟩:=hv.len;have H0:=Ad h0;clear hv h0
 go_enter Tryz.func116,Tryz.ntmps116
 go_wp2_with fail
 refine AR (KI _ l _ (HV.out.ext ((Ext.refl w).alloc _)) hn) ?_;rintro r1 w1 hr1 hx1;rw[H0.out]at hr1;obtain⟨A1,c1,l1,rfl,k1,k2,-⟩:=hr1.form;rw[BJ];clear hr1 HV k1
 go_wp2_with fail
 refine AR (WW 0 _ Aa Aa) ?_;rintro r2 w2 hr2 hx2;obtain⟨b5,A5,n5,c5,b6,A6,n6,c6,rfl⟩:=hr2.cells;have ea:=((Be.new w 28 #[.bool false,.slice none 0 0,.bool false,.slice none 0 0] (by simp[Ag])).ext hx1).ext hx2;have hx:=hx1.a1.trans hx2;have cea:=ea.cells4;have fea:=ea.frozen;clear hx1 hx2;go_wp2;obtain⟨W3,eW,ea',U⟩:=ea.put4 (.bool b5) (.slice A5 n5 c5) (.bool b6) (.slice A6 n6 c6);rw[<-eW];clear eW ea
 replace hr2:=hr2.kd U.kd;replace hx:=U.from_ hx Ak;have ea:=ea';clear U ea';clear cea;have cea:=ea.cells4;have fea:=ea.frozen;refine bodyPost_ret (v := .tuple #[.slice none 0 0,.agg #[.bool b5,.slice A5 n5 c5,.bool b6,.slice A6 n6 c6]]) (by simp[results,Tryz.results116,go_sem,cea]) rfl ?_;exact Ah.mk ⟨_,_,rfl,by rw[Td,IR];exact AY.nil _ _,by rw[Xt];exact hr2⟩ hx
set_option maxRecDepth 20000 in
theorem Z5(v:Value)(l:List Rat)(s:Nat)(w:World)(hv:RI 0 w v l)(hn:l.length<=1000)(hs:∀ i,qsz (co l i)<=s)(hs0:s<=1000000)(h0:co l≠pz) :
  Bj 116 #[v] w (fun r w'=>Ud w.heap.size (pl (co l)) (co l) r w'):=by
 have HV:=Ad hv;obtain⟨A0,c0,rfl⟩:=hv.len;have hfin:=Ae.co l;have hNorm:=fun w' (e:Ext w w')=>KI _ l w' (hv.ext e) Aa;have hplen:=BX (KS l);obtain⟨F,hF⟩:∃ F,F=co l:=⟨_,rfl⟩
 rw[<-hF]at hfin h0 hs hplen hNorm;rw[<-hF];have hpos:=AQ hfin h0;obtain⟨n,hn0⟩:∃ n,n=pl F:=⟨_,rfl⟩
 have hsup:Bq n F:=by rw[hn0];exact AB hfin
 have hdl:∀ k,k<=n->sz (dl k F)<=1+1000*1000000:=fun k hk=>by
  have:=Wo hs k;have h2:k*s<=1000*1000000:=Nat.mul_le_mul Aa hs0;omega
 have hcq:∀ i,qsz (Dp n F i)<=1+1000*1000000+1+1000000:=fun i=>by
  have:=P9 (n:=n) hs i;have h2:n*s<=1000*1000000:=Nat.mul_le_mul Aa hs0;omega
 rw[<-hn0]at hpos ⊢;have hn3:n<=1000:=by omega
 have HX:=Ad (Au hn0 (Au hfin (Au h0 (Au hs (Au hs0 (Au hsup (Au hdl hcq)))))));have HN:=Ad hNorm;clear hn0 hfin h0 hs hs0 hsup hdl hcq hNorm hF hv HV hplen hn
 go_enter Tryz.func116,Tryz.ntmps116
 go_wp2_with fail
 refine AR (HN.out _ ((Ext.refl w).alloc _)) ?_;rintro r1 w1 hr1 hx1;obtain⟨A1,c1,l1,rfl,k1,k2,hA,k3,-,k5⟩:=hr1.form;rw[<-HX.out.1]at k1 k3 ⊢;have HA:=Ad (Au hA (Au k3 k5));clear hA k3 k5 hr1 HN;have ea:=(Be.new w 28 #[.bool false,.slice none 0 0,.bool false,.slice none 0 0] (by simp[Ag])).ext hx1;have hx:=hx1.a1;have hs1:=hx1.size;rw[World.size_alloc]at hs1;clear hx1
 go_wp2_with fail
 refine AR (Jn 1 _ Aa Aa) ?_;rintro r2 w2 hr2 hx2;obtain⟨b5,A5,n5,c5,rfl⟩:=hr2.cells;obtain⟨W0,eW,eb,x0⟩:=Be.made w2 26 #[.bool b5,.slice A5 n5 c5] (by simp[Ag]);replace hr2:=hr2.kd x0.kd;have hs2:=hx2.size;have Hx1:=Ad (hx2.trans x0);replace ea:=ea.ext (hx2.trans x0);have hgb:w.heap.size < w2.heap.size:=by omega
 clear hx2;go_wp2;rw[<-eW];clear eW x0;generalize w2.heap.size=gb at *
 go_loopw [28] (fun iv wr=>∃ k:Nat,k<=n/\iv = .int .i64 k/\Be wr w.heap.size 28 #[.bool false,.slice none 0 0,.bool false,.slice none 0 0]/\BA wr gb 26 (dl k F:Nat)/\Ext w1 wr) (fun iv _=>n - (intOf iv).toNat)
 case atStart=>exact⟨0,Nat.zero_le _,rfl,ea,BA.mk eb hr2,Hx1.out⟩
 case round =>
  clear ea eb hr2 Hx1;obtain⟨k,hk,rfl,ea,⟨b,B,bn,bc,eb,hb⟩,hx2⟩:=hrel;have Hb:=Ad hb;clear hb;by_cases hkn:k < n
  ·have hkl1:k < l1.length:=by have:=HA.out.2.1;omega
   obtain⟨g,o,b1,B1,n1,d1,b2,B2,n2,d2,rfl,_,q0,q1,q2,q3,hq⟩:=HA.out.1.at_ (j:=k) hkl1;rw[<-Fb,HA.out.2.2]at hq;replace q0:=hx2.cell q0;replace q1:=hx2.cell q1;replace q2:=hx2.cell q2;replace q3:=hx2.cell q3;have hqs:=HX.out.2.2.2.1 k;have hqd:=(hq.ext hx2).dens (by have:=HX.out.2.2.2.2.1;omega);have hdk:=HX.out.2.2.2.2.2.2.1 k Aa;obtain⟨L,hL⟩:∃ L,L=dl k F:=⟨_,rfl⟩
   obtain⟨D,hD⟩:∃ D,D=(F k).den:=⟨_,rfl⟩
   have hDp:0 < D:=by rw[hD];exact(F k).den_pos
   have hLp:0 < L:=by rw[hL];exact MK F k
   have hG:Int.gcd (L:Int) (D:Int)=Nat.gcd L D:=Int.gcd_natCast_natCast L D;have hGp:0 < Nat.gcd L D:=Nat.gcd_pos_of_pos_left _ hLp;have hGd:((Nat.gcd L D:Nat):Int)∣(D:Int):=Int.natCast_dvd_natCast.2 (Nat.gcd_dvd_right L D);have hGn:((Nat.gcd L D:Nat):Int)≠0:=by omega
   have hGs:sz ((Nat.gcd L D:Nat):Int).natAbs<=1099511627776:=by
    rw[Int.natAbs_natCast];have:=Bf (Nat.le_of_dvd hLp (Nat.gcd_dvd_left L D));rw[<-hL]at hdk;omega
   have hstep:(L:Int)*((D:Int) / ((Nat.gcd L D:Nat):Int))=(dl (k+1) F:Nat):=by
    rw[<-aD,hL,hD];norm_cast
   obtain⟨X,hX⟩:∃ X:Int,X=(D:Int) / ((Nat.gcd L D:Nat):Int):=⟨_,rfl⟩
   rw[<-hX]at hstep;have hXs:sz X.natAbs<=1099511627776:=by
    have h1:=PS hGd;rw[<-hX]at h1;have h2:=K9 (F k);rw[<-hD]at h2;have:=HX.out.2.2.2.2.1;omega
   have hLs:sz ((L:Nat):Int).natAbs<=1099511627776:=by rw[Int.natAbs_natCast,hL];omega
   rw[<-hL]at Hb;rw[<-hD]at hqd;have HG:=Ad (Au hX (Au hG (Au hGd (Au hGn (Au hGs (Au hstep (Au hXs hLs)))))));have Hq:=Ad hqd.1;clear hq hqs hqd hdk hG hGp hGd hGn hGs hstep hXs hX hL hD hDp hLp hLs;go_wp2;obtain⟨W9,eW9,e9,x9⟩:=Be.made wr 28 #[.bool b1,.slice B1 n1 d1,.bool b2,.slice B2 n2 d2] (by simp[Ag]);rw[<-eW9];clear eW9 q0 q1 q2 q3;replace hx2:=hx2.trans x9;replace ea:=ea.ext x9;replace eb:=eb.ext x9
   have Hq':=Ad (Hq.out.kd x9.kd);have Hb':=Ad ((Hb.out.kd x9.kd).has HG.out.2.2.2.2.2.2.2);clear Hq Hb x9;generalize wr.heap.size=gp at e9 ⊢;have s0:=e9.cell (i:=0) rfl;have s1:=e9.cell (i:=1) rfl;have s2:=e9.cell (i:=2) rfl;have s3:=e9.cell (i:=3) rfl;clear e9;obtain⟨r0,r1⟩:=eb.cells2
   go_cut [7] (fun pv wy=>∃ gc,pv = .pointer (some ⟨gc,0,none⟩)/\BA wy gc 26 X/\Ext W9 wy)
   case first =>
    refine Bu 11 [9] (fun x=>12) [33,34,35,36,37,38,39,32,40,41,7] [[],[0],[],[],[3],[2,3,4],[0,1,2,3,4,5],[0,1,2,3,4,5,6],[0,1,2,3,4,5,6,7],[0,1,2,3,4,5,6,7],[],[0,1,2,3,4,5,6,7,8,10],[0,1,2,3,4,5,6,7,8,9,10,11]] [6,4] [_,_] [(kv ?_),(kv ?_),(kv ?_),(kv ?_),(kv ?_),(fun γ=>γ 5),(fun γ=>γ 6),(fun γ=>γ 6),(fun γ=>γ 8),(kv ?_),(fun γ=>γ 10)] (fun γ w'=>[True,True,True,True,True,AC w' (γ 5) (Nat.gcd L D:Nat),JE w' (γ 6) X,True,AC w' (γ 8) X,True,Bc w' (γ 10) W9.heap.size #[.bool false,.slice none 0 0] 26]) Kg BU BU BU BU BU Nb BU Kw ?m1 ?s1 ?_ ?l1
    case s1 =>
     iterate 11 refine⟨?_,?_⟩
     trivial
     iterate 5 focus
      refine Ba fun _ w' he R hR=>?_;have hc:=he.cells;have cq0:=he.cell s0;have cq1:=he.cell s1;have cq2:=he.cell s2;have cq3:=he.cell s3;have cq4:=he.cell r0;have cq5:=he.cell r1;go_simp;exact Bi hR
     ·refine Ba fun _ w' he R hR=>?_
      go_simp;exact Bg (HG.out.2.1▸Un _ _ (L:Int) (D:Int) w' (Hb'.out.kd he.kd) (Hq'.out.kd he.kd)) hR
     ·refine FO fun γ w' he hf R hR=>?_;have f5:AC w' (γ 5) (Nat.gcd L D:Nat):=hf 5 Ab;clear hf
      go_simp;exact Bg (HG.out.1▸I8 _ _ (D:Int) (Nat.gcd L D:Nat) w' (Hq'.out.kd he.kd) (f5.has HG.out.2.2.2.2.1) HG.out.2.2.2.1 HG.out.2.2.1) hR
     ·refine Ba fun _ w' he R hR=>?_
      have hc:=he.cells;go_simp
      (try go_ints);(try(rw[if_neg Aa]));(try(rw[if_pos Aa]));(try go_simp);(try go_ints)
      exact Bi hR
     ·refine FO fun γ w' he hf R hR=>?_;have f6:JE w' (γ 6) X:=hf 6 Ab;clear hf
      obtain⟨a,e,ha⟩:=f6;go_simp;exact hR _ _ (Ext.refl _) rfl ha
     ·refine FO fun γ w' he hf R hR=>?_;have f6:JE w' (γ 6) X:=hf 6 Ab;clear hf
      obtain⟨a,e,ha⟩:=f6;have hc:=he.cells;go_simp
      (try go_ints);(try(rw[if_neg Aa]));(try(rw[if_pos Aa]));(try go_simp);(try go_ints)
      exact Bi hR
     ·refine Ba fun _ w' he R hR=>?_
      go_simp;exact hR _ _ ((Ext.refl _).alloc _) rfl (Bc.mk (Nat.le_trans Ac he.size) (by simp[Ag]))
    case m1 =>
     exact⟨⟨⟨⟨⟨⟨⟨⟨⟨⟨⟨trivial,(fun γ wA w' e h=>h)⟩,(fun γ wA w' e h=>h)⟩,(fun γ wA w' e h=>h)⟩,(fun γ wA w' e h=>h)⟩,(fun γ wA w' e h=>h)⟩,(fun γ wA w' e h=>(show AC wA (γ 5) (Nat.gcd L D:Nat)from h).ext e)⟩,(fun γ wA w' e h=>(show JE wA (γ 6) X from h).ext e)⟩,(fun γ wA w' e h=>h)⟩,(fun γ w w' e h=>AC.ext_ h e)⟩,(fun γ wA w' e h=>h)⟩,(fun γ wA w' e h=>(show Bc wA (γ 10) W9.heap.size #[.bool false,.slice none 0 0] 26 from h).ext e)⟩
    case l1 =>
     intro Pn hPs hPn;obtain rfl:=Ii hPs hPn;clear hPs hPn
     ·intro γ w8 hx8 hF hA
      clear hA;have p5:AC w8 (γ 5) (Nat.gcd L D:Nat):=(Av.get hF 5 Ab).resolve_left Ab;have p6:JE w8 (γ 6) X:=(Av.get hF 6 Ab).resolve_left Ab;have p8:AC w8 (γ 8) X:=(Av.get hF 8 Ab).resolve_left Ab;have p10:Bc w8 (γ 10) W9.heap.size #[.bool false,.slice none 0 0] 26:=(Av.get hF 10 Ab).resolve_left Ab;clear hF;show AP _ _ _ _ 3 [9] 11 _ _;simp only[Bd,Nat.reduceAdd,Co,Vn];generalize γ 5=g5 at *;generalize γ 6=g6 at *
      generalize γ 8=g8 at *;generalize γ 10=g10 at *;clear γ;obtain⟨a6,rfl,-⟩:=p6;obtain⟨gc,rfl,hgc,ec⟩:=p10;obtain⟨b7,A7,n7,c7,rfl⟩:=p8.cells;clear s0 s1 s2 s3 r0 r1 p5;have cec:=ec.cells2;have fec:=ec.frozen
      repeat' first
       | (refine AP.nil ?_;simp only[GM];go_wp2;done)
       | (refine AP.nil ?_;(try simp only[GM]);go_wp2)
       | (refine AP.mk _ ⟨?_,trivial⟩ (fun h=>?_)<;>first | exact absurd h Ab | ((try clear h);simp only[CX,GM];go_wp2;first | show AP _ _ _ _ _ [9] _ _ _ | show AP _ _ _ _ _ [] _ _ _))
      all_goals
       skip;obtain⟨W4,eW,ec',U⟩:=ec.put2 (.bool b7) (.slice A7 n7 c7);rw[<-eW];clear eW ec;replace p8:=p8.kd U.kd;replace hx8:=U.from_ hx8 Ak;have ec:=ec';clear U ec'
       go_meet
       case rel=>exact⟨gc,rfl,BA.mk ec p8,hx8⟩
    intro γ w8 hx8 hF hA;clear hA;have p5:AC w8 (γ 5) (Nat.gcd L D:Nat):=Av.get hF 5 Ab;have p6:JE w8 (γ 6) X:=Av.get hF 6 Ab;have p8:AC w8 (γ 8) X:=Av.get hF 8 Ab;have p10:Bc w8 (γ 10) W9.heap.size #[.bool false,.slice none 0 0] 26:=Av.get hF 10 Ab;clear hF;simp only[Bd,Nat.reduceAdd];generalize γ 5=g5 at *;generalize γ 6=g6 at *;generalize γ 8=g8 at *;generalize γ 10=g10 at *;clear γ;obtain⟨a6,rfl,-⟩:=p6
    obtain⟨gc,rfl,hgc,ec⟩:=p10;obtain⟨b7,A7,n7,c7,rfl⟩:=p8.cells;clear s0 s1 s2 s3 r0 r1 p5;have cec:=ec.cells2;have fec:=ec.frozen;go_wp2;skip;obtain⟨W4,eW,ec',U⟩:=ec.put2 (.bool b7) (.slice A7 n7 c7);rw[<-eW];clear eW ec;replace p8:=p8.kd U.kd;replace hx8:=U.from_ hx8 Ak;have ec:=ec';clear U ec'
    go_meet
    case rel=>exact⟨gc,rfl,BA.mk ec p8,hx8⟩
   case rest =>
    clear s0 s1 s2 s3 r0 r1;obtain⟨gc,rfl,⟨b7,A7,n7,c7,ec,hc⟩,hx3⟩:=hcut;have Hc:=Ad (hc.has HG.out.2.2.2.2.2.2.1);clear hc;replace ea:=ea.ext hx3;replace eb:=eb.ext hx3;replace hx2:=hx2.trans hx3;have cec:=ec.cells2;have fec:=ec.frozen;have ceb:=eb.cells2;have feb:=eb.frozen
    go_wp2_with fail
    refine AR (Dr _ _ (L:Int) X _ (Hb'.out.kd hx3.kd) Hc.out) ?_;rintro r4 w4 hr4 hx4;rw[HG.out.2.2.2.2.2.1]at hr4;obtain⟨b8,A8,n8,c8,rfl⟩:=hr4.cells;replace ea:=ea.ext hx4;replace eb:=eb.ext hx4;replace hx2:=hx2.trans hx4;clear ceb feb cec fec ec hx3 hx4 Hc Hb' Hq';have ceb:=eb.cells2;have feb:=eb.frozen;go_wp2;obtain⟨W5,eW,eb',U⟩:=eb.put2 (.bool b8) (.slice A8 n8 c8);rw[<-eW];clear eW eb;replace hr4:=hr4.kd U.kd
    replace ea:=ea.upd U Ak;replace hx2:=U.from_ hx2 Ak;have eb:=eb';clear U eb'
    go_roundw
    case rel=>exact⟨k+1,Aa,by go_num,ea,BA.mk eb hr4,hx2⟩
    case measure=>simp[intOf]<;>omega
  ·obtain rfl:n=k:=by omega
   have hgbl:=eb.lt;have hb0:=Hb.out;go_wp2
   go_loopw [9,48] (fun zv iv wr=>∃ k:Nat,k<=n/\iv = .int .i64 k/\Dq (gb+1) 26 wr zv (DF k (Dp n F))/\Be wr w.heap.size 28 #[.bool false,.slice none 0 0,.bool false,.slice none 0 0]/\Be wr gb 26 #[.bool b,.slice B bn bc]/\AC wr (.agg #[.bool b,.slice B bn bc]) (dl n F:Nat)/\Ext w1 wr) (fun _ iv _=>n - (intOf iv).toNat)
   case atStart=>exact⟨0,Nat.zero_le _,rfl,BH.nil _ _ _ _ _,ea,eb,hb0,hx2⟩
   case round =>
    clear ea eb hx2 hgbl hb0 Hb;obtain⟨k,hk,rfl,hown,ea,eb,hb,hx2⟩:=hrel;have Hb:=Ad hb;clear hb;have hgbl:=eb.lt;by_cases hkn:k < n
    ·have hkl1:k < l1.length:=by have:=HA.out.2.1;omega
     obtain⟨g,o,b1,B1,n1,d1,b2,B2,n2,d2,rfl,_,q0,q1,q2,q3,hq⟩:=HA.out.1.at_ (j:=k) hkl1;rw[<-Fb,HA.out.2.2]at hq;replace q0:=hx2.cell q0;replace q1:=hx2.cell q1;replace q2:=hx2.cell q2;replace q3:=hx2.cell q3;have hqs:=HX.out.2.2.2.1 k;have hqd:=(hq.ext hx2).dens (by have:=HX.out.2.2.2.2.1;omega);have hdk:=HX.out.2.2.2.2.2.2.1 n (Nat.le_refl _);obtain⟨L,hL⟩:∃ L,L=dl n F:=⟨_,rfl⟩
     obtain⟨D,hD⟩:∃ D,D=(F k).den:=⟨_,rfl⟩
     have hDn:(D:Int)≠0:=by have:=(F k).den_pos;omega
     have hDd:(D:Int)∣(L:Int):=by rw[hD,hL];exact Int.natCast_dvd_natCast.2 (Tc F n k hkn)
     have hval:(F k).num*((L:Int) / (D:Int))=(Dp n F k).num:=by rw[Z6 HX.out.2.2.2.2.2.1,hL,hD]
     obtain⟨X,hX⟩:∃ X:Int,X=(L:Int) / (D:Int):=⟨_,rfl⟩
     rw[<-hX]at hval;have hLs:sz ((L:Nat):Int).natAbs<=1099511627776:=by rw[Int.natAbs_natCast,hL];omega
     have hXs:sz X.natAbs<=1099511627776:=by
      have h1:=PS hDd;rw[<-hX]at h1;omega
     rw[<-hL]at Hb;rw[<-hD]at hqd;have HG:=Ad (Au hX (Au hDn (Au hDd (Au hval (Au hLs (Au hXs hL))))));have Hq:=Ad hqd;have Hown:=Ad hown;clear hq hqs hqd hdk hDn hDd hval hX hL hD hLs hXs hown;have hB9:=Be.made wr 28 #[.bool b1,.slice B1 n1 d1,.bool b2,.slice B2 n2 d2] (by simp[Ag]);obtain⟨W9,eW9,e9,x9⟩:=hB9
     go_upto_region 15 with(fail)
     rw[<-eW9];clear eW9 q0 q1 q2 q3;replace hx2:=hx2.trans x9;replace ea:=ea.ext x9;replace eb:=eb.ext x9;have Hq':=Ad (Au (Hq.out.1.kd x9.kd) (Hq.out.2.kd x9.kd));have Hb':=Ad (Hb.out.kd x9.kd);have Hown':=Ad (Hown.out.ext x9);have hgb9:=eb.lt;clear Hq Hb Hown x9;generalize wr.heap.size=gp at e9 ⊢;have s0:=e9.cell (i:=0) rfl;have s1:=e9.cell (i:=1) rfl;have s2:=e9.cell (i:=2) rfl;have s3:=e9.cell (i:=3) rfl
     clear e9;obtain⟨r0,r1⟩:=eb.cells2
     go_wp2_with fail
     refine AR (I8 _ _ (L:Int) (D:Int) _ (Hb'.out.has HG.out.2.2.2.2.1) Hq'.out.1 HG.out.2.1 HG.out.2.2.1) ?_;rintro r3 w3 ⟨a3,rfl,hr3⟩ hx3;rw[<-HG.out.1]at hr3;obtain⟨b7,A7,n7,c7,rfl⟩:=hr3.cells;have hBa:=Be.made w3 26 #[.bool b7,.slice A7 n7 c7] (by simp[Ag]);obtain⟨Wa,eWa,e5,xa⟩:=hBa;clear r0 r1
     go_upto_region 16 with(fail)
     rw[<-eWa];replace hx3:=hx3.trans xa;have Hr3:=Ad ((hr3.kd xa.kd).has HG.out.2.2.2.2.2.1);clear eWa xa hr3;generalize w3.heap.size=gq at e5 ⊢;obtain⟨ce50,ce51⟩:=e5.cells2;have fe5:=e5.frozen;replace s0:=hx3.cell s0;replace s1:=hx3.cell s1;replace s2:=hx3.cell s2;replace s3:=hx3.cell s3;replace ea:=ea.ext hx3;replace eb:=eb.ext hx3;replace hx2:=hx2.trans hx3;have Hb:=Ad (Hb'.out.kd hx3.kd);have Hown:=Ad (Hown'.out.ext hx3)
     go_wp2_with fail
     refine AR (Dr _ _ (F k).num X _ (Hq'.out.2.kd hx3.kd) Hr3.out) ?_;rintro r4 w4 hr4 hx4;rw[HG.out.2.2.2.1]at hr4;obtain⟨b8,A8,n8,c8,rfl⟩:=hr4.cells;have Hr:=Ad hr4;clear hr4;replace ea:=ea.ext hx4;replace eb:=eb.ext hx4;replace hx2:=hx2.trans hx4;have Hb':=Ad (Hb.out.kd hx4.kd);have Hown':=Ad (Hown.out.ext hx4);have hsz:=eb.lt;clear s0 s1 s2 s3 hx3 hx4 e5 ce50 ce51 fe5 Hr3 Hq' Hb Hown
     go_wp2_with (at_builtin;refine AO rfl _ _ 23 rfl u9 (.slice (some ⟨w4.heap.size,0,none⟩) 1 1) rfl rfl (Xr w4 (gb+1) _ _ _ _ _ Hown'.out Hr.out (by rw[Bb];omega) Aa rfl) ?_)
     first | intro v' w5 hown U | rintro v' w5 ⟨hown,U⟩
     have hb2:=BH.blk_ge (Hown'.out.ext ((Ext.refl w4).alloc (.cells #[.bool b8,.slice A8 n8 c8] 26)));have hx5:=(Ext.refl w4).alloc (.cells #[.bool b8,.slice A8 n8 c8] 26);replace ea:=(ea.ext hx5).upd U (fun hm=>by have:=(hb2 _ hm).1;omega);replace eb:=(eb.ext hx5).upd U (fun hm=>by have:=(hb2 _ hm).1;omega);have Hb:=Ad ((Hb'.out.kd hx5.kd).kd U.kd);replace hx2:=U.from_ (hx2.trans hx5) (fun g hg=>by have:=(hb2 _ hg).1;omega)
     have Hown:=Ad hown;clear hown U hb2 hx5 Hb' Hown';go_wp2
     go_roundw
     case rel=>exact⟨k+1,Aa,by go_num,by rw[KE];exact Hown.out,ea,eb,by rw[<-HG.out.2.2.2.2.2.2];exact Hb.out,hx2⟩
     case measure=>simp[intOf]<;>omega
    ·obtain rfl:n=k:=by omega
     obtain⟨A2,c2,hv2⟩:=(Dq.row hown).len;rw[Bb]at hv2;have hz2:=gD hown (fun i=>by have:=HX.out.2.2.2.2.2.2.2 i;omega);have hzs:=Dq.row hown;rw[hv2]at hz2 hzs;have hczl:=Ia (Fa HX.out.2.2.2.2.2.1) (show Bq n (Dp n F)from(HX.out.2.2.2.2.2.1).psc _);have Hz:=Ad (Au hz2 (Au hzs hczl));clear hz2 hzs hczl hown;subst hv2
     go_wp2_with fail
     refine AR (Fp _ _ _ Hz.out.1 (by rw[Bb];omega)) ?_;rintro r2 w2 hr2 hx3;rw[Hz.out.2.2]at hr2;replace ea:=ea.ext hx3;replace eb:=eb.ext hx3;replace hx2:=hx2.trans hx3;have Hb':=Ad (Hb.out.kd hx3.kd);have hzz:=Hz.out.2.1.ext hx3;obtain⟨A3,c3,l3,rfl,k3,k4,hA3,k5,-,k6⟩:=hr2.form;have hppl:pl (pp (Dp n F))=n:=by
      rw[DR (Fa HX.out.2.2.2.2.2.1) (EL HX.out.2.1),Nw HX.out.2.1,<-HX.out.1]
     rw[hppl]at k3 k5 hr2 ⊢;have hlast:n - 1 < (DF n (Dp n F)).length:=by rw[Bb];omega
     obtain⟨gz,oz,y1,Y1,yn1,yc1,rfl,_,q0,q1,hqz⟩:=hzz.at_ (j:=n - 1) hlast;obtain⟨gg,og,z1,Z1,zn1,zc1,rfl,_,p0,p1,hqg⟩:=hA3.at_ (j:=n - 1) Aa;rw[Cc]at hqz;have hg3:l3[n - 1]'(by omega)=(pp (Dp n F) (n - 1)).num:=by
      have:=Cb (l:=l3) (i:=n - 1) Aa;rw[k6]at this;rw[this];rfl
     rw[hg3]at hqg;have hzn:=Fa HX.out.2.2.2.2.2.1;have hfn:=EL (n:=n) HX.out.2.1;have hne:=OH (n:=n) HX.out.2.1 HX.out.2.2.1;have hpn:=Ew hzn hfn hne;have hpd:=J5 hfn (n - 1);have hpa:(pp (Dp n F) (n - 1)).num=(Dp n F (n - 1)).num / pcn (Dp n F):=by rw[NG hzn hfn hne];rfl
     have htop:(Dp n F (n - 1)).num≠0:=by
      have h1:=EH hfn (by rw[Nw HX.out.2.1,<-HX.out.1];exact hpos);rw[Nw HX.out.2.1,<-HX.out.1]at h1;intro e;exact h1 (by rw[hzn.num,e];rfl)
     obtain⟨u,hu⟩:=hpd;have hpu:(pp (Dp n F) (n - 1)).num=u:=by rw[hpa,hu,Int.mul_ediv_cancel_left _ hpn]
     have hun:u≠0:=fun e=>htop (by rw[hu,e,Int.mul_zero]);rw[hpu]at hqg;have hquo:(Dp n F (n - 1)).num / u=pcn (Dp n F):=by rw[hu,Int.mul_ediv_cancel _ hun]
     have hdv:u∣(Dp n F (n - 1)).num:=⟨pcn (Dp n F),by rw[hu,Int.mul_comm]⟩
     have hcs:=HX.out.2.2.2.2.2.2.2 (n - 1);have hzs1:sz (Dp n F (n - 1)).num.natAbs<=1099511627776:=by unfold qsz at hcs;omega
     have hus:sz u.natAbs<=1099511627776:=by
      have h1:=F6 hzn hfn HX.out.2.2.2.2.2.2.2 (n - 1);unfold qsz at h1;rw[hpu]at h1;omega
     have hpcs:sz (pcn (Dp n F)).natAbs<=1099511627776:=by
      rw[Fj];have:=JC HX.out.2.2.2.2.2.2.2 (pl (Dp n F));show sz (ct _ _)<=_;omega
     have hdl:=HX.out.2.2.2.2.2.2.1 n (Nat.le_refl _);have hdl2:sz (((dl n F:Nat):Int)).natAbs<=1099511627776:=by rw[Int.natAbs_natCast];omega
     have hdln:((dl n F:Nat):Int)≠0:=by have:=MK F n;omega
     have hcf:=(Ta HX.out.2.2.2.2.2.1 HX.out.2.2.1).1;have hcf2:Rat.divInt (pcn (Dp n F)) ((dl n F:Nat):Int)=LG n F:=by rw[hcf];exact(IW _ _).symm
     have HQ:=Ad (Au (hqz.has hzs1) (Au (hqg.has hus) (Au hun (Au hdv (Au hquo (Au hpcs (Au hdl2 (Au hdln hcf2))))))));have HP:=Ad hr2;clear hqz hqg hg3 hzn hfn hne hpn hpa htop hu hpu hun hquo hdv hcs hzs1 hus hpcs hdl hdl2 hdln hcf hcf2 hr2 hA3 k5 k6 hppl hzz hlast hx3
     go_upto_region 19 with(fail)
     obtain⟨wt,hwt⟩:∃ wt:World,wt=w2:=⟨_,rfl⟩
     subst hwt
     go_cut [15] (fun pv wy=>∃ gc,pv = .pointer (some ⟨gc,0,none⟩)/\BA wy gc 26 (pcn (Dp n F))/\Ext wt wy)
     case first =>
      refine Bu 17 [15] (fun x=>18) [70,71,72,73,74,75,76,77,78,79,80,81,82,69,83,84,15] [[],[],[1],[1,2],[0,1,2,3],[0,1,2,3,4],[],[],[7],[7,8],[6,7,8,9],[6,7,8,9,10],[0,1,2,3,4,5,6,7,8,9,10,11],[0,1,2,3,4,5,6,7,8,9,10,11,12],[0,1,2,3,4,5,6,7,8,9,10,11,12,13],[0,1,2,3,4,5,6,7,8,9,10,11,12,13],[],[0,1,2,3,4,5,6,7,8,9,10,11,12,13,14,16],[0,1,2,3,4,5,6,7,8,9,10,11,12,13,14,15,16,17]] [9,14] [_,_] [(kv ?_),(kv ?_),(kv ?_),(kv ?_),(kv ?_),(kv ?_),(kv ?_),(kv ?_),(kv ?_),(kv ?_),(kv ?_),(kv ?_),(fun γ=>γ 12),(fun γ=>γ 12),(fun γ=>γ 14),(kv ?_),(fun γ=>γ 16)] (fun γ w'=>[True,True,True,True,True,True,True,True,True,True,True,True,JE w' (γ 12) (pcn (Dp n F)),True,AC w' (γ 14) (pcn (Dp n F)),True,Bc w' (γ 16) wt.heap.size #[.bool false,.slice none 0 0] 26]) Kg BU BU BU BU BU Nb BU Kw ?m2 ?s2 ?_ ?l2
      case s2 =>
       iterate 17 refine⟨?_,?_⟩
       trivial
       iterate 12 focus
        refine Ba fun _ w' he R hR=>?_;have hc:=he.cells;have cq0:=he.cell q0;have cq1:=he.cell q1;have cq2:=he.cell p0;have cq3:=he.cell p1;go_simp;(try go_ints);(try(rw[if_neg Aa]));(try(rw[if_pos Aa]));(try go_simp);(try go_ints)
        exact Bi hR
       ·refine Ba fun _ w' he R hR=>?_
        go_simp;exact Bg (HQ.out.2.2.2.2.1▸I8 _ _ _ _ w' (HQ.out.1.kd he.kd) (HQ.out.2.1.kd he.kd) HQ.out.2.2.1 HQ.out.2.2.2.1) hR
       ·refine Ba fun _ w' he R hR=>?_
        have hc:=he.cells;go_simp
        (try go_ints);(try(rw[if_neg Aa]));(try(rw[if_pos Aa]));(try go_simp);(try go_ints)
        exact Bi hR
       ·refine FO fun γ w' he hf R hR=>?_;have f12:JE w' (γ 12) (pcn (Dp n F)):=hf 12 Ab;clear hf
        obtain⟨a,e,ha⟩:=f12;go_simp;exact hR _ _ (Ext.refl _) rfl ha
       ·refine FO fun γ w' he hf R hR=>?_;have f12:JE w' (γ 12) (pcn (Dp n F)):=hf 12 Ab;clear hf
        obtain⟨a,e,ha⟩:=f12;have hc:=he.cells;go_simp
        (try go_ints);(try(rw[if_neg Aa]));(try(rw[if_pos Aa]));(try go_simp);(try go_ints)
        exact Bi hR
       ·refine Ba fun _ w' he R hR=>?_
        go_simp;exact hR _ _ ((Ext.refl _).alloc _) rfl (Bc.mk (Nat.le_trans Ac he.size) (by simp[Ag]))
      case m2 =>
       exact⟨⟨⟨⟨⟨⟨⟨⟨⟨⟨⟨⟨⟨⟨⟨⟨⟨trivial,(fun γ wA w' e h=>h)⟩,(fun γ wA w' e h=>h)⟩,(fun γ wA w' e h=>h)⟩,(fun γ wA w' e h=>h)⟩,(fun γ wA w' e h=>h)⟩,(fun γ wA w' e h=>h)⟩,(fun γ wA w' e h=>h)⟩,(fun γ wA w' e h=>h)⟩,(fun γ wA w' e h=>h)⟩,(fun γ wA w' e h=>h)⟩,(fun γ wA w' e h=>h)⟩,(fun γ wA w' e h=>h)⟩,(fun γ wA w' e h=>(show JE wA (γ 12) (pcn (Dp n F))from h).ext e)⟩,(fun γ wA w' e h=>h)⟩,(fun γ w w' e h=>AC.ext_ h e)⟩,(fun γ wA w' e h=>h)⟩,(fun γ wA w' e h=>(show Bc wA (γ 16) wt.heap.size #[.bool false,.slice none 0 0] 26 from h).ext e)⟩
      case l2 =>
       intro Pn hPs hPn;obtain rfl:=Ii hPs hPn;clear hPs hPn
       ·intro γ w8 hx8 hF hA
        clear hA;have pf12:JE w8 (γ 12) (pcn (Dp n F)):=(Av.get hF 12 Ab).resolve_left Ab;have pf14:AC w8 (γ 14) (pcn (Dp n F)):=(Av.get hF 14 Ab).resolve_left Ab;have pf16:Bc w8 (γ 16) wt.heap.size #[.bool false,.slice none 0 0] 26:=(Av.get hF 16 Ab).resolve_left Ab;clear hF;show AP _ _ _ _ 3 [15] 17 _ _;simp only[Bd,Nat.reduceAdd,Co,Vn];generalize γ 12=g12 at *;generalize γ 14=g14 at *;generalize γ 16=g16 at *
        clear γ;obtain⟨a6,rfl,-⟩:=pf12;obtain⟨gc,rfl,hgc,ec⟩:=pf16;obtain⟨b7,A7,n7,c7,rfl⟩:=pf14.cells;clear q0 q1 p0 p1;have cec:=ec.cells2;have fec:=ec.frozen
        repeat' first
         | (refine AP.nil ?_;simp only[GM];go_wp2;done)
         | (refine AP.nil ?_;(try simp only[GM]);go_wp2)
         | (refine AP.mk _ ⟨?_,trivial⟩ (fun h=>?_)<;>first | exact absurd h Ab | ((try clear h);simp only[CX,GM];go_wp2;first | show AP _ _ _ _ _ [15] _ _ _ | show AP _ _ _ _ _ [] _ _ _))
        all_goals
         skip;obtain⟨W4,eW,ec',U⟩:=ec.put2 (.bool b7) (.slice A7 n7 c7);rw[<-eW];clear eW ec;replace pf14:=pf14.kd U.kd;replace hx8:=U.from_ hx8 Ak;have ec:=ec';clear U ec'
         go_meet
         case rel=>exact⟨gc,rfl,BA.mk ec pf14,hx8⟩
      intro γ w8 hx8 hF hA;clear hA;have pf12:JE w8 (γ 12) (pcn (Dp n F)):=Av.get hF 12 Ab;have pf14:AC w8 (γ 14) (pcn (Dp n F)):=Av.get hF 14 Ab;have pf16:Bc w8 (γ 16) wt.heap.size #[.bool false,.slice none 0 0] 26:=Av.get hF 16 Ab;clear hF;simp only[Bd,Nat.reduceAdd];generalize γ 12=g12 at *;generalize γ 14=g14 at *;generalize γ 16=g16 at *;clear γ;obtain⟨a6,rfl,-⟩:=pf12;obtain⟨gc,rfl,hgc,ec⟩:=pf16
      obtain⟨b7,A7,n7,c7,rfl⟩:=pf14.cells;clear q0 q1 p0 p1;have cec:=ec.cells2;have fec:=ec.frozen;go_wp2;skip;obtain⟨W4,eW,ec',U⟩:=ec.put2 (.bool b7) (.slice A7 n7 c7);rw[<-eW];clear eW ec;replace pf14:=pf14.kd U.kd;replace hx8:=U.from_ hx8 Ak;have ec:=ec';clear U ec'
      go_meet
      case rel=>exact⟨gc,rfl,BA.mk ec pf14,hx8⟩
     case rest =>
      clear q0 q1 p0 p1;obtain⟨gc,rfl,⟨b7,A7,n7,c7,ec,hc⟩,hx3⟩:=hcut;have Hc:=Ad (hc.has HQ.out.2.2.2.2.2.1);clear hc;have HbL:=Ad ((Hb'.out.kd hx3.kd).has HQ.out.2.2.2.2.2.2.1);replace ea:=ea.ext hx3;replace eb:=eb.ext hx3;have cec:=ec.cells2;have fec:=ec.frozen;have ceb:=eb.cells2;have feb:=eb.frozen
      go_wp2_with fail
      refine AR (bT _ _ (pcn (Dp n F)) ((dl n F:Nat):Int) _ Hc.out HbL.out HQ.out.2.2.2.2.2.2.2.1) ?_;rintro r4 w4 ⟨a4,rfl,hr4⟩ hx4;rw[HQ.out.2.2.2.2.2.2.2.2]at hr4;obtain⟨b8,A8,n8,c8,b9,A9,n9,c9,rfl⟩:=hr4.cells;replace ea:=ea.ext hx4;replace hx3:=hx3.trans hx4;clear ceb feb cec fec ec eb Hc HbL hx4;have hBa:=Be.made w4 28 #[.bool b8,.slice A8 n8 c8,.bool b9,.slice A9 n9 c9] (by simp[Ag]);obtain⟨Wa,eWa,e5,xa⟩:=hBa
      go_upto_region 21 with(fail)
      rw[<-eWa];replace hr4:=hr4.ext xa;replace ea:=ea.ext xa;replace hx3:=hx3.trans xa;clear eWa xa;generalize w4.heap.size=gr at e5 ⊢;have HP':=Ad (HP.out.ext hx3);have hxx:=hx.trans (hx2.trans hx3);clear HP hx3 hx2;obtain⟨ce50,ce51,ce52,ce53⟩:=e5.cells4;have fe5:=e5.frozen;refine CV 3 [91,92,2] [14,17] [_,_] [(kv ?_),(kv ?_),(kv ?_)] (fun γ w'=>[True,True,True]) ?s3 ?_
      case s3 =>
       iterate 3 refine⟨?_,?_⟩
       trivial
       iterate 3 focus
        refine Ba fun _ w' he R hR=>?_;have hc:=he.cells;have cq0:=he.cell ce50;have cq1:=he.cell ce51;have cq2:=he.cell ce52;have cq3:=he.cell ce53;go_simp;(try go_ints);(try(rw[if_neg Aa]));(try(rw[if_pos Aa]));(try go_simp);(try go_ints)
        exact Bi hR
      intro γ w9 hx9 hF;clear hF;simp only[Bd,Nat.reduceAdd];clear γ;replace ea:=ea.ext hx9;replace hr4:=hr4.ext hx9;replace hxx:=hxx.trans hx9;have hp:=HP'.out.ext hx9;clear hx9 ce50 ce51 ce52 ce53 fe5 e5 HP';have cea:=ea.cells4;have fea:=ea.frozen;go_wp2;obtain⟨W3,eW,ea',U⟩:=ea.put4 (.bool b8) (.slice A8 n8 c8) (.bool b9) (.slice A9 n9 c9);rw[<-eW];clear eW ea;replace hr4:=hr4.kd U.kd;replace hp:=hp.upd U Ak
      replace hxx:=U.from_ hxx Ak;have ea:=ea';clear U ea';have HP:=Ad (hp.base_le (show w.heap.size<=_ by omega));clear hp;clear cea;have cea:=ea.cells4;have fea:=ea.frozen;refine bodyPost_ret (v := .tuple #[_,.agg #[.bool b8,.slice A8 n8 c8,.bool b9,.slice A9 n9 c9]]) (by simp[results,Tryz.results116,go_sem,cea];rfl) rfl ?_;exact Ah.mk ⟨_,_,rfl,HP.out,hr4⟩ hxx
theorem AC.cast{w:World}{v:Value}{x y:Int}(h:AC w v x)(e:x=y):AC w v y:=e▸h
theorem jF(v:Value)(l:List Int)(w:World)(hv:Ey 0 w v l)(hn:l.length<=1099511627776):Bj 115 #[v] w (fun r w'=>FV w.heap.size w' r (cz l)):=by
 obtain⟨A,c,rfl,hl,hc,hA⟩:=hv;obtain⟨W0,hmk,ea,hx⟩:=KP l.length (l.length:Int) rfl hn w;have HA:Hid (Lj 0 w A l):=Ad hA;clear hA;have hzl:=En l;have Hzl:=Ad hzl;clear hzl
 go_enter Tryz.func115,Tryz.ntmps115
 go_wp2
 go_loopw [11] (fun iv wr=>∃ (k:Nat) (la:List (Option Rat)),k<=l.length/\iv = .int .i64 k/\CS wr w.heap.size 28 la/\la.length=l.length/\la=((zq l).take k).map some ++ List.replicate (l.length - k) none/\Ext w wr) (fun iv _=>l.length - (intOf iv).toNat)
 case atStart=>exact⟨0,_,Nat.zero_le _,rfl,ea,Ac,Ac,hx⟩
 case round =>
  obtain⟨k,la,hk,rfl,ea,hlen,hla,hx⟩:=hrel;have Hla:=Ad hla;clear hla;have Hlen:=Ad hlen;clear hlen;by_cases hkl:k < l.length
  ·obtain⟨g,o,b,A1,n,c1,rfl,_,q0,q1,hq⟩:=HA.out.at_ (j:=k) hkl
   replace q0:=hx.cell q0;replace q1:=hx.cell q1;have Hq:=Ad hq;clear hq
   go_wp2_with fail
   refine AR (GY _ _ _ (Hq.out.kd (hx.alloc _).kd)) ?_;rintro r w2 hr hx2;replace ea:=ea.ext hx2.a1;replace hx:=hx.trans hx2.a1;clear hx2 q0 q1;obtain⟨b5,A5,n5,c5,b6,A6,n6,c6,rfl⟩:=hr.cells;have hkla:k < la.length:=by have:=Hlen.out;omega
   obtain⟨_,_,_,_,_,_,_,_,ca0,ca1,ca2,ca3,-⟩:=ea.at_ (j:=k) (by first | omega | (simp;omega));have fa0:=ea.frozen (k*4);have fa1:=ea.frozen (k*4+1);have fa2:=ea.frozen (k*4+2);have fa3:=ea.frozen (k*4+3);go_wp2;obtain⟨W3,eW,ea',U⟩:=ea.put (k:=k) (by first | omega | (simp;omega)) hr;rw[<-eW];clear eW ea;replace hx:=U.from_ hx Ak;have ea:=ea';clear U ea'
   go_roundw
   case rel=>exact⟨k+1,_,Aa,by go_num,ea,by simpa using Hlen.out,QV Hla.out hkl Hzl.out (Ms hkl),hx⟩
   case measure=>simp[intOf];omega
  ·obtain rfl:k=l.length:=by omega
   replace ea:CS wr w.heap.size 28 ((zq l).map some):=by
    have:=Hla.out;rw[Nat.sub_self,List.replicate_zero,List.append_nil,List.take_of_length_le (by rw[Hzl.out];exact Nat.le_refl _)]at this;rw[<-this];exact ea
   have hrow:=ea.row (m:=zq l) rfl (Nat.le_refl _);have hT:=Ht w.heap.size (some ⟨w.heap.size,0,none⟩) l.length (zq l) wr (by rw[Hzl.out];exact Nat.le_refl _) Aa hrow;rw[Hzl.out]at hT;have Hrow:=Ad hrow;clear hrow
   go_wp2_with fail
   refine Calls.mono hT ?_;rintro e w2 ⟨rfl,rfl⟩;go_wp2
   go_ret
   exact Ah.mk (FV.of_trim (RV.trim Hrow.out (by rw[Hzl.out];exact Nat.le_refl _)) rfl) hx
end Go.Proofs.YtmhgnigpmompmaaGreat
namespace Go.Hp
theorem AY.cast{b:Nat}{w:World}{v:Value}{F G:Nat->Rat}(h:AY b w v F)(e:F=G):AY b w v G:=e▸h
theorem FV.cast{b:Nat}{w:World}{v:Value}{F G:Nat->Rat}(h:FV b w v F)(e:F=G):FV b w v G:=e▸h
theorem ZA{n:Nat}{F:Nat->Rat}{s:Nat}(hs:Bq n F)(hq:∀ i,qsz (F i)<=s):qsz (LG n F)<=s+(1+n*s+1+s):=by
 unfold LG;have h1:=Jc (ld F) (ld (pp (Dp n F)));have h2:=hq (pl F - 1);have h3:=F6 (Fa hs) (EL (n:=n) ⟨n,hs⟩) (fun i=>P9 (n:=n) hq i) (pl (pp (Dp n F)) - 1);have e1:ld F=F (pl F - 1):=rfl;have e2:ld (pp (Dp n F))=pp (Dp n F) (pl (pp (Dp n F)) - 1):=rfl;rw[e1,e2]at h1;show qsz (F (pl F - 1) / pp (Dp n F) (pl (pp (Dp n F)) - 1))<=_;omega
end Go.Hp
namespace Go.Proofs.YtmhgnigpmompmaaGreat
open Go.RowKit Go.Hp
theorem UL(v:Value)(l:List Rat)(s:Nat)(w:World)(hv:RI 0 w v l)(hn:l.length<=1000)(hs:∀ i,qsz (co l i)<=s)(hs0:s<=1000000) :
  Bj 116 #[v] w (fun r w'=>Ud w.heap.size (pl (co l)) (co l) r w'):=by
 by_cases h0:co l=pz
 ·have:=SK v l w hv Aa h0
  rw[h0,BJ];exact this
 ·exact Z5 v l s w hv hn hs hs0 h0
theorem Yf(v:Value)(F:Nat->Rat)(w:World)(hv:AY 0 w v F)(hs:∀ i,qsz (F i)<=1099511627776)(hn:pl F<=1099511627776):Bj 115 #[v] w (fun r w'=>FV 0 w' r F):=by
 obtain⟨l,h1,h2,-,rfl⟩:=hv.hz hs;exact Ah.imp (jF v l w h1 Aa) fun _ _ h=>h.base_le (Nat.zero_le _)
theorem VX(v u:Value)(F G:Nat->Rat)(s:Nat)(w:World)(hv:FV 0 w v F)(hu:FV 0 w u G)(h0:G≠pz)(hF:CD s F)(hG:CD s G)(hs:s<=1000000)(hn:pl F<=1000)(hm:pl G<=1000) :
  Bj 114 #[v,u] w (fun r w'=>∃ a b,r = .tuple #[a,b,.int .i64 0]/\FV 0 w' a (pq F G)/\FV 0 w' b (pr F G)):=by
 obtain⟨l,h1,h2,-,rfl⟩:=hv.hs fun i=>by have:=hF.elem i;omega
 obtain⟨m,k1,k2,-,rfl⟩:=hu.hs fun i=>by have:=hG.elem i;omega
 have:(pl (co l)+2)*(s+1)<=1002*1000001:=Nat.mul_le_mul Aa Aa;exact Ah.imp (XO v u l m s s w h1 k1 h0 hF hG Aa Aa Aa) fun r w' ⟨a,b,e,h,k⟩=>⟨a,b,e,h.base_le (Nat.zero_le _),k.base_le (Nat.zero_le _)⟩
theorem Yl(v:Value)(F:Nat->Rat)(s:Nat)(w:World)(hv:FV 0 w v F)(hF:CD s F)(hs:s<=1000000)(hn:pl F<=1000) :
  Bj 116 #[v] w (fun r w'=>Ud w.heap.size (pl F) F r w'):=by
 obtain⟨l,h1,h2,-,rfl⟩:=hv.hs fun i=>by have:=hF.elem i;omega
 exact UL v l s w h1 Aa hF.elem hs
theorem Nc(v u:Value)(F:Nat->Rat)(a:Int)(w:World)(hv:AY 0 w v F)(hs:∀ i,qsz (F i)<=1099511627776)(hu:Bh w u a)(hn:pl F<=1099511627776) :
  Bj 96 #[v,u] w (fun r w'=>AY w.heap.size w' r (psc (a:Rat) F)):=by
 obtain⟨l,h1,h2,-,rfl⟩:=hv.hz hs;exact QP v u l a w h1 hu Aa
theorem Oq(v:Value)(F:Nat->Rat)(w:World)(hv:AY 0 w v F)(hs:∀ i,qsz (F i)<=274877906944)(hn:pl F<=274877906944)(zF:ZI F)(fF:Ae F) :
  Bj 113 #[v] w (fun r w'=>AY w.heap.size w' r (rd F)):=by
 have HP:=Ad (IC v F w hv (fun i=>by have:=hs i;omega) Aa);have HS:=Ad (Au (fun W u (hu:AY 0 W u (pp F)) z (hz:Bh W z (-1))=>Nc u z (pp F) (-1) W hu (fun i=>by have:=F6 zF fF hs i;omega) hz (by rw[DR zF fF];omega)) (LD F));have HZ:=Ad (show pl F=0->¬ ld F < 0 from fun h=>by rw[(BF fF).1 h];show ¬ (0:Rat) < 0;decide);obtain⟨A,c,l,rfl,k1,k2,hA,k3,k4,k5⟩:=hv.form;have HA:=Ad (Au hA (Au k3 k5));clear hv hA k3 k4 k5 hs zF fF
 go_enter Tryz.func113,Tryz.ntmps113
 go_wp2_with fail
 refine AR HP.out ?_;rintro r1 w1 hr1 hx1;obtain⟨A1,c1,rfl,-⟩:=hr1.shape;have hr:=hr1;clear hr1;by_cases hp:0 < pl F
 ·obtain⟨g,o,b,A2,n,c2,rfl,_,q0,q1,hq⟩:=HA.out.1.at_ (j:=pl F - 1) (by have:=HA.out.2.1;omega)
  have hbb:=hq.two.2;have hld:ld F=(l[pl F - 1]'(by have:=HA.out.2.1;omega):Rat):=by rw[<-Cb,HA.out.2.2];rfl
  have hrd:rd F=psc (if b=true then -1 else 1) (pp F):=by
   rw[HS.out.2,hld,hbb];by_cases hneg:l[pl F - 1]'(by have:=HA.out.2.1;omega) < 0
   ·rw[if_pos (by exact_mod_cast hneg),if_pos (by simpa using hneg)]
   ·rw[if_neg (fun h=>hneg (by exact_mod_cast h)),if_neg (by simpa using hneg)]
  replace q0:=hx1.cell q0;have Hrd:=Ad hrd;have Hr:=Ad hr;clear hrd hld hbb hq q1 hr;cases b with
  | true =>
   go_wp2_with fail
   refine AR (Jn (-1) _ Aa Aa) ?_;rintro r2 w2 hr2 hx2
   go_wp2_with fail
   refine AR (HS.out.1 _ _ ((Hr.out.ext hx2).base_le (Nat.zero_le _)) _ (hr2.has Ab)) ?_;rintro r3 w3 hr3 hx3;go_wp2
   go_ret
   exact Ah.mk ((hr3.base_le (hx1.trans hx2).size).cast (by rw[Hrd.out];simp)) ((hx1.trans hx2).trans hx3)
  | false =>
   go_wp2
   go_ret
   exact Ah.mk (Hr.out.cast (by rw[Hrd.out];simp[Cu])) hx1
 ·have h0:pl F=0:=by omega
  have e:rd F=pp F:=by
   rw[HS.out.2,if_neg (HZ.out h0),Cu]
  have Hr:=Ad (hr.cast e.symm);clear hr e;rw[h0];clear h0 hp;go_wp2
  go_ret
  exact Ah.mk Hr.out hx1
theorem bS:(Tryz.prog.info? 23).map (fun i=>(i.zero,i.size,i.bytes))=some (some (.slice none 0 0),1,24):=by kernel_rfl
theorem V5(W:World)(v:Value)(base eb ty n c g:Nat)(A:Option Addr)(us:List Value)(l:List (Nat->Rat))(F:Nat->Rat)(h:Js base eb 23 W v us l)(hu:AY eb W (.slice A n c) F)(hg:g=W.heap.size)(hn:l.length<=1000000)(hb:base<=W.heap.size) :
  ∃ v' w',(Builtin.append_ #[55,55] ty #[v,.slice (some ⟨g,0,none⟩) 1 1]).run Tryz.prog (W.alloc (.cells #[.slice A n c] 23)) = .ok v' w' /\
   (Js base eb 23 w' v' (us ++ [.slice A n c]) (l ++ [F])/\Cj (blk v) (W.alloc (.cells #[.slice A n c] 23)) w'/\O7 (W.alloc (.cells #[.slice A n c] 23)) v):=by
 subst hg;obtain⟨i0,hi,hz0,hz1,hz2⟩:=info_parts bS;obtain⟨v',w',a,b,U,N⟩:=Js.append (P:=Tryz.prog) h hu 55 ty i0 _ 24 Tryz.underlying55 hi hz0 hz1 hz2 rfl (by simp[nodig,Ag,Value.cells]) (by simp[Sc,Value.cells]) (by simp only[maxLen];omega) Aa hb;exact⟨v',w',a,b,U,N⟩
set_option maxRecDepth 20000 in
theorem ZW(v u:Value)(F G:Nat->Rat)(S D M:Nat)(w:World)(hv:AY 0 w v F)(hu:AY 0 w u G)(zF:ZI F)(zG:ZI G)(fF:Ae F)(fG:Ae G)(hs:∀ i,qsz (F i)<=S)(ht:∀ i,qsz (G i)<=S)
  (hD:pl F+pl G=D) (hM:jV F G S M) (hB:M+(D+1)*(M+1)<=1000000) (hD9:D<=900) :
  Bj 65 #[v,u] w (fun r w'=>∃ us K,PG F G K/\K<=pl G+1/\Js w.heap.size w.heap.size 23 w' r us (Gp F G K)):=by
 have hSM:=hM.1;have hDM:(D+1)*1<=(D+1)*(M+1):=Nat.mul_le_mul_left _ Aa;obtain⟨K0,hK0,hK1⟩:=GG fF fG zF zG hs ht;have hR1:=fun W (x:Ext w W)=>Oq v F W (hv.ext x) (fun i=>by have:=hs i;omega) Aa zF fF;have hR2:=fun W (x:Ext w W)=>Oq u G W (hu.ext x) (fun i=>by have:=ht i;omega) Aa zG fG;have hst:∀ k,(∀ j,1<=j->j<=k->Ch F G j≠pz)->F7 F G D S (Ch F G k) (Ch F G (k+1)):=fun k h=>by rw[<-hD];exact IA fF fG zF zG hs ht k h
 have hlow:=fun k h=>OQ fF fG zF zG hs ht k h;obtain⟨A0,c0,rfl,-⟩:=hv.shape;obtain⟨A1,c1,rfl,-⟩:=hu.shape;have HX:=Ad (Au hst (Au hlow (Au hM (Au hB (Au hD9 (Au hD hK1))))));have HR:=Ad (Au hR1 hR2);clear hv hu zF zG fF fG hs ht hD hM hSM hDM hR1 hR2 hst hlow hK0 hK1 hB hD9
 go_enter Tryz.func65,Tryz.ntmps65
 go_wp2_with fail
 refine AR (HR.out.1 _ (Ext.refl w)) ?_;rintro r1 w1 hr1 hx1;obtain⟨A2,c2,rfl,-⟩:=hr1.shape;have hP1:=Js.one (t:=23) (base:=w.heap.size) (hr1.base_le (b:=w.heap.size) (Nat.le_refl _)) hx1.size;have hx:=hx1.alloc (.cells #[.slice A2 (pl (rd F)) c2] 23);have H1:=Ad hP1;clear hP1 hr1 hx1
 go_wp2_with fail
 refine AR (HR.out.2 _ hx) ?_;rintro r2 w2 hr2 hx2;have hP2:=H1.out.ext hx2;replace hr2:=hr2.base_le (b:=w.heap.size) hx.size;replace hx:=hx.trans hx2;clear H1 hx2;go_wp2
 go_loopw [5,6] (fun ov nv wr=>∃ k us,Js w.heap.size w.heap.size 23 wr ov us (Gp F G (k+1))/\AY w.heap.size wr nv (Ch F G (k+1))/\(∀ j,1<=j->j<=k->Ch F G j≠pz)/\Ext w wr) (fun _ nv _=>YO nv)
 case atStart=>exact⟨0,_,hP2,hr2,fun j a b=>Aa,hx⟩
 case round =>
  clear hP2 hr2 hx;obtain⟨k,us,hP,hn,hk,hx⟩:=hrel;obtain⟨L,d,rfl⟩:=hP.shape;obtain⟨A3,c3,rfl,-⟩:=hn.shape;have HK:=Ad hk;clear hk;have hf:=(HX.out.1 k HK.out).facts;have hkl:=HX.out.2.1 k HK.out;have hkk:k<=900:=by have:=HX.out;omega
  by_cases h0:0 < pl (Ch F G (k+1))
  ·have hbn:Ch F G (k+1)≠pz:=fun e=>by rw[e,BJ]at h0;omega
   obtain⟨fA,fB,zA,zB,hdd,qA,qB⟩:=hf;have hcl:=(HX.out.1 k HK.out).clear hbn (HX.out.2.2.1.2 k HK.out).1 (HX.out.2.2.1.2 k HK.out).2;have hall:=L6 fA fB hbn;have hcx:=jB fA fB hbn;have hpr:=Er fA fB hbn;rw[<-JZ]at hall hcx;obtain⟨X,hXe⟩:∃ X,X=Ch F G k:=⟨_,rfl⟩
   obtain⟨Y,hYe⟩:∃ Y,Y=Ch F G (k+1):=⟨_,rfl⟩
   obtain⟨Z,hZe⟩:∃ Z,Z=Ch F G (k+2):=⟨_,rfl⟩
   obtain⟨R,hRe⟩:∃ R,R=pr X Y:=⟨_,rfl⟩
   simp only[<-hXe,<-hYe,<-hZe]at hcl hall hcx hpr hkl hbn h0 fB zB qB fA zA qA hdd;simp only[<-hRe]at hcl hall hcx hpr;have hM9:M<=1000000:=by have:=HX.out.2.2.2.1;have:0<=(D+1)*(M+1):=Nat.zero_le _;omega
   have hplR:pl R<=1000:=by have:=BX hpr;have:=HX.out.2.2.2.2.1;omega
   have hplXY:pl X<=1000/\pl Y<=1000:=by have:=HX.out.2.2.2.2.1;omega
   have hcR:LG (pl R) R=LG (pl R) R:=rfl;have hpR:∀ i,qsz (pp (Dp (pl R) R) i)<=1099511627776:=fun i=>by
    have fR:Ae R:=⟨_,hpr⟩
    have h1:=F6 (Fa (AB fR)) (EL (n:=pl R) fR) (fun j=>P9 (n:=pl R) hcl.2.2.elem j) i;have h2:pl R*(M+(D+1)*(M+1))<=1000*1000000:=Nat.mul_le_mul hplR HX.out.2.2.2.1;have:=HX.out.2.2.2.1;omega
   have hplc:pl (pp (Dp (pl R) R))<=1000:=by
    have fR:Ae R:=⟨_,hpr⟩
    rw[DR (Fa (AB fR)) (EL (n:=pl R) fR)];exact Nat.le_trans (BX (show Bq (pl R) (Dp (pl R) R)from(AB fR).psc _)) hplR
   have HC:=Ad (Au hcl (Au hall (Au hcx (Au hM9 (Au hplR (Au hplXY (Au hbn (Au hpR hplc))))))));have HE:=Ad (Au hXe (Au hYe (Au hZe hRe)));have hlt:(Gp F G (k+1)).length=k+1:=Et _ _ _;have HN:=Ad (hYe▸hn);rw[<-hYe];rw[hlt]at hP ⊢;have HP:=Ad hP;have hbl:=Ad hP.out.blk_ge;clear hcl hall hcx hM9 hplR hplXY hcR hpR hplc hpr fA fB zA zB hdd qA qB hbn hXe hYe hZe hRe hn hP hlt
   go_wp2_with (at_builtin;refine AO rfl _ _ 55 rfl (.slice L (k+1) d) (.slice (some ⟨wr.heap.size,0,none⟩) 1 1) rfl rfl (V5 wr _ w.heap.size w.heap.size _ _ _ _ _ us _ _ HP.out HN.out rfl (by rw[Et];omega) hx.size) ?_)
   intro v' w6 hP6 U hNB;have xa:=(Ext.refl wr).alloc (.cells #[.slice A3 (pl Y) c3] 23);have hP7:=hP6;rw[show Gp F G (k+1) ++ [Y]=Gp F G (k+1+1)from by rw[HE.out.2.1,<-XH]]at hP7;obtain⟨L2,d2,rfl⟩:=hP7.shape;have hn7:=(HN.out.ext xa).updB U hNB;have hx7:=U.from_ (hx.trans xa) (fun g' hg=>(hbl.out _ hg).1);have hlt:(Gp F G (k+1+1)).length=k+2:=Et _ _ _;have hat:=hP7.at_ (i:=k) (by rw[hlt];omega);rw[ZY]at hat
   obtain⟨g5,o5,E5,d5,rfl,hc5,h5⟩:=hat;rw[<-HE.out.1]at hc5 h5;have H7:=Ad (Au hP7 (Au hn7 h5));rw[hlt];clear hP6 hP7 hn7 h5 U hNB xa hx HP HN hbl hlt
   go_wp2_with fail
   refine AR (Yf _ _ _ H7.out.2.2 (fun i=>by have:=HC.out.1.1.elem i;have:=HC.out.2.2.2.1;omega) (by have:=HC.out.2.2.2.2.2.1;omega)) ?_;rintro r8 w8 hr8 hx8;have H8:=Ad (Au (H7.out.1.ext hx8) (Au (H7.out.2.1.ext hx8) hr8));replace hx7:=hx7.trans hx8;clear hx8 hr8 H7 hc5
   go_wp2_with fail
   refine AR (Yf _ _ _ (H8.out.2.1.base_le (Nat.zero_le _)) (fun i=>by have:=HC.out.1.2.1.elem i;have:=HC.out.2.2.2.1;omega) (by have:=HC.out.2.2.2.2.2.1;omega)) ?_;rintro r9 w9 hr9 hx9;have H9:=Ad (Au (H8.out.1.ext hx9) (Au (H8.out.2.2.ext hx9) hr9));replace hx7:=hx7.trans hx9;clear hx9 hr9 H8
   go_wp2_with fail
   refine AR (VX _ _ X Y M _ H9.out.2.1 H9.out.2.2 HC.out.2.2.2.2.2.2.1 HC.out.1.1 HC.out.1.2.1 HC.out.2.2.2.1 HC.out.2.2.2.2.2.1.1 HC.out.2.2.2.2.2.1.2) ?_;rintro r10 w10 ⟨qv,rv,rfl,hq10,hr10⟩ hx10;obtain⟨Aq,cq,_,rfl,-⟩:=hq10.form;obtain⟨Ar,cr,_,rfl,-⟩:=hr10.form;rw[<-HE.out.2.2.2]at hr10 ⊢;have H10:=Ad (Au (H9.out.1.ext hx10) hr10);replace hx7:=hx7.trans hx10;clear hx10 hr10 hq10 H9
   go_wp2_with fail
   refine AR (Yl _ R (M+(D+1)*(M+1)) _ H10.out.2 HC.out.1.2.2 HX.out.2.2.2.1 HC.out.2.2.2.2.1) ?_;rintro r11 w11 ⟨pv,cv,rfl,hp11,hc11⟩ hx11;replace hp11:=hp11.base_le (b:=w.heap.size) hx7.size;obtain⟨Ap,cp,rfl,-⟩:=hp11.shape;obtain⟨b5,B5,n5,e5,b6,B6,n6,e6,rfl⟩:=hc11.cells;obtain⟨W12,eW,ec,x12⟩:=Be.made w11 28 #[.bool b5,.slice B5 n5 e5,.bool b6,.slice B6 n6 e6] (by simp[Ag]);have H12:=Ad (Au ((H10.out.1.ext hx11).ext x12) (Au (hp11.ext x12) (hc11.ext x12)))
   replace hx7:=(hx7.trans hx11).trans x12;clear hx11 hp11 hc11 x12 H10
   go_upto_region 7 with(fail)
   rw[<-eW];clear eW;generalize w11.heap.size=gc at *;have cec:=ec.cells4;have fec:=ec.frozen;have hqc:qsz (LG (pl R) R)<=274877906944:=by
    have h1:=ZA (AB ⟨_,(show Bq (pl R) R from by
     have:=HC.out.2.1;exact AB (by rw[HE.out.2.2.2];exact EE (HX.out.1 k HK.out |>.facts |> fun f=>by rw[HE.out.1];exact f.1) (HX.out.1 k HK.out |>.facts |> fun f=>by rw[HE.out.2.1];exact f.2.1)))⟩) HC.out.1.2.2.elem
    have h2:pl R*(M+(D+1)*(M+1))<=1000*1000000:=Nat.mul_le_mul HC.out.2.2.2.2.1 HX.out.2.2.2.1;have:=HX.out.2.2.2.1;omega
   have hcx:=HC.out.2.2.1;have hpx:=HC.out.2.2.2.2.2.2.2
   go_wp2_with fail
   refine AR (NE _ (LG (pl R) R) _ (H12.out.2.2.has hqc)) ?_;rintro r13 w13 rfl hx13;replace hx7:=hx7.trans hx13;have H13a:=Ad (Au (H12.out.1.ext hx13) (H12.out.2.1.ext hx13));have hZe:Ch F G (k+1+1)=Z:=HE.out.2.2.1.symm;clear hx13 H12 cec fec ec hqc;by_cases hc:0 < LG (pl R) R
   ·rw[Ut hc]
    rw[if_pos hc]at hcx;have HCX:=Ad (Au hcx (Au hpx hZe));clear hcx hpx hc hZe
    go_wp2_with fail
    refine AR (Jn (-1) _ Aa Aa) ?_;rintro r14 w14 hr14 hx14;have H14:=Ad (Au (H13a.out.1.ext hx14) (H13a.out.2.ext hx14));replace hx7:=hx7.trans hx14;clear hx14 H13a
    go_wp2_with fail
    refine AR (Nc _ _ _ (-1) _ (H14.out.2.base_le (Nat.zero_le _)) HCX.out.2.1.1 (hr14.has Ab) (by have:=HCX.out.2.1.2;omega)) ?_;rintro r15 w15 hr15 hx15;replace hr15:=(hr15.base_le (b:=w.heap.size) hx7.size).cast (show psc (((-1:Int):Rat)) (pp (Dp (pl R) R))=Z from by rw[HCX.out.1];rfl);obtain⟨A15,c15,rfl,-⟩:=hr15.shape;rw[<-HCX.out.2.2]at hr15 ⊢;have H13:=Ad (Au (H14.out.1.ext hx15) hr15);replace hx7:=hx7.trans hx15
    have HCX:=Ad HCX.out.2.2.symm;clear hx15 H14 hr15 hr14;go_wp2
    go_roundw
    case rel=>exact⟨k+1,_,(by have:=H13.out.1;rw[Et]at this;exact this),H13.out.2,fun j a1 a2=>by
     rcases Nat.lt_or_ge j (k+1)with a3 | a3
     ·exact HK.out j a1 Aa
     ·obtain rfl:j=k+1:=by omega
      rw[<-HE.out.2.1];exact HC.out.2.2.2.2.2.2.1,hx7⟩
    case measure =>
     have h1:=HC.out.2.1.2.2.2.1;rw[HCX.out]at h1;simp only[YO];omega
   ·have hsg:=iF hc
    have hdec:decide (0 < Eb (LG (pl R) R))=false:=decide_eq_false Aa;rw[if_neg hc,Cu]at hcx;have hr15:=H13a.out.2;rw[<-hcx,<-hZe]at hr15;rw[<-hcx,<-hZe];have H13:=Ad (Au H13a.out.1 hr15);have HCX:=Ad hZe.symm;clear hcx hpx hc hZe H13a hr15;go_wp2
    go_roundw
    case rel=>exact⟨k+1,_,(by have:=H13.out.1;rw[Et]at this;exact this),H13.out.2,fun j a1 a2=>by
     rcases Nat.lt_or_ge j (k+1)with a3 | a3
     ·exact HK.out j a1 Aa
     ·obtain rfl:j=k+1:=by omega
      rw[<-HE.out.2.1];exact HC.out.2.2.2.2.2.2.1,hx7⟩
    case measure =>
     have h1:=HC.out.2.1.2.2.2.1;rw[HCX.out]at h1;simp only[YO];omega
  ·have hz:Ch F G (k+1)=pz:=(BF hf.2.1).1 Aa
   have hS:PG F G (k+1):=⟨Aa,hz,fun j a b=>HK.out j a Aa⟩
   have HS:=Ad hS;clear hS hz hf;have HP:=Ad hP;clear hP;have hlt:(Gp F G (k+1)).length=k+1:=Et _ _ _;go_wp2
   go_ret
   exact Ah.mk ⟨us,k+1,HS.out,Aa,HP.out⟩ hx
set_option maxRecDepth 20000 in
theorem ZC(v u:Value)(l m:List Int)(s t:Nat)(w:World)(hv:Ey 0 w v l)(hu:Ey 0 w u m)(hs:∀ i,qsz (cz l i)<=s)(ht:∀ i,qsz (cz m i)<=t)(hst:1+(l.length+m.length)*(s+t+1)<=274877906944)(hn:l.length<=274877906944)(hm:m.length<=274877906944) :
  Bj 23 #[v,u] w (fun r w'=>AY w.heap.size w' r (cv (cz l) (cz m))):=by
 have HV:=Ad hv;have HU:=Ad hu;obtain⟨A,c,rfl⟩:=hv.len;obtain⟨E,d,rfl⟩:=hu.len;clear hv hu;have hp0:=BX (Ct l);have hq0:=BX (Ct m);have HF:=Ad (Au (Ae.cz l) (Ae.cz m));have HI:=Ad (Au (ZI.cz l) (ZI.cz m));obtain⟨F,hF⟩:∃ F,F=cz l:=⟨_,rfl⟩
 obtain⟨G,hG⟩:∃ G,G=cz m:=⟨_,rfl⟩
 rw[<-hF,<-hG]at HF HI;rw[<-hF]at hs hp0;rw[<-hG]at ht hq0;rw[<-hF,<-hG];have HN:=Ad (Au (Le _ l w HV.out Aa) (fun w' (e:Ext w w')=>Le _ m w' (HU.out.ext e) Aa));rw[<-hF,<-hG]at HN;clear hF hG HV HU;have HS:=Ad (Au hs (Au ht hst));clear hs ht hst
 go_enter Tryz.func23,Tryz.ntmps23
 go_wp2_with fail
 refine AR HN.out.1 ?_;rintro r1 w1 hr1 hx1;have Hr1:=Ad hr1;clear hr1
 go_wp2_with fail
 refine AR (HN.out.2 w1 hx1) ?_;rintro r2 w2 hr2 hx2;obtain⟨A1,c1,la,rfl,k1,k2,hA,k3,k4,k5⟩:=(Hr1.out.ext hx2).form;obtain⟨A2,c2,lb,rfl,k6,k7,hB,k8,k9,k10⟩:=hr2.form;replace hx1:=hx1.trans hx2;have HA:=Ad (Au hA (Au k3 k5));have HB:=Ad (Au hB (Au k8 k10));clear hx2 Hr1 hr2 hA hB k3 k4 k5 k8 k9 k10 HN;obtain⟨p,hp⟩:∃ p,p=pl F:=⟨_,rfl⟩
 obtain⟨q,hq⟩:∃ q,q=pl G:=⟨_,rfl⟩
 rw[<-hp]at HA hp0 ⊢;rw[<-hp]at k1;rw[<-hq]at HB hq0 k6 ⊢;have HP:=Ad (Au hp hq);clear hp hq;by_cases h0:p=0
 ·have b0:((p:Int)==0)=true:=by rw[h0];rfl
  have H0:=Ad h0;clear h0;go_wp2
  go_ret
  have:F=pz:=(BF HF.out.1).1 (by rw[<-HP.out.1];exact H0.out);rw[this,Cv];exact Ah.mk (AY.nil _ _) hx1
 have b0:((p:Int)==0)=false:=by simpa using h0
 by_cases h1:q=0
 ·have b1:((q:Int)==0)=true:=by rw[h1];rfl
  have H1:=Ad h1;clear h0 h1;go_wp2
  go_ret
  have:G=pz:=(BF HF.out.2).1 (by rw[<-HP.out.2];exact H1.out);rw[this,Jz];exact Ah.mk (AY.nil _ _) hx1
 have b1:((q:Int)==0)=false:=by simpa using h1
 have sF:Bq p F:=by rw[HP.out.1];exact AB HF.out.1
 have sG:Bq q G:=by rw[HP.out.2];exact AB HF.out.2
 have HZ:=Ad (Au sF sG);clear sF sG;obtain⟨N,hN⟩:∃ N,p+q=N+1:=⟨p+q - 1,Aa⟩
 have hN1:N<=549755813888:=by omega
 have HL:=Ad (show N+1<=l.length+m.length by omega);have hpb:p<=549755813888:=by omega
 have hqb:q<=549755813888:=by omega
 clear h0 h1 hp0 hq0;have HW:=Ad hx1;clear hx1;obtain⟨wb,hwb⟩:∃ wb:World,wb=w2:=⟨_,rfl⟩
 subst hwb;go_wp2
 go_loopw [7,8] (fun ov iv wr=>∃ (n:Nat),n<=N/\iv = .int .i64 n/\Dq wb.heap.size 26 wr ov (DF n (cv F G))/\Ext wb wr) (fun _ iv _=>N - (intOf iv).toNat)
 case atStart=>exact⟨0,Nat.zero_le _,rfl,BH.nil _ _ _ _ _,Ext.refl _⟩
 case round =>
  obtain⟨n,hn,rfl,hown,hx⟩:=hrel;by_cases hnN:n < N
  ·have Hown0:=Ad hown;clear hown
   go_wp2_with fail
   refine AR (Yh 0 _ Aa Aa) ?_;rintro r3 w3 hr3 hx3;obtain⟨b5,A5,n5,c5,rfl⟩:=hr3.cells;have hown:=Hown0.out.ext hx3;have Hbk:=Ad (fun g hg=>(BH.blk_ge hown g hg).2);replace hx:=hx.trans hx3;clear hx3 Hown0
   go_upto_region 9 with(fail)
   obtain⟨W9,eW9,e9,x9⟩:=Be.made w3 26 #[.bool b5,.slice A5 n5 c5] (by simp[Ag]);rw[<-eW9];clear eW9;have eb:=BA.mk e9 (hr3.kd x9.kd);replace hown:=Dq.ext hown x9;have Hsz9:=Ad hx.size;replace hx:=hx.trans x9;have Hown:=Ad hown;clear x9 hr3 e9 hown;generalize w3.heap.size=gb at *;go_wp2
   go_loopw [10] (fun iv wx=>∃ (i:Nat),i<=n+1/\iv = .int .i64 i/\BA wx gb 26 (sm i (fun j=>F j*G (n - j))).num/\Dq wb.heap.size 26 wx u7 (DF n (cv F G))/\Ext wb wx) (fun iv _=>n+1 - (intOf iv).toNat)
   case atStart=>exact⟨0,Nat.zero_le _,rfl,eb,Hown.out,hx⟩
   case round =>
    clear eb hx Hown;obtain⟨i,hi,rfl,⟨z1,Z1,zn,zc,ez,hz⟩,hown,hx⟩:=hrel;have Hz:=Ad hz;clear hz;have Hown:=Ad hown;clear hown;by_cases hin:i < n+1
    ·by_cases hip:i < p
     ·by_cases hiq:n - i < q
      ·have hiq':(n:Int) - i < q:=by omega
       obtain⟨g,o,b,B1,n1,d1,rfl,_,q0,q1,hqa⟩:=HA.out.1.at_ (j:=i) (by rw[HA.out.2.1];exact hip);obtain⟨g',o',bb,B2,n2,d2,rfl,_,r0,r1,hqb'⟩:=HB.out.1.at_ (j:=n - i) (by rw[HB.out.2.1];exact hiq);have ea:=aL HA.out.2.2 (i:=i) (by rw[HA.out.2.1];exact hip);have eb':=aL HB.out.2.2 (i:=n - i) (by rw[HB.out.2.1];exact hiq);rw[ea]at hqa;rw[eb']at hqb';replace q0:=hx.cell q0;replace q1:=hx.cell q1;replace r0:=hx.cell r0
       replace r1:=hx.cell r1;have Hqa:=Ad (hqa.kd hx.kd);have Hqb:=Ad (hqb'.kd hx.kd);clear hqa hqb' ea eb';have HQ:=Ad (show sz (F i).num.natAbs<=274877906944/\sz (G (n - i)).num.natAbs<=274877906944/\sz ((F i).num*(G (n - i)).num).natAbs<=274877906944/\sz (sm i (fun j=>F j*G (n - j))).num.natAbs<=274877906944 by
        have h1:=HS.out.1 i;have h2:=HS.out.2.1 (n - i);have h3:=CG (F i) (G (n - i));have h4:=Uh HS.out.1 HS.out.2.1 n i;have h5:=Lc (i:=i) (by have:=HL.out;omega) HS.out.2.2;have h6:=Lc (i:=1) (by have:=HL.out;omega) HS.out.2.2;have h7:=P5 h1;have h8:=P5 h2;have h9:=P5 h4;have h10:=P5 h3;rw[HI.out.1.num_mul HI.out.2]at h10;omega)
       have cez:=ez.cells2;have fez:=ez.frozen
       go_wp2_with fail
       refine CV 13 [51,52,53,54,55,56,57,58,59,60,61,62,63] [9,5,10,6,8] [_,_,_,_,_] [(kv ?_),(kv ?_),(kv ?_),(kv ?_),(kv ?_),(kv ?_),(kv ?_),(kv ?_),(kv ?_),(kv ?_),(kv ?_),(fun γ=>γ 11),(fun γ=>γ 12)] (fun γ w'=>[True,True,True,True,True,True,True,True,True,True,True,AC w' (γ 11) ((F i).num*(G (n - i)).num),AC w' (γ 12) ((sm i (fun j=>F j*G (n - j))).num+(F i).num*(G (n - i)).num)]) ?s2 ?_
       case s2 =>
        iterate 13 refine⟨?_,?_⟩
        trivial
        iterate 11 focus
         refine Ba fun _ w' he R hR=>?_;have hc:=he.cells;have cq0:=(ez.ext he).cells2;have cq1:=he.cell q0;have cq2:=he.cell q1;have cq3:=he.cell r0;have cq4:=he.cell r1;go_simp;(try go_ints);(try(rw[if_neg Aa]));(try(rw[if_pos Aa]));(try go_simp);(try go_ints)
         exact Bi hR
        ·refine Ba fun _ w' he R hR=>?_
         go_simp;exact Bg (U9 _ _ _ _ w' ((Hqa.out.kd he.kd).has (by have:=HQ.out.1;omega)) ((Hqb.out.kd he.kd).has (by have:=HQ.out.2.1;omega)) (by have:=HQ.out.1;omega) (by have:=HQ.out.2.1;omega)) hR
        ·refine FO fun γ w' he hf R hR=>?_;have f11:AC w' (γ 11) ((F i).num*(G (n - i)).num):=hf 11 Ab;clear hf
         go_simp;exact Bg (WS _ _ _ _ w' ((Hz.out.kd he.kd).has (by have:=HQ.out.2.2.2;omega)) (f11.has (by have:=HQ.out.2.2.1;omega)) (by have:=HQ.out;omega) (by have:=HQ.out;omega)) hR
       intro γ w6 hx6 hF;have p11:AC w6 (γ 11) ((F i).num*(G (n - i)).num):=Av.get hF 11 Ab;have p12:AC w6 (γ 12) ((sm i (fun j=>F j*G (n - j))).num+(F i).num*(G (n - i)).num):=Av.get hF 12 Ab;clear hF;simp only[Bd,Nat.reduceAdd];generalize γ 11=g11 at *;generalize γ 12=g12 at *;clear γ;clear cez fez q0 q1 r0 r1 p11 Hz Hqa Hqb HQ;replace ez:=ez.ext hx6;replace hx:=hx.trans hx6;have hown:=Hown.out.ext hx6
       clear hx6 Hown;obtain⟨b5,A5,n5,c5,rfl⟩:=p12.cells;have cez:=ez.cells2;have fez:=ez.frozen;go_wp2;obtain⟨W7,eW,ez',U⟩:=ez.put2 (.bool b5) (.slice A5 n5 c5) rfl rfl;rw[<-eW];clear eW ez cez fez;replace hown:=hown.off U Hbk.out;replace hx:=U.from_ hx (by have:=Hsz9.out;simp;omega);have eq:=BA.mk ez' (p12.kd U.kd);clear U ez' p12;have Hown:=Ad hown;clear hown
       go_roundw
       case rel=>exact⟨i+1,Aa,by go_num,by rw[WU HI.out.1 HI.out.2];exact eq,Hown.out,hx⟩
       case measure=>simp[intOf]<;>omega
      ·have hiq':¬ (n:Int) - i < q:=by omega
       have hz0:F i*G (n - i)=0:=by rw[HZ.out.2 (n - i) Aa];exact Rat.mul_zero _
       have Hz0:=Ad hz0;clear hz0;go_wp2
       go_roundw
       case rel=>exact⟨i+1,Aa,by go_num,by rw[Br,Hz0.out,Rat.add_zero];exact BA.mk ez Hz.out,Hown.out,hx⟩
       case measure=>simp[intOf]<;>omega
     ·have hip':¬ (i:Int) < p:=by omega
      have hz0:F i*G (n - i)=0:=by rw[HZ.out.1 i Aa];exact Rat.zero_mul _
      have Hz0:=Ad hz0;clear hz0;go_wp2
      go_roundw
      case rel=>exact⟨i+1,Aa,by go_num,by rw[Br,Hz0.out,Rat.add_zero];exact BA.mk ez Hz.out,Hown.out,hx⟩
      case measure=>simp[intOf]<;>omega
    ·obtain rfl:i=n+1:=by omega
     rw[<-QA]at Hz;have Hr:=Ad Hz.out;clear Hz;have cez:=ez.cells2;have fez:=ez.frozen;have hsz:=hx.size
     go_wp2_with (at_builtin;refine AO rfl _ _ 22 rfl u7 (.slice (some ⟨wr.heap.size,0,none⟩) 1 1) rfl rfl (KZ wr wb.heap.size _ _ _ _ _ Hown.out Hr.out (by first | (rw[Bb];omega) | omega) hsz rfl) ?_)
     first | intro v' w5 hown U | rintro v' w5 ⟨hown,U⟩
     replace hx:=(Hown.out.ext ((Ext.refl wr).alloc _)).from_ U (hx.alloc _) (Nat.le_refl _);have Hown':=Ad hown;clear hown U;go_wp2
     go_roundw
     case rel=>exact⟨n+1,Aa,by go_num,by rw[KE];exact Hown'.out,hx⟩
     case measure=>simp[intOf]<;>omega
  ·obtain rfl:n=N:=by omega
   have hh:=Zx hown (fun i hi=>(by rw[QA];exact Nat.le_trans (Nat.le_trans (Uh HS.out.1 HS.out.2.1 i (i+1)) (Lc (by have:=HL.out;omega) HS.out.2.2)) Aa));have hczl:=Ia (n:=n) (F:=cv F G) (HI.out.1.cv HI.out.2) ((HZ.out.1.cv HZ.out.2).mono Aa);obtain⟨A2,c2,e2⟩:=hh.len;rw[Bb]at e2;rw[e2]at hh;clear hown;subst e2;have HH:=Ad (Au hh hczl);clear hh hczl
   go_wp2_with fail
   refine AR (Le _ _ _ HH.out.1 (by rw[Bb];omega)) ?_;rintro r w9 hr hx9;rw[HH.out.2]at hr;have hsz:=(HW.out.trans hx).size;have Hr:=Ad hr;clear hr;go_wp2
   go_ret
   exact Ah.mk (Hr.out.base_le Aa) ((HW.out.trans hx).trans hx9)
theorem Ve(W:World)(v x:Value)(base b ty:Nat)(l:List Int)(q:Int)(h:Dq base 26 W v l)(hx:KW W x b q 26)(hn:l.length<=1099511627776)(hb:base<=W.heap.size) :
  ∃ v' w',(Builtin.append_ #[23,23] ty #[v,x]).run Tryz.prog W = .ok v' w'/\(Dq base 26 w' v' (l ++ [q])/\Cj (blk v) W w'):=by
 obtain⟨g,cs,rfl,h1,h2,h3,h4⟩:=hx;obtain⟨i0,hi,hz0,hz1,hz2⟩:=info_parts Ki;have ho:=AC.one h4;obtain⟨v',w',a,b,c⟩:=BH.append (P:=Tryz.prog) h 23 ty i0 _ 32 Tryz.underlying23 hi hz0 hz1 hz2 rfl (by simp[nodig,Ag,Value.cells]) Ab ⟨g,0,none⟩ 1 cs h3 h4 h2.news ho.1 ho.2.1 (JF hn) Aa hb (fun _ _ _ k hq=>AC.kd hq k);exact⟨v',w',a,b,c⟩
set_option maxRecDepth 20000 in
theorem Jt(v:Value)(l:List Int)(w:World)(hv:Ey 0 w v l)(hn:l.length<=1099511627776) :
  Bj 66 #[v] w (fun r w'=>AY w.heap.size w' r (pd (cz l))):=by
 obtain⟨A,c,rfl,hl,hc,hA⟩:=hv;have HA:Hid (Lj 0 w A l):=Ad hA;clear hA
 go_enter Tryz.func66,Tryz.ntmps66
 go_wp2
 go_loopw [3,4] (fun ov iv wr=>∃ (k:Nat),1<=k/\k<=max l.length 1/\iv = .int .i64 k/\Dq w.heap.size 26 wr ov (DF (k - 1) (pd (cz l)))/\Ext w wr) (fun _ iv _=>l.length - (intOf iv).toNat)
 case atStart=>exact⟨1,Aa,Aa,Ac,BH.nil _ _ _ _ _,Ext.refl _⟩
 case round =>
  obtain⟨k,hk1,hk,rfl,hown,hx⟩:=hrel;by_cases hkl:k < l.length
  ·obtain⟨g,o,b,A1,n,c1,rfl,_,q0,q1,hq⟩:=HA.out.at_ (j:=k) hkl
   replace q0:=hx.cell q0;replace q1:=hx.cell q1;have hval:(pd (cz l) (k - 1)).num=(k:Int)*l[k]:=by
    unfold pd;rw[show k - 1+1=k from Aa,Cb hkl];show(((k:Nat):Int)*((l[k]:Int):Rat):Rat).num=_;rw[num_mul]
   have Hq:=Ad (Au hq hval);clear hq hval;have Hown:=Ad hown;clear hown;have HK:=Ad (show sz ((k:Nat):Int).natAbs<=2 from by
    have:=Zn (x:=(k:Int)) Aa Aa;rw[Bz]at this;omega)
   go_wp2_with fail
   refine CV 9 [11,12,13,14,15,16,17,18,19] [3,4,0] [_,_,_] [(kv ?_),(kv ?_),(fun γ=>γ 2),(kv ?_),(kv ?_),(kv ?_),(kv ?_),(fun γ=>γ 7),(fun γ=>γ 8)] (fun γ w'=>[True,True,AC w' (γ 2) (k:Int),True,True,True,True,AC w' (γ 7) (pd (cz l) (k - 1)).num,KW w' (γ 8) (wr.heap.size) ((pd (cz l) (k - 1)).num) 26]) ?s3 ?_
   case s3 =>
    iterate 9 refine⟨?_,?_⟩
    trivial
    iterate 2 focus
     refine Ba fun _ w' he R hR=>?_;have hc:=he.cells;go_simp;exact Bi hR
    ·refine Ba fun _ w' he R hR=>?_
     go_simp;exact Bg (Jn (k:Int) w' Aa Aa) hR
    iterate 4 focus
     refine Ba fun _ w' he R hR=>?_;have hc:=he.cells;have cq0:=he.cell q0;have cq1:=he.cell q1;go_simp;(try go_ints);(try(rw[if_neg Aa]));(try(rw[if_pos Aa]));(try go_simp);(try go_ints)
     exact Bi hR
    ·refine FO fun γ w' he hf R hR=>?_;have f2:AC w' (γ 2) (k:Int):=hf 2 Ab;clear hf
     go_simp;exact Bg (Hq.out.2▸Dr _ _ _ _ w' (f2.has (by have:=HK.out;omega)) (Hq.out.1.kd (hx.trans he).kd)) hR
    ·refine FO fun γ w' he hf R hR=>?_;have f7:AC w' (γ 7) (pd (cz l) (k - 1)).num:=hf 7 Ab;clear hf
     refine AC.el f7 fun b5 A5 n5 c5 e7 f7'=>?_;clear f7;go_simp;exact hR _ _ ((Ext.refl _).alloc _) rfl (KW.mk f7' (Nat.le_trans Ac he.size) _)
   intro γ w1 hx1 hF;have p2:AC w1 (γ 2) (k:Int):=Av.get hF 2 Ab;have p7:AC w1 (γ 7) (pd (cz l) (k - 1)).num:=Av.get hF 7 Ab;have p8:KW w1 (γ 8) (wr.heap.size) ((pd (cz l) (k - 1)).num) 26:=Av.get hF 8 Ab;clear hF;simp only[Bd,Nat.reduceAdd];generalize γ 2=g2 at *;generalize γ 7=g7 at *;generalize γ 8=g8 at *;clear γ;have hs:=hx.size;have hs1:=hx1.size;refine AO rfl _ _ 23 rfl u3 g8 rfl rfl (Ve w1 _ _ w.heap.size _ _ _ _ (Hown.out.ext hx1) p8 (by rw[Bb];omega) Aa) ?_
   rintro v' w2 ⟨hown,U⟩;replace hx:=(Hown.out.ext hx1).from_ U (hx.trans hx1) (Nat.le_refl _);have Hown':=Ad hown;clear hown U p8 p7 p2;go_wp2
   go_roundw
   case rel=>exact⟨k+1,Aa,Aa,by go_num,by
    have:=Hown'.out;rw[<-KE,show k - 1+1=k+1 - 1 from by omega]at this;exact this,hx⟩
   case measure=>simp[intOf];omega
  ·have hz:Bq (k - 1) (pd (cz l)):=fun i hi=>by unfold pd;rw[Iw Aa];exact Rat.mul_zero _
   have hco:=Ia (jA (ZI.cz l)) hz;obtain⟨A2,c2,h1,h2,h3,h4⟩:=hown.row;rw[Bb]at h1 h2;have hT:=Ed w.heap.size A2 c2 _ wr (by rw[Bb];exact h2) h3 h4;rw[Bb,<-h1]at hT;have Hrow:=Ad (Au h4 (Au hco (Au h2 h3)));clear h1 h2 h3 h4 hco hz hown
   go_wp2_with fail
   refine Calls.mono hT ?_;rintro e w2 ⟨rfl,rfl⟩;go_wp2
   go_ret
   exact Ah.mk (AY.of_trim (LZ.trim Hrow.out.1 (by rw[Bb];exact Hrow.out.2.2.1) Hrow.out.2.2.2) Hrow.out.2.1) hx
theorem jD(v:Value)(x:Int)(w:World)(hv:Bh w v x):Bj 162 #[v] w (fun r w'=>AC w' r (x.natAbs:Nat)):=by
 obtain⟨neg,A,n,c,N,rfl,h1,h2,h3,hN,hx⟩:=hv.form;have HN:=Ad hN;clear hN hv;have Hx:=Ad (show((x.natAbs:Nat):Int)=if false=true then -(N:Int)else N by rw[hx];cases neg<;>simp);clear hx;have hs:sz N<=n:=HN.out.sz
 go_enter Tryz.func162,Tryz.ntmps162
 go_wp2_with fail
 refine AR (BD _ N n _ (HN.out.ext (((Ext.refl w).alloc _).alloc _))) ?_;rintro r1 w1 p5 hx1
 go_wp2_with fail
 refine AR (Jd _ N _ p5 Aa) ?_;rintro r2 w2 p6 hx2;replace hx1:=hx1.trans hx2
 go_wp2_with fail
 refine AR (Cs (x.natAbs:Nat) false _ N _ w2 Hx.out (p6.num (Nat.le_refl _))) ?_;rintro r3 w3 hr hx3;replace hx1:=hx1.trans hx3;obtain⟨b5,A5,n5,c5,rfl⟩:=hr.cells;have hc1:=hx1.cells;have hf1:=hx1.frozens;have Hfin:=Ad (Cr hr hx1.a2 (AJ.at_ hx1 (g:=w.heap.size+1) Ac (by simp[Ag])) Aa);clear hr;go_wp2;refine bodyPost_ret (v := .agg #[.bool b5,.slice A5 n5 c5]) (by simp[results,Tryz.results162,go_sem,hc1]) rfl ?_
 exact Hfin.out
open Go.Shelf
attribute [local go_sem] Oper.semAt_some
set_option maxRecDepth 100000 in
theorem VB(F:Fence)(n:Nat)(h7:F.fn 171)(hro:F.round=none)(hn:1<=n)(l Bs n₀ b off len cap:Nat)(enc:Fin len->Value)(hreach:len*4<=1099511627776)(hb:b < n₀)(J Jx:List (Fin len)->World->Prop)
  (hY:∀ pre x W,J pre W->pre.length < len->YieldAt F (n - 1) Tryz.prog l #[.int .i64 (x.1:Nat),enc x] W fun e W' =>
   (e = .returned (.bool true)/\J (pre ++ [x]) W'/\Wh n₀ Bs W W')\/(e = .returned (.bool false)/\Jx (pre ++ [x]) W'))
  (W:World) (hBs:W.cell? ⟨Bs,0,none⟩=some (.slice (some ⟨b,off,none⟩) len cap)) (hc:∀ j (hj:j < len),Fz W b (off+j*2) (enc ⟨j,hj⟩)) (h0:J [] W) :
  CallsIn F n Tryz.prog 171 #[.func (.yield l) #[] #[],.pointer (some ⟨Bs,0,none⟩)] W fun e W'=>(∃ v,e = .returned v) /\
   ((∃ ys,ys=dz len len (Nat.le_refl _)/\J ys W')\/(∃ pre,(∃ k,∃ h:k<=len,pre=dz len k h)/\Jx pre W')):=by
 refine callsIn_of_wp Tryz.func171 rfl h7 ?_ hro;simp only[Tryz.ntmps171,List.size_toArray,List.length_cons,List.length_nil,Nat.reduceAdd,Nat.reduceSub,Array.replicate_succ,Array.replicate_zero,List.push_toArray,List.append_toArray,List.nil_append,List.cons_append]
 gi_wp2
 gi_loopw [3] (fun i wr=>∃ (k:Nat) (hk:k<=len),i = .int .i64 ((len:Int) - 1 - k)/\J (dz len k hk) wr/\Wh n₀ Bs W wr)
  (fun i _=>(intOf i+1).toNat)
 case atStart=>exact⟨0,Nat.zero_le _,by go_num,h0,Wh.refl _ _ _⟩
 case round =>
  obtain⟨k,hk,rfl,hJs,hnx⟩:=hrel;by_cases hlt:k < len
  ·obtain⟨b1,A1,n1,c1,hv,q0,q1⟩:=(hc (len - 1 - k) Aa).below hnx.1 hb
   have hbx:=hnx.2 _ hBs;obtain⟨fn,tmps,assign,body,hy,hR⟩:=hY _ ⟨len - 1 - k,Aa⟩ wr hJs (by rw[VO];exact hlt)
   dsimp only at hy
   rw[hv]at hy;obtain⟨m,hm⟩:∃ m,m=len - 1 - k:=⟨_,rfl⟩
   have hmi:(len:Int) - 1 - k=(m:Int):=by omega
   have hml:m < len:=by omega
   simp only[<-hm]at hy q0 q1;rw[hmi];clear hJs hY h0 hc;have Hm:=Ad (Au hm hmi);clear hm hmi
   gi_wp2
   refine hR.mono ?_;rintro e W3 (⟨rfl,hJ3,hk3⟩ | ⟨rfl,hJx3⟩)
   ·gi_wp2
    go_roundw
    case rel=>exact⟨k+1,Aa,by have:=Hm.out.2;congr 1;omega,by rw[Qc];exact hJ3,hnx.trans hk3⟩
    case measure=>simp[intOf]
   ·gi_wp2
    refine bodyPost_ret (results_none rfl _ _ _) rfl ?_;exact⟨⟨_,rfl⟩,.inr ⟨_,⟨k+1,Aa,(Qc Aa).symm⟩,hJx3⟩⟩
  ·obtain rfl:k=len:=by omega
   gi_wp2
   go_end0
   exact⟨⟨_,rfl⟩,.inl ⟨_,rfl,hJs⟩⟩
set_option maxRecDepth 100000 in
theorem Nz(F:Fence)(n:Nat)(h7:F.fn 171)(hro:F.round=none)(l Bs cap:Nat)(A:Option Addr)(J:List (Fin 0)->World->Prop)(W:World)(hBs:W.cell? ⟨Bs,0,none⟩=some (.slice A 0 cap))(h0:J [] W) :
  CallsIn F n Tryz.prog 171 #[.func (.yield l) #[] #[],.pointer (some ⟨Bs,0,none⟩)] W fun e W'=>(∃ v,e = .returned v)/\J [] W':=by
 refine callsIn_of_wp Tryz.func171 rfl h7 ?_ hro;simp only[Tryz.ntmps171,List.size_toArray,List.length_cons,List.length_nil,Nat.reduceAdd,Nat.reduceSub,Array.replicate_succ,Array.replicate_zero,List.push_toArray,List.append_toArray,List.nil_append,List.cons_append]
 gi_wp2
 gi_loopw [3] (fun i wr=>i = .int .i64 (-1)/\J [] wr) (fun _ _=>0)
 case atStart=>exact⟨rfl,h0⟩
 case round =>
  obtain⟨rfl,hJs⟩:=hrel
  gi_wp2
  go_end0
  exact⟨⟨_,rfl⟩,hJs⟩
/-- slices.Backward(s): the slice is boxed;the function captures the box. -/
theorem Wj(F:Fence)(n:Nat)(h5:F.fn 139)(hro:F.round=none)(a:Option Addr)(len cap:Nat)(w:World) :
  CallsIn F n Tryz.prog 139 #[.slice a len cap] w fun e w'=>e = .returned (.func (.func 171) #[] #[.pointer (some ⟨w.heap.size,0,none⟩)])/\w'=w.alloc (.cells #[.slice a len cap] 23):=by
 refine callsIn_of_wp Tryz.func139 rfl h5 ?_ hro;simp only[Tryz.ntmps139,List.size_toArray,List.length_cons,List.length_nil,Nat.reduceAdd,Nat.reduceSub,Array.replicate_succ,Array.replicate_zero,List.push_toArray,List.append_toArray,List.nil_append,List.cons_append]
 gi_wp2
 go_ret
 exact⟨rfl,rfl⟩
theorem QR(F:Fence)(n:Nat)(h7:F.fn 171)(hro:F.round=none)(hn:1<=n)(Bs n₀ len cap:Nat)(A:Option Addr)(enc:Fin len->Value)(hreach:len*4<=1099511627776)(w:World)(hBs:Bs < w.heap.size)(hn₀:n₀<=w.heap.size)
  (hc:w.cell? ⟨Bs,0,none⟩=some (.slice A len cap)) (hI:0 < len->∃ b off,A=some ⟨b,off,none⟩/\b < n₀/\∀ j (hj:j < len),Fz w b (off+j*2) (enc ⟨j,hj⟩)) :
  SeqStopsK F n Tryz.prog 171 #[.pointer (some ⟨Bs,0,none⟩)] (fun x:Fin len=>#[Value.int .i64 (x.1:Nat),enc x]) (Wh n₀ Bs) (fun ys=>ys=dz len len (Nat.le_refl _)) (fun pre=>∃ k,∃ h:k<=len,pre=dz len k h) len w:=fun l J Jx W hW _ _ hY h0=>by
 have hc':=(hW.cell (p:=⟨Bs,0,none⟩) hBs).trans hc;by_cases hl:0 < len
 ·obtain⟨b,off,rfl,hb,hcs⟩:=hI hl
  exact VB F n h7 hro hn l Bs n₀ b off len cap enc hreach hb J Jx hY W hc' (fun j hj=>(hcs j hj).below (hW.mono hn₀) hb) h0
 ·obtain rfl:len=0:=by omega
  exact(Nz F n h7 hro l Bs cap A J W hc' h0).mono fun e W' ⟨he,hj⟩=>⟨he,.inl ⟨_,rfl,hj⟩⟩
end Go.Proofs.YtmhgnigpmompmaaGreat
namespace Go.Proofs.YtmhgnigpmompmaaGreat
open Go.RowKit Go.Hp Go.Shelf
attribute [local go_sem] Oper.semAt_some
set_option maxRecDepth 100000 in
theorem Zc(v u:Value)(l:List Int)(x:Rat)(s t:Nat)(w:World)(hv:Ey 0 w v l)(hu:BN w u x)(hs:∀ i,qsz (cz l i)<=s)(ht:qsz x<=t)(hK:1+l.length*(s+t+1)+s+t+1<=274877906944)(hn:l.length<=2748779069) :
  Bj 90 #[v,u] w (fun r w'=>BQ w' r (CR l.length (cz l) x)):=by
 have HU:=Ad hu;obtain⟨b1,A1,n1,c1,b1',A1',n1',c1',x0,y0,rfl,-⟩:=hu.form;obtain⟨A,c,rfl,hl,hc,hA⟩:=hv;clear hu;have HA:Hid (Lj 0 w A l):=Ad hA;clear hA;have HS:=Ad (Au hs ht);clear hs ht;refine(callsIn_wide (n:=5)).1 ?_;refine callsIn_of_wp_marks Tryz.func90 rfl trivial ?_ rfl;simp only[Tryz.ntmps90,List.size_toArray,List.length_cons,List.length_nil,Nat.reduceAdd,Nat.reduceSub,Array.replicate_succ,Array.replicate_zero,List.push_toArray,List.append_toArray,List.nil_append,List.cons_append]
 gi_wp2_with (refine⟨trivial,?_⟩;gi_at_call 120;refine(callsIn_wide.2 (WW 0 _ Aa Aa)).mono ?_;rintro e w1 ⟨r1,rfl,hr1,hx1⟩;obtain⟨b5,A5,n5,c5,b6,A6,n6,c6,rfl⟩:=hr1.cells)
 obtain⟨W9,eW9,e9,x9⟩:=Be.made w1 28 #[.bool b5,.slice A5 n5 c5,.bool b6,.slice A6 n6 c6] (by simp[Ag]);rw[<-eW9];clear eW9;have hgb:w.heap.size+1+1<=w1.heap.size:=by have:=hx1.size;simpa using this
 have eb:=Ea.mk e9 (hr1.ext x9);replace hx1:=hx1.trans x9;clear x9 hr1 e9;generalize w1.heap.size=gb at *;refine⟨trivial,?_⟩
 gi_at_call 139
 refine(Wj _ _ trivial rfl _ _ _ _).mono ?_;rintro e w2 ⟨rfl,rfl⟩
 gi_wp2
 obtain⟨WA,hWA⟩:∃ WA,(w.alloc (.cells #[.bool b1,.slice A1 n1 c1,.bool b1',.slice A1' n1' c1'] 28)).alloc (.cells #[.bool false,.slice none 0 0,.bool false,.slice none 0 0] 28)=WA:=⟨_,rfl⟩
 have hAsz:WA.heap.size=w.heap.size+2:=by rw[<-hWA];simp
 have eu:Be WA w.heap.size 28 #[.bool b1,.slice A1 n1 c1,.bool b1',.slice A1' n1' c1']:=by rw[<-hWA];exact(Be.new w _ _ (by simp[Ag])).alloc _
 have ez:Be WA (w.heap.size+1) 28 #[.bool false,.slice none 0 0,.bool false,.slice none 0 0]:=by
  have:=Be.new (w.alloc (.cells #[.bool b1,.slice A1 n1 c1,.bool b1',.slice A1' n1' c1'] 28)) 28 #[.bool false,.slice none 0 0,.bool false,.slice none 0 0] (by simp[Ag]);rw[World.size_alloc]at this;rw[<-hWA];exact this
 rw[hWA]at hx1;have hwA:Ext w WA:=by rw[<-hWA];exact((Below.refl w.heap.size w).alloc (Nat.le_refl _) _).alloc Ac _
 clear hWA;have hgW:gb < W9.heap.size:=eb.lt;obtain⟨enc,hE,hcs⟩:∃ enc:Fin l.length->Value,(∀ j,Bh w (enc j) l[j.1])/\(0 < l.length->∃ b off,A=some ⟨b,off,none⟩/\b < WA.heap.size/\∀ j (hj:j < l.length),Fz (W9.alloc (.cells #[.slice A l.length c] 23)) b (off+j*2) (enc ⟨j,hj⟩)):=by
  have key:∀ j:Fin l.length,∃ e:Value,Bh w e l[j.1]/\∃ b off,A=some ⟨b,off,none⟩/\b < w.heap.size/\Fz (W9.alloc (.cells #[.slice A l.length c] 23)) b (off+j.1*2) e:=by
   rintro⟨j,hj⟩;obtain⟨g,o,b,A2,n,c2,rfl,_,q0,q1,hq⟩:=HA.out.at_ (j:=j) hj;have X:=hwA.trans (hx1.alloc (.cells #[.slice (some ⟨g,o,none⟩) l.length c] 23));exact⟨_,hq,g,o,rfl,World.block_lt_of_cell? w _ q0,_,_,_,_,rfl,X.cell q0,X.cell q1⟩
  refine⟨fun j=>Classical.choose (key j),fun j=>(Classical.choose_spec (key j)).1,fun h0=>?_⟩;obtain⟨-,b,off,e1,e2,-⟩:=Classical.choose_spec (key ⟨0,h0⟩);refine⟨b,off,e1,Aa,fun j hj=>?_⟩;obtain⟨-,b',off',e1',-,e3⟩:=Classical.choose_spec (key ⟨j,hj⟩);rw[e1]at e1';cases e1';exact e3
 have HE:=Ad hE;clear hE;obtain⟨W2,hW2⟩:∃ W2,W9.alloc (.cells #[.slice A l.length c] 23)=W2:=⟨_,rfl⟩
 have h2sz:W2.heap.size=W9.heap.size+1:=by rw[<-hW2];simp
 have hb2:W2.cell? ⟨W9.heap.size,0,none⟩=some (.slice A l.length c):=by rw[<-hW2];exact(Boxed.new W9 _ _).cell
 have eb2:Ea W2 gb 28 ((0:Int):Rat):=by
  rw[<-hW2];obtain⟨b,A1,n,c,b',A1',n',c',h1,h2⟩:=eb;exact Ea.mk (h1.alloc _) (h2.ext ((Below.refl _ W9).alloc (Nat.le_refl _) _))
 have hx2:Ext WA W2:=by rw[<-hW2];exact hx1.alloc _
 rw[hW2]at hcs ⊢;clear hW2 eb hx1;refine wpIn_rangeFunc_ownH rfl Aa (gf:=171) (lb:=#[.pointer (some ⟨W9.heap.size,0,none⟩)]) rfl trivial (enters_of Tryz.func171 FB rfl)
  (QR _ _ trivial rfl Aa W9.heap.size WA.heap.size l.length c A enc Aa W2 Aa hx2.size hb2 hcs) Wh.trans (jM hx2.size) (Below.refl _ _) (fun _=>rfl)
  (fun pre W=>Ea W gb 28 (hac (cz l) x pre)/\Below WA.heap.size WA W)
  (fun _ _ _=>False)
  (fun pre A B row hs hg hr=>⟨hs.1.own hg (fun r e=>(hr r e).2),ownFrom_below (β:=Unit) (Nat.le_refl _) hx2.size () A B row hs.2 hg hr⟩)
  (fun _ _ _ _ _ hs _ _=>hs)
  ⟨eb2,hx2⟩
  (fun p a' W=>∃ Bx b A2 n2 c2,enc p = .agg #[.bool b,.slice A2 n2 c2]/\Be W Bx 26 #[.bool b,.slice A2 n2 c2]/\a'={ tmps:=#[.slice A l.length c,.agg #[.bool b1,.slice A1 n1 c1,.bool b1',.slice A1' n1' c1'],undef,.pointer (some ⟨w.heap.size,0,none⟩),.pointer (some ⟨w.heap.size+1,0,none⟩),.pointer (some ⟨gb,0,none⟩),undef,.pointer (some ⟨Bx,0,none⟩),.agg #[.bool b5,.slice A5 n5 c5,.bool b6,.slice A6 n6 c6],.slice A l.length c,.func (.func 171) #[] #[.pointer (some ⟨W9.heap.size,0,none⟩)],.int .i64 (p.1:Nat),.agg #[.bool b,.slice A2 n2 c2],undef,undef,undef,undef,undef,undef,undef],defers:=[] })
  (fun p a' _ X Y row hs hg hr=>by obtain⟨Bx,b,A2,n2,c2,k2,k3,k4⟩:=hs;exact⟨Bx,b,A2,n2,c2,k2,k3.own hg (fun r e=>(hr r e).2),k4⟩)
  ?assign ?body ?done ?stop
 case assign =>
  rintro lp pre p W K ⟨hi,hB⟩ hK;obtain⟨b,A2,n2,c2,hpv⟩:=(HE.out p).cells;have HK:=Ad hK;clear hK;have HI:=Ad (Au hi hB);clear hi
  gi_wp2
  obtain⟨W9,eW9,e9,x9⟩:=Be.made W 26 #[.bool b,.slice A2 n2 c2] (by simp[Ag]);rw[<-eW9];refine HK.out _ _ ⟨x9.size,fun k o _ h0 _=>x9.blk h0⟩ ⟨x9.mono hB.size,fun v h=>x9.cell h⟩ ⟨HI.out.1.ext x9,hB.trans (x9.mono hB.size)⟩ ⟨W.heap.size,b,A2,n2,c2,hpv,e9,rfl⟩
 case body =>
  rintro lp pre p a' W hl0 ⟨r,hr⟩ ⟨hi,hB⟩ ⟨Bx,b,A2,n2,c2,k2,k3,rfl⟩ hlt;have HQ:=Ad (show Bh w (.agg #[.bool b,.slice A2 n2 c2]) l[p.1]from k2▸HE.out p);have HPl:=Ad (show((l[p.1]:Int):Rat)=cz l p.1 from by rw[Cb p.2]);have HR:=Ad (show qsz (hac (cz l) x pre)<=274877906944/\qsz (hac (cz l) x pre*x)<=274877906944/\qsz (cz l p.1) < 274877906944 by
   have h1:=ZT HS.out.1 HS.out.2 pre;have h2:=CG (hac (cz l) x pre) x;have h3:=HS.out.2;have h4:=HS.out.1 p.1;have h5:pre.length*(s+t+1)<=l.length*(s+t+1):=Nat.mul_le_mul_right _ Aa;omega)
  obtain⟨z1,Z1,zn,zc,z2,Z2,zn',zc',eg,hz⟩:=hi;have Hz:=Ad hz;clear hz;have hB':Ext WA W:=hB;have euW:=eu.ext hB';obtain⟨g0,g1,g2,g3⟩:=eg.cells4;obtain⟨u0,u1,u2,u3⟩:=euW.cells4;obtain⟨e0,e1⟩:=k3.cells2;have fg:=eg.frozen
  gi_wp2
  have hmx:Tryz.prog.follows .mixedOrders=true:=by kernel_rfl
  have xd:Ext W W.drew:=Below.drew (Below.refl _ W);have xA:=(hwA.trans hB').trans xd;have hm1:=(Hz.out.ext xd).has HR.out.1;have hm2:=HU.out.ext xA;have hm3:=HQ.out.ext xA;have Hm:=Ad (Au hm1 (Au hm2 hm3));clear hm1 hm2 hm3
  gi_region_with_o (first | (refine⟨trivial,?_⟩;gi_at_call 140;refine(CallsIn.inRound lp (callsIn_wide.2 (Wi _ _ (hac (cz l) x pre) x _ Hm.out.1 Hm.out.2.1))).mono ?_;rintro e w5 ⟨r5,rfl,hr5,hx5⟩;obtain⟨b7,A7,n7,c7,b8,A8,n8,c8,rfl⟩:=hr5.cells;have v0:=(xd.trans hx5).cell e0;have v1:=(xd.trans hx5).cell e1;have HmA:=Ad (Hm.out.2.2.ext hx5);have Hr5:=Ad hr5;clear hr5) | (refine⟨trivial,?_⟩;gi_at_call 102;refine(CallsIn.inRound lp (callsIn_wide.2 (GY _ _ _ HmA.out))).mono ?_;rintro e w4 ⟨r4,rfl,hr4,hx4⟩;obtain⟨b9,A9,n9,c9,b10,A10,n10,c10,rfl⟩:=hr4.cells;have HF:=Ad (Au (Hr5.out.ext hx4) (Au (HPl.out▸hr4) ((xd.trans hx5).trans hx4)));clear hr4) | (refine⟨trivial,?_⟩;gi_at_call 102;refine(CallsIn.inRound lp (callsIn_wide.2 (GY _ _ _ Hm.out.2.2))).mono ?_;rintro e w4 ⟨r4,rfl,hr4,hx4⟩;obtain⟨b9,A9,n9,c9,b10,A10,n10,c10,rfl⟩:=hr4.cells;have y0:=(xd.trans hx4).cell g0;have y1:=(xd.trans hx4).cell g1;have y2:=(xd.trans hx4).cell g2;have y3:=(xd.trans hx4).cell g3;have t0:=(xd.trans hx4).cell u0;have t1:=(xd.trans hx4).cell u1;have t2:=(xd.trans hx4).cell u2;have t3:=(xd.trans hx4).cell u3;have HmB:=Ad (Au (Hm.out.1.ext hx4) (Hm.out.2.1.ext hx4));have Hr4:=Ad hr4;clear hr4) | (refine⟨trivial,?_⟩;gi_at_call 140;refine(CallsIn.inRound lp (callsIn_wide.2 (Wi _ _ (hac (cz l) x pre) x _ HmB.out.1 HmB.out.2))).mono ?_;rintro e w5 ⟨r5,rfl,hr5,hx5⟩;obtain⟨b7,A7,n7,c7,b8,A8,n8,c8,rfl⟩:=hr5.cells;have HF:=Ad (Au hr5 (Au (HPl.out▸Hr4.out.ext hx5) ((xd.trans hx4).trans hx5)));clear hr5) | (refine⟨trivial,?_⟩;gi_at_call 123;refine(CallsIn.inRound lp (callsIn_wide.2 (TS _ _ (hac (cz l) x pre*x) (cz l p.1) _ (HF.out.1.has HR.out.2.1) (HF.out.2.1.has (Nat.le_of_lt HR.out.2.2))))).mono ?_;rintro e w6 ⟨r6,rfl,hr6,hx6⟩;obtain⟨b11,A11,n11,c11,b12,A12,n12,c12,rfl⟩:=hr6.cells;have x6:=HF.out.2.2.trans hx6;have eg6:=eg.ext x6;have f6:=eg6.frozen;obtain⟨s0,s1,s2,s3⟩:=eg6.cells4;have Hr6:=Ad hr6;clear hr6))
  all_goals gi_wp2
  all_goals
   obtain⟨W7,eW7,e7,U7⟩:=eg6.put4 (.bool b11) (.slice A11 n11 c11) (.bool b12) (.slice A12 n12 c12) rfl rfl rfl rfl;have kf:=jP W2.heap.size x6 eW7;have kb:=gK (n₀:=WA.heap.size) (x6.mono hB'.size) eW7 Aa;have kq:=Ea.mk e7 (Hr6.out.kd U7.kd);rw[<-Rt (cz l) x pre p]at kq;rw[<-eW7];exact⟨kf,⟨kb,fun v h=>NA U7 Dn (x6.cell h)⟩,kq,Below.trans hB kb⟩
 case done =>
  rintro D ys W hD rfl ⟨hi,hB⟩ hK;rw[Ym (cz l) x l.length (Nat.le_refl _),Nat.sub_self,RS]at hi;obtain⟨z1,Z1,zn,zc,z2,Z2,zn',zc',eg,hz⟩:=hi;obtain⟨g0,g1,g2,g3⟩:=eg.cells4;have hB':Ext WA W:=hB;have ezW:=ez.ext hB';obtain⟨z0',z1',z2',z3'⟩:=ezW.cells4;have fz:=ezW.frozen;have eW3:=ezW.put4 (.bool z1) (.slice Z1 zn zc) (.bool z2) (.slice Z2 zn' zc') rfl rfl rfl rfl;have hne:D≠w.heap.size+1:=by have:=hx2.size;omega
  have Hz:=Ad hz;clear hz
  gi_wp2
  obtain⟨W3,eW3,e3,U3⟩:=eW3;rw[<-eW3];clear eW3;have hK3:W3.heap[D]? = some (.deferred (some [])):=U3.1 D _ (by simpa using hne) hK;have e4:=e3.own (grownBy_putObj' W3 D (.deferred none)) (fun r e=>by cases e;exact⟨_,hK3,rfl⟩);have hx3:Ext w W3:=U3.2.2 w (hwA.trans hB') Ac;have hx4:Ext w (W3.putObj D (.deferred none)):=Below.trans hx3 (belowK_b (w:=w) (Nat.le_refl _) W3 D _ _ (by have:=hx2.size;omega) hK3 rfl rfl)
  have hz4:=(Hz.out.kd U3.kd).kd (KD.own (grownBy_putObj' W3 D (.deferred none)) (fun r e=>by cases e;exact⟨_,hK3,rfl⟩));refine⟨Ac,.inl ⟨_,_,rfl,run_takeDeferred hK3,?_⟩⟩;obtain⟨y0,y1,y2,y3⟩:=e4.cells4;exact⟨_,by simp[results,Tryz.f90,go_sem,y0,y1,y2,y3],Ah.mk hz4 hx4⟩
 case stop =>
  rintro D c pre W _ _ h _;exact h.elim
end Go.Proofs.YtmhgnigpmompmaaGreat
namespace Go.Proofs.YtmhgnigpmompmaaGreat
open Go.RowKit Go.Hp
/-! ### over polynomials -/
theorem Xy(v u:Value)(F:Nat->Rat)(x:Rat)(s t n:Nat)(w:World)(hv:AY 0 w v F)(hu:BN w u x)(hs:∀ i,qsz (F i)<=s)(ht:qsz x<=t)(hn:pl F<=n)(hK:1+n*(s+t+1)+s+t+1<=274877906944)(hn9:n<=1000) :
  Bj 90 #[v,u] w (fun r w'=>BQ w' r (ev F x)):=by
 obtain⟨l,a1,a2,-,a4⟩:=hv.hz (fun i=>by have:=hs i;omega);have hK2:l.length*(s+t+1)<=n*(s+t+1):=Nat.mul_le_mul_right _ Aa;have:=Zc v u l x s t w a1 hu (by rw[a4];exact hs) ht Aa Aa;rw[<-EA (Ct l),a4]at this;exact this
set_option maxRecDepth 20000 in
theorem UR(v u:Value)(us:List Value)(l:List (Nat->Rat))(x:Rat){eb:Nat}(base s t n:Nat)(w:World)(hv:Js base eb 23 w v us l)(hu:BN w u x)(hs:∀ F∈l,(∀ i,qsz (F i)<=s)/\pl F<=n/\Ae F)(ht:qsz x<=t)
  (hK:1+n*(s+t+1)+s+t+1<=274877906944) (hn9:n<=1000) (hl:l.length<=1000) :
  Bj 101 #[v,u] w (fun r _=>r = .int .i64 (V l x:Nat)):=by
 have HV:=Ad hv;have HU:=Ad hu;obtain⟨A0,c0,rfl⟩:=hv.shape;obtain⟨b,B,n1,c1,b',B',n1',c1',x0,y0,rfl,-⟩:=hu.form;clear hv hu;have hev:∀ W (x1:Ext w W) i (h:i < l.length) u,AY 0 W u l[i]->Bj 90 #[u,.agg #[.bool b,.slice B n1 c1,.bool b',.slice B' n1' c1']] W (fun r w'=>BQ w' r (ev l[i] x)):=fun W x1 i h u hu =>
  Xy u _ l[i] x s t n W hu (HU.out.ext x1) (hs _ (List.getElem_mem h)).1 ht (hs _ (List.getElem_mem h)).2.1 hK hn9
 have hqz:∀ i (h:i < l.length),qsz (ev l[i] x)<=274877906944:=fun i h=>by
  obtain⟨h1,h2,h3⟩:=hs _ (List.getElem_mem h);have h4:=Tj ((AB h3).mono h2) h1 ht;omega
 obtain⟨sg,hsg⟩:∃ sg,sg=l.map fun F=>BB (ev F x):=⟨_,rfl⟩
 have hsl:sg.length=l.length:=by rw[hsg,List.length_map]
 have hsi:∀ i (h:i < l.length) (h':i < sg.length),Eb (ev l[i] x)=sg[i]:=fun i h h'=>by
  rw[Fh];simp[hsg]
 have hsc:∀ i (h':i < sg.length),sg[i]=0\/sg[i]=1\/sg[i] = -1:=fun i h'=>by
  simp only[hsg,List.getElem_map];exact Ej _
 have hV:V l x=KM 0 sg:=by unfold V;rw[hsg]
 rw[hV];have HC:=Ad (Au hev (Au hqz (Au hsi hsc)));clear hev hqz hsi hsc hs ht hK hsg hV
 go_enter Tryz.func101,Tryz.ntmps101
 have ea:=Be.new w 28 #[.bool b,.slice B n1 c1,.bool b',.slice B' n1' c1'] (by simp[Ag]);have hx:=(Ext.refl w).alloc (.cells #[.bool b,.slice B n1 c1,.bool b',.slice B' n1' c1'] 28)
 go_upto_region 1 with(fail)
 generalize w.alloc (.cells #[.bool b,.slice B n1 c1,.bool b',.slice B' n1' c1'] 28)=W0 at *;go_wp2
 go_loopw [5,6,12] (fun cv lv iv wr=>∃ (i cc:Nat) (la:Int),i<=l.length/\iv = .int .i64 (i:Nat)/\cv = .int .i64 (cc:Nat)/\cc<=i/\lv = .int .i64 la/\(la=0\/la=1\/la = -1)/\cc+KM la (sg.drop i)=KM 0 sg/\Be wr w.heap.size 28 #[.bool b,.slice B n1 c1,.bool b',.slice B' n1' c1']/\Ext w wr) (fun _ _ iv _=>l.length - (intOf iv).toNat)
 case atStart=>exact⟨0,0,0,Nat.zero_le _,rfl,rfl,Nat.le_refl _,rfl,.inl rfl,Ac,ea,hx⟩
 case round =>
  clear ea hx;obtain⟨i,cc,la,hi,rfl,rfl,hcc,rfl,hla,hval,ea,hx⟩:=hrel;have Hval:=Ad hval;clear hval;by_cases hil:i < l.length
  ·obtain⟨g,o,E,d,rfl,hc,h5⟩:=(HV.out.ext hx).at_ hil
   have H5:=Ad h5;clear h5;have cea:=ea.cells4;have fea:=ea.frozen
   go_wp2_with fail
   refine AR (HC.out.1 _ hx i hil _ H5.out) ?_;rintro r2 w2 hr2 hx2
   go_wp2_with fail
   refine AR (NE _ _ _ (hr2.has (HC.out.2.1 i hil))) ?_;rintro r3 w3 rfl hx3;rw[HC.out.2.2.1 i hil Aa];have hdrop:sg.drop i=sg[i]'(Aa)::sg.drop (i+1):=List.drop_eq_getElem_cons Aa;have hsc:=HC.out.2.2.2 i Aa;have hval:=Hval.out;rw[hdrop,KM]at hval;obtain⟨sv,hsv⟩:∃ sv,sv=sg[i]'(Aa):=⟨_,rfl⟩
   simp only[<-hsv]at hval hsc ⊢;clear hsv hdrop Hval hc H5 hr2 cea fea;have x23:=hx2.trans hx3;replace ea:=ea.ext x23;replace hx:=hx.trans x23;clear x23;clear hx2 hx3;rcases hsc with rfl | hs1
   ·rw[if_pos rfl]at hval
    have Hval:=Ad hval;clear hval;go_wp2
    go_roundw
    case rel=>exact⟨i+1,cc,la,Aa,by go_num,rfl,Aa,rfl,hla,Hval.out,ea,hx⟩
    case measure=>simp[intOf]<;>omega
   ·have hs0:sv≠0:=by rcases hs1 with h | h<;>rw[h]<;>decide
    rw[if_neg hs0]at hval;have hsb:(sv==0)=false:=by simpa using hs0
    by_cases hch:la = -sv
    ·rw[if_pos hch]at hval
     have Hval:=Ad hval;clear hval;have hneg:la*sv = -1:=by rw[hch];rcases hs1 with h | h<;>rw[h]<;>decide
     have HS:=Ad hs1;clear hs0 hch hs1;go_wp2
     go_roundw
     case rel=>exact⟨i+1,cc+1,sv,Aa,by go_num,by go_num,Aa,rfl,.inr HS.out,by have:=Hval.out;omega,ea,hx⟩
     case measure=>simp[intOf]<;>omega
    ·rw[if_neg hch]at hval
     have Hval:=Ad hval;clear hval;have hneg:decide (la*sv < 0)=false:=by
      rcases hla with rfl | rfl | rfl<;>rcases hs1 with rfl | rfl<;>first | rfl | (exact absurd rfl hch)
     have HS:=Ad hs1;have hw:wrap64 (la*sv)=la*sv:=by
      rcases hla with rfl | rfl | rfl<;>rcases hs1 with rfl | rfl<;>exact IntWalk.wrap64_in _ ⟨Aa,Aa⟩
     clear hs0 hch hs1;go_wp2
     go_roundw
     case rel=>exact⟨i+1,cc,sv,Aa,by go_num,rfl,Aa,rfl,.inr HS.out,by have:=Hval.out;omega,ea,hx⟩
     case measure=>simp[intOf]<;>omega
  ·obtain rfl:i=l.length:=by omega
   have hval:=Hval.out;rw[List.drop_eq_nil_of_le Aa]at hval;have hv2:cc=KM 0 sg:=hval;have Hv2:=Ad hv2;clear hv2 hval Hval;go_wp2
   go_ret
   exact Ah.mk (by rw[<-Hv2.out];rfl) hx
set_option maxRecDepth 20000 in
theorem iG(v u:Value)(l m:List Int)(S M:Nat)(w:World)(hv:Ey 0 w v l)(hu:Ey 0 w u m)(hs:∀ i,qsz (cz l i)<=S)(ht:∀ i,qsz (cz m i)<=S)(hn:l.length<=549755813888)(hm:m.length<=549755813888)(hM:(S+1)*2^(pl (cz l)+pl (cz m))<=M)(hB:M+(pl (cz l)+pl (cz m)+1)*(M+1)+M<=549755813888) :
  Bj 42 #[v,u] w (fun r w'=>AY 0 w' r (Df (cz l) (cz m))):=by
 have HV:=Ad hv;have HU:=Ad hu;obtain⟨A0,c0,rfl⟩:=hv.len;obtain⟨A1,c1,rfl⟩:=hu.len;clear hv hu;have hc1:=BX (Ct l);have hc2:=BX (Ct m);have hSM:S+1<=M:=by
  have h:0 < 2^(pl (cz l)+pl (cz m)):=Nat.pow_pos Ab;have:=Nat.le_mul_of_pos_right (S+1) h;omega
 have hcn:sz (cn (cz l))<=S/\sz (cn (cz m))<=S:=⟨JC hs _,JC ht _⟩
 have hst:=Il.start (Ae.cz l) (Ae.cz m) (ZI.cz l) (ZI.cz m) hs ht;have hP1:=fun W (x:Ext w W)=>Fp _ l W (HV.out.ext x) Aa;have hP2:=fun W (x:Ext w W)=>Fp _ m W (HU.out.ext x) Aa;have hC1:=JP _ l w HV.out Aa;have hC2:=fun W (x:Ext w W)=>JP _ m W (HU.out.ext x) Aa;have hz:=(show(∀ A,Il (cz l) (cz m) (pl (cz l)+pl (cz m)) S A pz->psc ((Nat.gcd (cn (cz l)) (cn (cz m)):Nat):Rat) A=Df (cz l) (cz m))from
  fun A h=>(Yr (h.end_ (Ae.cz l) (Ae.cz m) (ZI.cz l) (ZI.cz m) rfl)).symm)
 have hpl:pl (cz l)+pl (cz m)<=1099511627776:=by omega
 obtain⟨F,hF⟩:∃ F,F=cz l:=⟨_,rfl⟩
 obtain⟨G,hG⟩:∃ G,G=cz m:=⟨_,rfl⟩
 rw[<-hF]at hcn hC1;rw[<-hG]at hcn;rw[<-hF,<-hG]at hM hB hst hz hpl ⊢;simp only[<-hF]at hP1;simp only[<-hG]at hP2 hC2;have HC:=Ad (Au hC1 (Au hC2 (Au hP1 hP2)));have HX:=Ad (Au hM (Au hB (Au hz (Au hcn hSM))));have HSt:=Ad (Au hst hpl);clear hs ht hn hm hM hB hc1 hc2 hSM hcn hst hP1 hP2 hC1 hC2 hz hF hG hpl HV HU
 go_enter Tryz.func42,Tryz.ntmps42
 go_wp2_with fail
 refine AR HC.out.1 ?_;rintro r1 w1 hr1 hx
 go_wp2_with fail
 refine AR (HC.out.2.1 w1 hx) ?_;rintro r2 w2 hr2 hx2;have H12:=Ad (Au ((hr1.kd hx2.kd).has (by have h1:=HX.out.2.2.2.1.1;have h2:=HX.out.2.2.2.2;have h3:=HX.out.2.1;simp;omega)) (hr2.has (by have h1:=HX.out.2.2.2.1.2;have h2:=HX.out.2.2.2.2;have h3:=HX.out.2.1;simp;omega)));replace hx:=hx.trans hx2;clear hr1 hr2 hx2
 go_wp2_with fail
 refine AR (Un _ _ (cn F:Nat) (cn G:Nat) _ H12.out.1 H12.out.2) ?_;rintro r3 w3 hr3 hx3;obtain⟨b5,A5,n5,c5,rfl⟩:=hr3.cells;obtain⟨cc,hcc⟩:∃ cc:Nat,cc=Nat.gcd (cn F) (cn G):=⟨_,rfl⟩
 replace hr3:AC w3 (.agg #[.bool b5,.slice A5 n5 c5]) (cc:Nat):=by rw[hcc];exact hr3
 obtain⟨W4,eW4,e4,x4⟩:=Be.made w3 26 #[.bool b5,.slice A5 n5 c5] (by simp[Ag]);have ec:=BA.mk e4 (hr3.kd x4.kd);replace hx:=(hx.trans hx3).trans x4;have HCC:=Ad hcc;clear hx3 x4 hr3 e4 H12 hcc
 go_wp2_with fail
 rw[<-eW4];clear eW4;generalize w3.heap.size=gc at *;refine AR (HC.out.2.2.1 W4 hx) ?_;rintro r5 w5 hr5 hx5;have ec5:=ec.ext hx5;replace hx:=hx.trans hx5;have H5:=Ad (hr5.base_le (Nat.zero_le _));clear hr5 hx5
 go_wp2_with fail
 refine AR (HC.out.2.2.2 w5 hx) ?_;rintro r6 w6 hr6 hx6;replace ec5:=ec5.ext hx6;replace hx:=hx.trans hx6;have h5:=H5.out.ext hx6;have h6:=hr6.base_le (Nat.zero_le _);clear hr6 hx6 H5;go_wp2
 go_loopw [0,1] (fun fv gv wr=>∃ A B,AY 0 wr fv A/\AY 0 wr gv B/\Il F G (pl F+pl G) S A B/\BA wr gc 26 (cc:Nat)/\Ext w wr) (fun _ gv _=>YO gv)
 case atStart=>exact⟨_,_,h5,h6,HSt.out.1,ec5,hx⟩
 case round =>
  clear h5 h6 ec5 hx ec;obtain⟨A,B,hA,hB,hst,ec,hx⟩:=hrel;obtain⟨A2,c2,rfl,-⟩:=hA.shape;obtain⟨A3,c3,rfl,-⟩:=hB.shape;have HA:=Ad (Au hA hB);clear hA hB;have HS:=Ad hst;clear hst;by_cases h0:0 < pl B
  ·have hbn:B≠pz:=fun e=>by rw[e,BJ]at h0;omega
   have hroom:=HS.out.room rfl;have hpl:=HS.out.deg;have HR:=Ad (show(∀ i,qsz (A i)<=M)/\(∀ i,qsz (B i)<=M)/\M+(pl A+1)*(M+1)+M<=549755813888/\B≠pz/\pl A<=1099511627776/\pl B<=1099511627776 from by
    refine⟨fun i=>Nat.le_trans (hroom.1 i) HX.out.1,fun i=>Nat.le_trans (hroom.2.1 i) HX.out.1,?_,hbn,by have:=HSt.out.2;omega,by have:=HSt.out.2;omega⟩;have h1:=HX.out.2.1;have h2:(pl A+1)*(M+1)<=(pl F+pl G+1)*(M+1):=Nat.mul_le_mul_right _ Aa;omega)
   have hst2:=HS.out.step hbn (R:=D6 A B (pl A+1 - pl B)) rfl;have HS2:=Ad (Au hst2.1 (Au hst2.2 hroom.2.2));clear hst2 hbn hroom hpl
   go_wp2_with fail
   refine Calls.mono (eZ _ _ A B M _ HA.out.1 HA.out.2 HR.out.1 HR.out.2.1 HR.out.2.2.2.1 (by have h1:=HR.out.2.2.1;have:(pl A+1)*1<=(pl A+1)*(M+1):=Nat.mul_le_mul_left _ Aa;omega) (by
    have h1:=HX.out.2.1;have h2:=HS.out.deg;have:(pl F+pl G+1)*1<=(pl F+pl G+1)*(M+1):=Nat.mul_le_mul_left _ Aa;omega) HR.out.2.2.1) ?_
   rintro e w7 ⟨r7,rfl,⟨qv,rv,rfl,hq,hr⟩,hx7⟩;have hrr:=hr.base_le (b:=0) (Nat.zero_le _);have hB7:=HA.out.2.ext hx7;have ec7:=ec.ext hx7;replace hx:=hx.trans hx7;have H7:=Ad (Au hrr hB7);clear hr hrr hB7 hq hx7 ec
   go_wp2_with fail
   refine Calls.mono (IC _ _ _ H7.out.1 (fun i=>by
    have h1:=HS2.out.2.2 i;have h2:=HX.out.1;have h3:(S+1)*2^(pl F+pl G - (pl A+pl B)+(pl A+1 - pl B))<=(S+1)*2^(pl F+pl G)*2:=by
     have e1:(S+1)*2^(pl F+pl G)*2=(S+1)*2^(pl F+pl G+1):=by rw[Nat.pow_succ,Nat.mul_assoc]
     rw[e1];refine Nat.mul_le_mul_left _ (Nat.pow_le_pow_right Ab ?_);have:=HS.out.deg;omega
    have h4:=HX.out.2.1;omega) (by have:=Q3 HS.out.fA HS.out.fB HR.out.2.2.2.1;have:=HR.out.2.2.2.2.2;omega)) ?_
   rintro e w8 ⟨r8,rfl,hr8,hx8⟩;have hB8:=H7.out.2.ext hx8;have hp8:=hr8.base_le (b:=0) (Nat.zero_le _);have ec8:=ec7.ext hx8;replace hx:=hx.trans hx8;obtain⟨A4,c4,rfl,-⟩:=hr8.shape;have H8:=Ad (Au hB8 hp8);clear hB8 hp8 hr8 hx8 ec7 H7;go_wp2
   go_roundw
   case rel=>exact⟨_,_,H8.out.1,H8.out.2,HS2.out.1,ec8,hx⟩
   case measure=>exact HS2.out.2.1
  ·have hbz:B=pz:=(BF HS.out.fB).1 Aa
   have hroom:=HS.out.room rfl;subst hbz;have hz:=HX.out.2.2.1 A HS.out;have HZ:=Ad (Au hz (Au hroom.1 (show pl A<=1099511627776 by have:=HS.out.deg;have:=HSt.out.2;omega)));have h0:pl pz=0:=BJ;rw[h0];clear hz hroom;obtain⟨b,Bv,bn,bc,e8,hb8⟩:=ec;have Hb:=Ad hb8;clear hb8;have ce8:=e8.cells2;have fe8:=e8.frozen
   go_wp2_with fail
   refine Calls.mono (VD _ _ A (cc:Nat) _ HA.out.1 (fun i=>by have h1:=HZ.out.2.1 i;have h2:=HX.out.1;have h3:=HX.out.2.1;omega) (Hb.out.has (by
    rw[HCC.out];have h1:=HX.out.2.2.2.1;have h2:sz (Nat.gcd (cn F) (cn G))<=S:=by
     by_cases e:cn F=0
     ·rw[e,Nat.gcd_zero_left];exact h1.2
     ·exact Nat.le_trans (Bf (Nat.gcd_le_left _ (Nat.pos_of_ne_zero e))) h1.1
    have h3:=HX.out.2.2.2.2;have h4:=HX.out.2.1;simp only[Int.natAbs_natCast];omega)) HZ.out.2.2) ?_
   rintro e w9 ⟨r9,rfl,hr9,hx9⟩;have h9:AY 0 w9 r9 (Df F G):=by
    rw[<-HZ.out.1,<-HCC.out];exact hr9
   have H9:=Ad h9;clear h9 hr9;go_wp2
   go_ret
   exact Ah.mk H9.out (hx.trans hx9)
theorem cK(v u:Value)(F G:Nat->Rat)(S M:Nat)(w:World)(hv:AY 0 w v F)(hu:AY 0 w u G)(hs:∀ i,qsz (F i)<=S)(ht:∀ i,qsz (G i)<=S)(hn:pl F<=549755813888)(hm:pl G<=549755813888)(hM:(S+1)*2^(pl F+pl G)<=M)(hB:M+(pl F+pl G+1)*(M+1)+M<=549755813888) :
  Bj 42 #[v,u] w (fun r w'=>AY 0 w' r (Df F G)):=by
 have hSM:S+1<=M:=by
  have h:0 < 2^(pl F+pl G):=Nat.pow_pos Ab;have:=Nat.le_mul_of_pos_right (S+1) h;omega
 obtain⟨l,h1,h2,-,rfl⟩:=hv.hz (fun i=>by have:=hs i;omega);obtain⟨m,k1,k2,-,rfl⟩:=hu.hz (fun i=>by have:=ht i;omega);exact iG v u l m S M w h1 k1 hs ht Aa Aa hM hB
open Go.Shelf
theorem Yg(v:Value)(F:Nat->Rat)(S n M T:Nat)(w:World)(hv:AY 0 w v F)(hR:Qn F S n M T) :
  Bj 100 #[v] w (fun r w'=>AY 0 w' r (y0 (pp F))):=by
 have hg:=Bn.pp hR.z hR.f hR.n0;have hpg:pl (pp F)=pl F:=DR hR.z hR.f;have hsg:∀ i,qsz (pp F i)<=S:=F6 hR.z hR.f hR.s;have hSM:=hR.sS;have hp:=hR.p;have hn:=hR.n9;have hM:=hR.m;have hB:=hR.b;have hKk:=hR.k;have hM9:M<=549755813888:=by omega
 have hpr:Bj 85 #[v] w (fun r w'=>AY w.heap.size w' r (pp F)):=IC v _ w hv (fun i=>by have:=hR.s i;omega) Aa;have hde:∀ W u,AY 0 W u (pp F)->Bj 66 #[u] W (fun r w'=>AY 0 w' r (pd (pp F))):=fun W u hu=>by
  obtain⟨m,g1,g2,-,g4⟩:=hu.hz (fun i=>by have:=hsg i;omega);rw[<-g4];exact Ah.imp (Jt _ m W g1 Aa) fun _ _ h=>h.base_le (Nat.zero_le _)
 have hpd:pl (pd (pp F))<=n - 1:=by rw[Gz hg.f];omega
 have hg1:∀ W u z,AY 0 W u (pp F)->AY 0 W z (pd (pp F))->Bj 42 #[u,z] W (fun r w'=>AY 0 w' r (yc (pp F))):=fun W u z hu hz=>by
  have e:2^(pl (pp F)+pl (pd (pp F)))<=2^(n+(n - 1)):=Nat.pow_le_pow_right Ab Aa;have e2:(S+1)*2^(pl (pp F)+pl (pd (pp F)))<=(S+1)*2^(n+(n - 1)):=Nat.mul_le_mul_left _ e;have e3:(pl (pp F)+pl (pd (pp F))+1)*(M+1)<=(n+(n - 1)+1)*(M+1):=Nat.mul_le_mul_right _ Aa;exact cK u z _ _ S M W hu hz hsg hR.d Aa Aa Aa Aa
 obtain⟨hC,hW,eg,dC,-⟩:=Ec hg;have hcl:pl (yc (pp F))<=pl (pp F):=Dv.le hC.f hg.f hg.n (MH dC);have hd1:∀ W u z,AY 0 W u (pp F)->AY 0 W z (yc (pp F))->Bj 88 #[u,z] W (fun r w'=>∃ q,r = .tuple #[q,.int .i64 0]/\AY 0 w' q (y0 (pp F))):=fun W u z hu hz=>by
  have e3:(pl (pp F)+2)*(T+1)<=(n+2)*(T+1):=Nat.mul_le_mul_right _ Aa;refine Ah.imp (VH u z _ _ S T W hu hz hsg hR.t Aa Aa hC.n Aa) fun r w' hr=>?_;obtain⟨q,e1,e2⟩:=hr.1 dC;exact⟨q,e1,e2.base_le (Nat.zero_le _)⟩
 obtain⟨A0,c0,rfl,-⟩:=hv.shape;have HC:=Ad (Au hpr (Au hde (Au hg1 hd1)));clear hpr hde hg1 hd1 hv hR hg hpg hsg hSM hp hn hM hB hKk hM9 hpd hC hW eg dC hcl
 go_enter Tryz.func100,Tryz.ntmps100
 go_wp2_with fail
 refine AR HC.out.1 ?_;rintro r1 w1 hr1 hx1;replace hr1:=hr1.base_le (b:=0) (Nat.zero_le _)
 go_wp2_with fail
 refine AR (HC.out.2.1 _ _ hr1) ?_;rintro r2 w2 hr2 hx2;replace hr1:=hr1.ext hx2;replace hx1:=hx1.trans hx2
 go_wp2_with fail
 refine AR (HC.out.2.2.1 _ _ _ hr1 hr2) ?_;rintro r3 w3 hr3 hx3;replace hr1:=hr1.ext hx3;replace hx1:=hx1.trans hx3
 go_wp2_with fail
 refine AR (HC.out.2.2.2 _ _ _ hr1 hr3) ?_;rintro r4 w4 ⟨q,rfl,hq⟩ hx4;go_wp2
 go_ret
 exact Ah.mk hq (hx1.trans hx4)
theorem YH(v:Value)(F W:Nat->Rat)(S n M T S2 D M2:Nat)(w:World)(hv:AY 0 w v F)(hR:Qn F S n M T)(hW:W=y0 (pp F))(hC:FW W S2 D M2) :
  Bj 50 #[v] w (fun r w'=>NU w.heap.size 23 w' r W):=by
 have h1:=fun X (x:Ext w X)=>Yg v F S n M T X (hv.ext x) hR;simp only[<-hW]at h1;have hSM:=hC.SM;have hM9:M2<=1000000:=by have:=hC.b;omega
 have hde:∀ X u,AY 0 X u W->Bj 66 #[u] X (fun r w'=>AY 0 w' r (pd W)):=fun X u hu=>by
  obtain⟨m,g1,g2,-,g4⟩:=hu.hz (fun i=>by have:=hC.s i;omega);rw[<-g4];exact Ah.imp (Jt _ m X g1 (by have:=hC.e;have:=hC.D9;omega)) fun _ _ h=>h.base_le (Nat.zero_le _)
 have hch:∀ X u z,AY 0 X u W->AY 0 X z (pd W)->Bj 65 #[u,z] X (fun r w'=>∃ us K,PG W (pd W) K/\K<=pl (pd W)+1/\Js X.heap.size X.heap.size 23 w' r us (Gp W (pd W) K)):=fun X u z hu hz =>
  ZW u z W (pd W) S2 D M2 X hu hz hC.z (CU hC.z) hC.f (Bw hC.f) hC.s hC.d hC.e hC.m hC.b hC.D9
 obtain⟨A0,c0,rfl,-⟩:=hv.shape;have HC:=Ad (Au h1 (Au hde hch));clear h1 hde hch hv hR hW hC hSM hM9
 go_enter Tryz.func50,Tryz.ntmps50
 have ez:=Be.new w 92 #[.slice none 0 0] (by simp[Ag]);have hx:=(Ext.refl w).alloc (.cells #[.slice none 0 0] 92)
 go_upto_region 1 with(fail)
 generalize w.alloc (.cells #[.slice none 0 0] 92)=W0 at *
 go_wp2_with fail
 refine AR (HC.out.1 _ hx) ?_;rintro r1 w1 hr1 hx1;obtain⟨A1,c1,rfl,-⟩:=hr1.shape;replace ez:=ez.ext hx1;replace hx:=hx.trans hx1;have H1:=Ad hr1;clear hr1 hx1
 go_wp2_with fail
 refine AR (HC.out.2.1 _ _ H1.out) ?_;rintro r2 w2 hr2 hx2;replace ez:=ez.ext hx2;replace hx:=hx.trans hx2;have H2:=Ad (Au (H1.out.ext hx2) hr2);clear hr2 hx2 H1
 go_wp2_with fail
 refine AR (HC.out.2.2 _ _ _ H2.out.1 H2.out.2) ?_;rintro r3 w3 ⟨us,K,hK,hK9,hP⟩ hx3;have hlt:=ez.lt;replace ez:=ez.ext hx3;replace hx:=hx.trans hx3;obtain⟨A3,c3,rfl⟩:=hP.shape;have hl:(Gp W (pd W) K).length=K:=Et _ _ _;rw[hl]at hP ⊢;have H3:=Ad (Au hK (Au hK9 hP));clear hK hK9 hP hx3 H2;have cz0:=ez.cells1;have fz:=ez.frozen;go_wp2;obtain⟨W4,eW,ez',U⟩:=ez.put1 (.slice A3 K c3) rfl;rw[<-eW];have hP4:=H3.out.2.2.upd1 rfl ez hlt U
 replace hx:=U.from_ hx Ac;clear eW cz0 fz ez;have cz0:=ez'.cells1;have fz:=ez'.frozen;refine bodyPost_ret (v := .agg #[.slice A3 K c3]) (by simp[results,Tryz.results50,go_sem,cz0]) rfl ?_;exact Ah.mk ⟨_,us,K,rfl,H3.out.1,H3.out.2.1,(hP4.base_le (Nat.le_of_lt hlt)).el_le (Nat.le_of_lt hlt)⟩ hx
theorem YK(v:Value)(l:List Int)(w:World)(hv:Ey 0 w v l)(hn:l.length<=1000000):Bj 147 #[v] w (fun r w'=>R6 (cz l) w' r):=by
 have HV:=Ad hv;have hq:∀ i,qsz (cz l i)<=1099511627776:=Ql hv.sz Aa;have hpl:pl (cz l)<=l.length:=BX (Ct l);have fF:Ae (cz l):=⟨_,Ct l⟩
 obtain⟨A,c,rfl⟩:=hv.len;clear hv
 go_enter Tryz.func147,Tryz.ntmps147
 go_wp2_with fail
 refine AR (Ld _ l _ HV.out Aa) ?_;rintro r1 w1 hr1 hx1;have HR:=Ad (hr1.base_le (Nat.zero_le _));obtain⟨A1,c1,m,rfl,k1,k2,hA,k3,k4,k5⟩:=hr1.form;have HA:=Ad (Au hA (Au k3 k5));clear hA k3 k4 k5 hr1;have HQ:=Ad hq;clear hq;by_cases h0:cz l=pz
 ·have hp:pl (cz l)=0:=(BF fF).2 h0
  have hr:=Ov h0;have H:=Ad (Au hr h0);clear hr h0;rw[hp];go_wp2;refine bodyPost_ret (v := .tuple #[.slice none 0 0,.int .i64 5]) (by simp[results,Tryz.results147,go_sem]) rfl ?_;exact Ah.mk ⟨_,by rw[H.out.1],fun e=>by rw[H.out.1]at e;exact absurd e Ab,fun _=>rfl⟩ hx1
 have hp:=AQ fF h0;obtain⟨N,hN⟩:∃ N,N=pl (cz l):=⟨_,rfl⟩
 rw[<-hN]at hp hpl k1 ⊢;have hb:(((N:Nat):Int)==0)=false:=beq_eq_false_iff_ne.2 Aa;have HN:=Ad (Au hN h0);clear hN h0;by_cases h33:33 < N
 ·have hr:D7 (cz l)=7:=JD HN.out.2 (.inl (by rw[<-HN.out.1];exact h33))
  have H:=Ad hr;clear hr;go_wp2;refine bodyPost_ret (v := .tuple #[.slice none 0 0,.int .i64 7]) (by simp[results,Tryz.results147,go_sem]) rfl ?_;exact Ah.mk ⟨_,by rw[H.out],fun e=>by rw[H.out]at e;exact absurd e Ab,fun _=>rfl⟩ hx1
 go_wp2
 go_loopw [17] (fun iv wr=>∃ i:Nat,i<=N/\iv = .int .i64 (i:Nat)/\(∀ j,j < i->∀ b,BL (cz l j).num.natAbs b->b<=4096)/\Ext w1 wr) (fun iv _=>N - (intOf iv).toNat)
 case atStart=>exact⟨0,Aa,rfl,fun j hj=>Aa,Ext.refl _⟩
 case round =>
  obtain⟨i,hi,rfl,hlow,hx⟩:=hrel;have HL:=Ad hlow;clear hlow;by_cases hiN:i < N
  ·have hlt:i < m.length:=by have:=HA.out.2.1;have:=HN.out.1;omega
   have hli:cz l i=(m[i]:Rat):=by rw[<-Cb hlt,HA.out.2.2]
   have hqi:=HQ.out i;rw[hli,Bz]at hqi;obtain⟨g,o,b3,A3,n3,c3,e3,-,q0,q1,hq⟩:=HA.out.1.at_ hlt;cases e3;have hqh:=hq.has (by omega:sz (m[i]).natAbs<=1099511627776);obtain⟨y,hy⟩:∃ y,y=m[i]:=⟨_,rfl⟩
   rw[<-hy]at hqh hli;have HI:=Ad (Au hqh hli);clear hqh hq hqi hli hy hlt;replace q0:=hx.cell q0;replace q1:=hx.cell q1
   go_wp2_with fail
   refine AR (Sl _ y _ (HI.out.1.ext (hx.alloc _))) ?_;rintro r w2 ⟨b,rfl,hbl⟩ hx2;have hx':=hx2.a1;have HB:=Ad hbl;clear hbl;have hcast:(cz l i).num.natAbs=y.natAbs:=by rw[HI.out.2];rfl
   have HC:=Ad hcast;clear hcast;by_cases hbb:4096 < b
   ·have hr:D7 (cz l)=7:=JD HN.out.2 (.inr ⟨i,b,by rw[HC.out];exact HB.out,hbb⟩)
    have H:=Ad hr;clear hr;go_wp2;refine bodyPost_ret (v := .tuple #[.slice none 0 0,.int .i64 7]) (by simp[results,Tryz.results147,go_sem]) rfl ?_;exact Ah.mk ⟨_,by rw[H.out],fun e=>by rw[H.out]at e;exact absurd e Ab,fun _=>rfl⟩ ((hx1.trans hx).trans hx')
   ·clear hx2
    go_wp2
    go_roundw
    case rel=>exact⟨i+1,Aa,by go_num,fun j hj b' hb'=>by
     rcases Nat.lt_or_ge j i with q | q
     ·exact HL.out j q b' hb'
     ·obtain rfl:j=i:=by omega
      rw[HC.out]at hb';have:=hb'.uniq HB.out;omega,hx.trans hx'⟩
    case measure=>simp[intOf];omega
  ·obtain rfl:i=N:=by omega
   have hnw:¬ Sk (cz l):=fun⟨j,b,h1,h2⟩=>by
    rcases Nat.lt_or_ge j i with q | q
    ·have:=HL.out j q b h1;omega
    ·have hz:cz l j=0:=(AB fF) j (by have:=HN.out.1;omega)
     rw[hz]at h1;have:=h1.uniq BL.zero;omega
   have hr:=J7 HN.out.2 (by rw[<-HN.out.1];exact h33) hnw;have H:=Ad hr;clear hr hnw;have HF:=Ad (HR.out.ext hx);rw[<-HN.out.1]at HF;go_wp2;refine bodyPost_ret (v := .tuple #[.slice A1 i c1,.int .i64 0]) (by simp[results,Tryz.results147,go_sem]) rfl ?_;exact Ah.mk ⟨_,by rw[H.out],fun _=>HF.out,fun e=>absurd H.out e⟩ (hx1.trans hx)
theorem Y8(v:Value)(F:Nat->Rat)(w:World)(hv:AY 0 w v F)(fF:Ae F)(h0:F≠pz)(hn:pl F<=33)(hs:∀ i,qsz (F i)<=129):Bj 148 #[v] w (fun r w'=>∃ x,AC w' r x):=by
 have hp:=AQ fF h0;obtain⟨A,c,l,rfl,k1,k2,hA,k3,k4,k5⟩:=hv.form;have htop:=EH fF hp;obtain⟨N,hN⟩:∃ N,N=pl F:=⟨_,rfl⟩
 rw[<-hN]at hp hn k1 k3 htop ⊢;have HA:=Ad (Au hA (Au k3 (Au k5 (Au htop hs))));clear hA k3 k4 k5 htop hs hv hN
 go_enter Tryz.func148,Tryz.ntmps148
 obtain⟨W1,eW1,ez,y1⟩:=Be.made w 26 #[.bool false,.slice none 0 0] (by simp[Ag])
 go_upto_region 1 with(fail)
 rw[<-eW1];clear eW1;have hx:=y1
 go_wp2_with fail
 refine AR (Jn 0 _ Aa Aa) ?_;rintro r2 w2 hr2 hx2;obtain⟨b5,A5,n5,c5,rfl⟩:=hr2.cells;replace ez:=ez.ext hx2;replace hx:=hx.trans hx2;clear hx2;obtain⟨W3,eW3,es,y3⟩:=Be.made w2 26 #[.bool b5,.slice A5 n5 c5] (by simp[Ag]);have hsm:=BA.mk es (hr2.kd y3.kd);have hgs:=ez.lt;replace ez:=ez.ext y3;replace hx:=hx.trans y3;clear y3;clear hr2 es
 go_upto_region 2 with(fail)
 rw[<-eW3];clear eW3;generalize w2.heap.size=gs at *;go_wp2
 go_loopw [14] (fun iv wr=>∃ (i:Nat) (x:Int),i<=N/\iv = .int .i64 (i:Nat)/\0<=x/\sz x.natAbs<=260+i/\((∃ j,j < i/\F j≠0)->0 < x)/\BA wr gs 26 x/\Be wr w.heap.size 26 #[.bool false,.slice none 0 0]/\Ext w wr) (fun iv _=>N - (intOf iv).toNat)
 case atStart=>exact⟨0,0,Aa,rfl,Aa,Ab,fun⟨j,hj,_⟩=>Aa,hsm,ez,hx⟩
 case round =>
  clear hsm ez hx;obtain⟨i,x,hi,rfl,hx0,hxs,hxp,⟨b1,A1,n1,c1,es,hsz⟩,ez,hx⟩:=hrel;have HX:=Ad (Au hx0 (Au hxs (Au hxp hsz)));clear hx0 hxs hxp hsz;by_cases hiN:i < N
  ·have hlt:i < l.length:=by have:=HA.out.2.1;omega
   have hli:F i=(l[i]:Rat):=by rw[<-Cb hlt,HA.out.2.2.1]
   have hqi:=HA.out.2.2.2.2 i;rw[hli,Bz]at hqi;obtain⟨g,o,b3,A3,n3,c3,e3,-,q0,q1,hq⟩:=HA.out.1.at_ hlt;cases e3;obtain⟨y,hy⟩:∃ y,y=l[i]:=⟨_,rfl⟩
   rw[<-hy]at hq hli hqi;have HI:=Ad (Au (hq.has Aa) (Au hli (show sz y.natAbs<=129 by omega)));clear hq hqi hli hy hlt;replace q0:=hx.cell q0;replace q1:=hx.cell q1;obtain⟨W7,eW7,e6,y7⟩:=Be.made wr 26 #[.bool b3,.slice A3 n3 c3] (by simp[Ag]);have hg6:=es.lt;have hgz:=ez.lt
   go_upto_region 5 with(fail)
   rw[<-eW7];clear eW7 q0 q1;replace HX:=Ad (Au HX.out.1 (Au HX.out.2.1 (Au HX.out.2.2.1 (HX.out.2.2.2.ext_ y7))));replace ez:=ez.ext y7;replace es:=es.ext y7;replace hx:=hx.trans y7;clear y7;generalize wr.heap.size=g6 at *;have ce6:=e6.cells2;have fe6:=e6.frozen;obtain⟨ces0,ces1⟩:=es.cells2;have fes:=es.frozen;refine CV 4 [18,19,20,21] [3,5] [_,_] [(kv ?_),(kv ?_),(kv ?_),(fun γ=>γ 3)] (fun γ w'=>[True,True,True,AC w' (γ 3) (y*y)]) ?s1 ?_
   case s1 =>
    iterate 4 refine⟨?_,?_⟩
    trivial
    iterate 3 focus
     refine Ba fun _ w' he R hR=>?_;have hc:=he.cells;have cq0:=(e6.ext he).cells2;have cq1:=he.cell ces0;have cq2:=he.cell ces1;go_simp;exact Bi hR
    ·refine Ba fun _ w' he R hR=>?_
     go_simp;exact Bg (Dr _ _ y y w' (HI.out.1.ext (hx.trans he)) (HI.out.1.ext (hx.trans he))) hR
   intro γ w8 hx8 hF;have p3:AC w8 (γ 3) (y*y):=Av.get hF 3 Ab;clear hF;simp only[Bd,Nat.reduceAdd];generalize γ 3=g3 at *;clear γ;have hyy:sz (y*y).natAbs<=258:=by
    rw[Int.natAbs_mul];have:=Ca y.natAbs y.natAbs;have:=HI.out.2.2;omega
   have hsum:sz (x+y*y).natAbs<=260+(i+1):=by
    have h1:=Bf (Int.natAbs_add_le x (y*y));have h2:=Gi x.natAbs (y*y).natAbs;have:=HX.out.2.1;omega
   have hyn:0<=y*y:=by
    rcases Int.le_total 0 y with h | h
    ·exact Int.mul_nonneg h h
    ·have:=Int.mul_nonneg (show 0 <= -y by omega) (show 0 <= -y by omega)
     rw[Int.neg_mul_neg]at this;exact this
   have hyp:F i≠0->0 < y*y:=fun hne=>by
    have hy0:y≠0:=fun e=>hne (by rw[HI.out.2.1,e];rfl);have:y*y≠0:=fun e=>by rcases Int.mul_eq_zero.1 e with q | q<;>exact hy0 q
    omega
   have HS:=Ad (Au hsum (Au hyn (Au hyp (Au hyy HX.out.2.1))));clear hsum hyn hyp hyy
   go_wp2_with fail
   refine AR (N8 _ _ x (y*y) _ ((HX.out.2.2.2.ext_ hx8).has (by have:=HS.out.2.2.2.2;omega)) (p3.has (by have:=HS.out.2.2.2.1;omega))) ?_;rintro r9 w9 hr9 hx9;obtain⟨b9,A9,n9,c9,rfl⟩:=hr9.cells;have x89:=hx8.trans hx9;clear ce6 ces0 ces1 fe6 fes p3 e6;replace ez:=ez.ext x89;replace es:=es.ext x89;replace hx:=hx.trans x89;clear x89;clear hx8 hx9;obtain⟨ces0,ces1⟩:=es.cells2;have fes:=es.frozen
   go_upto_region 6 with(fail)
   obtain⟨W10,eW,es',U⟩:=es.put2 (.bool b9) (.slice A9 n9 c9);rw[<-eW];clear eW es;replace hr9:=hr9.kd U.kd;replace ez:=ez.upd U Ak;replace hx:=U.from_ hx Ak;have es:=es';clear U es';clear ces0 ces1 fes;go_wp2
   go_roundw
   case rel=>exact⟨i+1,x+y*y,Aa,by go_num,by have:=HX.out.1;have:=HS.out.2.1;omega,HS.out.1,fun⟨j,hj,hne⟩=>by
    have h1:=HX.out.1;have h2:=HS.out.2.1;rcases Nat.lt_or_ge j i with q | q
    ·have:=HX.out.2.2.1 ⟨j,q,hne⟩;omega
    ·obtain rfl:j=i:=by omega
     have:=HS.out.2.2.1 hne;omega,BA.mk es hr9,ez,hx⟩
   case measure=>simp[intOf];omega
  ·obtain rfl:i=N:=by omega
   have hpos:0 < x:=HX.out.2.2.1 ⟨i - 1,Aa,HA.out.2.2.2.1⟩;have HP:=Ad (Au hpos (show sz x.natAbs<=1000 by have:=HX.out.2.1;omega));clear hpos;have hgz:=ez.lt;obtain⟨ces0,ces1⟩:=es.cells2;have fes:=es.frozen
   go_wp2_with fail
   refine AR (WJ _ x _ (HX.out.2.2.2.has (by have:=HP.out.2;omega)) HP.out.1 HP.out.2) ?_;rintro r11 w11 ⟨r0,q,bq,rfl,hr0,hq0,hqs⟩ hx11;obtain⟨b12,A12,n12,c12,rfl⟩:=hr0.cells;have HQ:=Ad hqs;clear hqs hq0 ces0 ces1 fes es;replace ez:=ez.ext hx11;replace hx:=hx.trans hx11;clear hx11;obtain⟨W12,eW12,er,y12⟩:=Be.made w11 26 #[.bool b12,.slice A12 n12 c12] (by simp[Ag]);have hrr:=BA.mk er (hr0.kd y12.kd)
   have hgr:=ez.lt;replace ez:=ez.ext y12;replace hx:=hx.trans y12;clear y12;clear er hr0
   go_upto_region 8 with(fail)
   rw[<-eW12];clear eW12;generalize w11.heap.size=gr at *
   go_wp2_with fail
   refine AR (Jn 2 _ Aa Aa) ?_;rintro r13 w13 hr13 hx13;replace ez:=ez.ext hx13;replace hrr:=hrr.ext hx13;replace hx:=hx.trans hx13;clear hx13;obtain⟨k,hk⟩:∃ k,i=k+1:=⟨i - 1,Aa⟩
   have hki:((i:Nat):Int) - 1=(k:Nat):=by omega
   go_wp2_with fail
   refine Calls.mono (show Bj 176 _ _ (fun r w'=>F5 w' r (2^k) 0)from by
    first
     | (rw[hki];exact SC _ k _ (hr13.has Ab) Aa)
     | exact SC _ k _ (hr13.has Ab) Aa) ?_
   rintro e w14 ⟨r14,rfl,⟨r15,rfl,hr15⟩,hx14⟩;obtain⟨b15,A15,n15,c15,rfl⟩:=hr15.cells;clear hr13;replace ez:=ez.ext hx14;replace hrr:=hrr.ext hx14;replace hx:=hx.trans hx14;clear hx14;obtain⟨W16,eW16,et,y16⟩:=Be.made w14 26 #[.bool b15,.slice A15 n15 c15] (by simp[Ag]);have htt:=hr15.kd y16.kd;have hgt:=hrr.lt;replace ez:=ez.ext y16;replace hrr:=hrr.ext y16;replace hx:=hx.trans y16;clear y16;clear hr15
   go_upto_region 9 with(fail)
   rw[<-eW16];clear eW16;generalize w14.heap.size=gt at *;obtain⟨b17,A17,n17,c17,er,hrz⟩:=hrr;have hk9:=Jj k;have HT:=Ad (Au htt (Au hrz (show sz ((2:Int)^k).natAbs<=1099511627776 by omega)));clear htt hrz hk9;have hs1:sz (q+1).natAbs<=1099511627776:=by
    have h1:=Bf (Int.natAbs_add_le q 1);have h2:=Gi q.natAbs (1:Int).natAbs;have h3:sz (1:Int).natAbs=1:=by decide
    have:=HQ.out;omega
   have HS1:=Ad hs1;clear hs1;have cet:=et.cells2;have fet:=et.frozen;have cer:=er.cells2;have fer:=er.frozen;have cez:=ez.cells2;have fez:=ez.frozen;refine CV 4 [38,39,40,41] [9,6] [_,_] [(kv ?_),(kv ?_),(fun γ=>γ 2),(fun γ=>γ 3)] (fun γ w'=>[True,True,AC w' (γ 2) 1,AC w' (γ 3) (q+1)]) ?s2 ?_
   case s2 =>
    iterate 4 refine⟨?_,?_⟩
    trivial
    iterate 2 focus
     refine Ba fun _ w' he R hR=>?_;have hc:=he.cells;have cq0:=(et.ext he).cells2;have cq1:=(er.ext he).cells2;go_simp;exact Bi hR
    ·refine Ba fun _ w' he R hR=>?_
     go_simp;exact Bg (Jn 1 w' Aa Aa) hR
    ·refine FO fun γ w' he hf R hR=>?_;have f2:AC w' (γ 2) 1:=hf 2 Ab;clear hf
     go_simp;exact Bg (N8 _ _ q 1 w' ((HT.out.2.1.ext_ he).has (by have:=HQ.out;omega)) (f2.has Ab)) hR
   intro γ w18 hx18 hF;have p2:AC w18 (γ 2) 1:=Av.get hF 2 Ab;have p3:AC w18 (γ 3) (q+1):=Av.get hF 3 Ab;clear hF;simp only[Bd,Nat.reduceAdd];generalize γ 2=g2 at *;generalize γ 3=g3 at *;clear γ
   go_wp2_with fail
   refine AR (Dr _ _ (2^k) (q+1) _ ((HT.out.1.ext_ hx18).has HT.out.2.2) (p3.has HS1.out)) ?_;rintro r19 w19 hr19 hx19;obtain⟨b19,A19,n19,c19,rfl⟩:=hr19.cells;have x1819:=hx18.trans hx19;clear cet cer cez fet fer fez p2 p3;replace ez:=ez.ext x1819;replace hx:=hx.trans x1819;clear x1819;clear hx18 hx19;have cez:=ez.cells2;have fez:=ez.frozen;go_wp2;obtain⟨W20,eW,ez',U⟩:=ez.put2 (.bool b19) (.slice A19 n19 c19)
   rw[<-eW];clear eW ez;replace hr19:=hr19.kd U.kd;replace hx:=U.from_ hx Ak;have ez:=ez';clear U ez';clear cez fez;have cez:=ez.cells2;have fez:=ez.frozen;refine bodyPost_ret (v := .agg #[.bool b19,.slice A19 n19 c19]) (by simp[results,Tryz.results148,go_sem,cez]) rfl ?_;exact Ah.mk ⟨_,hr19⟩ hx
theorem XG(v:Value)(l:List Int)(w:World)(hv:Ey 0 w v l)(hn:l.length<=1000000):Bj 98 #[v] w (fun r _=>jC (cz l) r):=by
 have HV:=Ad hv;have fF:Ae (cz l):=⟨_,Ct l⟩
 have zF:ZI (cz l):=ZI.cz l;obtain⟨A,c,rfl⟩:=hv.len;clear hv
 go_enter Tryz.func98,Tryz.ntmps98
 obtain⟨W1,eW1,ez,y1⟩:=Be.made w 26 #[.bool false,.slice none 0 0] (by simp[Ag])
 go_upto_region 1 with(fail)
 rw[<-eW1];clear eW1;have hx:=y1;clear y1
 go_wp2_with fail
 refine AR (YK _ l _ (HV.out.ext hx) hn) ?_;rintro r2 w2 ⟨u,rfl,hu1,hu2⟩ hx2;replace ez:=ez.ext hx2;replace hx:=hx.trans hx2;clear hx2;have hgz:=ez.lt;obtain⟨E,hE⟩:∃ E,E=D7 (cz l):=⟨_,rfl⟩
 have hc:=Fv (cz l);rw[<-hE]at hu1 hu2 hc ⊢;have HE:=Ad hE;clear hE;have fin:∀(W:World) (b:Bool) (A:Option Addr) (n c:Nat),Ext w W->Ah w (fun r _=>jC (cz l) r) (.returned (.tuple #[.agg #[.bool b,.slice A n c],.int .i64 E])) W:=fun W b A n c h=>Ah.mk ⟨_,_,_,_,by rw[HE.out]⟩ h;have Hfin:=Ad fin;clear fin;rcases hc with⟨-,hc⟩ | ⟨-,hc⟩ | ⟨h0,hp,hw,hc⟩
 ·subst hc
  clear hu1 hu2;have cez:=ez.cells2;have fez:=ez.frozen;go_wp2;obtain⟨W3,eW,ez',U⟩:=ez.put2 (.bool false) (.slice none 0 0);rw[<-eW];clear eW ez;replace hx:=U.from_ hx Ak;have ez:=ez';clear U ez';clear cez fez;have cez:=ez.cells2;have fez:=ez.frozen;refine bodyPost_ret (v := .tuple #[.agg #[.bool false,.slice none 0 0],.int .i64 5]) (by simp[results,Tryz.results98,go_sem,cez]) rfl ?_;exact Hfin.out _ _ _ _ _ hx
 ·subst hc
  clear hu1 hu2;have cez:=ez.cells2;have fez:=ez.frozen;go_wp2;obtain⟨W3,eW,ez',U⟩:=ez.put2 (.bool false) (.slice none 0 0);rw[<-eW];clear eW ez;replace hx:=U.from_ hx Ak;have ez:=ez';clear U ez';clear cez fez;have cez:=ez.cells2;have fez:=ez.frozen;refine bodyPost_ret (v := .tuple #[.agg #[.bool false,.slice none 0 0],.int .i64 7]) (by simp[results,Tryz.results98,go_sem,cez]) rfl ?_;exact Hfin.out _ _ _ _ _ hx
 ·subst hc
  have hq:=dP zF hw;have hu:=hu1 rfl;obtain⟨A1,c1,rfl,-⟩:=hu.shape;clear hu1 hu2
  go_wp2_with fail
  refine AR (Y8 _ (cz l) _ hu fF h0 hp hq) ?_;rintro r4 w4 ⟨x4,hr4⟩ hx4;obtain⟨b5,A5,n5,c5,rfl⟩:=hr4.cells;clear hu;replace ez:=ez.ext hx4;replace hx:=hx.trans hx4;clear hx4;have cez:=ez.cells2;have fez:=ez.frozen;go_wp2;obtain⟨W3,eW,ez',U⟩:=ez.put2 (.bool b5) (.slice A5 n5 c5);rw[<-eW];clear eW ez;replace hx:=U.from_ hx Ak;have ez:=ez';clear U ez';clear cez fez;have cez:=ez.cells2;have fez:=ez.frozen
  refine bodyPost_ret (v := .tuple #[.agg #[.bool b5,.slice A5 n5 c5],.int .i64 0]) (by simp[results,Tryz.results98,go_sem,cez]) rfl ?_;exact Hfin.out _ _ _ _ _ hx
theorem ZR(v:Value)(l:List Int)(w:World)(hv:Ey 0 w v l)(hn:l.length<=1000000):Bj 48 #[v] w (fun r w'=>jT w.heap.size (cz l) w' r):=by
 have HV:=Ad hv;obtain⟨A,c,rfl⟩:=hv.len;clear hv
 go_enter Tryz.func48,Tryz.ntmps48
 go_wp2_with fail
 refine AR (XG _ l _ HV.out hn) ?_;rintro r2 w2 ⟨b5,A5,n5,c5,rfl⟩ hx2;obtain⟨W1,eW1,-,y1⟩:=Be.made w2 26 #[.bool b5,.slice A5 n5 c5] (by simp[Ag]);have hx:=hx2.trans y1;clear hx2 y1
 go_upto_region 2 with(fail)
 rw[<-eW1];clear eW1;obtain⟨E,hE⟩:∃ E,E=D7 (cz l):=⟨_,rfl⟩
 have hc:=Fv (cz l);rw[<-hE]at hc ⊢;have HE:=Ad hE;clear hE;rcases hc with⟨-,hc⟩ | ⟨-,hc⟩ | ⟨-,-,-,hc⟩
 ·subst hc
  go_wp2;refine bodyPost_ret (v := .tuple #[.slice none 0 0,.int .i64 5]) (by simp[results,Tryz.results48,go_sem]) rfl ?_;exact Ah.mk ⟨_,by rw[<-HE.out],fun e=>by rw[<-HE.out]at e;exact absurd e Ab,fun _=>rfl⟩ hx
 ·subst hc
  go_wp2;refine bodyPost_ret (v := .tuple #[.slice none 0 0,.int .i64 7]) (by simp[results,Tryz.results48,go_sem]) rfl ?_;exact Ah.mk ⟨_,by rw[<-HE.out],fun e=>by rw[<-HE.out]at e;exact absurd e Ab,fun _=>rfl⟩ hx
 ·subst hc
  go_wp2_with fail
  refine AR (Ld _ l _ (HV.out.ext hx) Aa) ?_;rintro r4 w4 hr4 hx4;obtain⟨A1,c1,rfl,-⟩:=hr4.shape;have hx5:=hx.trans hx4;have HR:=Ad (hr4.base_le hx.size);clear hr4;go_wp2;refine bodyPost_ret (v := .tuple #[.slice A1 (pl (cz l)) c1,.int .i64 0]) (by simp[results,Tryz.results48,go_sem]) rfl ?_;exact Ah.mk ⟨_,by rw[<-HE.out],fun _=>HR.out,fun e=>by rw[<-HE.out]at e;exact absurd rfl e⟩ hx5
theorem Tp(v:Value)(l:List Int)(w:World)(hv:Ey 0 w v l)(hn:l.length<=1000000):Bj 48 #[v] w (fun r w'=>R6 (cz l) w' r):=
 Ah.imp (ZR v l w hv hn) fun _ _ ⟨u,h1,h2,h3⟩=>⟨u,h1,fun e=>(h2 e).base_le (Nat.zero_le _),h3⟩
theorem gM(v u z:Value)(W:Nat->Rat)(p q:Rat)(base S D M t K:Nat)(w:World)(hv:NU base 23 w v W)(hu:BN w u p)(hz:BN w z q)(hC:FW W S D M)(hK:PG W (pd W) K)(hp:qsz p<=t)(hq:qsz q<=t)
  (ht:1+D*(M+t+1)+M+t+1<=274877906944) :
  Bj 51 #[v,u,z] w (fun r _=>r = .int .i64 ((V (Gp W (pd W) K) p:Nat) - (V (Gp W (pd W) K) q:Nat):Int)):=by
 obtain⟨c,us,K',rfl,h1,h2,h3⟩:=hv;obtain rfl:=h1.uniq hK;have hl:(Gp W (pd W) K').length=K':=Et _ _ _;have hK9:K'<=1000:=by have:=hC.e;have:=hC.D9;omega
 have hch:∀ X (x:Ext w X) a r,BN X a r->qsz r<=t->Bj 101 #[c,a] X (fun o _=>o = .int .i64 (V (Gp W (pd W) K') r:Nat)):=fun X x a r ha hr =>
  UR c a us _ r base M t D X (h3.ext x) ha (hC.mem h1) hr ht (by have:=hC.D9;omega) (by rw[hl];omega)
 have b1:=bM (Gp W (pd W) K') p;have b2:=bM (Gp W (pd W) K') q;rw[hl]at b1 b2;obtain⟨Vp,hVp⟩:∃ n,n=V (Gp W (pd W) K') p:=⟨_,rfl⟩
 obtain⟨Vq,hVq⟩:∃ n,n=V (Gp W (pd W) K') q:=⟨_,rfl⟩
 have hc1:∀ X (x:Ext w X),Bj 101 #[c,u] X (fun o _=>o = .int .i64 (Vp:Nat)):=fun X x=>by rw[hVp];exact hch X x u p (hu.ext x) hp
 have hc2:∀ X (x:Ext w X),Bj 101 #[c,z] X (fun o _=>o = .int .i64 (Vq:Nat)):=fun X x=>by rw[hVq];exact hch X x z q (hz.ext x) hq
 rw[<-hVp]at b1 ⊢;rw[<-hVq]at b2 ⊢;have HP:=Ad (Au hc1 hc2);obtain⟨A0,c0,rfl⟩:=h3.shape;rw[hl]at HP ⊢;obtain⟨b,B,n1,c1,b',B',n1',c1',x0,y0,rfl,-⟩:=hu.form;obtain⟨d,E,n2,c2,d',E',n2',c2',x1,y1,rfl,-⟩:=hz.form;clear hch hu hz hp hq h1 h2 h3 hC hK ht hl hc1 hc2 hVp hVq
 go_enter Tryz.func51,Tryz.ntmps51
 go_upto_region 1 with(fail)
 refine CV 8 [7,8,9,10,11,12,13,14] [3,4,5] [_,_,_] [(kv ?_),(kv ?_),(kv ?_),(kv (.int .i64 (Vp:Nat))),(kv ?_),(kv ?_),(kv ?_),(kv (.int .i64 (Vq:Nat)))] (fun γ w'=>[True,True,True,True,True,True,True,True]) ?s1 ?_
 case s1 =>
  iterate 8 refine⟨?_,?_⟩
  trivial
  iterate 3 focus
   refine Ba fun _ w' he R hR=>?_;have hc:=he.cells;go_simp;exact Bi hR
  ·refine Ba fun _ w' he R hR=>?_
   go_simp;exact Jq (HP.out.1 w' he.a3) hR
  iterate 3 focus
   refine Ba fun _ w' he R hR=>?_;have hc:=he.cells;go_simp;exact Bi hR
  ·refine Ba fun _ w' he R hR=>?_
   go_simp;exact Jq (HP.out.2 w' he.a3) hR
 intro γ w1 hx1 hF;clear hF;simp only[Bd,Nat.reduceAdd];clear γ;go_wp2
 go_ret
 exact Ah.mk rfl hx1.a3
end Go.Proofs.YtmhgnigpmompmaaGreat

namespace Go.Proofs.YtmhgnigpmompmaaGreat
open Go.RowKit Go.Hp
set_option maxRecDepth 20000 in
theorem XC(v:Value)(p q:Rat)(t:Nat)(w:World)(hv:V8 w v p q)(hp:qsz p<=t)(hq:qsz q<=t)(ht:t<=100000000000) :
  Bj 112 #[v] w (fun r w'=>BQ w' r ((p+q) / 2)):=by
 have hsum:qsz (p+q)<=274877906944:=by have:=EM p q;omega
 obtain⟨d1,A1,n1,c1,d2,A2,n2,c2,d3,A3,n3,c3,d4,A4,n4,c4,rfl,hu1,hu2⟩:=hv;have HC:=Ad (Au hu1 (Au hu2 hsum));clear hu1 hu2 hsum hp hq ht
 go_enter Tryz.func112,Tryz.ntmps112
 have ea:=(Be.new w 30 #[.bool d1,.slice A1 n1 c1,.bool d2,.slice A2 n2 c2,.bool d3,.slice A3 n3 c3,.bool d4,.slice A4 n4 c4] (by simp[Ag])).alloc (.cells #[.bool false,.slice none 0 0,.bool false,.slice none 0 0] 28);have ez:=Be.new (w.alloc (.cells #[.bool d1,.slice A1 n1 c1,.bool d2,.slice A2 n2 c2,.bool d3,.slice A3 n3 c3,.bool d4,.slice A4 n4 c4] 30)) 28 #[.bool false,.slice none 0 0,.bool false,.slice none 0 0] (by simp[Ag])
 rw[World.size_alloc]at ez;have hx:=((Ext.refl w).alloc (.cells #[.bool d1,.slice A1 n1 c1,.bool d2,.slice A2 n2 c2,.bool d3,.slice A3 n3 c3,.bool d4,.slice A4 n4 c4] 30)).alloc (.cells #[.bool false,.slice none 0 0,.bool false,.slice none 0 0] 28)
 go_upto_region 1 with(fail)
 generalize (w.alloc (.cells #[.bool d1,.slice A1 n1 c1,.bool d2,.slice A2 n2 c2,.bool d3,.slice A3 n3 c3,.bool d4,.slice A4 n4 c4] 30)).alloc (.cells #[.bool false,.slice none 0 0,.bool false,.slice none 0 0] 28)=W0 at *;have cea:=ea.cells8;have fea:=ea.frozen
 go_wp2_with fail
 refine AR (TS _ _ p q _ (HC.out.1.ext hx) (HC.out.2.1.ext hx)) ?_;rintro r1 w1 hr1 hx1;clear cea fea ea;replace ez:=ez.ext hx1;replace hx:=hx.trans hx1
 go_wp2_with fail
 refine AR (WW 2 _ Aa Aa) ?_;rintro r2 w2 hr2 hx2;replace ez:=ez.ext hx2;replace hx:=hx.trans hx2;have H2:=Ad (Au (hr1.ext hx2) hr2);clear hr1 hr2 hx1 hx2
 go_wp2_with fail
 refine AR (Wp _ _ (p+q) ((2:Int):Rat) _ (H2.out.1.has HC.out.2.2) (H2.out.2.has Ab) Ab) ?_;rintro r3 w3 ⟨q3,rfl,hq3⟩ hx3;obtain⟨b5,B5,m5,e5,b6,B6,m6,e6,rfl⟩:=hq3.cells;replace ez:=ez.ext hx3;replace hx:=hx.trans hx3;obtain⟨W4,eW,e4,x4⟩:=Be.made w3 28 #[.bool b5,.slice B5 m5 e5,.bool b6,.slice B6 m6 e6] (by simp[Ag]);have hr:=hq3.ext x4;have hltz:=ez.lt;replace ez:=ez.ext x4;replace hx:=hx.trans x4
 clear hq3 hx3 x4 H2
 go_upto_region 2 with(fail)
 rw[<-eW];clear eW;generalize w3.heap.size=gc at *;have cez:=ez.cells4;have fez:=ez.frozen;have ce4:=e4.cells4;have fe4:=e4.frozen;go_wp2;obtain⟨W5,eW,ez',U⟩:=ez.put4 (.bool b5) (.slice B5 m5 e5) (.bool b6) (.slice B6 m6 e6);rw[<-eW];clear eW ez;replace hr:=hr.kd U.kd;replace hx:=U.from_ hx Ak;have ez:=ez';clear U ez';clear cez fez;have cez:=ez.cells4;have fez:=ez.frozen;refine bodyPost_ret (v := .agg #[.bool b5,.slice B5 m5 e5,.bool b6,.slice B6 m6 e6]) (by simp[results,Tryz.results112,go_sem,cez]) rfl ?_
 exact Ah.mk hr hx
set_option maxRecDepth 20000 in
theorem Xf(v u:Value)(p q:Rat)(w:World)(hv:BN w v p)(hu:BN w u q) :
  Bj 82 #[v,u] w (fun r w'=>Kj w' r p q):=by
 have HC:=Ad (Au hv hu);obtain⟨b,B,m1,e1,b',B',m1',e1',x0,y0,rfl,-⟩:=hv.form;obtain⟨d,E,m2,e2,d',E',m2',e2',x1,y1,rfl,-⟩:=hu.form;clear hv hu
 go_enter Tryz.func82,Tryz.ntmps82
 obtain⟨W1,eW1,ea,y1⟩:=Be.made w 28 #[.bool b,.slice B m1 e1,.bool b',.slice B' m1' e1'] (by simp[Ag]);obtain⟨W2,eW2,ec,y2⟩:=Be.made W1 28 #[.bool d,.slice E m2 e2,.bool d',.slice E' m2' e2'] (by simp[Ag]);obtain⟨W3,eW3,ez,y3⟩:=Be.made W2 30 #[.bool false,.slice none 0 0,.bool false,.slice none 0 0,.bool false,.slice none 0 0,.bool false,.slice none 0 0] (by simp[Ag]);have s1:W1.heap.size=w.heap.size+1:=by rw[eW1,World.size_alloc]
 have s2:W2.heap.size=w.heap.size+1+1:=by rw[eW2,World.size_alloc,s1]
 rw[s1]at ec;rw[s2]at ez;have hx:=(y1.trans y2).trans y3;replace ea:=ea.ext (y2.trans y3);replace ec:=ec.ext y3
 go_upto_region 1 with(fail)
 rw[<-eW1,<-eW2,<-eW3];clear eW1 eW2 eW3 y1 y2 y3 s1 s2;have cea:=ea.cells4;have fea:=ea.frozen;have cec:=ec.cells4;have fec:=ec.frozen
 go_wp2_with fail
 refine CV 4 [5,6,7,8] [2,3] [_,_] [(kv ?_),(fun γ=>γ 1),(kv ?_),(fun γ=>γ 3)] (fun γ w'=>[True,BQ w' (γ 1) p,True,BQ w' (γ 3) q]) ?s1 ?_
 case s1 =>
  iterate 4 refine⟨?_,?_⟩
  trivial
  iterate 1 focus
   refine Ba fun _ w' he R hR=>?_;have hc:=he.cells;have cq0:=(ea.ext he).cells4;have cq1:=(ec.ext he).cells4;go_simp;exact Bi hR
  ·refine Ba fun _ w' he R hR=>?_
   go_simp;exact Bg (GL _ p w' (HC.out.1.ext (hx.trans he))) hR
  iterate 1 focus
   refine Ba fun _ w' he R hR=>?_;have hc:=he.cells;have cq0:=(ea.ext he).cells4;have cq1:=(ec.ext he).cells4;go_simp;exact Bi hR
  ·refine Ba fun _ w' he R hR=>?_
   go_simp;exact Bg (GL _ q w' (HC.out.2.ext (hx.trans he))) hR
 intro γ w8 hx8 hF;have p1:BQ w8 (γ 1) p:=Av.get hF 1 Ab;have p3:BQ w8 (γ 3) q:=Av.get hF 3 Ab;clear hF;simp only[Bd,Nat.reduceAdd];generalize γ 1=g1 at *;generalize γ 3=g3 at *;clear γ;obtain⟨b5,A5,n5,c5,b6,A6,n6,c6,rfl⟩:=p1.cells;obtain⟨b7,A7,n7,c7,b8,A8,n8,c8,rfl⟩:=p3.cells;have HQ:=Ad (Au p1 p3);replace hx:=hx.trans hx8;replace ez:=ez.ext hx8;clear p1 p3 cea cec fea fec;have cez:=ez.cells8;have fez:=ez.frozen
 go_wp2;obtain⟨W6,eW6,ez',U⟩:=ez.put8 (.bool b5) (.slice A5 n5 c5) (.bool b6) (.slice A6 n6 c6) (.bool b7) (.slice A7 n7 c7) (.bool b8) (.slice A8 n8 c8) rfl rfl rfl rfl rfl rfl rfl rfl;rw[<-eW6];have hr1:=BQ.kd HQ.out.1 U.kd;have hr2:=BQ.kd HQ.out.2 U.kd;replace hx:=U.from_ hx Ak;clear eW6 ez cez fez;have ez:=ez';have cez:=ez.cells8;have fez:=ez.frozen;refine bodyPost_ret (v := .agg #[.bool b5,.slice A5 n5 c5,.bool b6,.slice A6 n6 c6,.bool b7,.slice A7 n7 c7,.bool b8,.slice A8 n8 c8]) (by simp[results,Tryz.results82,go_sem,cez]) rfl ?_
 exact Ah.mk ⟨_,_,_,_,_,_,_,_,_,_,_,_,_,_,_,_,rfl,hr1,hr2⟩ hx
theorem bL:(Tryz.prog.info? 30).map (fun i=>(i.zero,i.size,i.bytes))=some (some (.agg #[.bool false,.slice none 0 0,.bool false,.slice none 0 0,.bool false,.slice none 0 0,.bool false,.slice none 0 0]),8,128):=by kernel_rfl
theorem VI(W:World)(base ty g:Nat)(v:Value)(l:List (Rat×Rat))(p q:Rat){b1 b2 b3 b4:Bool}{A1 A2 A3 A4:Option Addr}{n1 n2 n3 n4 c1 c2 c3 c4:Nat}(h:Ep base 30 W v l)
  (hq:Kj W (.agg #[.bool b1,.slice A1 n1 c1,.bool b2,.slice A2 n2 c2,.bool b3,.slice A3 n3 c3,.bool b4,.slice A4 n4 c4]) p q) (hn:l.length<=1000000) (hb:base<=W.heap.size) (hg:g=W.heap.size) :
  ∃ v' w',(Builtin.append_ #[51,51] ty #[v,.slice (some ⟨g,0,none⟩) 1 1]).run Tryz.prog (W.alloc (.cells #[.bool b1,.slice A1 n1 c1,.bool b2,.slice A2 n2 c2,.bool b3,.slice A3 n3 c3,.bool b4,.slice A4 n4 c4] 30)) = .ok v' w' /\
   (Ep base 30 w' v' (l ++ [(p,q)])/\Cj (blk v) W w'/\∀ g∈blk v',g∈blk v\/W.heap.size<=g):=by
 subst hg;obtain⟨i0,hi,hz0,hz1,hz2⟩:=info_parts bL;have hB:=Be.new W 30 #[.bool b1,.slice A1 n1 c1,.bool b2,.slice A2 n2 c2,.bool b3,.slice A3 n3 c3,.bool b4,.slice A4 n4 c4] (by simp[Ag]);have hx:=(Ext.refl W).alloc (.cells #[.bool b1,.slice A1 n1 c1,.bool b2,.slice A2 n2 c2,.bool b3,.slice A3 n3 c3,.bool b4,.slice A4 n4 c4] 30);obtain⟨v',w',a,b,c,d⟩:=BH.append_at (P:=Tryz.prog) (x:=(p,q)) (Ep.ext h hx) 51 ty i0 _ 128 Tryz.underlying51 hi hz0 hz1 hz2 rfl (by simp[nodig,Ag,Value.cells]) Ab ⟨W.heap.size,0,none⟩ 1
  #[.bool b1,.slice A1 n1 c1,.bool b2,.slice A2 n2 c2,.bool b3,.slice A3 n3 c3,.bool b4,.slice A4 n4 c4] rfl (hq.ext hx) hB.news (by simp[Value.oneCell']) (by simp[nodig,Ag]) (by simp only[maxLen];omega) Aa (Nat.le_trans hb hx.size) (fun _ _ _ k hq=>Kj.kd hq k)
 refine⟨v',w',a,b,(Cj.of_ext hx).trans c,fun g hg=>?_⟩;rcases d g hg with q | q
 ·exact .inl q
 ·right;have:=hx.size;omega
set_option maxRecDepth 20000 in
theorem VT(a:World)(v:Value)(W:Nat->Rat)(P Q:Rat)(base S D M K N aP:Nat)(hv:NU base 23 a v W)(hC:FW W S D M)(hK:PG W (pd W) K)(hPQ:P < Q)(hP:qsz P<=aP)(hQ:qsz Q<=aP)
  (hdeep:∀ d p q,Hp.Node P Q d p q->N<=d->rc W p q<=1) (h0:∀ d p q,Hp.Node P Q d p q->0<=rc W p q) (ht:1+D*(M+(3*aP+N+4)+1)+M+(3*aP+N+4)+1<=100000000000) :
  ∀(n d:Nat) (p q:Rat) (u o:Value) (l:List (Rat×Rat)) (w:World),Hp.Node P Q d p q->N<=n+d->d<=N->Ext a w->V8 w u p q->Ep a.heap.size 30 w o l->l.length+(iso (rc W) n p q).length<=1000 ->
   Calls Tryz.prog 64 #[v,o,u] w (Tx a.heap.size 30 w o (l ++ iso (rc W) n p q)):=by
 intro nn;induction nn using Nat.strongRecOn with
 | _ nn ih =>
  intro d p q u o l w hn hN hd hx hu ho hl;obtain⟨hp,hq⟩:=hn.qsz hP hQ;have hin:∀ X (x:Ext w X) y z,BN X y p->BN X z q->Bj 51 #[v,y,z] X (fun r _=>r = .int .i64 (rc W p q)):=fun X x y z hy hz=>by
   have:=gM v y z W p q base S D M (3*aP+N+4) K X (hv.ext (hx.trans x)) hy hz hC hK Aa Aa Aa;have e:((V (Gp W (pd W) K) p:Nat):Int) - (V (Gp W (pd W) K) q:Nat)=rc W p q:=La hK p q;rw[e]at this;exact this
  obtain⟨A0,n0,c0,rfl⟩:=hv.cell;have hu':=hu;obtain⟨d1,A1,n1,c1,d2,A2,n2,c2,d3,A3,n3,c3,d4,A4,n4,c4,rfl,hu1,hu2⟩:=hu;obtain⟨Ao,co,rfl⟩:=ho.len;obtain⟨R,hR⟩:∃ R,R=rc W p q:=⟨_,rfl⟩
  have hR0:=h0 d p q hn;have hRd:=hdeep d p q hn;rw[<-hR]at hin hR0 hRd;have HC:=Ad (Au hin (Au hu1 (Au hu2 (Au hR (Au ho (Au hu' hx))))));clear hin hu1 hu2 hR ho hu' hx
  go_enter Tryz.func64,Tryz.ntmps64
  obtain⟨W1,eW1,ec,y1⟩:=Be.made w 92 #[.slice A0 n0 c0] (by simp[Ag]);obtain⟨W2,eW2,ea,y2⟩:=Be.made W1 30 #[.bool d1,.slice A1 n1 c1,.bool d2,.slice A2 n2 c2,.bool d3,.slice A3 n3 c3,.bool d4,.slice A4 n4 c4] (by simp[Ag]);have s1:W1.heap.size=w.heap.size+1:=by rw[eW1,World.size_alloc]
  rw[s1]at ea;have hx:=y1.trans y2;replace ec:=ec.ext y2
  go_upto_region 1 with(fail)
  rw[<-eW1,<-eW2];clear eW1 eW2 y1 y2 s1;obtain⟨cea0,cea1,cea2,cea3,cea4,cea5,cea6,cea7⟩:=ea.cells8;have fea:=ea.frozen;have cec0:=ec.cells1
  go_wp2_with fail
  refine AR (HC.out.1 _ hx _ _ (HC.out.2.1.ext hx) (HC.out.2.2.1.ext hx)) ?_;rintro r4 w4 rfl hx4;clear cea0 cea1 cea2 cea3 cea4 cea5 cea6 cea7 fea cec0;replace ea:=ea.ext hx4;replace ec:=ec.ext hx4;replace hx:=hx.trans hx4;clear hx4;have fin0:R=0->Tx a.heap.size 30 w (.slice Ao l.length co) (l ++ iso (rc W) nn p q) (.returned (.slice Ao l.length co)) w4:=fun h=>by
   rw[NJ (by rw[<-HC.out.2.2.2.1];exact h),List.append_nil];exact⟨_,rfl,HC.out.2.2.2.2.1.ext hx,Cj.of_ext hx,fun g hg => .inl hg⟩
  have H0:=Ad fin0;clear fin0;by_cases hz:R=0
  ·have hb:(R==0)=true:=by simpa using hz
   have HF:=Ad (H0.out hz);clear hz;go_wp2
   go_ret
   exact HF.out
  clear H0;have hb0:(R==0)=false:=by simpa using hz
  by_cases hone:R=1
  ·have hb1:(R==1)=true:=by simpa using hone
   have H1:=Ad hone;have hl9:l.length<=1000000:=by omega
   clear hone hz hl;have hsz4:=hx.size;have has:=HC.out.2.2.2.2.2.2.size;obtain⟨cea0,cea1,cea2,cea3,cea4,cea5,cea6,cea7⟩:=ea.cells8;have fea:=ea.frozen
   go_wp2_with fail
   refine AR (Xf _ _ p q _ (HC.out.2.1.ext hx) (HC.out.2.2.1.ext hx)) ?_;rintro r5 w5 hr5 hx5;have hx6:=hx.trans hx5;clear cea0 cea1 cea2 cea3 cea4 cea5 cea6 cea7 fea ea ec hx5 hx;obtain⟨e1,B1,m1,k1,e2,B2,m2,k2,e3,B3,m3,k3,e4,B4,m4,k4,rfl⟩:=hr5.cells;have H5:=Ad hr5;clear hr5;have hsz5:=hx6.size
   go_wp2_with (at_builtin;refine AO rfl _ _ 51 rfl (.slice Ao l.length co) (.slice (some ⟨w5.heap.size,0,none⟩) 1 1) rfl rfl (VI w5 a.heap.size _ _ _ l p q (HC.out.2.2.2.2.1.ext hx6) H5.out hl9 Aa rfl) ?_)
   intro v' w7 hown U hat;have HF:Tx a.heap.size 30 w (.slice Ao l.length co) (l ++ iso (rc W) nn p q) (.returned v') w7:=by
    rw[Ky (by rw[<-HC.out.2.2.2.1];exact H1.out)];exact⟨_,rfl,hown,(Cj.of_ext hx6).trans U,fun g hg=>(hat g hg).imp id fun q=>Aa⟩
   have HF:=Ad HF;clear hown U hat;go_wp2
   go_ret
   exact HF.out
  ·have hb1:(R==1)=false:=by simpa using hone
   have hR2:2<=R:=by omega
   have hdN:d < N:=by
    rcases Nat.lt_or_ge d N with q | q
    ·exact q
    ·have:=hRd q;omega
   obtain⟨n,rfl⟩:∃ n,nn=n+1:=⟨nn - 1,Aa⟩
   replace ih:=ih n Aa;obtain⟨m,hm⟩:∃ m,m=(p+q) / 2:=⟨_,rfl⟩
   have hiso:iso (rc W) (n+1) p q=iso (rc W) n p m ++ iso (rc W) n m q:=by
    rw[hm];exact Nl (by rw[<-HC.out.2.2.2.1];exact hz) (by rw[<-HC.out.2.2.2.1];exact hone)
   obtain⟨n1',n2'⟩:=hn.half;rw[<-hm]at n1' n2';obtain⟨hmq,-⟩:=n2'.qsz hP hQ;have hmid:∀ X (x:Ext w X),Bj 112 #[.agg #[.bool d1,.slice A1 n1 c1,.bool d2,.slice A2 n2 c2,.bool d3,.slice A3 n3 c3,.bool d4,.slice A4 n4 c4]] X (fun r w'=>BQ w' r m):=fun X x=>by
    have:=XC _ p q (3*aP+N+4) X (HC.out.2.2.2.2.2.1.ext x) Aa Aa Aa;rw[<-hm]at this;exact this
   have HM:=Ad (Au hmid (Au hiso (Au n1' (Au n2' (show qsz m<=274877906944 by omega)))));clear hmid hiso n1' n2' hmq hm;have HL:=Ad hl;clear hR0 hRd hz hone hl hp hq hn hR2;obtain⟨cea0,cea1,cea2,cea3,cea4,cea5,cea6,cea7⟩:=ea.cells8;have fea:=ea.frozen
   go_wp2_with fail
   refine AR (HM.out.1 _ hx) ?_;rintro r5 w5 hr5 hx5;obtain⟨e1,B1,m1,k1,e2,B2,m2,k2,rfl⟩:=hr5.cells;clear cea0 cea1 cea2 cea3 cea4 cea5 cea6 cea7 fea;replace ea:=ea.ext hx5;replace ec:=ec.ext hx5;replace hx:=hx.trans hx5;clear hx5;obtain⟨W6,eW6,em,y6⟩:=Be.made w5 28 #[.bool e1,.slice B1 m1 k1,.bool e2,.slice B2 m2 k2] (by simp[Ag]);have hmm:=(hr5.ext y6).has HM.out.2.2.2.2;have hgm:=ea.lt;replace ea:=ea.ext y6
   replace ec:=ec.ext y6;replace hx:=hx.trans y6;clear y6
   go_upto_region 7 with(fail)
   rw[<-eW6];clear eW6 hr5;generalize w5.heap.size=gm at *;have HX:=Ad (Au hmm hx);clear hmm;have hos:∀ g∈blk (.slice Ao l.length co),g < w.heap.size:=fun g hg=>(BH.blk_ge HC.out.2.2.2.2.1 g hg).2;have HO:=Ad hos;clear hos;have hsz6:=hx.size;have ha6:=HC.out.2.2.2.2.2.2.size;have hlen:(iso (rc W) n p m).length+(iso (rc W) n m q).length+l.length<=1000:=by
    have h1:=HL.out;rw[HM.out.2.1,List.length_append]at h1;omega
   have HLn:=Ad hlen;clear hlen;have hcall1:∀ X,Ext W6 X->Calls Tryz.prog 64 #[.agg #[.slice A0 n0 c0],.slice Ao l.length co,.agg #[.bool d1,.slice A1 n1 c1,.bool d2,.slice A2 n2 c2,.bool e1,.slice B1 m1 k1,.bool e2,.slice B2 m2 k2]] X
     (Tx a.heap.size 30 X (.slice Ao l.length co) (l ++ iso (rc W) n p m)):=fun X x =>
    ih (d+1) p m _ _ l X HM.out.2.2.1 Aa Aa (HC.out.2.2.2.2.2.2.trans (HX.out.2.trans x)) ⟨_,_,_,_,_,_,_,_,_,_,_,_,_,_,_,_,rfl,HC.out.2.1.ext (HX.out.2.trans x),HX.out.1.ext x⟩ (HC.out.2.2.2.2.1.ext (HX.out.2.trans x)) (by have:=HLn.out;omega)
   have hcall2:∀ X r,KD W6 X->Ext a X->Ep a.heap.size 30 X r (l ++ iso (rc W) n p m)->Calls Tryz.prog 64 #[.agg #[.slice A0 n0 c0],r,.agg #[.bool e1,.slice B1 m1 k1,.bool e2,.slice B2 m2 k2,.bool d3,.slice A3 n3 c3,.bool d4,.slice A4 n4 c4]] X
     (Tx a.heap.size 30 X r (l ++ iso (rc W) n p m ++ iso (rc W) n m q)):=fun X r k x hr =>
    ih (d+1) m q _ _ _ X HM.out.2.2.2.1 Aa Aa x ⟨_,_,_,_,_,_,_,_,_,_,_,_,_,_,_,_,rfl,HX.out.1.kd k,(HC.out.2.2.1.ext HX.out.2).kd k⟩ hr (by have:=HLn.out;rw[List.length_append];omega)
   have HK:=Ad (Au hcall1 hcall2);clear hcall1 hcall2;obtain⟨cea0,cea1,cea2,cea3,cea4,cea5,cea6,cea7⟩:=ea.cells8;have fea:=ea.frozen;obtain⟨cem0,cem1,cem2,cem3⟩:=em.cells4;have fem:=em.frozen;have cec0:=ec.cells1;have hkeep:∀(G:List Nat) (X Y:World),Cj G X Y->(∀ g∈G,g < w.heap.size\/W6.heap.size<=g)->(X.cell? ⟨w.heap.size+1,0,none⟩=some (.bool d1)/\X.cell? ⟨w.heap.size+1,1,none⟩=some (.slice A1 n1 c1)/\X.cell? ⟨w.heap.size+1,2,none⟩=some (.bool d2)/\X.cell? ⟨w.heap.size+1,3,none⟩=some (.slice A2 n2 c2)/\X.cell? ⟨w.heap.size+1,4,none⟩=some (.bool d3)/\X.cell? ⟨w.heap.size+1,5,none⟩=some (.slice A3 n3 c3)/\X.cell? ⟨w.heap.size+1,6,none⟩=some (.bool d4)/\X.cell? ⟨w.heap.size+1,7,none⟩=some (.slice A4 n4 c4)/\X.cell? ⟨gm,0,none⟩=some (.bool e1)/\X.cell? ⟨gm,1,none⟩=some (.slice B1 m1 k1)/\X.cell? ⟨gm,2,none⟩=some (.bool e2)/\X.cell? ⟨gm,3,none⟩=some (.slice B2 m2 k2)/\X.cell? ⟨w.heap.size,0,none⟩=some (.slice A0 n0 c0))->(Y.cell? ⟨w.heap.size+1,0,none⟩=some (.bool d1)/\Y.cell? ⟨w.heap.size+1,1,none⟩=some (.slice A1 n1 c1)/\Y.cell? ⟨w.heap.size+1,2,none⟩=some (.bool d2)/\Y.cell? ⟨w.heap.size+1,3,none⟩=some (.slice A2 n2 c2)/\Y.cell? ⟨w.heap.size+1,4,none⟩=some (.bool d3)/\Y.cell? ⟨w.heap.size+1,5,none⟩=some (.slice A3 n3 c3)/\Y.cell? ⟨w.heap.size+1,6,none⟩=some (.bool d4)/\Y.cell? ⟨w.heap.size+1,7,none⟩=some (.slice A4 n4 c4)/\Y.cell? ⟨gm,0,none⟩=some (.bool e1)/\Y.cell? ⟨gm,1,none⟩=some (.slice B1 m1 k1)/\Y.cell? ⟨gm,2,none⟩=some (.bool e2)/\Y.cell? ⟨gm,3,none⟩=some (.slice B2 m2 k2)/\Y.cell? ⟨w.heap.size,0,none⟩=some (.slice A0 n0 c0)):=fun G X Y U hG ⟨a0,a1,a2,a3,a4,a5,a6,a7,b0,b1,b2,b3,c0⟩=>by
    have gl1:=ea.lt;have gl2:=em.lt;have gl3:=ec.lt;have q:∀ g i x,(w.heap.size<=g/\g < W6.heap.size)->X.cell? ⟨g,i,none⟩=some x->Y.cell? ⟨g,i,none⟩=some x:=fun g i x hg hc=>VG U (fun hm=>by rcases hG g hm with z | z<;>omega) hc;exact⟨q _ _ _ Aa a0,q _ _ _ Aa a1,q _ _ _ Aa a2,q _ _ _ Aa a3,q _ _ _ Aa a4,q _ _ _ Aa a5,q _ _ _ Aa a6,q _ _ _ Aa a7,q _ _ _ Aa b0,q _ _ _ Aa b1,q _ _ _ Aa b2,q _ _ _ Aa b3,q _ _ _ Aa c0⟩
   have HE:=Ad hkeep;clear hkeep;have hS0:W6.cell? ⟨w.heap.size+1,0,none⟩=some (.bool d1)/\W6.cell? ⟨w.heap.size+1,1,none⟩=some (.slice A1 n1 c1)/\W6.cell? ⟨w.heap.size+1,2,none⟩=some (.bool d2)/\W6.cell? ⟨w.heap.size+1,3,none⟩=some (.slice A2 n2 c2)/\W6.cell? ⟨w.heap.size+1,4,none⟩=some (.bool d3)/\W6.cell? ⟨w.heap.size+1,5,none⟩=some (.slice A3 n3 c3)/\W6.cell? ⟨w.heap.size+1,6,none⟩=some (.bool d4)/\W6.cell? ⟨w.heap.size+1,7,none⟩=some (.slice A4 n4 c4)/\W6.cell? ⟨gm,0,none⟩=some (.bool e1)/\W6.cell? ⟨gm,1,none⟩=some (.slice B1 m1 k1)/\W6.cell? ⟨gm,2,none⟩=some (.bool e2)/\W6.cell? ⟨gm,3,none⟩=some (.slice B2 m2 k2)/\W6.cell? ⟨w.heap.size,0,none⟩=some (.slice A0 n0 c0):=⟨cea0,cea1,cea2,cea3,cea4,cea5,cea6,cea7,cem0,cem1,cem2,cem3,cec0⟩
   have hS1:W6.drew.cell? ⟨w.heap.size+1,0,none⟩=some (.bool d1)/\W6.drew.cell? ⟨w.heap.size+1,1,none⟩=some (.slice A1 n1 c1)/\W6.drew.cell? ⟨w.heap.size+1,2,none⟩=some (.bool d2)/\W6.drew.cell? ⟨w.heap.size+1,3,none⟩=some (.slice A2 n2 c2)/\W6.drew.cell? ⟨w.heap.size+1,4,none⟩=some (.bool d3)/\W6.drew.cell? ⟨w.heap.size+1,5,none⟩=some (.slice A3 n3 c3)/\W6.drew.cell? ⟨w.heap.size+1,6,none⟩=some (.bool d4)/\W6.drew.cell? ⟨w.heap.size+1,7,none⟩=some (.slice A4 n4 c4)/\W6.drew.cell? ⟨gm,0,none⟩=some (.bool e1)/\W6.drew.cell? ⟨gm,1,none⟩=some (.slice B1 m1 k1)/\W6.drew.cell? ⟨gm,2,none⟩=some (.bool e2)/\W6.drew.cell? ⟨gm,3,none⟩=some (.slice B2 m2 k2)/\W6.drew.cell? ⟨w.heap.size,0,none⟩=some (.slice A0 n0 c0):=HE.out [] W6 W6.drew (Cj.of_ext (Ext.refl W6).drew) (fun g hg=>by cases hg) hS0
   clear hS0 cea0 cea1 cea2 cea3 cea4 cea5 cea6 cea7 cem0 cem1 cem2 cem3 cec0 fea fem;clear ih hC hK hPQ hP hQ hdeep h0 ht hN hd hdN hv
   go_region_held3 (fun w'=>w'.cell? ⟨w.heap.size+1,0,none⟩=some (.bool d1)/\w'.cell? ⟨w.heap.size+1,1,none⟩=some (.slice A1 n1 c1)/\w'.cell? ⟨w.heap.size+1,2,none⟩=some (.bool d2)/\w'.cell? ⟨w.heap.size+1,3,none⟩=some (.slice A2 n2 c2)/\w'.cell? ⟨w.heap.size+1,4,none⟩=some (.bool d3)/\w'.cell? ⟨w.heap.size+1,5,none⟩=some (.slice A3 n3 c3)/\w'.cell? ⟨w.heap.size+1,6,none⟩=some (.bool d4)/\w'.cell? ⟨w.heap.size+1,7,none⟩=some (.slice A4 n4 c4)/\w'.cell? ⟨gm,0,none⟩=some (.bool e1)/\w'.cell? ⟨gm,1,none⟩=some (.slice B1 m1 k1)/\w'.cell? ⟨gm,2,none⟩=some (.bool e2)/\w'.cell? ⟨gm,3,none⟩=some (.slice B2 m2 k2)/\w'.cell? ⟨w.heap.size,0,none⟩=some (.slice A0 n0 c0))
    (first | (exact HE.out _ _ _ U2 hG2 (by assumption)) | (exact HE.out _ _ _ U1 hG1 (by assumption)) | (exact hS1))
    ((first
     | (have hU1:=U1;clear hU1;go_at_call 64;refine Calls.mono (HK.out.2 _ _ (((KD.refl W6).drew).trans U1.kd) (U1.from_ (HC.out.2.2.2.2.2.2.trans hx).drew fun g hg=>(BH.blk_ge HC.out.2.2.2.2.1 g hg).1) hown1) ?_;rintro e w2 ⟨r2,rfl,hown2,U2,hat2⟩;have hG2:∀ g∈blk r1,g < w.heap.size\/W6.heap.size<=g:=fun g hg=>(hat1 g hg).imp (HO.out g) id)
     | (go_at_call 64;refine Calls.mono (HK.out.1 W6.drew (Ext.refl W6).drew) ?_;rintro e w1 ⟨r1,rfl,hown1,U1,hat1⟩;have hG1:∀ g∈blk (.slice Ao l.length co),g < w.heap.size\/W6.heap.size<=g:=fun g hg=>Or.inl (HO.out g hg))))
   have hgm1:w1.heap.size > gm:=by
    have hne:gm∉blk (.slice Ao l.length co):=fun hm=>by have:=HO.out _ hm;omega
    exact(Array.getElem?_eq_some_iff.1 (U1.1 gm _ hne em.1)).1
   have UA:Cj (blk (.slice Ao l.length co)) w w1:=(Cj.of_ext hx.drew).trans U1;have HF:Tx a.heap.size 30 w (.slice Ao l.length co) (l ++ iso (rc W) (n+1) p q) (.returned r2) w2:=by
    rw[HM.out.2.1,<-List.append_assoc];refine⟨r2,rfl,hown2,UA.new_trans U2 fun g hg=>(hat1 g hg).imp id fun z=>Nat.le_trans hsz6 z,fun g hg=>?_⟩;rcases hat2 g hg with z | z
    ·exact(hat1 g z).imp id fun z=>Nat.le_trans hsz6 z
    ·right;omega
   have HFF:=Ad HF;clear HF UA hown1 hown2 U1 U2 hat1 hat2 hG1 hG2;go_wp2
   go_ret
   exact HFF.out
set_option maxRecDepth 20000 in
theorem aV(v:Value)(q:Rat)(w:World)(hv:BN w v q)(hs:qsz q<=274877906944):Bj 121 #[v] w (fun r w'=>BQ w' r (ab q)):=by
 have HV:=Ad hv;obtain⟨b,B,m1,e1,b',B',m1',e1',x0,y0,rfl,-⟩:=hv.form;clear hv;have hsn:sz q.num.natAbs<=274877906944:=by have:=FK q;omega
 have HS:=Ad hsn;clear hs hsn
 go_enter Tryz.func121,Tryz.ntmps121
 obtain⟨W1,eW1,ea,y1⟩:=Be.made w 28 #[.bool b,.slice B m1 e1,.bool b',.slice B' m1' e1'] (by simp[Ag]);obtain⟨W2,eW2,ez,y2⟩:=Be.made W1 28 #[.bool false,.slice none 0 0,.bool false,.slice none 0 0] (by simp[Ag]);have s1:W1.heap.size=w.heap.size+1:=by rw[eW1,World.size_alloc]
 rw[s1]at ez;have hx:=y1.trans y2;replace ea:=ea.ext y2
 go_upto_region 1 with(fail)
 rw[<-eW1,<-eW2];clear eW1 eW2 y1 y2 s1;have cea:=ea.cells4;have fea:=ea.frozen
 go_wp2_with fail
 refine AR (GL _ q _ (HV.out.ext hx)) ?_;rintro r3 w3 hr3 hx3;obtain⟨b5,A5,n5,c5,b6,A6,n6,c6,rfl⟩:=hr3.cells;clear cea fea;replace ea:=ea.ext hx3;replace ez:=ez.ext hx3;replace hx:=hx.trans hx3;clear hx3;have cea:=ea.cells4;have fea:=ea.frozen
 go_upto_region 2 with(fail)
 obtain⟨W4,eW,ea',U⟩:=ea.put4 (.bool b5) (.slice A5 n5 c5) (.bool b6) (.slice A6 n6 c6);rw[<-eW];clear eW ea;replace hr3:=hr3.kd U.kd;replace ez:=ez.upd U Ak;replace hx:=U.from_ hx Ak;have ea:=ea';clear U ea';have hnd:AC W4 (.agg #[.bool b5,.slice A5 n5 c5]) q.num/\AC W4 (.agg #[.bool b6,.slice A6 n6 c6]) (q.den:Nat):=by
  obtain⟨_,_,_,_,_,_,_,_,e,h1,h2⟩:=hr3;cases e;exact⟨h1,h2⟩
 have HN:=Ad hnd;clear hnd hr3;clear cea fea;have cea:=ea.cells4;have fea:=ea.frozen
 go_wp2_with fail
 refine AR (jD _ q.num _ (HN.out.1.has (by have:=HS.out;omega))) ?_;rintro r5 w5 hr5 hx5;obtain⟨b7,A7,n7,c7,rfl⟩:=hr5.cells;have HD:=Ad (Au hr5 (HN.out.2.ext hx5));clear cea fea HN hr5;replace ea:=ea.ext hx5;replace ez:=ez.ext hx5;replace hx:=hx.trans hx5;clear hx5;have cea:=ea.cells4;have fea:=ea.frozen
 go_upto_region 3 with(fail)
 obtain⟨W6,eW6,ea',U⟩:=ea.put42 (.bool b7) (.slice A7 n7 c7) rfl rfl;rw[<-eW6];have HE:=Ad (Au (HD.out.1.kd U.kd) (HD.out.2.kd U.kd));replace ez:=ez.upd U Ac;replace hx:=U.from_ hx Ac;clear eW6 ea cea fea HD U;have ea:=ea';clear ea';have cea:=ea.cells4;have fea:=ea.frozen;have cez:=ez.cells4;have fez:=ez.frozen;have hq:BQ W6 (.agg #[.bool b7,.slice A7 n7 c7,.bool b6,.slice A6 n6 c6]) (ab q):=by
  obtain⟨h1,h2⟩:=gZ q;exact⟨_,_,_,_,_,_,_,_,rfl,by rw[h1];exact HE.out.1,by rw[h2];exact HE.out.2⟩
 have Hq:=Ad hq;clear hq HE;go_wp2;have hr:=Hq.out;obtain⟨W8,eW,ez',U⟩:=ez.put4 (.bool b7) (.slice A7 n7 c7) (.bool b6) (.slice A6 n6 c6);rw[<-eW];clear eW ez;replace hr:=hr.kd U.kd;replace hx:=U.from_ hx Ak;have ez:=ez';clear U ez';clear cez fez;have cez:=ez.cells4;have fez:=ez.frozen;refine bodyPost_ret (v := .agg #[.bool b7,.slice A7 n7 c7,.bool b6,.slice A6 n6 c6]) (by simp[results,Tryz.results121,go_sem,cez]) rfl ?_
 exact Ah.mk hr hx
set_option maxRecDepth 20000 in
theorem Zm(v:Value)(F:Nat->Rat)(s:Nat)(w:World)(hv:AY 0 w v F)(zF:ZI F)(fF:Ae F)(h0:F≠pz)(hs:∀ i,qsz (F i)<=s)(hs9:s<=1000000)(hn:pl F<=1000) :
  Bj 67 #[v] w (fun r w'=>∃ j,P2 (GN F (pl F - 1)+1) j/\AC w' r (2^j)):=by
 have hp:=AQ fF h0;obtain⟨A,c,l,rfl,k1,k2,hA,k3,k4,k5⟩:=hv.form;have HA:=Ad (Au hA (Au k3 k5));clear hA k3 k4 k5 hv
 go_enter Tryz.func67,Tryz.ntmps67
 obtain⟨W1,eW1,ez,y1⟩:=Be.made w 26 #[.bool false,.slice none 0 0] (by simp[Ag])
 go_upto_region 1 with(fail)
 rw[<-eW1];clear eW1;have hx:=y1
 go_wp2_with fail
 refine AR (WW 1 _ Aa Aa) ?_;rintro r2 w2 hr2 hx2;obtain⟨b5,A5,n5,c5,b6,A6,n6,c6,rfl⟩:=hr2.cells;replace ez:=ez.ext hx2;replace hx:=hx.trans hx2;clear hx2;obtain⟨W3,eW3,el,y3⟩:=Be.made w2 28 #[.bool b5,.slice A5 n5 c5,.bool b6,.slice A6 n6 c6] (by simp[Ag]);have hl:=Ea.mk el (hr2.ext y3);have hgl:=ez.lt;replace ez:=ez.ext y3;replace hx:=hx.trans y3;clear y3;clear hr2 el
 go_upto_region 2 with(fail)
 rw[<-eW3];clear eW3;generalize w2.heap.size=gl at *;have hld:ld F=(l[pl F - 1]'(by have:=HA.out.2.1;omega):Rat):=by rw[<-Cb,HA.out.2.2];rfl
 have hls:=hs (pl F - 1);obtain⟨g,o,b,A2,n2,c2,rfl,h64,q0,q1,hq⟩:=HA.out.1.at_ (j:=pl F - 1) (by have:=HA.out.2.1;omega);have hqh:Bh w (.agg #[.bool b,.slice A2 n2 c2]) (l[pl F - 1]'(by have:=HA.out.2.1;omega)):=hq.has (by
  have h1:F (pl F - 1)=(l[pl F - 1]'(by have:=HA.out.2.1;omega):Rat):=hld;rw[h1,Bz]at hls;omega)
 have hqq:qsz ((l[pl F - 1]'(by have:=HA.out.2.1;omega):Rat))<=274877906944:=by
  have h1:F (pl F - 1)=(l[pl F - 1]'(by have:=HA.out.2.1;omega):Rat):=hld;rw[h1]at hls;omega
 obtain⟨y,hy⟩:∃ y,y=(l[pl F - 1]'(by have:=HA.out.2.1;omega)):=⟨_,rfl⟩
 rw[<-hy]at hld hqh hqq;have HQ:=Ad (Au hqh (Au hqq hld));clear hqh hqq hld hy hq hls;replace q0:=hx.cell q0;replace q1:=hx.cell q1
 go_wp2_with fail
 refine AR (GY _ y _ (HQ.out.1.ext hx)) ?_;rintro r4 w4 hr4 hx4;clear q0 q1;replace ez:=ez.ext hx4;replace hl:=hl.ext hx4;replace hx:=hx.trans hx4;clear hx4
 go_wp2_with fail
 refine AR (aV _ _ _ (hr4.has HQ.out.2.1) HQ.out.2.1) ?_;rintro r5 w5 hr5 hx5;obtain⟨b7,A7,n7,c7,b8,A8,n8,c8,rfl⟩:=hr5.cells;replace ez:=ez.ext hx5;replace hl:=hl.ext hx5;replace hx:=hx.trans hx5;clear hx5;obtain⟨W6,eW6,ed,y6⟩:=Be.made w5 28 #[.bool b7,.slice A7 n7 c7,.bool b8,.slice A8 n8 c8] (by simp[Ag]);have hd:=Ea.mk ed (hr5.ext y6);rw[<-HQ.out.2.2]at hd;have hgd:=hl.lt;replace ez:=ez.ext y6;replace hl:=hl.ext y6
 replace hx:=hx.trans y6;clear y6;clear hr4 hr5 ed
 go_upto_region 3 with(fail)
 rw[<-eW6];clear eW6;generalize w5.heap.size=gd at *;obtain⟨N,hN⟩:∃ N,pl F=N+1:=⟨pl F - 1,Aa⟩
 have e1:GN F 0+1=((1:Int):Rat):=by show(0:Rat)+1=1;grind
 rw[<-e1]at hl;have HN:=Ad hN;rw[hN]at hn k1 ⊢;rw[Nat.add_sub_cancel,show(((N+1:Nat):Int))=(N:Int)+1 from Aa,show((N:Int)+1 - 1)=(N:Int)from by omega];clear hN hp e1;go_wp2
 go_loopw [25] (fun iv wr=>∃ i:Nat,i<=N/\iv = .int .i64 (i:Nat)/\Ea wr gl 28 (GN F i+1)/\Ea wr gd 28 (ab (ld F))/\Be wr w.heap.size 26 #[.bool false,.slice none 0 0]/\Ext w wr) (fun iv _=>N - (intOf iv).toNat)
 case atStart=>exact⟨0,Aa,rfl,hl,hd,ez,hx⟩
 case round =>
  clear hl hd ez hx;obtain⟨i,hi,rfl,hl,hd,ez,hx⟩:=hrel;by_cases hiN:i < N
  ·have hls:=hs i
   have hlt:i < l.length:=by have:=HA.out.2.1;have:=HN.out;omega
   have hli:F i=(l[i]:Rat):=by rw[<-Cb hlt,HA.out.2.2]
   obtain⟨g',o',b3,A3,n3,c3,e3,-,q0,q1,hq⟩:=HA.out.1.at_ hlt;cases e3;have hqh:Bh w (.agg #[.bool b3,.slice A3 n3 c3]) l[i]:=hq.has (by rw[hli,Bz]at hls;omega);have hqq:qsz (l[i]:Rat)<=s:=by rw[hli]at hls;exact hls
   obtain⟨yi,hy⟩:∃ y,y=l[i]:=⟨_,rfl⟩
   rw[<-hy]at hli hqh hqq;have HI:=Ad (Au hqh (Au hqq hli));clear hqh hqq hli hy hq hls hlt;replace q0:=hx.cell q0;replace q1:=hx.cell q1;obtain⟨W7,eW7,e6,y7⟩:=Be.made wr 26 #[.bool b3,.slice A3 n3 c3] (by simp[Ag])
   go_upto_region 6 with(fail)
   rw[<-eW7];clear eW7 q0 q1;have hg6:=ez.lt;replace ez:=ez.ext y7;replace hl:=hl.ext y7;replace hd:=hd.ext y7;replace hx:=hx.trans y7;clear y7;generalize wr.heap.size=g6 at *;have HDq:=Ad hd;obtain⟨b9,A9,n9,c9,b10,A10,n10,c10,ed,hdq⟩:=hd;have hqa:qsz (ab (ld F))<=274877906944:=by rw[NM];have:qsz (ld F)<=s:=hs _;omega
   have hqi:qsz (ab (yi:Rat))<=274877906944:=by rw[NM];have:=HI.out.2.1;omega
   have hne:ab (ld F)≠0:=fun e=>CW fF h0 (TR.1 e);have HB:=Ad (Au (hdq.has hqa) (Au hqi hne));clear hqa hqi hne;have hgd2:=ed.lt;have ce6:=e6.cells2;have fe6:=e6.frozen;have ced:=ed.cells4;have fed:=ed.frozen
   go_cut [7,8] (fun pv ev wx=>∃ gc,pv = .pointer (some ⟨gc,0,none⟩)/\ev = .int .i64 0/\Ea wx gc 28 (ab (yi:Rat) / ab (ld F))/\W7.heap.size<=gc/\Ext W7 wx)
   case first =>
    refine Bu 9 [7] (fun x=>10) [30,31,32,33,34,29,35,36,7] [[],[0],[0,1],[],[0,1,2,3],[0,1,2,3,4],[0,1,2,3,4,5],[0,1,2,3,4,5],[],[0,1,2,3,4,5,6,8],[0,1,2,3,4,5,6,7,8,9]] [6,4] [_,_] [(kv ?_),(fun γ=>γ 1),(fun γ=>γ 2),(kv ?_),(fun γ=>γ 4),(fun γ=>γ 4),(fun γ=>γ 6),(kv ?_),(fun γ=>γ 8)] (fun γ w'=>[True,BQ w' (γ 1) (yi:Rat),BQ w' (γ 2) (ab (yi:Rat)),True,JL w' (γ 4) (ab (yi:Rat) / ab (ld F)),True,BQ w' (γ 6) (ab (yi:Rat) / ab (ld F)),True,Bc w' (γ 8) W7.heap.size #[.bool false,.slice none 0 0,.bool false,.slice none 0 0] 28]) Kg BU BU BU BU BU Nb BU Kw ?m1 ?s1 ?_ ?l1
    case s1 =>
     iterate 9 refine⟨?_,?_⟩
     trivial
     iterate 1 focus
      refine Ba fun _ w' he R hR=>?_;have hc:=he.cells;have cq0:=(e6.ext he).cells2;have cq1:=(ed.ext he).cells4;go_simp;exact Bi hR
     ·refine Ba fun _ w' he R hR=>?_
      go_simp;exact Bg (GY _ yi w' (HI.out.1.ext (hx.trans he))) hR
     ·refine FO fun γ w' he hf R hR=>?_;have f1:BQ w' (γ 1) (yi:Rat):=hf 1 Ab;clear hf
      go_simp;exact Bg (aV _ _ w' (f1.has (by have:=HI.out.2.1;omega)) (by have:=HI.out.2.1;omega)) hR
     iterate 1 focus
      refine Ba fun _ w' he R hR=>?_;have hc:=he.cells;have cq0:=(e6.ext he).cells2;have cq1:=(ed.ext he).cells4;go_simp;exact Bi hR
     ·refine FO fun γ w' he hf R hR=>?_;have f2:BQ w' (γ 2) (ab (yi:Rat)):=hf 2 Ab;clear hf
      go_simp;exact Bg (Wp _ _ _ _ w' (f2.has HB.out.2.1) (HB.out.1.ext he) HB.out.2.2) hR
     ·refine Ba fun _ w' he R hR=>?_
      have hc:=he.cells;go_simp
      (try go_ints);(try(rw[if_neg Aa]));(try(rw[if_pos Aa]));(try go_simp);(try go_ints)
      exact Bi hR
     ·refine FO fun γ w' he hf R hR=>?_;have f4:JL w' (γ 4) (ab (yi:Rat) / ab (ld F)):=hf 4 Ab;clear hf
      obtain⟨a,e,ha⟩:=f4;go_simp;exact hR _ _ (Ext.refl _) rfl ha
     ·refine FO fun γ w' he hf R hR=>?_;have f4:JL w' (γ 4) (ab (yi:Rat) / ab (ld F)):=hf 4 Ab;clear hf
      obtain⟨a,e,ha⟩:=f4;have hc:=he.cells;go_simp
      (try go_ints);(try(rw[if_neg Aa]));(try(rw[if_pos Aa]));(try go_simp);(try go_ints)
      exact Bi hR
     ·refine Ba fun _ w' he R hR=>?_
      go_simp;exact hR _ _ ((Ext.refl _).alloc _) rfl (Bc.mk (Nat.le_trans Ac he.size) (by simp[Ag]))
    case m1 =>
     exact⟨⟨⟨⟨⟨⟨⟨⟨⟨trivial,(fun γ wA w' e h=>h)⟩,(fun γ wA w' e h=>(show BQ wA (γ 1) (yi:Rat)from h).ext e)⟩,(fun γ wA w' e h=>(show BQ wA (γ 2) (ab (yi:Rat))from h).ext e)⟩,(fun γ wA w' e h=>h)⟩,(fun γ wA w' e h=>(show JL wA (γ 4) (ab (yi:Rat) / ab (ld F))from h).ext e)⟩,(fun γ wA w' e h=>h)⟩,(fun γ w w' e h=>BQ.ext h e)⟩,(fun γ wA w' e h=>h)⟩,(fun γ wA w' e h=>(show Bc wA (γ 8) W7.heap.size #[.bool false,.slice none 0 0,.bool false,.slice none 0 0] 28 from h).ext e)⟩
    case l1 =>
     intro Pn hPs hPn;obtain rfl:=Ii hPs hPn;clear hPs hPn
     ·intro γ w8 hx8 hF hA
      clear hA;have p1:BQ w8 (γ 1) (yi:Rat):=(Av.get hF 1 Ab).resolve_left Ab;have p2:BQ w8 (γ 2) (ab (yi:Rat)):=(Av.get hF 2 Ab).resolve_left Ab;have p4:JL w8 (γ 4) (ab (yi:Rat) / ab (ld F)):=(Av.get hF 4 Ab).resolve_left Ab;have p6:BQ w8 (γ 6) (ab (yi:Rat) / ab (ld F)):=(Av.get hF 6 Ab).resolve_left Ab;have p8:Bc w8 (γ 8) W7.heap.size #[.bool false,.slice none 0 0,.bool false,.slice none 0 0] 28:=(Av.get hF 8 Ab).resolve_left Ab
      clear hF;show AP _ _ _ _ 3 [7] 9 _ _;simp only[Bd,Nat.reduceAdd,Co,Vn];generalize γ 1=g1 at *;generalize γ 2=g2 at *;generalize γ 4=g4 at *;generalize γ 6=g6 at *;generalize γ 8=g8 at *;clear γ;obtain⟨a4,rfl,-⟩:=p4;obtain⟨gc,rfl,hgc,ec⟩:=p8;obtain⟨bx,Ax,nx',cx,by',Ay,ny,cy,rfl⟩:=p6.cells;clear ce6 ced p1 p2;have cec:=ec.cells4;have fec:=ec.frozen
      repeat' first
       | (refine AP.nil ?_;simp only[GM];go_wp2;done)
       | (refine AP.nil ?_;(try simp only[GM]);go_wp2)
       | (refine AP.mk _ ⟨?_,trivial⟩ (fun h=>?_)<;>first | exact absurd h Ab | ((try clear h);simp only[CX,GM];go_wp2;first | show AP _ _ _ _ _ [7] _ _ _ | show AP _ _ _ _ _ [] _ _ _))
      all_goals
       skip;obtain⟨W9,eW,ec',U⟩:=ec.put4 (.bool bx) (.slice Ax nx' cx) (.bool by') (.slice Ay ny cy);rw[<-eW];clear eW ec;replace p6:=p6.kd U.kd;replace hx8:=U.from_ hx8 Ak;have ec:=ec';clear U ec'
       go_meet
       case rel=>exact⟨gc,rfl,rfl,Ea.mk ec p6,hgc,hx8⟩
    intro γ w8 hx8 hF hA;clear hA;have p1:BQ w8 (γ 1) (yi:Rat):=Av.get hF 1 Ab;have p2:BQ w8 (γ 2) (ab (yi:Rat)):=Av.get hF 2 Ab;have p4:JL w8 (γ 4) (ab (yi:Rat) / ab (ld F)):=Av.get hF 4 Ab;have p6:BQ w8 (γ 6) (ab (yi:Rat) / ab (ld F)):=Av.get hF 6 Ab;have p8:Bc w8 (γ 8) W7.heap.size #[.bool false,.slice none 0 0,.bool false,.slice none 0 0] 28:=Av.get hF 8 Ab;clear hF;simp only[Bd,Nat.reduceAdd]
    generalize γ 1=g1 at *;generalize γ 2=g2 at *;generalize γ 4=g4 at *;generalize γ 6=g6 at *;generalize γ 8=g8 at *;clear γ;obtain⟨a4,rfl,-⟩:=p4;obtain⟨gc,rfl,hgc,ec⟩:=p8;obtain⟨bx,Ax,nx',cx,by',Ay,ny,cy,rfl⟩:=p6.cells;clear ce6 ced p1 p2;have cec:=ec.cells4;have fec:=ec.frozen;go_wp2;skip;obtain⟨W9,eW,ec',U⟩:=ec.put4 (.bool bx) (.slice Ax nx' cx) (.bool by') (.slice Ay ny cy);rw[<-eW];clear eW ec
    replace p6:=p6.kd U.kd;replace hx8:=U.from_ hx8 Ak;have ec:=ec';clear U ec'
    go_meet
    case rel=>exact⟨gc,rfl,rfl,Ea.mk ec p6,hgc,hx8⟩
   case rest =>
   clear ce6 ced fe6 fed e6 ed hdq;obtain⟨gc,rfl,rfl,hcq,hgc,hx8⟩:=hcut;have hd:Ea W7 gd 28 (ab (ld F)):=HDq.out;have hgl7:=hl.lt;have hgd7:=hd.lt;have hez7:=ez.lt;replace ez:=ez.ext hx8;replace hl:=hl.ext hx8;replace hd:=hd.ext hx8;replace hx:=hx.trans hx8;clear hx8;obtain⟨bx,Ax,nx',cx,by',Ay,ny,cy,ec,hcz⟩:=hcq;have hqq:qsz (ab (yi:Rat) / ab (ld F))<=4*s+4:=by
    have h1:=Jc (ab (yi:Rat)) (ab (ld F));have h2:qsz (ld F)<=s:=hs _;rw[NM,NM]at h1;have:=HI.out.2.1;omega
   have HZ:=Ad (Au (hcz.has Aa) hqq);clear hcz hqq;have cec:=ec.cells4;have fec:=ec.frozen
   go_upto_region 7 with(fail)
   refine CV 2 [37,38] [7] [_] [(kv ?_),(fun γ=>γ 1)] (fun γ w'=>[True,BQ w' (γ 1) ((1:Int):Rat)]) ?s2 ?_
   case s2 =>
    iterate 2 refine⟨?_,?_⟩
    trivial
    iterate 1 focus
     refine Ba fun _ w' he R hR=>?_;have hc:=he.cells;have cq0:=(ec.ext he).cells4;go_simp;exact Bi hR
    ·refine Ba fun _ w' he R hR=>?_
     go_simp;exact Bg (WW 1 w' Aa Aa) hR
   intro γ w10 hx10 hF;have p1:BQ w10 (γ 1) ((1:Int):Rat):=Av.get hF 1 Ab;clear hF;simp only[Bd,Nat.reduceAdd];generalize γ 1=g1 at *;clear γ
   go_wp2_with fail
   refine AR (TS _ _ (ab (yi:Rat) / ab (ld F)) ((1:Int):Rat) _ (HZ.out.1.ext hx10) (p1.has Ab)) ?_;rintro r11 w11 hr11 hx11;obtain⟨bz,Az,nz,cz',bw,Aw,nw,cw,rfl⟩:=hr11.cells;have x1011:=hx10.trans hx11;clear p1 cec fec;replace ez:=ez.ext x1011;replace hl:=hl.ext x1011;replace hd:=hd.ext x1011;replace ec:=ec.ext x1011;replace hx:=hx.trans x1011;clear x1011;clear hx10 hx11;have cec:=ec.cells4;have fec:=ec.frozen
   go_upto_region 8 with(fail)
   obtain⟨W12,eW,ec',U⟩:=ec.put4 (.bool bz) (.slice Az nz cz') (.bool bw) (.slice Aw nw cw);rw[<-eW];clear eW ec;replace hr11:=hr11.kd U.kd;replace ez:=ez.upd U Ak;replace hl:=hl.upd U Ak;replace hd:=hd.upd U Ak;replace hx:=U.from_ hx Ak;have ec:=ec';clear U ec';obtain⟨bl,Al,nl,cl,bl',Al',nl',cl',el,hlz⟩:=hl;have hqx:qsz (ab (yi:Rat) / ab (ld F)+((1:Int):Rat))<=4*s+8:=by
    have h1:=EM (ab (yi:Rat) / ab (ld F)) ((1:Int):Rat);have h2:qsz (((1:Int):Rat))=1:=by decide
    have h3:=HZ.out.2;omega
   have hql:qsz (GN F i+1)<=2*s+8:=by
    have h1:=EM (GN F i) 1;have h2:qsz (1:Rat)=1:=by decide
    have h3:=LX hs (Nat.le_trans (Dw (F 0)) (hs 0)) i;omega
   have HX:=Ad (Au (hr11.has Aa) (Au (hlz.has Aa) (show qsz (ab (yi:Rat) / ab (ld F)+((1:Int):Rat))+qsz (GN F i+1) < 274877906944 by omega)));clear hqx hql;have HR:=Ad (Au hr11 hlz);clear hr11 hlz;have cec:=ec.cells4;have fec:=ec.frozen;have cel:=el.cells4;have fel:=el.frozen
   go_wp2_with fail
   refine AR (WV _ _ _ _ _ HX.out.1 HX.out.2.1 HX.out.2.2) ?_;rintro r13 w13 rfl hx13;clear HX cec fec cel fel;have e13:ab (yi:Rat) / ab (ld F)+((1:Int):Rat) - (GN F i+1)=ab (F i / ld F) - GN F i:=by
    rw[WF,HI.out.2.2];show _+(1:Rat) - _=_;grind
   rw[e13];have hnext:GN F (i+1)=if GN F i < ab (F i / ld F)then ab (F i / ld F)else GN F i:=rfl;replace HR:=Ad (Au (HR.out.1.ext hx13) (HR.out.2.ext hx13));replace ez:=ez.ext hx13;replace hd:=hd.ext hx13;replace ec:=ec.ext hx13;replace el:=el.ext hx13;replace hx:=hx.trans hx13;clear hx13;by_cases hgt:GN F i < ab (F i / ld F)
   ·have hdec:decide (Eb (ab (F i / ld F) - GN F i) > 0)=true:=by rw[F4,decide_eq_true hgt]
    rw[if_pos hgt]at hnext;have cec:=ec.cells4;have fec:=ec.frozen;have cel:=el.cells4;have fel:=el.frozen
    go_upto_region 10 with(fail)
    have hr13:=HR.out.1;obtain⟨W14,eW,el',U⟩:=el.put4 (.bool bz) (.slice Az nz cz') (.bool bw) (.slice Aw nw cw);rw[<-eW];clear eW el;replace hr13:=hr13.kd U.kd;replace ez:=ez.upd U Ak;replace hd:=hd.upd U Ak;replace hx:=U.from_ hx Ak;have el:=el';clear U el';have hl:=Ea.mk el hr13;rw[show ab (yi:Rat) / ab (ld F)+((1:Int):Rat)=GN F (i+1)+1 from by rw[hnext,WF,HI.out.2.2];rfl]at hl;clear hdec hnext HR HZ e13 hr13
    go_wp2
    go_roundw
    case rel=>exact⟨i+1,Aa,by go_num,hl,hd,ez,hx⟩
    case measure=>simp[intOf];omega
   ·have hdec:decide (Eb (ab (F i / ld F) - GN F i) > 0)=false:=by rw[F4,decide_eq_false hgt]
    rw[if_neg hgt]at hnext;have hl:=Ea.mk el HR.out.2;rw[<-hnext]at hl;clear hnext HR HZ e13;go_wp2
    go_roundw
    case rel=>exact⟨i+1,Aa,by go_num,hl,hd,ez,hx⟩
    case measure=>simp[intOf];omega
  ·obtain rfl:i=N:=by omega
   have ez11:=ez.lt;have hql:qsz (GN F i+1)<=2*s+8:=by
    have h1:=EM (GN F i) 1;have h2:qsz (1:Rat)=1:=by decide
    have h3:=LX hs (Nat.le_trans (Dw (F 0)) (hs 0)) i;omega
   obtain⟨J,hJ,hJ9⟩:∃ J,P2 (GN F i+1) J/\J<=32*(2*s+8)+1:=P2.qsz (by have:=FI F i;grind) hql;have HJ:=Ad (Au hJ (show qsz (GN F i+1)<=3000000 by omega));clear hJ hql;have hJ8:J<=100000000:=by omega
   clear hJ9;obtain⟨rr,hrr⟩:∃ r,r=GN F i+1:=⟨_,rfl⟩
   rw[<-hrr]at HJ hl;have Hrr:=Ad hrr;clear hrr hi hiN h0 hs hs9 zF fF hd HQ HA
   go_wp2_with fail
   refine AR (Jn 1 _ Aa Aa) ?_;rintro r14 w14 hr14 hx14;obtain⟨b11,A11,n11,c11,rfl⟩:=hr14.cells;replace ez:=ez.ext hx14;replace hl:=hl.ext hx14;replace hx:=hx.trans hx14;clear hx14;obtain⟨W15,eW15,eo,y15⟩:=Be.made w14 26 #[.bool b11,.slice A11 n11 c11] (by simp[Ag]);have ho:=BA.mk eo (hr14.kd y15.kd);have hgo:=hl.lt;replace ez:=ez.ext y15;replace hl:=hl.ext y15;replace hx:=hx.trans y15;clear y15;clear eo hr14
   go_wp2;rw[<-eW15];clear eW15;generalize w14.heap.size=go at *
   go_loopw [47] (fun _ wr=>∃ j:Nat,j<=J/\BA wr go 26 (2^j)/\Ea wr gl 28 rr/\Be wr w.heap.size 26 #[.bool false,.slice none 0 0]/\Ext w wr) (fun _ wr=>2^(J+1) - kH wr go 26)
   case atStart=>exact⟨0,Aa,ho,hl,ez,hx⟩
   case round =>
    clear ho hl ez hx;obtain⟨j,hj,⟨b7,A7,n7,c7,eo,hoz⟩,⟨bl,Al,nl,cl,bl',Al',nl',cl',el,hlz⟩,ez,hx⟩:=hrel;have Hoz:=Ad (Au hoz (Au eo hlz));clear hoz hlz;have hgl3:=el.lt;have hgo3:=eo.lt;have hjz:sz ((2:Int)^j).natAbs<=1+j:=Jj j;have Hjz:=Ad hjz;have hjq:qsz (((2:Int)^j:Int):Rat)<=1+j:=by rw[Bz];omega
    have HS:=Ad (Au (show sz ((2:Int)^j).natAbs<=1099511627776 by omega) (Au (show qsz (((2:Int)^j:Int):Rat)<=274877906944 by omega) (show qsz (((2:Int)^j:Int):Rat)+qsz rr < 274877906944 by have:=HJ.out.2;omega)));clear hjz hjq;have ceo:=eo.cells2;have feo:=eo.frozen;have cel:=el.cells4;have fel:=el.frozen
    go_upto_region 12 with(fail)
    refine CV 3 [47,48,49] [9,3] [_,_] [(kv ?_),(fun γ=>γ 1),(kv ?_)] (fun γ w'=>[True,BQ w' (γ 1) (((2:Int)^j:Int):Rat),True]) ?s3 ?_
    case s3 =>
     iterate 3 refine⟨?_,?_⟩
     trivial
     iterate 1 focus
      refine Ba fun _ w' he R hR=>?_;have hc:=he.cells;have cq0:=(eo.ext he).cells2;have cq1:=(el.ext he).cells4;go_simp;exact Bi hR
     ·refine Ba fun _ w' he R hR=>?_
      go_simp;exact Bg (GY _ _ w' ((Hoz.out.1.has HS.out.1).ext he)) hR
     iterate 1 focus
      refine Ba fun _ w' he R hR=>?_;have hc:=he.cells;have cq0:=(eo.ext he).cells2;have cq1:=(el.ext he).cells4;go_simp;exact Bi hR
    intro γ w16 hx16 hF;have p1:BQ w16 (γ 1) (((2:Int)^j:Int):Rat):=Av.get hF 1 Ab;clear hF;simp only[Bd,Nat.reduceAdd];generalize γ 1=g1 at *;clear γ
    go_wp2_with fail
    refine AR (WV _ _ _ rr _ (p1.has HS.out.2.1) ((Hoz.out.2.2.has (by have:=HJ.out.2;omega)).ext hx16) HS.out.2.2) ?_;rintro r17 w17 rfl hx17;generalize hm:Eb ((((2:Int)^j:Int):Rat) - rr)=m;have hm1:=Tw (p:=(((2:Int)^j:Int):Rat)) (q:=rr);rw[hm]at hm1;clear hm;have x1617:=hx16.trans hx17;have HO:=Ad (Au (Hoz.out.1.ext x1617) (Hoz.out.2.2.ext x1617));clear p1 ceo feo cel fel;replace ez:=ez.ext x1617
    replace eo:=eo.ext x1617;replace el:=el.ext x1617;replace hx:=hx.trans x1617;clear x1617;clear hx16 hx17;have hl:=Ea.mk el HO.out.2;by_cases hjJ:j < J
    ·rw[decide_eq_true (show(((2:Int)^j:Int):Rat)<=rr by have:=HJ.out.1.2 j hjJ;rw[Kr];exact this)]at hm1
     have ceo:=eo.cells2;have feo:=eo.frozen
     go_wp2_with fail
     refine AR (N8 _ _ _ _ _ (HO.out.1.has HS.out.1) (HO.out.1.has HS.out.1)) ?_;rintro r18 w18 hr18 hx18;obtain⟨b8,A8,n8,c8,rfl⟩:=hr18.cells;clear ceo feo el;replace ez:=ez.ext hx18;replace eo:=eo.ext hx18;replace hl:=hl.ext hx18;replace hx:=hx.trans hx18;clear hx18;have ceo:=eo.cells2;have feo:=eo.frozen;go_wp2;obtain⟨W19,eW,eo',U⟩:=eo.put2 (.bool b8) (.slice A8 n8 c8);rw[<-eW];clear eW eo;replace hr18:=hr18.kd U.kd
     replace ez:=ez.upd U Ak;replace hl:=hl.upd U Ak;replace hx:=U.from_ hx Ak;have eo:=eo';clear U eo';rw[show(2:Int)^j+2^j=2^(j+1) by rw[Int.pow_succ];omega]at hr18;have ho:=BA.mk eo hr18;have hb1:=Qg ho;have hb2:=Qg (BA.mk Hoz.out.2.1 Hoz.out.1);have hpw:2^(j+1)<=2^J:=Nat.pow_le_pow_right Ab hjJ
     go_roundw
     case rel=>exact⟨j+1,hjJ,ho,hl,ez,hx⟩
     case measure =>
      rw[hb1,hb2];rw[Int.natAbs_pow,Int.natAbs_pow];show 2^(J+1) - 2^(j+1) < 2^(J+1) - 2^j;have h1:2^(J+1)=2*2^J:=Nat.pow_succ';have h2:2^(j+1)=2*2^j:=Nat.pow_succ';have h3:=Nat.two_pow_pos j;omega
    ·obtain rfl:j=J:=by omega
     rw[decide_eq_false (show ¬ (((2:Int)^j:Int):Rat)<=rr by have:=HJ.out.1.1;rw[Kr];grind)]at hm1;have ceo:=eo.cells2;have feo:=eo.frozen;have cez:=ez.cells2;have fez:=ez.frozen
     go_upto_region 14 with(fail)
     have hr:=HO.out.1;go_wp2;obtain⟨W3,eW,ez',U⟩:=ez.put2 (.bool b7) (.slice A7 n7 c7);rw[<-eW];clear eW ez;replace hr:=hr.kd U.kd;replace hx:=U.from_ hx Ak;have ez:=ez';clear U ez';clear ceo feo cez fez;have cez:=ez.cells2;have fez:=ez.frozen;refine bodyPost_ret (v := .agg #[.bool b7,.slice A7 n7 c7]) (by simp[results,Tryz.results67,go_sem,cez]) rfl ?_;have hfin:=HJ.out.1;rw[Hrr.out]at hfin;exact Ah.mk ⟨j,by rw[HN.out];exact hfin,hr⟩ hx
end Go.Proofs.YtmhgnigpmompmaaGreat
