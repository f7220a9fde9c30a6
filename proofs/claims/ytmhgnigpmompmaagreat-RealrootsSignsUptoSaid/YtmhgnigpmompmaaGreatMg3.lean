/- Lemmas. -/
import Derived.Test.YtmhgnigpmompmaaGreatMg1
import Derived.Test.YtmhgnigpmompmaaGreatMg2
import Derived.Deep.RegionWith
import Derived.WalkSmall
import Derived.Lib.RabinKarpLaws
import Derived.Deep.Cut
import Derived.Deep.DeepCutAuto
import Derived.RangeFuncNested
import Derived.RangeFuncBound
import Derived.RangeFuncCalls
import Derived.RangeFuncLeaves
import Derived.Shelf.Abstract
import Derived.Shelf.RegionOpen
import Derived.WalkKit
import Derived.OwnWalkIn
import Derived.TacticsInMore
import Derived.LoopNIn
import Derived.LoopIn
set_option linter.unusedVariables false
set_option linter.unusedSimpArgs false
set_option maxHeartbeats 16000000
namespace Go.Hp
theorem Vx{x:Int}(h1 : -9223372036854775808<=x)(h2:x<=9223372036854775808):qsz (x:Rat)<=2:=by
 have h3:=Ju (n:=x.natAbs) Aa;have h4:sz 1=1:=by decide
 show max (sz x.natAbs) (sz 1)<=2;omega
theorem Jj{α:Type}(F:Nat->α)(k:Nat):(List.range (k+1)).map F=(List.range k).map F ++ [F k]:=by rw[List.range_succ];simp
theorem WI{n:Nat}(h:n<=1099511627776):n+1<=maxLen:=by simp only[maxLen];omega
def EA(k j:Nat)(c:Rat)(R G:Nat->Rat)(n:Nat):Rat:=R n - (if k<=n/\n - k < j then c*G (n - k)else 0)
theorem LV(k:Nat)(c:Rat)(R G:Nat->Rat):EA k 0 c R G=R:=by
 funext n;unfold EA;rw[if_neg Aa];grind
theorem Js{k m:Nat}{c:Rat}{R G:Nat->Rat}(h:BA m G):EA k m c R G=psb R (cv (mono k c) G):=by
 funext n
 rw[Fg];show R n - _=R n - c*sh k G n;unfold sh;by_cases h1:n < k
 ·rw[if_neg Aa,if_pos h1];grind
 ·rw[if_neg h1]
  by_cases h2:n - k < m
  ·rw[if_pos ⟨Aa,h2⟩]
  ·rw[if_neg Aa,h _ Aa];grind
theorem M9(k j:Nat)(c:Rat)(R G:Nat->Rat)(n:Nat):EA k (j+1) c R G n=if n=k+j then EA k j c R G n - c*G j else EA k j c R G n:=by
 unfold EA;by_cases h:n=k+j
 ·subst h;rw[if_pos rfl,if_pos Aa,if_neg Aa,show k+j - k=j from by omega];grind
 ·rw[if_neg h]
  by_cases h2:k<=n/\n - k < j
  ·rw[if_pos h2,if_pos Aa]
  ·rw[if_neg h2,if_neg Aa]
theorem RL{k j:Nat}{c:Rat}{R G:Nat->Rat}{m s:Nat}(hG:BA m G)(h1:∀ n,qsz (R n)<=s)(h2:∀ n,qsz (psb R (cv (mono k c) G) n)<=s)(n:Nat):qsz (EA k j c R G n)<=s:=by
 by_cases h:k<=n/\n - k < j
 ·have e:EA k j c R G n=psb R (cv (mono k c) G) n:=by
   rw[<-Js hG];unfold EA;rw[if_pos h];by_cases h3:k<=n/\n - k < m
   ·rw[if_pos h3]
   ·rw[if_neg h3,hG _ Aa];grind
  rw[e];exact h2 n
 ·have e:EA k j c R G n=R n:=by unfold EA;rw[if_neg h];grind
  rw[e];exact h1 n
theorem QT(l:List Rat):l.map some=Ec l.length (co l):=by
 apply List.ext_getElem
 ·simp[Ec]
 ·intro i h1 h2
  have:i < l.length:=by simpa using h1
  simp[Ec,El this]
def Kh(w:World)(v:Value)(c:Rat):Prop:=∃ a,v = .tuple #[a,.int .i64 0]/\Bz w a c
theorem Kh.ext{w w':World}{v:Value}{c:Rat}(h:Kh w v c)(e:Ext w w'):Kh w' v c:=by
 obtain⟨a,h1,h2⟩:=h;exact⟨a,h1,h2.ext e⟩
theorem aU{la:List (Option Rat)}{n:Nat}{Q:Nat->Rat}(hl:la.length=n)(h:∀ j (hj:j < la.length),la[j]=some (Q j)):la=Ec n Q:=by
 apply List.ext_getElem
 ·simp[Ec,hl]
 ·intro i h1 h2
  rw[h i h1];simp[Ec]
def J8(F G:Nat->Rat)(n s t i:Nat)(la:List (Option Rat))(Q R:Nat->Rat):Prop:=
 la.length=n/\(∀ j (h:j < la.length),i<=j->la[j]=some (Q j))/\(∀ j,j < i->Q j=0)/\BA n Q/\BA (i+pl G - 1) R/\F=pad (cv Q G) R/\CD (s+(n - i)*(t+1)) R
theorem J8.start{F G:Nat->Rat}{n s t:Nat}(hF:BA (n+pl G - 1) F)(hs:CD s F):J8 F G n s t n (List.replicate n none) pz F:=
 ⟨Ac,fun j h h'=>by simp at h;omega,fun _ _=>rfl,BA.pz _,hF,by rw[Cx];funext m;simp only[pad,pz];grind,hs.mono Aa⟩
theorem J8.step{F G:Nat->Rat}{n s t k:Nat}{la:List (Option Rat)}{Q R:Nat->Rat}(hG:Ae G)(h0:G≠pz)(hcG:CD t G)(h:J8 F G n s t (k+1) la Q R)(hk:k < n){c:Rat}(hc:c=R (k+pl G - 1) / ld G) :
  J8 F G n s t k (la.set k (some c)) (pad Q (mono k c)) (psb R (cv (mono k c) G)):=by
 obtain⟨h1,h2,h3,h4,h5,h6,h7⟩:=h;have hp:=AZ hG h0;refine⟨by simpa using h1,fun j hj hkj=>?_,fun j hj=>?_,h4.pad ((Dc k c).mono Aa),?_,?_,?_⟩
 ·rw[List.getElem_set]
  split
  ·rename_i e;subst e
   show some c=some (Q k+mono k c k);rw[h3 k Aa,JJ];congr 1;grind
  ·rename_i e
   rw[h2 j (by simpa using hj) Aa];show some (Q j)=some (Q j+mono k c j);rw[ER (fun e'=>e e'.symm)];congr 1;grind
 ·show Q j+mono k c j=0
  rw[h3 j Aa,ER Aa];grind
 ·subst hc
  exact Fs hG h0 (h5.mono Aa)
 ·rw[Dw]
  funext m
  have:=congrFun h6 m;simp only[pad,psb]at this ⊢;grind
 ·subst hc
  refine(CD.step (n:=k) hG h0 h7 hcG).mono ?_;have:n - k=(n - (k+1))+1:=by omega
  rw[this,Nat.succ_mul];omega
theorem J8.end_{F G:Nat->Rat}{n s t:Nat}{la:List (Option Rat)}{Q R:Nat->Rat}(hF:Ae F)(hG:Ae G)(h0:G≠pz)(h:J8 F G n s t 0 la Q R):la=Ec n Q/\Q=pq F G/\R=pr F G/\BA n Q:=by
 obtain⟨h1,h2,h3,h4,h5,h6,h7⟩:=h;have:=Ib hF hG h0 ⟨n,h4⟩ h6 (by rwa[Nat.zero_add]at h5);exact⟨aU h1 fun j hj=>h2 j hj (Nat.zero_le _),this.1,this.2,h4⟩
theorem OB{k:Nat}{c:Rat}(h:c=0)(R G:Nat->Rat):psb R (cv (mono k c) G)=R:=by
 funext n;rw[Fg];simp only[psb,psc];rw[h];grind
theorem Je(l:List Rat):(BV l).length=pl (co l):=by rw[<-(FQ l).pl,GV]
theorem CE.isP{base:Nat}{w:World}{g:Nat}{t:TypeId}{N:Nat}{F:Nat->Rat}(h:CE w g t (Ec N F))(hF:BA N F)(hb:base<=g){c:Nat}(hc:N<=c)(hm:c<=9223372036854775807):Di base w (.slice (some ⟨g,0,none⟩) (pl F) c) F:=by
 have e:=JM hF;have hrow:=h.row (KL N F) hb;have hl:((List.range N).map F).length=N:=Eh N F;have:=Bj hF;refine⟨BV ((List.range N).map F),⟨_,c,by rw[Je,e],by rw[Je,e];omega,hm,?_⟩,FQ _,by rw[GV,e]⟩;rw[FM];exact DU.take hrow _
theorem Rh(x:Rat)(a b:Nat):x^(a+b)=x^a*x^b:=by
 induction b with
 | zero=>rw[Nat.add_zero,Rat.pow_zero,Rat.mul_one]
 | succ b ih=>rw[<-Nat.add_assoc,Rat.pow_succ,ih,Rat.pow_succ,Rat.mul_assoc]
def Fr(D k Y:Nat)(q:Rat):Prop:=∃ m:Int,q=(m:Rat) / ((D:Rat)^k)/\m.natAbs<=Y
theorem Fr.mono{D k Y Y':Nat}{q:Rat}(h:Fr D k Y q)(l:Y<=Y'):Fr D k Y' q:=by obtain⟨m,h1,h2⟩:=h;exact⟨m,h1,Aa⟩
theorem Fr.zero(D k Y:Nat):Fr D k Y 0:=⟨0,by rw[show((0:Int):Rat)=0 from rfl,Rat.div_def,Rat.zero_mul],Ac⟩
theorem Fr.sub{D k Y Z:Nat}{p q:Rat}(h:Fr D k Y p)(g:Fr D k Z q):Fr D k (Y+Z) (p - q):=by
 obtain⟨m,h1,h2⟩:=h;obtain⟨n,g1,g2⟩:=g;refine⟨m - n,?_,?_⟩
 ·rw[h1,g1,Rat.intCast_sub,Rat.div_def,Rat.div_def,Rat.div_def];grind
 ·have:=Int.natAbs_sub_le m n;omega
theorem Fr.mul{D a b Y Z:Nat}{p q:Rat}(h:Fr D a Y p)(g:Fr D b Z q):Fr D (a+b) (Y*Z) (p*q):=by
 obtain⟨m,h1,h2⟩:=h;obtain⟨n,g1,g2⟩:=g;refine⟨m*n,?_,?_⟩
 ·rw[h1,g1,Rat.intCast_mul,Rat.div_def,Rat.div_def,Rat.div_def,Rh,Rat.inv_mul_rev];grind
 ·rw[Int.natAbs_mul];exact Nat.mul_le_mul h2 g2
theorem Fr.up{D k Y:Nat}{q:Rat}(hD:0 < D)(h:Fr D k Y q)(j:Nat):Fr D (k+j) (Y*D^j) q:=by
 have h0:=JV hD;have h1:Fr D j (D^j) 1:=by
  refine⟨((D^j:Nat):Int),?_,Ac⟩;have h2:(D:Rat)^j≠0:=by
   induction j with
   | zero=>rw[Rat.pow_zero];decide
   | succ j ih=>rw[Rat.pow_succ];intro e;rcases Rat.mul_eq_zero.1 e with e | e<;>contradiction
  rw[Rat.intCast_natCast,Rat.natCast_pow];grind
 have:=h.mul h1;rwa[Rat.mul_one]at this
theorem Fr.qsz{D k Y:Nat}{q:Rat}(hD:0 < D)(h:Fr D k Y q){t:Nat}(h1:sz Y<=t)(h2:sz (D^k)<=t)(h3:1<=t):qsz q<=t:=by
 obtain⟨m,e,hm⟩:=h;rw[<-Rat.natCast_pow,Jz]at e;rw[e];exact Ed (Nat.le_trans (Bl hm) h1) (by simpa using h2) h3
section
variable{C S:Nat->Rat}{D X:Nat}
end
theorem UG{n:Nat}(h:n<=9223372036854775807):qsz (n:Rat)<=2:=by
 have h3:=Ju (n:=n) Aa;have h4:sz 1=1:=by decide
 show max (sz ((n:Int)).natAbs) (sz 1)<=2;rw[Int.natAbs_natCast];omega
theorem CD.rv{s:Nat}{F:Nat->Rat}(h:CD s F)(d:Nat):CD s (rv d F):=by
 obtain⟨D,X,⟨hD,hF⟩,h1,h2⟩:=h;refine⟨D,X,⟨hD,fun i=>?_⟩,h1,h2⟩;unfold Hp.rv
 split
 ·exact hF _
 ·exact⟨0,by show(0:Rat)=_;grind,Ac⟩
theorem CD.pd{s d:Nat}{F:Nat->Rat}(hC:CD s F)(hs:BA (d+1) F)(hd:d<=9223372036854775807):CD (1+d*(s+3)) (pd F):=by
 refine CD.of (k:=s+2) (n:=d) (fun i hi=>by unfold Hp.pd;rw[hs (i+1) Aa];exact Rat.mul_zero _) fun i hi=>?_;have h1:=BS ((i+1:Nat):Rat) (F (i+1));have h2:=UG (n:=i+1) Aa;have h3:=hC.elem (i+1);show Hp.qsz (((i+1:Nat):Rat)*F (i+1))<=s+2;omega
theorem gX{f:Nat->Rat}{t:Nat}(n:Nat)(h:∀ i,i < n->qsz (f i)<=t):qsz (sm n f)<=1+n*(t+1):=by
 induction n with
 | zero=>rw[Fp,GK];omega
 | succ n ih =>
  have h1:=EL (sm n f) (f n);have h2:=ih fun i hi=>h i Aa;have h3:=h n Aa;rw[BF,Nat.succ_mul];omega
open Go.RowKit
def iP(base:Nat)(w:World)(v:Value)(t:TypeId)(l:List Rat):Prop:=l=[]\/∃ g cap,v = .slice (some ⟨g,0,none⟩) l.length cap/\base<=g/\l.length<=cap/\cap<=9223372036854775807/\CE w g t (l.map some)
def jX(base:Nat)(w:World)(v:Value)(t:TypeId)(F:Nat->Rat):Prop:=pl F=0\/∃ g cap,v = .slice (some ⟨g,0,none⟩) (pl F) cap/\base<=g/\pl F<=cap/\cap<=9223372036854775807/\CE w g t (Ec (pl F) F)
theorem EB.arr{base:Nat}{e:TypeId}{w:World}{v:Value}{l:List Rat}(h:EB base e w v l):iP base w v e l:=by
 obtain⟨ess,h1,h2,⟨h3,h4⟩,h5⟩:=h;rcases h4 with⟨_,h0⟩ | ⟨g,cap,cur,rfl,hbg,hb,hnc,hcm,hcs,htake⟩
 ·exact .inl (List.eq_nil_of_length_eq_zero h0)
 ·refine .inr ⟨g,cap,rfl,hbg,hnc,GM hcm,cur,hb,by rw[hcs,List.length_map];omega,fun j hj=>?_⟩
  have hj':j < l.length:=by simpa using hj
  have hje:j < ess.length:=by omega
  have hq:=h5 j hj' hje;obtain⟨b,A,n,c,b',A',n',c',e⟩:=Bz.cells_ hq;have ec:=Un e;have key:∀ i,i < 4->cur[j*4+i]? = ess[j][i]? := fun i hi=>by
   have hlt:j*4+i < l.length*4:=by omega
   rw[<-O0 h2 hje hi,<-htake,List.getElem?_take_of_lt hlt];simp
  refine⟨b,A,n,c,b',A',n',c',by have:=key 0 Aa;rw[ec]at this;simpa using this,by have:=key 1 Aa;rw[ec]at this;simpa using this,by have:=key 2 Aa;rw[ec]at this;simpa using this,by have:=key 3 Aa;rw[ec]at this;simpa using this,?_⟩;rw[List.getElem_map,<-e];exact hq
theorem CE.pre{w:World}{g:Nat}{t:TypeId}{l:List (Option Rat)}(h:CE w g t l)(n:Nat):CE w g t (l.take n):=by
 obtain⟨cs,h1,h2,h3⟩:=h;have hl:(l.take n).length<=l.length:=List.length_take_le' _ _;refine⟨cs,h1,Aa,fun j hj=>?_⟩;have:=h3 j Aa;rw[List.getElem_take];exact this
theorem VV(N n:Nat)(F:Nat->Rat)(h:n<=N):(Ec N F).take n=Ec n F:=by
 unfold Ec;rw[<-List.map_take,List.take_range,Nat.min_eq_left h]
theorem iP.fin{base n c:Nat}{w w':World}{A:Option Addr}{t:TypeId}{l:List Rat}(h:iP base w (.slice A n c) t l)(e:Ext w w'):jX base w' (.slice A (BV l).length c) t (co l):=by
 have hp:pl (co l)<=l.length:=Bj (Gi l);rcases h with rfl | ⟨g,cap,e1,h1,h2,h3,h4⟩
 ·exact .inl (by rw[Qd,BH])
 ·refine .inr ⟨g,cap,?_,h1,Aa,h3,?_⟩
  ·rw[Je]
   injection e1 with e1 e2 e3;rw[e1,e3]
  ·have:=(h4.ext e).pre (pl (co l))
   rw[QT,VV _ _ _ hp]at this;exact this
def DL(w:World)(g:Nat)(t:TypeId)(q:Rat):Prop:=∃ b A n c b' A' n' c',Bh w g t #[.bool b,.slice A n c,.bool b',.slice A' n' c']/\Bz w (.agg #[.bool b,.slice A n c,.bool b',.slice A' n' c']) q
theorem DL.ext{w w':World}{g:Nat}{t:TypeId}{q:Rat}(h:DL w g t q)(e:Ext w w'):DL w' g t q:=by
 obtain⟨b,A,n,c,b',A',n',c',h1,h2⟩:=h;exact⟨b,A,n,c,b',A',n',c',h1.ext e,h2.ext e⟩
theorem DL.lt{w:World}{g:Nat}{t:TypeId}{q:Rat}(h:DL w g t q):g < w.heap.size:=by
 obtain⟨b,A,n,c,b',A',n',c',h1,h2⟩:=h;exact h1.lt
theorem DL.upd{w w':World}{g:Nat}{t:TypeId}{q:Rat}{G:List Nat}(h:DL w g t q)(U:Cu G w w')(hg:g∉G):DL w' g t q:=by
 obtain⟨b,A,n,c,b',A',n',c',h1,h2⟩:=h;exact⟨b,A,n,c,b',A',n',c',h1.upd U hg,h2.kd U.kd⟩
theorem DL.mk{w:World}{g:Nat}{t:TypeId}{q:Rat}{b b':Bool}{A A':Option Addr}{n c n' c':Nat}(h:Bh w g t #[.bool b,.slice A n c,.bool b',.slice A' n' c'])(k:Bz w (.agg #[.bool b,.slice A n c,.bool b',.slice A' n' c']) q):DL w g t q:=⟨_,_,_,_,_,_,_,_,h,k⟩
theorem EB.off{base:Nat}{e:TypeId}{w w':World}{v:Value}{l:List Rat}{g:Nat}(h:EB base e w v l)(U:Cu [g] w w')(hg:∀ k∈blk v,k < g):EB base e w' v l:=
 BJ.upd h U (fun k hk hG=>by have:=hg k hk;simp at hG;omega) fun _ _ q=>q.kd U.kd
theorem VB{F G:Nat->Rat}{s t:Nat}(hF:∀ i,qsz (F i)<=s)(hG:∀ i,qsz (G i)<=t)(n i:Nat):qsz (sm i (fun j=>F j*G (n - j)))<=1+i*(s+t+1):=
 gX i fun j _=>by have h1:=BS (F j) (G (n - j));have h2:=hF j;have h3:=hG (n - j);omega
theorem M5{i k c d:Nat}(h:i<=k)(e:1+k*c<=d):1+i*c<=d:=by
 have:i*c<=k*c:=Nat.mul_le_mul_right _ h;omega
theorem CE.hs{w:World}{g:Nat}{t:TypeId}{N c:Nat}{F:Nat->Rat}(h:CE w g t (Ec N F))(hs:∀ i,i < N->qsz (F i)<=274877906944)(hc:N<=c)(hm:c<=9223372036854775807):Lv 0 w (.slice (some ⟨g,0,none⟩) N c) ((List.range N).map F):=by
 have hrow:=h.row (KL N F) (Nat.zero_le g);refine Qi.has (base:=0) ⟨_,c,by rw[Eh],by rw[Eh];exact hc,hm,hrow⟩ fun q hq=>?_;obtain⟨i,hi,rfl⟩:=List.mem_map.1 hq;exact hs i (List.mem_range.1 hi)
theorem CD.mn{s:Nat}{F:Nat->Rat}(h:CD s F):CD (2*s) (mn F):=by
 have h1:=h.elem (pl F - 1);have h2:Hp.qsz (1 / ld F)<=s:=by
  have e:1 / ld F=(ld F)⁻¹ := by rw[Rat.div_def,Rat.one_mul]
  rw[e];exact Nat.le_trans (QG _) h1
 exact(h.psc (1 / ld F)).mono Aa
def SH(s:Nat):Nat->Nat
 | 0=>s
 | j+1=>18*SH s j+16
theorem RD{s i j:Nat}(h:i<=j):SH s i<=SH s j:=by
 induction j with
 | zero=>obtain rfl:i=0:=Aa;exact Nat.le_refl _
 | succ j ih =>
  rcases Nat.eq_or_lt_of_le h with e | e
  ·rw[e];exact Nat.le_refl _
  ·have:=ih Aa
   show _<=18*SH s j+16;omega
def Qt(F0 G0:Nat->Rat)(j:Nat)(F G:Nat->Rat):Prop:=
 Ae F/\Ae G/\(∀ E,Ae E->(Dv E F/\Dv E G↔Dv E F0/\Dv E G0))/\CD (SH 44 j) F/\CD (SH 44 j) G/\pl F<=7/\pl G+j<=7
theorem Qt.start{F G:Nat->Rat}(hF:Ae F)(hG:Ae G)(cF:CD 22 F)(cG:CD 22 G)(lF:pl F<=7)(lG:pl G<=7):Qt F G 0 F G:=
 ⟨hF,hG,fun _ _=>Iff.rfl,cF.mono (by show 22<=44;omega),cG.mono (by show 22<=44;omega),lF,lG⟩
theorem Qt.step{F0 G0 F G:Nat->Rat}{j:Nat}(h:Qt F0 G0 j F G)(h0:G≠pz):Qt F0 G0 (j+1) G (mn (pr F G)):=by
 obtain⟨hF,hG,hd,cF,cG,lF,lG⟩:=h;have hp:=AZ hG h0;have hr:=ES hF hG;have hs:=Bj (Eo hF hG h0);have c1:=CD.pr (n:=8) ((AJ hF).mono Aa) hG h0 cF cG;refine⟨hG,LC hr,fun E hE=>?_,cG.mono (RD Aa),c1.mn.mono ?_,Aa,by rw[QN hr];omega⟩
 ·rw[OV hr,MU];exact hd E hE
 ·show _<=18*SH 44 j+16
  omega
theorem Qt.end_{F0 G0 F G:Nat->Rat}{j:Nat}(h:Qt F0 G0 j F G)(h0:G=pz):Mf F0 G0 (mn F):=by
 obtain⟨hF,hG,hd,_⟩:=h;subst h0;exact(Mf.zero hF).of hd
theorem Qt.room{F0 G0 F G:Nat->Rat}{j:Nat}(h:Qt F0 G0 j F G)(h0:G≠pz):j<=6/\SH 44 j+(pl F+2)*(SH 44 j+1)+2*SH 44 j+2<=68719476736/\pl (pr F G)<=6/\CD (9*SH 44 j+8) (pr F G):=by
 obtain⟨hF,hG,hd,cF,cG,lF,lG⟩:=h;have hp:=AZ hG h0;have hs:=Bj (Eo hF hG h0);have c1:=CD.pr (n:=8) ((AJ hF).mono Aa) hG h0 cF cG;have h6:SH 44 j<=SH 44 6:=RD Aa;have h7:SH 44 6=1528549360:=rfl;have h8:(pl F+2)*(SH 44 j+1)<=9*(SH 44 j+1):=Nat.mul_le_mul_right _ Aa;exact⟨Aa,Aa,Aa,c1.mono Aa⟩
def lin(a:Rat):Nat->Rat:=cs (-a) pone
theorem Ev:BA 1 pone:=(BA.pz 0).cs 1
theorem DC:Ae pone:=⟨1,Ev⟩
theorem MP(x:Rat):ev pone x=1:=by unfold pone;rw[Pp _ Ae.pz,R8];grind
theorem Q3(a:Rat):BA 2 (lin a):=Ev.cs _
theorem PY(a:Rat):Ae (lin a):=⟨2,Q3 a⟩
theorem Y9(a x:Rat):ev (lin a) x=x - a:=by unfold lin;rw[Pp _ DC,MP];grind
theorem CD.pone:CD 3 pone:=by
 have:=CD.pz.cs 1;have e:qsz (1:Rat)=1:=by decide
 rw[e]at this;exact this
theorem CD.lin{a:Rat}(h:qsz a<=2):CD 6 (lin a):=by
 have:=CD.pone.cs (-a);rw[Gu]at this;exact this.mono Aa
def lgp(X:Nat->Rat)(i:Nat):Nat->Nat->Rat
 | 0=>pone
 | n+1=>if n=i then lgp X i n else cv (lgp X i n) (lin (X n))
theorem Gc(X:Nat->Rat)(i n:Nat):lgp X i (n+1)=if n=i then lgp X i n else cv (lgp X i n) (lin (X n)):=by rw[lgp]
theorem Qw(X:Nat->Rat)(i n:Nat):Ae (lgp X i n):=by
  induction n with
  | zero=>exact DC
  | succ n ih => rw [Gc]; split
                 · exact ih
                 · exact ih.cv (PY _)
theorem Q9(X:Nat->Rat)(i n:Nat):BA (n+1) (lgp X i n)/\(i < n->BA n (lgp X i n)):=by
 induction n with
 | zero=>exact⟨Ev,fun h=>Aa⟩
 | succ n ih =>
  rw[Gc];split
  ·exact⟨ih.1.mono Aa,fun _=>ih.1⟩
  ·have h1:=ih.1.cv (Q3 (X n))
   refine⟨h1.mono Aa,fun h=>?_⟩;exact((ih.2 Aa).cv (Q3 (X n))).mono Aa
theorem XU(X:Nat->Rat){i n k:Nat}(hk:k < n)(hi:k≠i):ev (lgp X i n) (X k)=0:=by
 induction n with
 | zero=>omega
 | succ n ih =>
  rw[Gc];split
  ·rcases Nat.lt_or_ge k n with h | h
   ·exact ih h
   ·omega
  ·rw[EN (Qw _ _ _) (PY _),Y9]
   rcases Nat.lt_or_ge k n with h | h
   ·rw[ih h];grind
   ·obtain rfl:k=n:=by omega
    grind
theorem YJ(X:Nat->Rat){i n:Nat}{x:Rat}(h:∀ k,k < n->k≠i->x≠X k):ev (lgp X i n) x≠0:=by
 induction n with
 | zero=>show ev pone x≠0;rw[MP];decide
 | succ n ih =>
  have h1:=ih fun k hk=>h k Aa;rw[Gc];split
  ·exact h1
  ·rename_i hne
   rw[EN (Qw _ _ _) (PY _),Y9];intro e;rcases Rat.mul_eq_zero.1 e with e | e
   ·exact h1 e
   ·exact h n Aa hne Ah
theorem jR{X:Nat->Rat}(i n:Nat)(hX:∀ k,k < n->qsz (X k)<=2)(hn:n<=4294967290):CD (3+7*n) (lgp X i n):=by
 induction n with
 | zero=>exact CD.pone
 | succ n ih =>
  have h1:=ih (fun k hk=>hX k Aa) Aa;rw[Gc];split
  ·exact h1.mono Aa
  ·exact(CD.cv (Q9 X i n).1 Aa h1 (CD.lin (hX n Aa))).mono Aa
def hor(F:Nat->Rat)(x:Rat)(n i:Nat):Rat:=CZ (n - i) (fun j=>F (i+j)) x
theorem PH(F:Nat->Rat)(x:Rat)(n:Nat):hor F x n n=0:=by unfold hor;rw[Nat.sub_self];rfl
theorem Lf(F:Nat->Rat)(x:Rat){n i:Nat}(h:i < n):hor F x n i=hor F x n (i+1)*x+F i:=by
 unfold hor;obtain⟨m,hm⟩:∃ m,n - i=m+1:=⟨n - i - 1,Aa⟩
 rw[hm,En,show n - (i+1)=m from by omega];have:tl (fun j=>F (i+j))=fun j=>F (i+1+j):=by funext j;show F (i+(j+1))=_;rw[show i+(j+1)=i+1+j from by omega]
 rw[this];show F (i+0)+_=_;rw[Nat.add_zero];grind
theorem Ol(F:Nat->Rat)(x:Rat)(n:Nat):hor F x n 0=CZ n F x:=by unfold hor;simp
theorem UF{F:Nat->Rat}{x:Rat}{s t:Nat}(hF:∀ i,qsz (F i)<=s)(hx:qsz x<=t)(n:Nat):qsz (CZ n F x)<=1+n*(s+t+1):=by
 induction n generalizing F with
 | zero=>show qsz 0<=_;rw[GK];omega
 | succ n ih =>
  rw[En];have h1:=EL (F 0) (x*CZ n (tl F) x);have h2:=BS x (CZ n (tl F) x);have h3:=ih (F:=tl F) fun i=>hF (i+1);have h4:=hF 0;rw[Nat.succ_mul];omega
theorem bT{F:Nat->Rat}{x:Rat}{s t:Nat}(hF:∀ i,qsz (F i)<=s)(hx:qsz x<=t)(n i:Nat):qsz (hor F x n i)<=1+n*(s+t+1):=by
 have h1:=UF (F:=fun j=>F (i+j)) (fun j=>hF (i+j)) hx (n - i);have h2:(n - i)*(s+t+1)<=n*(s+t+1):=Nat.mul_le_mul_right _ Aa;unfold hor;omega
theorem LH{F:Nat->Rat}{x:Rat}{s t n:Nat}(hs:BA n F)(hF:∀ i,qsz (F i)<=s)(hx:qsz x<=t):qsz (ev F x)<=1+n*(s+t+1):=by
 rw[F4 hs];exact UF hF hx n
noncomputable def iL(X Y:Nat->Rat)(n i:Nat):Nat->Rat:=psc (Y i / ev (lgp X i n) (X i)) (lgp X i n)
noncomputable def bB(X Y:Nat->Rat)(n:Nat):Nat->Nat->Rat
 | 0=>pz
 | m+1=>pad (bB X Y n m) (iL X Y n m)
def Mc(X:Nat->Rat)(n:Nat):Prop:=∀ i k,i < n->k < i->X i≠X k
theorem Mc.ne{X:Nat->Rat}{n:Nat}(h:Mc X n){i k:Nat}(hi:i < n)(hk:k < n)(e:k≠i):X i≠X k:=by
 rcases Nat.lt_or_ge k i with l | l
 ·exact h i k hi l
 ·exact fun e2=>h k i hk Aa e2.symm
theorem UX(X Y:Nat->Rat){n i:Nat}(h:i < n):BA n (iL X Y n i):=((Q9 X i n).2 h).psc _
theorem Q8(X Y:Nat->Rat)(n:Nat):∀ m,m<=n->BA n (bB X Y n m):=by
 intro m;induction m with
 | zero=>intro _;exact BA.pz n
 | succ m ih=>intro h;exact(ih Aa).pad (UX X Y h)
theorem YL{X Y:Nat->Rat}{n:Nat}(h:Mc X n){k:Nat}(hk:k < n):∀ m,m<=n->ev (bB X Y n m) (X k)=if k < m then Y k else 0:=by
 intro m;induction m with
 | zero=>intro _;show ev pz _=_;rw[R8,if_neg Aa]
 | succ m ih =>
  intro hm;show ev (pad (bB X Y n m) (iL X Y n m)) (X k)=_;rw[Kz ⟨n,Q8 X Y n m Aa⟩ ⟨n,UX X Y hm⟩,ih Aa];unfold iL;rw[FX _ (Qw _ _ _)];by_cases e:k=m
  ·subst e
   have:=YJ X (i:=k) (n:=n) (x:=X k) fun j hj hne=>h.ne hk hj hne;rw[if_neg Aa,if_pos Aa];grind
  ·rw[XU X hk e]
   by_cases l:k < m
   ·rw[if_pos l,if_pos Aa];grind
   ·rw[if_neg l,if_neg Aa];grind
theorem KS{X:Nat->Rat}{n:Nat}(h:Mc X n){F G:Nat->Rat}(hF:BA n F)(hG:BA n G)(e:∀ k,k < n->ev F (X k)=ev G (X k)):F=G:=by
 have hz:psb F G=pz:=by
  refine IM (l:=(List.range n).map X) (by simpa using hF.psb hG) ?_ ?_
  ·rw[List.nodup_iff_pairwise_ne,List.pairwise_map]
   refine List.Pairwise.imp_of_mem (R:=fun a b=>a < b) ?_ List.pairwise_lt_range;intro a b ha hb hab;exact fun e=>h b a (List.mem_range.1 hb) hab e.symm
  ·intro x hx
   obtain⟨k,hk,rfl⟩:=List.mem_map.1 hx;rw[iO ⟨n,hF⟩ ⟨n,hG⟩,e k (List.mem_range.1 hk)];grind
 funext i
 have:=congrFun hz i;simp only[psb,pz]at this;grind
def OH:Nat->Nat
 | 0=>22
 | 1=>22
 | j+2=>OH j+8*(OH (j+1)+1)
def mZ(j:Nat):Nat:=1+8*(OH j+8*(OH (j+1)+1)+OH (j+1)+1)
def X9:Nat->Nat
 | 0=>3
 | 1=>3
 | j+2=>X9 j+(mZ j+X9 (j+1)+1)+1
theorem Ul:∀ j,OH j<=OH (j+1)
 | 0=>Nat.le_refl _
 | j+1=>by show _<=OH j+8*(OH (j+1)+1);omega
theorem Uc:∀ j,X9 j<=X9 (j+1)
 | 0=>Nat.le_refl _
 | j+1=>by show _<=X9 j+(mZ j+X9 (j+1)+1)+1;omega
theorem JL{f:Nat->Nat}(h:∀ j,f j<=f (j+1)){i j:Nat}(k:i<=j):f i<=f j:=by
 induction j with
 | zero=>obtain rfl:i=0:=Aa;exact Nat.le_refl _
 | succ j ih =>
  rcases Nat.eq_or_lt_of_le k with e | e
  ·rw[e];exact Nat.le_refl _
  ·exact Nat.le_trans (ih Aa) (h j)
theorem iD:OH 7=7310526:=rfl
theorem iG:X9 7=76218651:=rfl
def Q5(F0 G0:Nat->Rat)(j:Nat)(R S U N:Nat->Rat):Prop:=
 (Ae R/\Ae S/\Ae U/\Ae N)/\(∀ E,Ae E->(Dv E R/\Dv E S↔Dv E F0/\Dv E G0)) /\
 (∃ V W,Ae V/\Ae W/\pad (cv U F0) (cv V G0)=R/\pad (cv N F0) (cv W G0)=S) /\
 (CD (OH j) R/\CD (OH (j+1)) S/\CD (X9 j) U/\CD (X9 (j+1)) N)/\pl R<=7/\pl S+j<=7/\pl G0<=7 /\
 ((j=0/\U=pone/\N=pz/\S=G0)\/(1<=j/\pl N+pl R<=pl G0+1/\pl U+pl R<=pl G0+1/\pl S<=pl R/\R≠pz))
theorem Q5.start{F G:Nat->Rat}(hF:Ae F)(hG:Ae G)(cF:CD 22 F)(cG:CD 22 G)(lF:pl F<=7)(lG:pl G<=7):Q5 F G 0 F G pone pz:=
 ⟨⟨hF,hG,DC,Ae.pz⟩,fun _ _=>Iff.rfl,⟨pz,pone,Ae.pz,DC,by rw[D8,Cx];funext n;simp only[pad,pz];grind,by rw[D8,Cx];funext n;simp only[pad,pz];grind⟩,
  ⟨cF,cG,CD.pone,CD.pz.mono (by show 1<=3;omega)⟩,lF,lG,lG,.inl ⟨rfl,rfl,rfl,rfl⟩⟩
theorem Q5.step{F0 G0 R S U N:Nat->Rat}{j:Nat}(h:Q5 F0 G0 j R S U N)(h0:S≠pz):Q5 F0 G0 (j+1) S (pr R S) N (psb U (cv (pq R S) N)):=by
 obtain⟨⟨hR,hS,hU,hN⟩,hd,⟨V,W,hV,hW,e1,e2⟩,⟨cR,cS,cU,cN⟩,lR,lS,lG,hj⟩:=h;have hp:=AZ hS h0;have hs:=Bj (Eo hR hS h0);have hR8:BA (8+pl S - 1) R:=(AJ hR).mono Aa;have q8:=LB hR8 hS h0;have hq:=Ea R S;have c1:=CD.pr hR8 hS h0 cR cS;have c2:=CD.pq hR8 hS h0 cR cS;refine⟨⟨hS,ES hR hS,hN,hU.psb (hq.cv hN)⟩,fun E hE=>by rw[MU];exact hd E hE,⟨W,psb V (cv (pq R S) W),hW,hV.psb (hq.cv hW),e2,?_⟩,
  ⟨cS,c1,cN,cU.psb (CD.cv q8 Aa c2 cN)⟩,Aa,Aa,lG,.inr ?_⟩
 ·show _=psb R (cv (pq R S) S)
  rw[FZ,FZ,AA,AA,<-e2,Gd]
  conv=>rhs;rw[<-e1]
  funext n;simp only[pad,psb];grind
 ·rcases hj with⟨rfl,rfl,rfl,rfl⟩ | ⟨hj,d1,d2,d3,d4⟩
  ·have e:psb pone (cv (pq R S) pz)=pone:=by rw[IR];funext n;simp only[psb,pz];grind
   have l1:=Bj Ev;rw[e,BH];exact⟨Aa,Aa,Aa,Aa,h0⟩
  ·have q1:=LB (n:=pl R - pl S+1) ((AJ hR).mono Aa) hS h0
   have l1:pl (psb U (cv (pq R S) N))<=pl G0+1 - pl S:=Bj (((AJ hU).mono Aa).psb ((q1.cv (AJ hN)).mono Aa));exact⟨Aa,Aa,Aa,Aa,h0⟩
theorem Q5.room{F0 G0 R S U N:Nat->Rat}{j:Nat}(h:Q5 F0 G0 j R S U N)(h0:S≠pz):j<=6/\OH j<=7310526/\OH (j+1)<=7310526/\X9 j<=76218651/\X9 (j+1)<=76218651/\BA 8 (pq R S)/\pl N<=8/\(∀ i,qsz (pq R S i)<=73105268) /\
  OH j+(pl R+2)*(OH (j+1)+1)+2*OH (j+1)+2<=68719476736/\(∀ i,qsz (cv (pq R S) N i)<=661060805)/\pl U<=8:=by
 obtain⟨⟨hR,hS,hU,hN⟩,hd,-,⟨cR,cS,cU,cN⟩,lR,lS,lG,hj⟩:=h;have hp:=AZ hS h0;have hR8:BA (8+pl S - 1) R:=(AJ hR).mono Aa;have q8:=LB hR8 hS h0;have b1:OH j<=7310526:=by rw[<-iD];exact JL Ul Aa
 have b2:OH (j+1)<=7310526:=by rw[<-iD];exact JL Ul Aa
 have a1:X9 j<=76218651:=by rw[<-iG];exact JL Uc Aa
 have a2:X9 (j+1)<=76218651:=by rw[<-iG];exact JL Uc Aa
 have c2:=CD.pq hR8 hS h0 cR cS;have c3:=CD.cv q8 Aa c2 cN;have h8:(pl R+2)*(OH (j+1)+1)<=9*(OH (j+1)+1):=Nat.mul_le_mul_right _ Aa;have lN:pl N<=8/\pl U<=8:=by
  rcases hj with⟨rfl,rfl,rfl,rfl⟩ | ⟨hj,d1,d2,d3,d4⟩
  ·have:=Bj Ev
   rw[BH];omega
  ·omega
 refine⟨Aa,b1,b2,a1,a2,q8,lN.1,fun i=>?_,Aa,fun i=>?_,lN.2⟩
 ·have:=Oi hR8 hS h0 cR cS i;omega
 ·have:=c3.elem i;omega
theorem Q5.end_{F0 G0 R S U N:Nat->Rat}{j:Nat}(h:Q5 F0 G0 j R S U N)(h0:S=pz)(hF:Ae F0)(hG:Ae G0)(hg:G0≠pz)(cF:CD 22 F0)(cG:CD 22 G0)(lF:pl F0<=7) :
  R≠pz/\CD 7310526 R/\CD 14621052 (mn R)/\CD 76218651 U/\CD 83529177 (psc (1 / ld R) U)/\pl U<=7/\1<=pl R/\pl R<=7 /\
  pq G0 (mn R)≠pz/\CD 1052715993 (pq G0 (mn R))/\pl (pq G0 (mn R))<=7 /\
  CD 8505257129 (pr (psc (1 / ld R) U) (pq G0 (mn R)))/\pl (pr (psc (1 / ld R) U) (pq G0 (mn R)))<=7 /\
  CD 8519878205 (psb (mn R) (cv (pr (psc (1 / ld R) U) (pq G0 (mn R))) F0))/\pl (psb (mn R) (cv (pr (psc (1 / ld R) U) (pq G0 (mn R))) F0))<=14 /\
  (∀ i,qsz (pq (psb (mn R) (cv (pr (psc (1 / ld R) U) (pq G0 (mn R))) F0)) G0 i)<=8519878572) /\
  mH F0 G0 (mn R) (pr (psc (1 / ld R) U) (pq G0 (mn R))) (pq (psb (mn R) (cv (pr (psc (1 / ld R) U) (pq G0 (mn R))) F0)) G0):=by
 subst h0;obtain⟨⟨hR,hS,hU,hN⟩,hd,⟨V,W,hV,hW,e1,e2⟩,⟨cR,cS,cU,cN⟩,lR,lS,lG,hj⟩:=h;rcases hj with⟨rfl,rfl,rfl,e⟩ | ⟨hj,d1,d2,d3,d4⟩
 ·exact absurd e.symm hg
 have pR:=AZ hR d4;have cR':CD 7310526 R:=cR.mono (by rw[<-iD];exact JL Ul Aa);have cU':CD 76218651 U:=cU.mono (by rw[<-iG];exact JL Uc Aa);have hD:=LC hR;have cD:CD 14621052 (mn R):=cR'.mn.mono Aa;have hI:Mf F0 G0 (mn R):=(Mf.zero hR).of hd;have hD0:=lH hR d4;have lD:=QN hR;obtain⟨A,hA,eA⟩:=hI.2.2.1;obtain⟨Q,hQ,eQ⟩:=hI.2.2.2.1;have hper:pq G0 (mn R)=Q:=by
  have:=(Oj hQ hD hD0).1;rw[<-eQ]at this;exact this
 have hQ0:Q≠pz:=fun e=>hg (by rw[eQ,e,Cx]);have lQ:pl G0=pl Q+pl (mn R) - 1:=by rw[eQ];exact EW hQ hD hQ0 hD0
 have pQ:=AZ hQ hQ0;have cQ:CD 1052715993 Q:=by
  rw[<-hper];exact(CD.pq (n:=8) ((AJ hG).mono Aa) hD hD0 cG cD).mono Aa
 have c1:qsz (1 / ld R)<=7310526:=by
  have e:1 / ld R=(ld R)⁻¹ := by rw[Rat.div_def,Rat.one_mul]
  rw[e];exact Nat.le_trans (QG _) (cR'.elem _)
 have cU1:CD 83529177 (psc (1 / ld R) U):=(cU'.psc _).mono Aa;have hU1:Ae (psc (1 / ld R) U):=hU.psc _;have lU1:pl (psc (1 / ld R) U)<=7:=Nat.le_trans (Bj ((AJ hU).psc _)) Aa;rw[hper];obtain⟨U1,hU1e⟩:∃ U1,U1=psc (1 / ld R) U:=⟨_,rfl⟩
 rw[<-hU1e]at cU1 hU1 lU1 ⊢;have hU2:=ES hU1 hQ;have cU2:CD 8505257129 (pr U1 Q):=(CD.pr (n:=8) ((AJ hU1).mono Aa) hQ hQ0 cU1 cQ).mono Aa;have sU2:=Eo hU1 hQ hQ0;have lU2:=Bj sU2;have cX:CD 8519878205 (psb (mn R) (cv (pr U1 Q) F0)):=(cD.psb (CD.cv sU2 Aa cU2 cF)).mono Aa;have hX:Ae (psb (mn R) (cv (pr U1 Q) F0)):=hD.psb (hU2.cv hF);have lX:pl (psb (mn R) (cv (pr U1 Q) F0))<=14:=Bj (((AJ hD).mono Aa).psb (((AJ hU2).cv (AJ hF)).mono Aa))
 have key:psb (mn R) (cv (pr U1 Q) F0)=cv (pad (psc (1 / ld R) V) (cv (pq U1 Q) A)) G0:=by
  have k1:cv (pr U1 Q) F0=psb (cv U1 F0) (cv (cv (pq U1 Q) Q) F0):=by
   unfold pr;rw[FZ]
  have k2:cv (cv (pq U1 Q) Q) F0=cv (cv (pq U1 Q) A) G0:=by
   rw[AA,AA];congr 1
   conv=>lhs;rw[eA]
   conv=>rhs;rw[eQ]
   rw[<-AA,<-AA,Bn Q A]
  have k3:mn R=pad (cv U1 F0) (cv (psc (1 / ld R) V) G0):=by
   rw[hU1e,Df,Df];show psc (1 / ld R) R=_
   conv=>lhs;rw[<-e1]
   funext n;simp only[pad,psc];grind
  rw[k1,k2,Dw]
  conv=>lhs;rw[k3]
  funext n;simp only[pad,psb];grind
 have hB:Ae (pad (psc (1 / ld R) V) (cv (pq U1 Q) A)):=(hV.psc _).pad ((Ea _ _).cv hA);have hV2:pq (psb (mn R) (cv (pr U1 Q) F0)) G0=pad (psc (1 / ld R) V) (cv (pq U1 Q) A):=by
  rw[key];exact(Oj hB hG hg).1
 refine⟨d4,cR',cD,cU',cU1,Aa,pR,lR,hQ0,cQ,Aa,cU2,Aa,cX,lX,fun i=>?_,hI,hU2,Ea _ _,?_,sU2.mono Aa⟩
 ·have:=Oi (n:=15) ((AJ hX).mono Aa) hG hg cX cG i
  omega
 ·rw[hV2,<-key]
  funext n;simp only[pad,psb];grind
theorem EB.at_{base n c:Nat}{e:TypeId}{w:World}{A:Option Addr}{l:List Rat}(h:EB base e w (.slice A n c) l){j:Nat}(hj:j < l.length) :
  ∃ g o b A1 n c b' A1' n' c',A=some ⟨g,o,none⟩/\base<=g/\w.cell? ⟨g,o+j*4,none⟩=some (.bool b)/\w.cell? ⟨g,o+j*4+1,none⟩=some (.slice A1 n c)/\w.cell? ⟨g,o+j*4+2,none⟩=some (.bool b')/\w.cell? ⟨g,o+j*4+3,none⟩=some (.slice A1' n' c')/\Bz w (.agg #[.bool b,.slice A1 n c,.bool b',.slice A1' n' c']) l[j]:=by
 obtain⟨A',c',e1,h2,h3,h4⟩:=EB.row h;cases e1;exact LY.at_ h4 hj
theorem EB.shape{base:Nat}{e:TypeId}{w:World}{v:Value}{l:List Rat}(h:EB base e w v l):∃ A c,v = .slice A l.length c/\l.length<=c/\c<=9223372036854775807:=by
 obtain⟨A',c',e1,h2,h3,h4⟩:=EB.row h;exact⟨A',c',e1,h2,h3⟩
theorem Di.upd{base:Nat}{G:List Nat}{w w':World}{v:Value}{F:Nat->Rat}(h:Di base w v F)(U:Cu G w w')(hG:∀ g∈G,g < base):Di base w' v F:=by
 obtain⟨l,h1,h2,h3⟩:=h;exact⟨l,Da.upd h1 U hG fun _ _ q=>q.kd U.kd,h2,h3⟩
theorem Sm.own{w:World}{v:Value}{base:Nat}{q:Rat}{t:TypeId}(h:Sm w v base q t):EB base t w v [q]:=by
 obtain⟨g,cs,rfl,h1,h2,h3,h4⟩:=h;refine⟨[cs],rfl,fun c hc=>by simp at hc;subst hc;exact h3,⟨by simp[h3],.inr ⟨g,1,cs,rfl,h1,h2,Ac,by simp[maxLen],by simp[h3],?_⟩⟩,fun j h h'=>?_⟩
 ·simp only[List.flatMap_cons,List.flatMap_nil,List.append_nil]
  exact List.take_of_length_le (by simp[h3])
 ·have:j=0:=by simp at h;omega
  subst this;exact h4
theorem AP.of_one{w:World}{A:Option Addr}{c N:Nat}{b:Bool}{n:Int}(h:BM w (.slice A 1 c) [N])(h0:N≠0)(hn:n=if b then -(N:Int)else N):AP w (.agg #[.bool b,.slice A 1 c]) n:=by
 refine⟨b,[N],⟨_,rfl,h⟩,?_,fun _=>by simpa using h0,fun _=>Ac⟩;rw[hn];unfold iv;simp[nv]
theorem AP.of_nil{w:World}:AP w (.agg #[.bool false,.slice none 0 0]) 0:=AP.zero w
def UI(w:World)(v:Value)(ns:List Int):Prop:=∃ g c,v = .slice (some ⟨g,0,none⟩) ns.length c/\ns.length<=c/\c<=9223372036854775807/\∀ j (h:j < ns.length),w.cell? ⟨g,j,none⟩=some (.int .i64 ns[j])
theorem UI.new(w:World)(t:TypeId)(ns:List Int)(h:ns.length<=1000):UI (w.alloc (.cells (ns.map fun n=>Value.int .i64 n).toArray t)) (.slice (some ⟨w.heap.size,0,none⟩) ns.length ns.length) ns:=
 ⟨_,_,rfl,Nat.le_refl _,Aa,fun j hj=>by
  rw[cell_of_row _ w.heap.size j _ t (0,0) (heap_alloc_new w _)];simp[hj]⟩
theorem Qi.at_{base n c:Nat}{w:World}{A:Option Addr}{l:List Rat}(h:Qi base w (.slice A n c) l){j:Nat}(hj:j < l.length) :
  ∃ g o b A1 n c b' A1' n' c',A=some ⟨g,o,none⟩/\base<=g/\w.cell? ⟨g,o+j*4,none⟩=some (.bool b)/\w.cell? ⟨g,o+j*4+1,none⟩=some (.slice A1 n c)/\w.cell? ⟨g,o+j*4+2,none⟩=some (.bool b')/\w.cell? ⟨g,o+j*4+3,none⟩=some (.slice A1' n' c')/\Bz w (.agg #[.bool b,.slice A1 n c,.bool b',.slice A1' n' c']) l[j]:=by
 obtain⟨A',c',e1,h2,h3,h4⟩:=h;have e5:A'=A:=by injection e1 with h1;exact h1.symm
 subst e5;exact LY.at_ h4 hj
theorem Yv{d:Nat}(h0:d≠0)(h1:d < 4294967296)(hb:d < 2^Lib.bitLen d)(hb2:2^Lib.bitLen d<=2*d):0 < Lib.bitLen d/\2^(Lib.bitLen d - 1)<=d:=by
 generalize Lib.bitLen d=b at *;rcases b with _ | b
 ·simp at hb;omega
 ·rw[Nat.pow_succ]at hb2
  exact⟨Aa,by rw[Nat.add_sub_cancel];omega⟩
theorem BL.uniq{n b c:Nat}(h:BL n b)(k:BL n c):b=c:=Nat.le_antisymm (h.le k.1) (k.le h.1)
theorem BL.sz{n b:Nat}(h:BL n b):b<=32*sz n:=h.le (by rw[<-Cy];exact CR n)
theorem Rk{x y:Int}(h:x.sign=y.sign):x.sign*((x.natAbs:Int) - y.natAbs).sign=(x - y).sign:=by
 rcases Int.lt_trichotomy x 0 with h1 | h1 | h1
 ·rw[Int.sign_eq_neg_one_of_neg h1]at h ⊢
  have h2:y < 0:=by
   rcases Int.lt_trichotomy y 0 with k | k | k
   ·exact k
   ·rw[k]at h;cases h
   ·rw[Int.sign_eq_one_of_pos k]at h;cases h
  rw[show(x.natAbs:Int) - y.natAbs = -(x - y) by omega,Int.sign_neg];omega
 ·subst h1
  have:y=0:=by
   rcases Int.lt_trichotomy y 0 with k | k | k
   ·rw[Int.sign_eq_neg_one_of_neg k]at h;cases h
   ·exact k
   ·rw[Int.sign_eq_one_of_pos k]at h;cases h
  subst this;rfl
 ·rw[Int.sign_eq_one_of_pos h1]at h ⊢
  have h2:0 < y:=by
   rcases Int.lt_trichotomy y 0 with k | k | k
   ·rw[Int.sign_eq_neg_one_of_neg k]at h;cases h
   ·rw[k]at h;cases h
   ·exact k
  rw[show(x.natAbs:Int) - y.natAbs=x - y by omega];omega
theorem U5{x y:Int}(h:x.sign≠y.sign):(x.sign - y.sign).sign=(x - y).sign:=by
 rcases Int.lt_trichotomy x 0 with h1 | h1 | h1<;>rcases Int.lt_trichotomy y 0 with h2 | h2 | h2
 all_goals first
  | (rw[Int.sign_eq_neg_one_of_neg h1,Int.sign_eq_neg_one_of_neg h2]at h;exact absurd rfl h)
  | (rw[Int.sign_eq_one_of_pos h1,Int.sign_eq_one_of_pos h2]at h;exact absurd rfl h)
  | (subst h1;subst h2;exact absurd rfl h)
  | (rw[Int.sign_eq_neg_one_of_neg h1,Int.sign_eq_one_of_pos h2,Int.sign_eq_neg_one_of_neg (show x - y < 0 by omega)];rfl)
  | (rw[Int.sign_eq_one_of_pos h1,Int.sign_eq_neg_one_of_neg h2,Int.sign_eq_one_of_pos (show 0 < x - y by omega)];rfl)
  | (subst h1;simp[Int.sign_neg])
  | (subst h2;simp)
theorem Ke(x:Int) : -1<=x.sign/\x.sign<=1:=by
 rcases Int.lt_trichotomy x 0 with h | h | h
 ·rw[Int.sign_eq_neg_one_of_neg h];omega
 ·subst h;simp
 ·rw[Int.sign_eq_one_of_pos h];omega
theorem Mo.trim{base:Nat}{w:World}{A:Option Addr}{l:List Int}(h:Mw base w A l){c:Nat}(hl:l.length<=c)(hc:c<=9223372036854775807:=by omega):Mo base w (.slice A (BV (zq l)).length c) (QP l):=by
 refine⟨A,c,by rw[Pz],by rw[Pz];have:=Zb l;omega,hc,DU.take h _⟩
theorem Io{l:List Int}{m:Nat}(hm:m<=l.length)(hz:∀ j,m<=j->(h:j < l.length)->l[j]=0)(hlast:∀ h:m - 1 < l.length,0 < m->l[m - 1]≠0):(BV (zq l)).length=m:=by
 have:=G6 (l:=zq l) (m:=m) (by rw[Ex];exact hm) (fun j h1 h2=>by rw[Ex]at h2;rw[Oc h2,hz j h1 h2];rfl) (fun h h0=>by
  rw[Ex]at h;rw[Oc h];intro e;exact hlast h h0 (by exact_mod_cast e))
 rw[this,List.length_take,Ex];omega
theorem Cw.isZP{base:Nat}{w:World}{g:Nat}{t:TypeId}{l:List Int}{F:Nat->Rat}(h:Cw w g t l)(hF:cz l=F)(hb:base<=g){c:Nat}(hc:l.length<=c)(hm:c<=9223372036854775807):AC base w (.slice (some ⟨g,0,none⟩) (BV (zq l)).length c) F:=
 AC.of_trim (Mo.trim (h.row hb) hc hm) hF
theorem I1(l:List Int):(BV (zq l)).length=pl (cz l):=by unfold cz;rw[<-(FQ (zq l)).pl,GV]
theorem Bq.zero(w:World):Bq w (.agg #[.bool false,.slice none 0 0]) 0:=(Ld w).has Ab
def dl:Nat->(Nat->Rat)->Nat
 | 0,_=>1
 | n+1,F=>Nat.lcm (dl n F) (F n).den
theorem Qr(n:Nat)(F:Nat->Rat):dl (n+1) F=Nat.lcm (dl n F) (F n).den:=rfl
theorem LF(F:Nat->Rat):∀ n,0 < dl n F
 | 0=>by show 0 < 1;omega
 | n+1=>Nat.lcm_pos (LF F n) (F n).den_pos
theorem Q0(F:Nat->Rat):∀ n i,i < n->(F i).den∣dl n F
 | n+1,i,h=>by
  rw[Qr];rcases Nat.lt_or_ge i n with l | l
  ·exact Nat.dvd_trans (Q0 F n i l) (Nat.dvd_lcm_left _ _)
  ·obtain rfl:i=n:=by omega
   exact Nat.dvd_lcm_right _ _
theorem ZY(n:Nat)(F:Nat->Rat):dl n F*((F n).den / Nat.gcd (dl n F) (F n).den)=dl (n+1) F:=by
 rw[Qr,Nat.lcm,Nat.mul_div_assoc _ (Nat.gcd_dvd_right _ _)]
theorem YA(n:Nat)(F:Nat->Rat):dl n F*(F n).den / Nat.gcd (dl n F) (F n).den=dl (n+1) F:=rfl
theorem Vo{F:Nat->Rat}{s:Nat}(h:∀ i,qsz (F i)<=s):∀ n,sz (dl n F)<=1+n*s
 | 0=>by show sz 1<=_;have:sz 1=1:=Ab;omega
 | n+1=>by
  have h1:=Vo h n;have h2:=h n;have h3:sz (dl (n+1) F)<=sz (dl n F*(F n).den):=Bl (by rw[Qr];exact Nat.div_le_self _ _);have h4:=Cg (dl n F) (F n).den;unfold qsz at h2;rw[Nat.succ_mul];omega
def CQ(n:Nat)(F:Nat->Rat):Nat->Rat:=psc ((dl n F:Nat):Rat) F
theorem Y8{n:Nat}{F:Nat->Rat}(h:BA n F)(i:Nat):CQ n F i=(((F i).num*((dl n F:Int) / ((F i).den:Int)):Int):Rat):=by
 rcases Nat.lt_or_ge i n with hi | hi
 ·obtain⟨k,hk⟩:=Q0 F n i hi
  have hd:((F i).den:Int)≠0:=by have:=(F i).den_pos;omega
  have e:(dl n F:Int) / ((F i).den:Int)=k:=by rw[hk,Int.natCast_mul,Int.mul_ediv_cancel_left _ hd]
  rw[e];show((dl n F:Nat):Rat)*F i=_;rw[hk];have h1:F i=((F i).num:Rat) / ((F i).den:Rat):=K9 _;have hd':((F i).den:Rat)≠0:=JV (F i).den_pos;have h2:(((F i).num*(k:Int):Int):Rat)=((F i).num:Rat)*(k:Rat):=by rw[Rat.intCast_mul];rfl
  have h3:(((F i).den*k:Nat):Rat)=((F i).den:Rat)*(k:Rat):=by rw[Rat.natCast_mul]
  rw[h2,h3];generalize ((F i).num:Rat)=a at *;generalize ((F i).den:Rat)=d at *;rw[h1];grind
 ·show((dl n F:Nat):Rat)*F i=_
  rw[h i hi];simp
theorem Ep{n:Nat}{F:Nat->Rat}(h:BA n F):ZI (CQ n F):=fun i=>⟨_,Y8 h i⟩
theorem Uu{n:Nat}{F:Nat->Rat}(h:BA n F)(i:Nat):(CQ n F i).num=(F i).num*((dl n F:Int) / ((F i).den:Int)):=by rw[Y8 h];rfl
theorem DT{n:Nat}{F:Nat->Rat}(h:Ae F):Ae (CQ n F):=h.psc _
theorem RQ(n:Nat)(F:Nat->Rat):((dl n F:Nat):Rat)≠0:=JV (LF F n)
theorem LD{n:Nat}{F:Nat->Rat}(h:Ae F):pl (CQ n F)=pl F:=CV (RQ n F) h
theorem NA{n:Nat}{F:Nat->Rat}(h:Ae F)(h0:F≠pz):CQ n F≠pz:=fun e=>h0 ((Bt h).1 (by rw[<-LD (n:=n) h,e,BH]))
theorem KN{n:Nat}{F:Nat->Rat}{s:Nat}(h:∀ i,qsz (F i)<=s)(i:Nat):qsz (CQ n F i)<=1+n*s+1+s:=by
 have h1:=Vo h n;have h2:=h i;have h3:=BS ((dl n F:Nat):Rat) (F i);have h4:qsz ((dl n F:Nat):Rat)<=1+n*s+1:=by
  change qsz (((dl n F:Nat):Int):Rat)<=_
  rw[Bi,Int.natAbs_natCast];omega
 show qsz (((dl n F:Nat):Rat)*F i)<=_;omega
noncomputable def KU(n:Nat)(F:Nat->Rat):Rat:=ld F / ld (pp (CQ n F))
theorem Kv{a:Rat}(ha:a≠0){F:Nat->Rat}(h:Ae F):ld (psc a F)=a*ld F:=by unfold ld;rw[CV ha h];rfl
theorem fM{F:Nat->Rat}(hz:ZI F)(h:Ae F)(h0:F≠pz):ld (pp F)=ld F / (pcn F:Rat):=by
 have hp':(pcn F:Rat)≠0:=fun e=>ED hz h h0 (by exact_mod_cast e);unfold pp;rw[Kv (LX hp') h];grind
theorem TC{n:Nat}{F:Nat->Rat}(hs:BA n F)(h0:F≠pz):KU n F=(pcn (CQ n F):Rat) / ((dl n F:Nat):Rat)/\psc (KU n F) (pp (CQ n F))=F:=by
 have h:Ae F:=⟨n,hs⟩
 have hz:=Ep hs;have hf:=DT (n:=n) h;have hne:=NA (n:=n) h h0;have hp':(pcn (CQ n F):Rat)≠0:=fun e=>ED hz hf hne (by exact_mod_cast e);have hl:=Dh h h0;have hd:=RQ n F;have e1:ld (CQ n F)=((dl n F:Nat):Rat)*ld F:=Kv hd h;have e2:KU n F=(pcn (CQ n F):Rat) / ((dl n F:Nat):Rat):=by
  unfold KU;rw[fM hz hf hne,e1];grind
 refine⟨e2,?_⟩;rw[e2];unfold pp CQ;rw[Ci,Ci];have e3:(pcn (psc ((dl n F:Nat):Rat) F):Rat) / ((dl n F:Nat):Rat)*(1 / (pcn (psc ((dl n F:Nat):Rat) F):Rat))*((dl n F:Nat):Rat)=1:=by
  change (pcn (psc ((dl n F:Nat):Rat) F):Rat)≠0 at hp'
  grind
 rw[e3,Cq]
theorem Sz{F:Nat->Rat}(hz:ZI F)(h:Ae F)(h0:F≠pz):cn (pp F)=1:=by
 have hpf:=Dl h;have hp:=ED hz h h0;have hc:=IW hz h h0;have key:(pcn F*(cn (pp F):Int))∣(cn F:Int):=Zn fun i=>by
  obtain⟨k,hk⟩:=Ik hpf i;obtain⟨j,hj⟩:=Il h i;have e:=Nl hz h h0 i;rw[hj,Int.mul_ediv_cancel_left _ hp]at e;have e2:(pp F i).num=j:=by rw[e];rfl
  rw[hj,<-e2,hk];exact⟨k,by rw[Int.mul_assoc]⟩
 have h1:=Int.natAbs_dvd_natAbs.2 key;rw[Int.natAbs_mul,Fh]at h1;have h2:cn F*cn (pp F)∣cn F*1:=by simpa using h1
 exact Nat.eq_one_of_dvd_one (Nat.dvd_of_mul_dvd_mul_left (Nat.pos_of_ne_zero hc) h2)
theorem MB{F:Nat->Rat}(hz:ZI F)(h:Ae F)(h0:F≠pz):0 < ld (pp F):=by
 rw[fM hz h h0];have hl:=Dh h h0;have hc:=IW hz h h0;have hc':(0:Rat) < (cn F:Rat):=by exact_mod_cast Nat.pos_of_ne_zero hc
 by_cases hn:ld F < 0
 ·have e:pcn F = -(cn F:Int):=by unfold pcn;rw[if_pos hn]
  rw[e];have e2:((-(cn F:Int):Int):Rat) = -(cn F:Rat):=by rw[Rat.intCast_neg];rfl
  rw[e2];have:ld F / -(cn F:Rat)=(-ld F) / (cn F:Rat):=by grind
  rw[this,Rat.div_def];exact Rat.mul_pos Ah (Rat.inv_pos.2 hc')
 ·have e:pcn F=(cn F:Int):=by unfold pcn;rw[if_neg hn]
  rw[e];have e2:(((cn F:Nat):Int):Rat)=(cn F:Rat):=rfl;rw[e2,Rat.div_def];exact Rat.mul_pos Ah (Rat.inv_pos.2 hc')
theorem Xt{F:Nat->Rat}(hz:ZI F)(h:Ae F):pp (pp F)=pp F:=by
 by_cases h0:F=pz
 ·rw[h0,I4,I4]
 ·have h1:pcn (pp F)=1:=by
   unfold pcn;rw[if_neg (by have:=MB hz h h0;grind),Sz hz h h0];rfl
  show psc (1 / ((pcn (pp F):Int):Rat)) (pp F)=pp F;rw[h1];have:1 / ((1:Int):Rat)=1:=by decide +kernel
  rw[this,Cq]
theorem NP{P:Nat->Prop}(h:∃ i,P i):∃ i,P i/\∀ j,j < i->¬ P j:=OW h
def mO(p:Nat):Prop:=1 < p/\∀ k,k∣p->k=1\/k=p
theorem gK{d:Nat}(h:1 < d):∃ p,mO p/\p∣d:=by
 obtain⟨p,⟨h1,h2⟩,h3⟩:=NP (P:=fun p=>1 < p/\p∣d) ⟨d,h,Nat.dvd_refl d⟩;refine⟨p,⟨h1,fun k hk=>?_⟩,h2⟩;have hkp:=Nat.le_of_dvd Aa hk;have hk0:k≠0:=fun e=>by subst e;have:=Nat.eq_zero_of_zero_dvd hk;omega
 by_cases e:k=p
 ·exact .inr e
 ·exact .inl (by
   by_cases e1:1 < k
   ·exact absurd ⟨e1,Nat.dvd_trans hk h2⟩ (h3 k Aa)
   ·omega)
theorem mO.mul{p:Nat}(h:mO p){a b:Int}(k:(p:Int)∣a*b):(p:Int)∣a\/(p:Int)∣b:=by
 rw[Int.ofNat_dvd_left,Int.natAbs_mul]at k;rw[Int.ofNat_dvd_left,Int.ofNat_dvd_left];rcases h.2 _ (Nat.gcd_dvd_left p a.natAbs)with e | e
 ·exact .inr (Nat.Coprime.dvd_of_dvd_mul_left e k)
 ·exact .inl (by rw[<-e];exact Nat.gcd_dvd_right _ _)
def Dz(p:Nat)(x:Rat):Prop:=∃ z:Int,x=(p:Rat)*(z:Rat)
theorem Dz.add{p:Nat}{x y:Rat}(h:Dz p x)(k:Dz p y):Dz p (x+y):=by
 obtain⟨a,rfl⟩:=h;obtain⟨b,rfl⟩:=k;exact⟨a+b,by rw[Rat.intCast_add];grind⟩
theorem Dz.sub{p:Nat}{x y:Rat}(h:Dz p x)(k:Dz p y):Dz p (x - y):=by
 obtain⟨a,rfl⟩:=h;obtain⟨b,rfl⟩:=k;exact⟨a - b,by rw[Rat.intCast_sub];grind⟩
theorem Dz.zero(p:Nat):Dz p 0:=⟨0,Ac⟩
theorem Dz.mul{p:Nat}{x:Rat}(h:Dz p x)(y:Int):Dz p (x*(y:Rat)):=by
 obtain⟨a,rfl⟩:=h;exact⟨a*y,by rw[Rat.intCast_mul];grind⟩
theorem PR{p:Nat}{n:Int}:Dz p (n:Rat)↔(p:Int)∣n:=by
 constructor
 ·rintro⟨z,h⟩
  refine⟨z,?_⟩;rw[show((p:Nat):Rat)=(((p:Nat):Int):Rat)from rfl,<-Rat.intCast_mul]at h;exact Ij h
 ·rintro⟨z,rfl⟩
  exact⟨z,by rw[Rat.intCast_mul];rfl⟩
theorem l8{p n i:Nat}{f:Nat->Rat}(hi:i < n)(h:∀ k,k < n->k≠i->Dz p (f k)):Dz p (sm n f - f i):=by
 induction n with
 | zero=>omega
 | succ n ih =>
  rw[BF];by_cases e:i=n
  ·subst e
   rw[show sm i f+f i - f i=sm i f from by grind];clear ih hi;have:∀ m,m<=i->Dz p (sm m f):=fun m=>by
    induction m with
    | zero=>intro _;exact Dz.zero p
    | succ m ih=>intro hm;rw[BF];exact(ih Aa).add (h m Aa Aa)
   exact this i (Nat.le_refl _)
  ·have h1:=ih Aa fun k hk=>h k Aa
   rw[show sm n f+f n - f i=(sm n f - f i)+f n from by grind];exact h1.add (h n Aa fun q=>e q.symm)
theorem ZI.cv{F G:Nat->Rat}(h:ZI F)(k:ZI G):ZI (cv F G):=fun i=>by
 rw[Su];have:∀ n (f:Nat->Rat),(∀ j,∃ z:Int,f j=(z:Rat))->∃ z:Int,sm n f=(z:Rat):=fun n f hf=>by
  induction n with
  | zero=>exact⟨0,rfl⟩
  | succ n ih =>
   obtain⟨a,ha⟩:=ih;obtain⟨b,hb⟩:=hf n;exact⟨a+b,by rw[BF,ha,hb,Rat.intCast_add]⟩
 refine this _ _ fun j=>?_;obtain⟨a,ha⟩:=h j;obtain⟨b,hb⟩:=k (i - j);exact⟨a*b,by rw[ha,hb,Rat.intCast_mul]⟩
theorem NY{F:Nat->Rat}(h:Ae F){d:Nat}:d∣cn F↔∀ i,(d:Int)∣(F i).num:=
 ⟨fun k i=>Int.dvd_trans (Int.natCast_dvd_natCast.2 k) (Ik h i),fun k=>Int.natCast_dvd_natCast.1 (Zn k)⟩
theorem fO{F G:Nat->Rat}(zF:ZI F)(zG:ZI G)(fF:Ae F)(fG:Ae G)(hF:cn F=1)(hG:cn G=1):cn (cv F G)=1:=by
 have nF:F≠pz:=fun e=>by rw[e,Nn]at hF;omega
 have nG:G≠pz:=fun e=>by rw[e,Nn]at hG;omega
 have h0:cn (cv F G)≠0:=IW (zF.cv zG) (fF.cv fG) fun e=>by
  have:=EW fF fG nF nG;have a:=AZ fF nF;have b:=AZ fG nG;rw[e,BH]at this;omega
 by_cases h1:cn (cv F G)=1
 ·exact h1
 ·obtain⟨p,hp,hd⟩:=gK (d:=cn (cv F G)) Aa
  have hall:=(NY (fF.cv fG)).1 hd;have ex:∀ {H:Nat->Rat},Ae H->cn H=1->∃ i,¬ (p:Int)∣(H i).num:=fun {H} fH hH=>by
   by_cases k:∃ i,¬ (p:Int)∣(H i).num
   ·exact k
   ·have:=(NY fH (d:=p)).2 fun i=>by
     by_cases q:(p:Int)∣(H i).num
     ·exact q
     ·exact absurd ⟨i,q⟩ k
    rw[hH]at this;have:=Nat.le_of_dvd Aa this;have:=hp.1;omega
  obtain⟨i,hi,hi'⟩:=NP (ex fF hF);obtain⟨j,hj,hj'⟩:=NP (ex fG hG);have hs:=l8 (p:=p) (n:=i+j+1) (i:=i) (f:=fun k=>F k*G (i+j - k)) Aa fun k hk hne=>by
   rcases Nat.lt_or_ge k i with a | a
   ·have:Dz p (F k):=by
     rw[zF.num k];refine PR.2 ?_;by_cases q:(p:Int)∣(F k).num
     ·exact q
     ·exact absurd q (hi' k a)
    show Dz p (F k*G (i+j - k));rw[zG.num (i+j - k)];exact this.mul _
   ·have:Dz p (G (i+j - k)):=by
     rw[zG.num];refine PR.2 ?_;by_cases q:(p:Int)∣(G (i+j - k)).num
     ·exact q
     ·exact absurd q (hj' _ Aa)
    show Dz p (F k*G (i+j - k));rw[Rat.mul_comm,zF.num k];exact this.mul _
  rw[<-Su]at hs;simp only[show i+j - i=j from by omega]at hs;have ht:Dz p (cv F G (i+j)):=by rw[(zF.cv zG).num];exact PR.2 (hall _)
  have hu:=ht.sub hs;rw[show cv F G (i+j) - (cv F G (i+j) - F i*G j)=F i*G j from Ah,zF.num i,zG.num j,<-Rat.intCast_mul]at hu;rcases hp.mul (PR.1 hu)with q | q
  ·exact absurd q hi
  ·exact absurd q hj
theorem Zj(a:Int){F:Nat->Rat}(z:ZI F):∀ n,ct n (psc (a:Rat) F)=a.natAbs*ct n F
 | 0=>by show 0=_*0;omega
 | n+1=>by
  rw[Gx,Gx,Zj a z n];have:(psc (a:Rat) F n).num=a*(F n).num:=by show((a:Rat)*F n).num=_;rw[z.num n,num_mul];rfl
  rw[this];show Nat.gcd _ _=_*Nat.gcd _ _;rw[Int.natAbs_mul,Int.natAbs_natCast,Int.natAbs_natCast,Nat.gcd_mul_left]
theorem Im{a:Int}(h:a≠0){F:Nat->Rat}(z:ZI F)(f:Ae F):cn (psc (a:Rat) F)=a.natAbs*cn F:=by
 unfold cn;rw[CV (fun e=>h (by exact_mod_cast e)) f,Zj a z]
theorem Pf{F G:Nat->Rat}(zF:ZI F)(zG:ZI G)(fF:Ae F)(fG:Ae G):cn (cv F G)=cn F*cn G:=by
 by_cases hF:F=pz
 ·rw[hF,Cx,Nn];omega
 by_cases hG:G=pz
 ·rw[hG,IR,Nn];omega
 have nF:=ED zF fF hF;have nG:=ED zG fG hG;have e:cv F G=psc ((pcn F*pcn G:Int):Rat) (cv (pp F) (pp G)):=by
  have e1:=Pk zF fF hF;have e2:=Pk zG fG hG;have:cv F G=cv (psc (pcn F:Rat) (pp F)) (psc (pcn G:Rat) (pp G)):=by rw[<-e1,<-e2]
  rw[this,Df,Qf,Ci,Rat.intCast_mul]
 rw[e,Im (Int.mul_ne_zero nF nG) ((IY zF fF).cv (IY zG fG)) ((Dl fF).cv (Dl fG)),fO (IY zF fF) (IY zG fG) (Dl fF) (Dl fG) (Sz zF fF hF) (Sz zG fG hG),Int.natAbs_mul,Fh,Fh];omega
theorem QJ{N:Nat}{F G:Nat->Rat}{p:Nat}{x:Int}(h:∀ n,(G n).num=if n=p then x else(F n).num):(DN N F).set p x=DN N G:=by
 apply List.ext_getElem
 ·simp[DN]
 ·intro i h1 h2
  rw[List.getElem_set,Ch,Ch,h];by_cases e:p=i
  ·subst e;simp
  ·rw[if_neg e,if_neg (fun q=>e q.symm)]
theorem Vm(N:Nat):DN N pz=List.replicate N 0:=by
 apply List.ext_getElem
 ·simp[DN]
 ·intro i h1 h2;rw[Ch];simp;rfl
def dM(b:Nat)(F G:Nat->Rat)(r:Value)(w:World):Prop:=∃ q m,r = .tuple #[q,m,.int .i64 0]/\AC b w q F/\AC b w m G
theorem Zi{F:Nat->Rat}(h:ZI F):ld F=((ld F).num:Rat):=h.num _
theorem bL{G:Nat->Rat}(hz:ZI G)(h:Ae G):Iz (zq (DN (pl G) G)):=fun h0=>by
 rw[Ex,AX]at h0;have:=Ez h h0;have e:(zq (DN (pl G) G)).length - 1=pl G - 1:=by rw[Ex,AX]
 simp only[e];rw[Oc (by rw[AX];omega),Ch,<-hz.num];exact this
theorem Cw.whole{base:Nat}{w:World}{g:Nat}{t:TypeId}{G:Nat->Rat}(h:Cw w g t (DN (pl G) G))(hz:ZI G)(hf:Ae G)(hb:base<=g){c:Nat}(hc:pl G<=c)(hm:c<=9223372036854775807):AC base w (.slice (some ⟨g,0,none⟩) (pl G) c) G:=
 ⟨_,⟨_,c,by rw[AX],by rw[AX];exact hc,hm,h.row hb⟩,bL hz hf,EU hz (AJ hf)⟩
theorem KF(l:List Int):l.take (pl (cz l))=DN (pl (cz l)) (cz l):=by
 have h:=Bj (BG l)
 apply List.ext_getElem
 ·rw[AX,List.length_take];omega
 ·intro i h1 h2
  have h3:i < l.length:=by rw[List.length_take]at h1;omega
  rw[Ch,List.getElem_take,Cn h3];rfl
theorem Qh{F G:Nat->Rat}(hF:ZI F)(hG:ZI G)(n:Nat):(psc (ld G) F n).num=(F n).num*(ld G).num:=by
 show(ld G*F n).num=_;rw[Zi hG,hF.num n,num_mul,Int.mul_comm];rfl
theorem ZM{F G:Nat->Rat}(hF:ZI F)(hG:ZI G):ZI (psc (ld G) F):=by rw[Zi hG];exact hF.psc _
theorem QE{F G:Nat->Rat}{k i n:Nat}(hi:i=pl F - pl G - k):Dj F G (k+1) n=psc (ld G) (Dj F G k) n - Dj F G k (pl F - 1 - k)*sh i G n:=by subst hi;rfl
theorem YF{F G:Nat->Rat}(hF:ZI F)(hG:ZI G){k i:Nat}(hi:i=pl F - pl G - k)(j:Nat):(Dj F G (k+1) (i+j)).num=(psc (ld G) (Dj F G k) (i+j)).num - (Dj F G k (pl F - 1 - k)).num*(G j).num:=by
 rw[QE hi,show sh i G (i+j)=G j from by unfold sh;rw[if_neg Aa];congr 1;omega];rw[(ZM (Fe hF hG k) hG).num (i+j),(Fe hF hG k).num (pl F - 1 - k),hG.num j,<-Rat.intCast_mul,num_sub];rfl
theorem ZL{F G:Nat->Rat}{k i n:Nat}(hi:i=pl F - pl G - k)(h:n < i):Dj F G (k+1) n=psc (ld G) (Dj F G k) n:=by
 rw[QE hi,show sh i G n=0 from by unfold sh;rw[if_pos h]];grind
theorem Yz{F G:Nat->Rat}(hG:Ae G){k i n:Nat}(hi:i=pl F - pl G - k)(h:i+pl G<=n):Dj F G (k+1) n=psc (ld G) (Dj F G k) n:=by
 rw[QE hi,show sh i G n=0 from by unfold sh;rw[if_neg Aa];exact AJ hG _ Aa];grind
theorem Yc{F G:Nat->Rat}{k i:Nat}(hi:i=pl F - pl G - k)(h0:Gl F G k i=0)(n:Nat):(Gl F G (k+1) n).num=if n=i then(Dj F G k (pl F - 1 - k)).num else(psc (ld G) (Gl F G k) n).num:=by
 have e:Gl F G (k+1) n=psc (ld G) (Gl F G k) n+mono i (Dj F G k (pl F - 1 - k)) n:=by subst hi;rfl
 rw[e];by_cases hn:n=i
 ·subst hn
  rw[if_pos rfl,JJ,show psc (ld G) (Gl F G k) n=ld G*Gl F G k n from rfl,h0];congr 1;grind
 ·rw[if_neg hn,ER hn]
  congr 1;grind
def Ie(F G:Nat->Rat):Prop:=∃ Q,ZI Q/\Ae Q/\F=cv Q G
theorem bY{R G:Nat->Rat}{k:Nat}(hR:Ae R)(hG:Ae G)(h0:G≠pz)(hs:BA (k+pl G) R)(h:Ie R G):∃ z:Int,R (k+pl G - 1)=(z:Rat)*ld G:=by
 obtain⟨Q,hz,hf,e⟩:=h;have hp:=AZ hG h0;by_cases hQ:Q=pz
 ·refine⟨0,?_⟩
  rw[e,hQ,Cx];show(0:Rat)=((0:Int):Rat)*_;simp
 ·have h1:=EW hf hG hQ h0
  rw[<-e]at h1;have h2:=Bj hs;have h3:=AZ hf hQ;have h4:BA (k+1) Q:=(AJ hf).mono Aa;have h5:BA (pl G - 1+1) G:=(AJ hG).mono Aa;have h6:=Tw h4 h5;rw[<-e,show k+(pl G - 1)=k+pl G - 1 from by omega]at h6;rw[h6,hz.num k];exact⟨_,rfl⟩
theorem YZ{F G Q R:Nat->Rat}(hz:ZI Q)(hf:Ae Q)(e:F=pad (cv Q G) R):Ie F G↔Ie R G:=by
 constructor
 ·rintro⟨P,h1,h2,h3⟩
  refine⟨psb P Q,h1.psb hz,h2.psb hf,?_⟩;rw[FZ,<-h3,e]
  funext n;simp only[psb,pad];grind
 ·rintro⟨P,h1,h2,h3⟩
  refine⟨pad Q P,hz.pad h1,hf.pad h2,?_⟩;rw[Dw,<-h3,e]
theorem iU(G:Nat->Rat):Ie pz G:=⟨pz,ZI.pz,Ae.pz,(Cx G).symm⟩
theorem Us{R G:Nat->Rat}(hR:Ae R)(hG:Ae G)(hs:pl R < pl G):Ie R G↔R=pz:=by
 constructor
 ·rintro⟨Q,h1,h2,h3⟩
  have h0:G≠pz:=fun e=>by rw[e,BH]at hs;omega
  refine Classical.byContradiction fun hn=>?_;have hQ:Q≠pz:=fun e=>hn (by rw[h3,e,Cx]);have:=EW h2 hG hQ h0;rw[<-h3]at this;have:=AZ h2 hQ;omega
 ·rintro rfl;exact iU G
def EZ(F G:Nat->Rat)(n s t i:Nat)(Q R:Nat->Rat):Prop:=
 (∀ j,j < i->Q j=0)/\BA n Q/\BA (i+pl G - 1) R/\F=pad (cv Q G) R/\ZI Q/\ZI R/\∀ m,qsz (R m)<=s+(n - i)*(t+1)
theorem EZ.start{F G:Nat->Rat}{n s t:Nat}(hF:BA (n+pl G - 1) F)(hz:ZI F)(hs:∀ m,qsz (F m)<=s):EZ F G n s t n pz F:=
 ⟨fun _ _=>rfl,BA.pz _,hF,by rw[Cx];funext m;simp only[pad,pz];grind,ZI.pz,hz,fun m=>by have:=hs m;omega⟩
theorem Nt{z:Int}{a b:Rat}(hb:b≠0)(hbz:∃ y:Int,b=(y:Rat))(e:a=(z:Rat)*b):qsz (z:Rat)<=qsz a:=by
 obtain⟨y,rfl⟩:=hbz;rw[e,<-Rat.intCast_mul,Bi,Bi];have hy:y≠0:=fun h=>hb (by rw[h];rfl);have:sz z.natAbs<=sz (z*y).natAbs:=by
  refine Bl ?_;rw[Int.natAbs_mul];exact Nat.le_mul_of_pos_right _ Aa
 omega
theorem EZ.step{F G:Nat->Rat}{n s t k:Nat}{Q R:Nat->Rat}(hG:Ae G)(h0:G≠pz)(zG:ZI G)(hcG:∀ m,qsz (G m)<=t)(h:EZ F G n s t (k+1) Q R)(hk:k < n){z:Int}(hc:R (k+pl G - 1)=(z:Rat)*ld G) :
  EZ F G n s t k (pad Q (mono k (z:Rat))) (psb R (cv (mono k (z:Rat)) G)):=by
 obtain⟨h3,h4,h5,h6,h7,h8,h9⟩:=h;have hp:=AZ hG h0;have hl:=Dh hG h0;have hz:(z:Rat)=R (k+pl G - 1) / ld G:=by rw[hc];grind
 refine⟨fun j hj=>?_,h4.pad ((Dc k _).mono Aa),?_,?_,h7.pad (ZI.mono k z),h8.psb ((ZI.mono k z).cv zG),fun m=>?_⟩
 ·show Q j+mono k (z:Rat) j=0
  rw[h3 j Aa,ER Aa];grind
 ·rw[hz];exact Fs hG h0 (h5.mono Aa)
 ·rw[Dw]
  funext m
  have:=congrFun h6 m;simp only[pad,psb]at this ⊢;grind
 ·have q1:qsz (z:Rat)<=qsz (R (k+pl G - 1)):=Nt hl (zG _) hc
  have q2:=h9 (k+pl G - 1);have e:n - k=(n - (k+1))+1:=by omega
  have q3:(n - k)*(t+1)=(n - (k+1))*(t+1)+(t+1):=by rw[e,Nat.succ_mul]
  have q4:qsz (cv (mono k (z:Rat)) G m)<=qsz (z:Rat)+t:=by
   rw[Fg];show qsz ((z:Rat)*sh k G m)<=_;have a1:=BS (z:Rat) (sh k G m);have a2:qsz (sh k G m)<=max t 1:=by
    unfold sh
    split
    ·have:qsz (0:Rat)=1:=by decide
     omega
    ·have:=hcG (m - k);omega
   have a3:1<=t:=by have:=hcG 0;have:1<=qsz (G 0):=by { unfold qsz;have:=Er (n:=(G 0).den) (by have:=(G 0).den_pos;omega);omega };omega
   omega
  have q5:=NT h8 ((ZI.mono k z).cv zG) m m;have q6:=h9 m;show qsz (R m - cv (mono k (z:Rat)) G m)<=_;omega
theorem EZ.end_{F G:Nat->Rat}{n s t:Nat}{Q R:Nat->Rat}(hF:Ae F)(hG:Ae G)(h0:G≠pz)(h:EZ F G n s t 0 Q R):Q=pq F G/\R=pr F G/\BA n Q/\ZI Q:=by
 obtain⟨h3,h4,h5,h6,h7,h8,h9⟩:=h;have:=Ib hF hG h0 ⟨n,h4⟩ h6 (by rwa[Nat.zero_add]at h5);exact⟨this.1,this.2,h4,h7⟩
theorem EZ.zdv{F G:Nat->Rat}{n s t i:Nat}{Q R:Nat->Rat}(h:EZ F G n s t i Q R):Ie F G↔Ie R G:=
 YZ h.2.2.2.2.1 ⟨n,h.2.1⟩ h.2.2.2.1
theorem EZ.fin{F G:Nat->Rat}{n s t i:Nat}{Q R:Nat->Rat}(h:EZ F G n s t i Q R):Ae R:=⟨_,h.2.2.1⟩
theorem EZ.no{F G:Nat->Rat}{n s t k:Nat}{Q R:Nat->Rat}(hG:Ae G)(h0:G≠pz)(zG:ZI G)(h:EZ F G n s t (k+1) Q R)(hd:¬ (ld G).num∣(R (k+pl G - 1)).num):¬ Ie F G:=by
 intro hz;have hp:=AZ hG h0;obtain⟨z,e⟩:=bY (k:=k) h.fin hG h0 (h.2.2.1.mono Aa) (h.zdv.1 hz)
 apply hd
 rw[e,show ld G=((ld G).num:Rat)from zG.num _,num_mul];exact⟨z,by rw[Int.mul_comm];rfl⟩
theorem EZ.yes{F G:Nat->Rat}{n s t i m:Nat}{Q R:Nat->Rat}(zG:ZI G)(h:EZ F G n s t i Q R)(hd:(ld G).num∣(R m).num):R m=(((R m).num / (ld G).num:Int):Rat)*ld G:=by
 have e1:ld G=((ld G).num:Rat):=zG.num _;have e2:=h.2.2.2.2.2.1.num m;have e3:=Int.ediv_mul_cancel hd;have e4:(((R m).num / (ld G).num:Int):Rat)*(((ld G).num:Int):Rat)=(((R m).num:Int):Rat):=by rw[<-Rat.intCast_mul,e3]
 rw[e2,e1];exact e4.symm
theorem EZ.out{F G:Nat->Rat}{n s t:Nat}{Q R:Nat->Rat}(hF:Ae F)(hG:Ae G)(h0:G≠pz)(h:EZ F G n s t 0 Q R):Ie F G↔R=pz:=by
 rw[h.zdv,Us h.fin hG];have hp:=AZ hG h0;have:=Bj h.2.2.1;omega
theorem Vf(k j:Nat)(c:Rat)(R G:Nat->Rat):EA k j c R G (k+j)=R (k+j):=by
 unfold EA;rw[if_neg Aa];grind
theorem Zp{k j:Nat}{z:Int}{R G:Nat->Rat}(hR:ZI R)(hG:ZI G)(n:Nat):(EA k (j+1) (z:Rat) R G n).num=if n=k+j then(R (k+j)).num - z*(G j).num else(EA k j (z:Rat) R G n).num:=by
 rw[M9]
 split
 ·rename_i h;subst h
  rw[Vf,hR.num,hG.num j,<-Rat.intCast_mul,num_sub];rfl
 ·rfl
theorem Yw{Q:Nat->Rat}{k:Nat}{z:Int}(hQ:ZI Q)(h:Q k=0)(n:Nat):(pad Q (mono k (z:Rat)) n).num=if n=k then z else(Q n).num:=by
 show(Q n+mono k (z:Rat) n).num=_;by_cases e:n=k
 ·subst e;rw[if_pos rfl,h,JJ,Rat.zero_add];rfl
 ·rw[if_neg e,ER e,Rat.add_zero]
def FE(w:World)(v:Value)(x:Int)(e:Int):Prop:=∃ a,v = .tuple #[a,.int .i64 e]/\AP w a x
theorem FE.ext{w w':World}{v:Value}{x e:Int}(h:FE w v x e)(k:Ext w w'):FE w' v x e:=by
 obtain⟨a,h1,h2⟩:=h;exact⟨a,h1,h2.kd k.kd⟩
def fJ(base:Nat)(F G:Nat->Rat)(r:Value)(w:World):Prop:=(Ie F G->∃ q,r = .tuple #[q,.int .i64 0]/\AC base w q (pq F G))/\(¬ Ie F G->r = .tuple #[.slice none 0 0,.int .i64 6])
theorem AP.inj{w:World}{v:Value}{x y:Int}(h:AP w v x)(k:AP w v y):x=y:=by
 obtain⟨n,ds,⟨s,rfl,hd⟩,rfl,-⟩:=h;obtain⟨m,es,⟨t,e,he⟩,rfl,-⟩:=k;cases e;rw[hd.uniq he]
theorem Bp.inj{w:World}{g:Nat}{t:TypeId}{x y:Int}(h:Bp w g t x)(k:Bp w g t y):x=y:=by
 obtain⟨b,A,n,c,h1,h2⟩:=h;obtain⟨b',A',n',c',k1,k2⟩:=k;have e:=h1.1.symm.trans k1.1;cases e;exact h2.inj k2
noncomputable def mG(w:World)(g:Nat)(t:TypeId):Nat:=open Classical in if h:∃ x,Bp w g t x then(Classical.choose h).natAbs else 0
theorem QL{w:World}{g:Nat}{t:TypeId}{x:Int}(h:Bp w g t x):mG w g t=x.natAbs:=by
 have hx:∃ x,Bp w g t x:=⟨x,h⟩
 unfold mG;rw[dif_pos hx,(Classical.choose_spec hx).inj h]
theorem JD(n:Nat):sz ((2:Int)^n).natAbs<=1+n:=by
 have:=Gw 2 1 Ab n;omega
theorem QR(i:Nat)(hi:i < 9223372036854775808):bits BinOp.and IntKind.i64 (i:Int) 1=((i % 2:Nat):Int):=Go.Proofs.and_one i hi
theorem PL{x y z:Int}(h:x*y=z)(hy:y≠0:=by decide):sz x.natAbs<=sz z.natAbs:=by
 refine Bl ?_;rw[<-h,Int.natAbs_mul];exact Nat.le_mul_of_pos_right _ Aa
theorem VU(n j:Nat):(2:Int)^(n / 2^(j+1))*2^(n / 2^(j+1))*(if n / 2^j % 2=1 then 2 else 1)=2^(n / 2^j):=by
 have e:n / 2^(j+1)=n / 2^j / 2:=by rw[Nat.pow_succ,Nat.div_div_eq_div_mul]
 rw[e];generalize n / 2^j=m
 split
 ·rename_i h
  rw[<-Int.pow_add,<-Int.pow_succ];congr 1;omega
 ·rename_i h
  rw[<-Int.pow_add,Int.mul_one];congr 1;omega
theorem BL.ex(n:Nat):∃ b,BL n b:=by
 induction n using Nat.strongRecOn with
 | _ n ih =>
  rcases Nat.eq_zero_or_pos n with h | h
  ·subst h;exact⟨0,BL.zero⟩
  ·obtain⟨b,h1,h2⟩:=ih (n / 2) Aa
   refine⟨b+1,by rw[Nat.pow_succ];omega,fun _=>?_⟩;rw[Nat.add_sub_cancel];rcases b with _ | b
   ·simp;omega
   ·have:=h2 Aa
    rw[Nat.add_sub_cancel]at this;rw[Nat.pow_succ];omega
def mJ(w:World)(r:Value):Prop:=∃ (r0:Value) (x:Int) (b:Bool),r = .tuple #[r0,.bool b,.int .i64 0]/\AP w r0 x/\0 < x/\sz x.natAbs<=20000
def gY(t v:Value):Prop:=∃ a e,t = .tuple #[a,v,e]
theorem Tm{a x:Int}(ha:0 < a)(hx:0 < x):0 < (x+a / x) / 2:=by
 have h1:0<=a / x:=Int.ediv_nonneg Aa Aa;rcases Int.lt_or_le 1 x with h | h
 ·omega
 ·have:x=1:=by omega
  subst this;rw[Int.ediv_one];omega
def Ip(F G D:Nat->Rat):Prop:=Ae D/\ZI D/\(D≠pz->0 < ld D)/\cn D=Nat.gcd (cn F) (cn G)/\Mf F G (mn D)
structure GH(F0 G0:Nat->Rat)(D S:Nat)(A B:Nat->Rat):Prop where
 fA:Ae A
 fB:Ae B
 zA:ZI A
 zB:ZI B
 pA:pp A=A
 pB:pp B=B
 dv:∀ E,Ae E->(Dv E A/\Dv E B↔Dv E F0/\Dv E G0)
 deg:pl A+pl B<=D
 qA:∀ i,qsz (A i)+1<=(S+1)*2^(D - (pl A+pl B))
 qB:∀ i,qsz (B i)+1<=(S+1)*2^(D - (pl A+pl B))
theorem Ga{a:Rat}(ha:a≠0){E F:Nat->Rat}:Dv E (psc a F)↔Dv E F:=
 ⟨fun h=>by have:=h.psc (1 / a);rwa[ZU ha]at this,fun h=>h.psc a⟩
theorem Dk{E F:Nat->Rat}(z:ZI F)(f:Ae F):Dv E (pp F)↔Dv E F:=by
 by_cases h0:F=pz
 ·rw[h0,I4]
 ·have hn:(1:Rat) / (pcn F:Rat)≠0:=LX (by have:=ED z f h0;exact_mod_cast this)
  exact Ga hn
theorem GH.start{F G:Nat->Rat}{S:Nat}(fF:Ae F)(fG:Ae G)(zF:ZI F)(zG:ZI G)(qF:∀ i,qsz (F i)<=S)(qG:∀ i,qsz (G i)<=S):GH F G (pl F+pl G) S (pp F) (pp G) where
 fA:=Dl fF
 fB:=Dl fG
 zA:=IY zF fF
 zB:=IY zG fG
 pA:=Xt zF fF
 pB:=Xt zG fG
 dv:=fun E _=>by rw[Dk zF fF,Dk zG fG]
 deg:=by rw[Dq zF fF,Dq zG fG];exact Nat.le_refl _
 qA:=fun i=>by have:=Ey zF fF qF i;have h:0 < 2^(pl F+pl G - (pl (pp F)+pl (pp G))):=Nat.pow_pos Ab;have:=Nat.le_mul_of_pos_right (S+1) h;omega
 qB:=fun i=>by have:=Ey zG fG qG i;have h:0 < 2^(pl F+pl G - (pl (pp F)+pl (pp G))):=Nat.pow_pos Ab;have:=Nat.le_mul_of_pos_right (S+1) h;omega
theorem GH.room{F0 G0 A B:Nat->Rat}{D S:Nat}(h:GH F0 G0 D S A B){R:Nat->Rat}(hR:R=Dj A B (pl A+1 - pl B)) :
  (∀ i,qsz (A i)<=(S+1)*2^D)/\(∀ i,qsz (B i)<=(S+1)*2^D)/\(∀ i,qsz (R i)+1<=(S+1)*2^(D - (pl A+pl B)+(pl A+1 - pl B))):=by
 have up:∀ a:Nat,a<=D->(S+1)*2^a<=(S+1)*2^D:=fun a ha=>Nat.mul_le_mul_left _ (Nat.pow_le_pow_right Ab ha);have h1:=up (D - (pl A+pl B)) Aa;refine⟨fun i=>by have:=h.qA i;omega,fun i=>by have:=h.qB i;omega,fun i=>?_⟩;obtain⟨M,hM⟩:∃ M,M=(S+1)*2^(D - (pl A+pl B)):=⟨_,rfl⟩
 have hp:0 < M:=by rw[hM];exact Nat.mul_pos Aa (Nat.pow_pos Ab)
 have h2:=Gz (s:=M - 1) (t:=M - 1) h.zA h.zB (fun i=>by have:=h.qA i;omega) (fun i=>by have:=h.qB i;omega) (pl A+1 - pl B) i;rw[<-hR]at h2;rw[Nat.pow_add,<-Nat.mul_assoc,<-hM];have h3:=Nz (pl A+1 - pl B);have h4:M*(pl A+1 - pl B+1)<=M*2^(pl A+1 - pl B):=Nat.mul_le_mul_left _ h3;rw[Nat.mul_succ,Nat.mul_comm M]at h4;rw[show M - 1+1=M from by omega]at h2;omega
theorem QK{F G:Nat->Rat}(hF:Ae F)(hG:Ae G)(h0:G≠pz):Ae (Dj F G (pl F+1 - pl G)):=by
 rw[(Jv hF hG h0).2];exact(ES hF hG).psc _
theorem Mx{F G:Nat->Rat}(hF:Ae F)(hG:Ae G)(h0:G≠pz):pl (Dj F G (pl F+1 - pl G)) < pl G:=by
 have hp:=AZ hG h0;have:=Bj (((Eo hF hG h0).psc (ld G^(pl F+1 - pl G))));rw[<-(Jv hF hG h0).2]at this;omega
theorem GH.step{F0 G0 A B:Nat->Rat}{D S:Nat}(h:GH F0 G0 D S A B)(h0:B≠pz){R:Nat->Rat}(hR:R=Dj A B (pl A+1 - pl B)) :
  GH F0 G0 D S B (pp R)/\pl (pp R) < pl B:=by
 have hfR:Ae R:=by rw[hR];exact QK h.fA h.fB h0
 have hzR:ZI R:=by rw[hR];exact Fe h.zA h.zB _
 have htop:pl R < pl B:=by rw[hR];exact Mx h.fA h.fB h0
 have hplR:=Dq hzR hfR;have hq:∀ i,qsz (R i)+1<=(S+1)*2^(D - (pl B+pl (pp R)))/\pl B+pl (pp R)<=D:=fun i=>by
  rw[hplR];have hd:=h.deg;rcases Nat.lt_or_ge (pl A) (pl B)with a | a
  ·have e:R=A:=by rw[hR,show pl A+1 - pl B=0 from by omega];rfl
   rw[e];have:=h.qA i;rw[Nat.add_comm (pl B)];exact⟨this,hd⟩
  ·have h2:=(h.room hR).2.2 i
   exact⟨Nat.le_trans h2 (Nat.mul_le_mul_left _ (Nat.pow_le_pow_right Ab Aa)),Aa⟩
 refine⟨⟨h.fB,Dl hfR,h.zB,IY hzR hfR,h.pB,Xt hzR hfR,fun E hE=>?_,(hq 0).2,fun i=>?_,fun i=>?_⟩,Aa⟩
 ·rw[Dk hzR hfR,<-h.dv E hE]
  have hl:=QI (Dh h.fB h0) (pl A+1 - pl B);rw[hR,(Jv h.fA h.fB h0).2,Ga hl,MU]
 ·have h1:=h.qB i
  have:=h.deg;have h2:=(hq 0).2;refine Nat.le_trans h1 (Nat.mul_le_mul_left _ (Nat.pow_le_pow_right Ab ?_));rcases Nat.lt_or_ge (pl A) (pl B)with a | a
  ·have e:R=A:=by rw[hR,show pl A+1 - pl B=0 from by omega];rfl
   rw[hplR,e];omega
  ·omega
 ·have h1:=Ey hzR hfR (s:=(S+1)*2^(D - (pl B+pl (pp R))) - 1) (fun i=>by have:=(hq i).1;omega) i
  have:=(hq i).1;omega
theorem TN{a:Rat}(ha:a≠0){F:Nat->Rat}(h:Ae F):mn (psc a F)=mn F:=by
 by_cases h0:F=pz
 ·rw[h0,Fa]
 ·have hl:=Dh h h0
  unfold mn;rw[Kv ha h,Ci];congr 1;grind
theorem Ra(F:Nat->Rat):psc 0 F=pz:=by funext n;simp only[psc,pz];grind
theorem RJ{F:Nat->Rat}(h:Ae F)(e:mn F=pz):F=pz:=(Bt h).1 (by rw[<-QN h,e,BH])
theorem GH.end_{F0 G0 A B:Nat->Rat}{D S:Nat}(h:GH F0 G0 D S A B)(fF:Ae F0)(fG:Ae G0)(zF:ZI F0)(zG:ZI G0)(h0:B=pz) :
  Ip F0 G0 (psc ((Nat.gcd (cn F0) (cn G0):Nat):Rat) A):=by
 have hg:Mf F0 G0 (mn A):=by
  subst h0;exact(Mf.zero h.fA).of h.dv
 obtain⟨c,hc⟩:∃ c,c=Nat.gcd (cn F0) (cn G0):=⟨_,rfl⟩
 rw[<-hc];by_cases hc0:c=0
 ·have e1:cn F0=0:=Nat.eq_zero_of_gcd_eq_zero_left (hc.symm.trans hc0)
  have e2:cn G0=0:=Nat.eq_zero_of_gcd_eq_zero_right (hc.symm.trans hc0);have z1:F0=pz:=Classical.byContradiction fun hn=>IW zF fF hn e1;have z2:G0=pz:=Classical.byContradiction fun hn=>IW zG fG hn e2;rw[hc0];show Ip F0 G0 (psc ((0:Nat):Rat) A);rw[show((0:Nat):Rat)=0 from rfl,Ra,z1,z2];refine⟨Ae.pz,ZI.pz,fun hn=>absurd rfl hn,by rw[Nn];rfl,?_⟩;exact Mf.zero Ae.pz
 ·have hcr:((c:Nat):Rat)≠0:=by exact_mod_cast hc0
  have hA:A≠pz:=fun e=>by
   rw[e,Me]at hg;have z1:=Mm hg.2.2.1;have z2:=Mm hg.2.2.2.1;rw[z1,z2,Nn]at hc;exact hc0 hc
  have e1:cn A=1:=by rw[<-h.pA];exact Sz h.zA h.fA hA
  have e2:0 < ld A:=by rw[<-h.pA];exact MB h.zA h.fA hA
  have ci:((c:Nat):Rat)=(((c:Nat):Int):Rat):=rfl;refine⟨h.fA.psc _,by rw[ci];exact h.zA.psc _,fun _=>?_,?_,by rw[TN hcr h.fA];exact hg⟩
  ·rw[Kv hcr h.fA]
   refine Rat.mul_pos ?_ e2;exact_mod_cast Nat.pos_of_ne_zero hc0
  ·rw[ci,Im (by exact_mod_cast hc0) h.zA h.fA,e1,<-hc];simp
theorem Ip.uniq{F G D E:Nat->Rat}(h:Ip F G D)(k:Ip F G E):D=E:=by
 obtain⟨f1,z1,l1,c1,g1⟩:=h;obtain⟨f2,z2,l2,c2,g2⟩:=k;have e:=g1.uniq g2;by_cases hD:D=pz
 ·have:E=pz:=RJ f2 (by rw[<-e,hD,Me])
  rw[hD,this]
 have hE:E≠pz:=fun hE=>hD (RJ f1 (by rw[e,hE,Me]));have hcD:=IW z1 f1 hD
 -- E=a D with a positive;the contents agree
 have lD:=l1 hD;have lE:=l2 hE;have hDl:=Dh f1 hD;have hEl:=Dh f2 hE;have e1:psc (ld E) D=psc (ld D) E:=by
  funext n
  have:=congrFun e n;show ld E*D n=ld D*E n;simp only[mn,psc]at this;have h1:ld D*ld E*(1 / ld D*D n)=ld D*ld E*(1 / ld E*E n):=by rw[this]
  grind
 obtain⟨x,hx⟩:∃ x:Int,ld D=(x:Rat):=z1 _;obtain⟨y,hy⟩:∃ y:Int,ld E=(y:Rat):=z2 _;have hx0:0 < x:=by rw[hx]at lD;exact_mod_cast lD
 have hy0:0 < y:=by rw[hy]at lE;exact_mod_cast lE
 have e2:cn (psc (ld E) D)=cn (psc (ld D) E):=by rw[e1]
 rw[hx,hy,Im Aa z1 f1,Im Aa z2 f2,c1,c2,<-c1]at e2;have e3:y.natAbs=x.natAbs:=Nat.eq_of_mul_eq_mul_right (Nat.pos_of_ne_zero hcD) e2;have e4:x=y:=by omega
 have:ld D=ld E:=by rw[hx,hy,e4]
 rw[this]at e1
 funext n
 have:=congrFun e1 n;simp only[psc]at this;grind
theorem Vb{F Q D:Nat->Rat}(zF:ZI F)(fF:Ae F)(zD:ZI D)(fD:Ae D)(hD:D≠pz)(fQ:Ae Q)(e:F=cv Q D)(hc:cn D∣cn F):ZI Q:=by
 obtain⟨n,hs⟩:=fQ;have fQ:Ae Q:=⟨n,hs⟩
 have zC:=Ep hs;have fC:=DT (n:=n) fQ;have e1:psc (((dl n Q:Nat):Int):Rat) F=cv (CQ n Q) D:=by
  rw[e];unfold CQ;rw[Df];rfl
 have hdl:=LF Q n;have e2:cn (psc (((dl n Q:Nat):Int):Rat) F)=cn (cv (CQ n Q) D):=by rw[e1]
 rw[Im Aa zF fF,Pf zC zD fC fD,Int.natAbs_natCast]at e2;obtain⟨m,hm⟩:=hc;have hcD:=Nat.pos_of_ne_zero (IW zD fD hD);have e3:dl n Q*m=cn (CQ n Q):=by
  refine Nat.eq_of_mul_eq_mul_right hcD ?_;rw[<-e2,hm,Nat.mul_assoc,Nat.mul_comm m]
 intro i;have h1:=Ik fC i;have h2:((dl n Q:Nat):Int)∣(CQ n Q i).num:=Int.dvd_trans ⟨(m:Int),by rw[<-e3];simp⟩ h1;obtain⟨k,hk⟩:=h2;refine⟨k,?_⟩;have h3:=zC.num i;rw[hk,Rat.intCast_mul]at h3;have h4:CQ n Q i=((dl n Q:Nat):Rat)*Q i:=rfl;rw[h4]at h3;have h5:=RQ n Q;have h6:(((dl n Q:Nat):Int):Rat)=((dl n Q:Nat):Rat):=rfl;rw[h6]at h3;grind
theorem Ip.zdv{F G D:Nat->Rat}(h:Ip F G D)(zF:ZI F)(fF:Ae F)(hD:D≠pz):Ie F D:=by
 obtain⟨f1,z1,l1,c1,g1⟩:=h;obtain⟨Q,fQ,e⟩:=g1.2.2.1;have e1:F=cv (psc (1 / ld D) Q) D:=by rw[e];unfold mn;rw[Qf,Df]
 exact⟨_,Vb zF fF z1 f1 hD (fQ.psc _) e1 (by rw[c1];exact Nat.gcd_dvd_left _ _),fQ.psc _,e1⟩
theorem Mf.symm_{F G D:Nat->Rat}(h:Mf F G D):Mf G F D:=⟨h.1,h.2.1,h.2.2.2.1,h.2.2.1,fun E hE a b=>h.2.2.2.2 E hE b a⟩
theorem Ip.symm_{F G D:Nat->Rat}(h:Ip F G D):Ip G F D:=⟨h.1,h.2.1,h.2.2.1,by rw[Nat.gcd_comm];exact h.2.2.2.1,h.2.2.2.2.symm_⟩
theorem Zo:∀(n:Nat) {F G:Nat->Rat},Ae F->Ae G->pl G<=n->∃ U V D,Ae U/\Ae V/\Mf F G D/\pad (cv U F) (cv V G)=D:=by
 intro n;induction n with
 | zero =>
  intro F G fF fG hn;have:G=pz:=(Bt fG).1 Aa;subst this;refine⟨psc (1 / ld F) pone,pz,mn F,Ae.psc _ ⟨1,(BA.pz 0).cs 1⟩,Ae.pz,Mf.zero fF,?_⟩;rw[Df,D8,Cx]
  funext m;simp only[pad,pz,mn];grind
 | succ n ih =>
  intro F G fF fG hn;by_cases h0:G=pz
  ·exact ih fF fG (by rw[h0,BH];omega)
  ·have hp:=AZ fG h0
   have hr:=Bj (Eo fF fG h0);obtain⟨U,V,D,fU,fV,hg,e⟩:=ih fG (ES fF fG) Aa;refine⟨V,psb U (cv V (pq F G)),D,fV,fU.psb (fV.cv (Ea F G)),hg.of fun E hE=>MU,?_⟩;rw[<-e];have e1:cv V F=pad (cv V (cv (pq F G) G)) (cv V (pr F G)):=by
    have h2:cv V F=cv V (pad (cv (pq F G) G) (pr F G)):=by rw[<-Lb F G]
    rw[h2,Gd]
   rw[e1,FZ,AA]
   funext m;simp only[pad,psb];grind
theorem Mf.bez{F G D:Nat->Rat}(fF:Ae F)(fG:Ae G)(h:Mf F G D):∃ U V,Ae U/\Ae V/\pad (cv U F) (cv V G)=D:=by
 obtain⟨U,V,D',fU,fV,hg,e⟩:=Zo (pl G) fF fG (Nat.le_refl _);exact⟨U,V,fU,fV,by rw[h.uniq hg];exact e⟩
theorem Dv.cvr{D F:Nat->Rat}(h:Dv D F)(H:Nat->Rat):Dv (Hp.cv D H) (Hp.cv F H):=by
 obtain⟨Q,fQ,e⟩:=h;exact⟨Q,fQ,by rw[e,AA]⟩
theorem TM{F G D H P:Nat->Rat}(fF:Ae F)(fG:Ae G)(fH:Ae H)(h:Mf F G (mn D))(fD:Ae D){a:Rat}(ha:a≠0)(hP:P=psc a (cv D H)):Mf (cv F H) (cv G H) (mn P):=by
 have fP:Ae P:=by rw[hP];exact(fD.cv fH).psc a
 refine⟨LC fP,fun hn=>UC fP (fun e=>hn (by rw[e,Me])),?_,?_,fun E hE k1 k2=>?_⟩
 ·have h1:Dv (cv D H) (cv F H):=((GU D).trans h.2.2.1).cvr H
  have h2:Dv (mn P) (cv D H):=by
   rw[hP,TN ha (fD.cv fH)];exact IU (fD.cv fH)
  exact h2.trans h1
 ·have h1:Dv (cv D H) (cv G H):=((GU D).trans h.2.2.2.1).cvr H
  have h2:Dv (mn P) (cv D H):=by
   rw[hP,TN ha (fD.cv fH)];exact IU (fD.cv fH)
  exact h2.trans h1
 ·obtain⟨U,V,fU,fV,e⟩:=h.bez fF fG
  have h1:Dv E (cv (mn D) H):=by
   rw[<-e,Dw,AA,AA];exact(k1.mul fU).pad (k2.mul fV)
  have h2:Dv E (cv D H):=by
   obtain⟨Q,fQ,e2⟩:=IU fD;rw[e2,AA];exact h1.mul fQ
  rw[OV fP,hP,Ga ha];exact h2
theorem Ip.common{F G D H E:Nat->Rat}(fF:Ae F)(fG:Ae G)(zF:ZI F)(zG:ZI G)(fH:Ae H)(zH:ZI H)(h:Ip F G D)(k:Ip (cv F H) (cv G H) E):E=cv D H\/E=psc ((-1:Int):Rat) (cv D H):=by
 obtain⟨f1,z1,l1,c1,g1⟩:=h;have hcn:∀ a:Int,a.natAbs=1->cn (psc (a:Rat) (cv D H))=Nat.gcd (cn (cv F H)) (cn (cv G H)):=fun a ha=>by
  rw[Im Aa (z1.cv zH) (f1.cv fH),ha,Nat.one_mul,Pf z1 zH f1 fH,Pf zF zH fF fH,Pf zG zH fG fH,c1,Nat.gcd_mul_right]
 have key:∀ a:Int,a.natAbs=1->(cv D H≠pz->0 < (a:Rat)*ld (cv D H))->E=psc (a:Rat) (cv D H):=fun a ha hl=>by
  have ha0:(a:Rat)≠0:=by
   have:a≠0:=by omega
   exact_mod_cast this
  refine k.uniq ⟨(f1.cv fH).psc _,(z1.cv zH).psc a,fun hn=>?_,hcn a ha,TM fF fG fH g1 f1 ha0 rfl⟩;rw[Kv ha0 (f1.cv fH)];exact hl fun e=>hn (by rw[e,Fa])
 by_cases hp:0 < ld (cv D H)
 ·refine .inl ?_
  have:=key 1 rfl (fun _=>by simpa using hp);rwa[show(((1:Int)):Rat)=1 from rfl,Cq]at this
 ·refine .inr (key (-1) rfl (fun hn=>?_))
  have:=Dh (f1.cv fH) hn;have e:(((-1:Int)):Rat) = -1:=rfl;rw[e];have h2:ld (cv D H) < 0:=Rat.lt_of_le_of_ne (Rat.not_lt.1 hp) this;grind
theorem GH.run{F0 G0:Nat->Rat}{D S:Nat}:∀(n:Nat) {A B:Nat->Rat},GH F0 G0 D S A B->pl B<=n->∃ A',GH F0 G0 D S A' pz:=by
 intro n;induction n with
 | zero =>
  intro A B h hn;have:B=pz:=(Bt h.fB).1 Aa;subst this;exact⟨A,h⟩
 | succ n ih =>
  intro A B h hn;by_cases h0:B=pz
  ·subst h0;exact⟨A,h⟩
  ·obtain⟨h1,h2⟩:=h.step h0 rfl
   exact ih h1 Aa
open Classical in
/-- The greatest common divisor over the integers. -/
noncomputable def D7(F G:Nat->Rat):Nat->Rat:=if h:∃ D,Ip F G D then h.choose else pz
theorem TQ{F G D:Nat->Rat}(h:Ip F G D):D7 F G=D:=by
 have hx:∃ D,Ip F G D:=⟨D,h⟩
 unfold D7;rw[dif_pos hx];exact hx.choose_spec.uniq h
theorem Cz(q:Rat):1<=qsz q:=by
 unfold qsz;have:=Er (n:=q.den) (by have:=q.den_pos;omega);omega
theorem bD{F G:Nat->Rat}{S:Nat}(fF:Ae F)(fG:Ae G)(zF:ZI F)(zG:ZI G)(qF:∀ i,qsz (F i)<=S)(qG:∀ i,qsz (G i)<=S):Ip F G (D7 F G)/\∀ i,qsz (D7 F G i)<=S+(S+1)*2^(pl F+pl G):=by
 obtain⟨A,h⟩:=(GH.start fF fG zF zG qF qG).run (pl (pp G)) (Nat.le_refl _);have h1:=h.end_ fF fG zF zG rfl;have h2:=TQ h1;rw[h2];refine⟨h1,fun i=>?_⟩;have h3:=BS (((Nat.gcd (cn F) (cn G):Nat)):Rat) (A i);have h4:=(h.room rfl).1 i;have h5:qsz (((Nat.gcd (cn F) (cn G):Nat)):Rat)<=S:=by
  show qsz ((((Nat.gcd (cn F) (cn G):Nat):Int)):Rat)<=S;rw[Bi];have a1:=Cz (F 0);have a2:=qF 0;have b1:=G5 qF (pl F);have b2:sz (Nat.gcd (cn F) (cn G))<=S:=by
   by_cases e:cn F=0
   ·have b3:=G5 qG (pl G)
    rw[e,Nat.gcd_zero_left];exact b3
   ·exact Nat.le_trans (Bl (Nat.gcd_le_left _ (Nat.pos_of_ne_zero e))) b1
  simp only[Int.natAbs_natCast];omega
 show qsz ((((Nat.gcd (cn F) (cn G):Nat)):Rat)*A i)<=_;omega
structure Mr(n:Nat)(E:(Nat->Nat->Rat)->Rat):Prop where
 lin:∀(A:Nat->Nat->Rat) (i:Nat),i < n->∀(a b:Rat) (u v:Nat->Rat),E (EM A i fun c=>a*u c+b*v c)=a*E (EM A i u)+b*E (EM A i v)
 alt:∀(A:Nat->Nat->Rat) (i j:Nat),i < n->j < n->i≠j->A i=A j->E A=0
 cong:∀(A B:Nat->Nat->Rat),(∀ i j,i < n->j < n->A i j=B i j)->E A=E B
 one:E (fun i j=>if i=j then 1 else 0)=0
theorem nK:∀(n:Nat) (s:Nat->Nat),(∀ i,i < n+1->s i < n)->∃ i j,i < j/\j < n+1/\s i=s j
 | 0,s,h=>absurd (h 0 Aa) Aa
 | n+1,s,h=>by
  by_cases e:∃ i,i < n+1/\s i=s (n+1)
  ·obtain⟨i,hi,e⟩:=e
   exact⟨i,n+1,hi,Aa,e⟩
  ·have e':∀ i,i < n+1->s i≠s (n+1):=fun i hi q=>e ⟨i,hi,q⟩
   obtain⟨i,j,hij,hj,q⟩:=nK n (fun i=>if s i < s (n+1)then s i else s i - 1) (fun i hi=>by
    have h1:=h i Aa;have h2:=h (n+1) Aa;have h3:=e' i hi;show(if s i < s (n+1)then s i else s i - 1) < n
    split<;>omega)
   refine⟨i,j,hij,Aa,?_⟩;have h1:=e' i Aa;have h2:=e' j hj;have q':(if s i < s (n+1)then s i else s i - 1)=(if s j < s (n+1)then s j else s j - 1):=q
   split at q'<;>split at q'<;>omega
theorem Mr.swap{n:Nat}{E:(Nat->Nat->Rat)->Rat}(h:Mr n E)(A:Nat->Nat->Rat){i j:Nat}(hi:i < n)(hj:j < n)(hne:i≠j):E (EM (EM A i (A j)) j (A i)) = - E A:=by
 obtain⟨u,hu⟩:∃ u,u=A i:=⟨_,rfl⟩
 obtain⟨v,hv⟩:∃ v,v=A j:=⟨_,rfl⟩
 have comm:∀ x y:Nat->Rat,EM (EM A i x) j y=EM (EM A j y) i x:=fun x y=>by
  funext r c;unfold EM
  by_cases a:r=j
  ·subst a;rw[if_pos rfl,if_neg (Ne.symm hne),if_pos rfl]
  ·rw[if_neg a]
   by_cases b:r=i
   ·rw[if_pos b,if_pos b]
   ·rw[if_neg b,if_neg b,if_neg a]
 have z:∀ x:Nat->Rat,E (EM (EM A i x) j x)=0:=fun x=>h.alt _ i j hi hj hne (by
  funext c
  show(if i=j then x c else if i=i then x c else A i c)=(if j=j then x c else _);rw[if_neg hne,if_pos rfl,if_pos rfl])
 have l2:∀ x a b (y1 y2:Nat->Rat),E (EM (EM A i x) j fun c=>a*y1 c+b*y2 c)=a*E (EM (EM A i x) j y1)+b*E (EM (EM A i x) j y2):=fun x a b y1 y2=>h.lin _ j hj a b y1 y2;have l1:∀ y a b (x1 x2:Nat->Rat),E (EM (EM A i fun c=>a*x1 c+b*x2 c) j y)=a*E (EM (EM A i x1) j y)+b*E (EM (EM A i x2) j y):=fun y a b x1 x2=>by
  rw[comm,comm,comm];exact h.lin _ i hi a b x1 x2
 have key:=z (fun c=>1*u c+1*v c);rw[l1,l2,l2,z u,z v]at key;have hA:EM (EM A i u) j v=A:=by rw[hu,Lc,hv,Lc]
 rw[hA]at key;rw[<-hu,<-hv];grind
theorem Mr.sum{n:Nat}{E:(Nat->Nat->Rat)->Rat}(h:Mr n E)(A:Nat->Nat->Rat){i:Nat}(hi:i < n)(t:Nat->Rat)(f:Nat->Nat->Rat):∀ N,E (EM A i fun c=>sm N fun k=>t k*f k c)=sm N fun k=>t k*E (EM A i (f k))
 | 0=>by
  have:=h.lin A i hi 0 0 (fun _=>0) (fun _=>0);have e:(fun c=>sm 0 fun k=>t k*f k c)=fun c:Nat=>(0:Rat)*(0:Rat)+0*0:=by funext c;rw[Fp];grind
  rw[e,this,Fp];grind
 | N+1=>by
  have e:(fun c=>sm (N+1) fun k=>t k*f k c)=fun c=>1*(sm N fun k=>t k*f k c)+t N*f N c:=by funext c;rw[BF];grind
  rw[e,h.lin A i hi,Mr.sum h A hi t f N,BF];grind
def er(c:Nat):Nat->Rat:=fun k=>if k=c then 1 else 0
theorem Mr.perm{n:Nat}{E:(Nat->Nat->Rat)->Rat}(h:Mr n E):∀(d:Nat) (A:Nat->Nat->Rat) (s:Nat->Nat) (m:Nat),n=m+d->(∀ i,i < n->s i < n/\A i=er (s i))->(∀ i,i < m->s i=i)->E A=0
 | 0,A,s,m,hd,hA,hs=>by
  rw[<-h.one];refine h.cong _ _ fun i j hi hj=>?_;rw[(hA i hi).2,hs i Aa];show(if j=i then(1:Rat)else 0)=if i=j then 1 else 0;by_cases e:i=j
  ·rw[if_pos e,if_pos e.symm]
  ·rw[if_neg e,if_neg (Ne.symm e)]
 | d+1,A,s,m,hd,hA,hs=>by
  by_cases hinj:∃ i j,i < n/\j < n/\i≠j/\s i=s j
  ·obtain⟨i,j,hi,hj,hne,e⟩:=hinj
   exact h.alt A i j hi hj hne (by rw[(hA i hi).2,(hA j hj).2,e])
  ·have hinj':∀ i j,i < n->j < n->s i=s j->i=j:=fun i j hi hj e=>Classical.byContradiction fun hne=>hinj ⟨i,j,hi,hj,hne,e⟩
   have hex:∃ j,j < n/\s j=m:=by
    refine Classical.byContradiction fun hno=>?_;have hno':∀ j,j < n->s j≠m:=fun j hj e=>hno ⟨j,hj,e⟩;obtain⟨n',rfl⟩:∃ n',n=n'+1:=⟨n - 1,Aa⟩
    obtain⟨i,j,hij,hj,q⟩:=nK n' (fun i=>if s i < m then s i else s i - 1) (fun i hi=>by
     have h1:=(hA i hi).1;have h2:=hno' i hi;show(if s i < m then s i else s i - 1) < n'
     split<;>omega)
    have h1:=hno' i Aa;have h2:=hno' j hj;have:s i=s j:=by
     have q':(if s i < m then s i else s i - 1)=(if s j < m then s j else s j - 1):=q
     split at q'<;>split at q'<;>omega
    have:=hinj' i j Aa hj this;omega
   obtain⟨j,hj,e⟩:=hex;have hjm:m<=j:=by
    rcases Nat.lt_or_ge j m with a | a
    ·have:=hs j a;omega
    ·exact a
   by_cases hjm':j=m
   ·subst hjm'
    refine Mr.perm h d A s (j+1) Aa hA fun i hi=>?_;rcases Nat.lt_or_ge i j with a | a
    ·exact hs i a
    ·obtain rfl:i=j:=by omega
     exact e
   ·have h2:=Mr.perm h d (EM (EM A m (A j)) j (A m)) (fun i=>if i=m then s j else if i=j then s m else s i) (m+1) Aa (fun i hi=>by
     by_cases a:i=m
     ·subst a
      simp only[if_pos];refine⟨by rw[e];exact hi,?_⟩
      funext c
      show(if i=j then A i c else if i=i then A j c else A i c)=_;rw[if_neg (Ne.symm hjm'),if_pos rfl,(hA j hj).2]
     ·by_cases b:i=j
      ·subst b
       rw[if_neg a,if_pos rfl];refine⟨(hA m Aa).1,?_⟩
       funext c
       show(if i=i then A m c else _)=_;rw[if_pos rfl,(hA m Aa).2]
      ·rw[if_neg a,if_neg b]
       refine⟨(hA i hi).1,?_⟩
       funext c
       show(if i=j then A m c else if i=m then A j c else A i c)=_;rw[if_neg b,if_neg a,(hA i hi).2]) (fun i hi=>by
     by_cases a:i=m
     ·simp only[if_pos a];rw[e,a]
     ·simp only[if_neg a]
      rw[if_neg Aa];exact hs i Aa)
    have h3:=h.swap A (i:=m) (j:=j) Aa hj (Ne.symm hjm');rw[h2]at h3;grind
theorem gQ(v:Nat->Rat)(n c:Nat)(h:c < n):v c=sm n fun k=>v k*er k c:=by
 rw[Xm (f:=fun k=>v k*er k c) h (fun i _ hne=>by show v i*(if c=i then 1 else 0)=0;rw[if_neg (Ne.symm hne)];grind)];show v c=v c*(if c=c then 1 else 0);rw[if_pos rfl];grind
theorem Mr.all{n:Nat}{E:(Nat->Nat->Rat)->Rat}(h:Mr n E):∀(m:Nat),m<=n->∀(A:Nat->Nat->Rat),(∀ i,m<=i->i < n->∃ c,c < n/\A i=er c)->E A=0
 | 0,_,A,hA=>by
  have hA':∀ i,∃ c,i < n->c < n/\A i=er c:=fun i=>by
   by_cases hi:i < n
   ·obtain⟨c,hc⟩:=hA i (Nat.zero_le _) hi;exact⟨c,fun _=>hc⟩
   ·exact⟨0,fun h=>absurd h hi⟩
  exact h.perm n A (fun i=>Classical.choose (hA' i)) 0 Aa (fun i hi=>Classical.choose_spec (hA' i) hi) (fun i hi=>Aa)
 | m+1,hm,A,hA=>by
  have e:E A=E (EM A m fun c=>sm n fun k=>A m k*er k c):=by
   refine h.cong _ _ fun i j hi hj=>?_;unfold EM
   split
   ·rename_i e;rw[e];exact gQ _ _ _ hj
   ·rfl
  rw[e,h.sum A Aa];rw[show sm n (fun k=>A m k*E (EM A m (er k)))=sm n fun _=>0 from CU fun k hk=>by
   rw[Mr.all h m Aa (EM A m (er k)) fun i hi hin=>?_]
   ·grind
   ·by_cases a:i=m
    ·exact⟨k,hk,by subst a;funext c;show(if i=i then er k c else _)=_;rw[if_pos rfl]⟩
    ·obtain⟨c,hc1,hc2⟩:=hA i Aa hin
     exact⟨c,hc1,by rw[<-hc2];funext x;show(if i=m then er k x else A i x)=_;rw[if_neg a]⟩]
  exact Oa n
theorem XO(f:Nat->Rat):∀ n,sm (n+1) f=sm (n+1) fun i=>f (n - i)
 | 0=>by rw[BF,BF,Fp,Fp]
 | n+1=>by
  rw[BF,XO f n,Rs (n+1)];rw[show sm (n+1) (fun i=>f (n+1 - (i+1)))=sm (n+1) (fun i=>f (n - i))from CU fun i _=>by congr 1;omega];rw[Nat.sub_zero];grind
theorem conv{N p q j:Nat}{X Y:Nat->Rat}(hp:p < N)(hX:BA (p+1) X) :
  sm N (fun c=>(if c<=p then X (p - c)else 0)*(if j<=q+c then Y (q+c - j)else 0))=if j<=p+q then cv X Y (p+q - j)else 0:=by
 have h1:sm N (fun c=>(if c<=p then X (p - c)else 0)*(if j<=q+c then Y (q+c - j)else 0))=sm (p+1) (fun c=>(if c<=p then X (p - c)else 0)*(if j<=q+c then Y (q+c - j)else 0)):=
  Qu (fun i hi=>by rw[if_neg Aa];grind) Aa
 rw[h1,XO];by_cases hj:j<=p+q
 ·rw[if_pos hj,Zu hX]
  refine CU fun i hi=>?_;rw[if_pos Aa,show p - (p - i)=i from by omega];by_cases a:i<=p+q - j
  ·rw[if_pos Aa,if_pos a];congr 2;omega
  ·rw[if_neg Aa,if_neg a]
 ·rw[if_neg hj]
  rw[show sm (p+1) (fun i=>(if p - i<=p then X (p - (p - i))else 0)*(if j<=q+(p - i)then Y (q+(p - i) - j)else 0))=sm (p+1) fun _=>0 from CU fun i hi=>by
   rw[if_neg (show ¬ j<=q+(p - i) by omega)];grind]
  exact Oa _
def gx(n k m:Nat)(G:Nat->Rat):Nat->Nat->Rat:=fun i c =>
 if i < k then(if c < n+k then(if c<=n+i then G (n+i - c)else 0)else 0)
 else if i < k+m then(if c=n+i then 1 else 0)else(if c+m=i then 1 else 0)
theorem PX:pone≠pz:=fun e=>by have:=congrFun e 0;exact absurd this Ab
def Xe(s:Nat)(q:Rat):Prop:=∃ z:Int,q=(z:Rat)/\z.natAbs < bp s
theorem Xe.mul{s t:Nat}{p q:Rat}(h:Xe s p)(k:Xe t q):Xe (s+t) (p*q):=by
 obtain⟨x,rfl,hx⟩:=h;obtain⟨y,rfl,hy⟩:=k;refine⟨x*y,(Rat.intCast_mul x y).symm,?_⟩;rw[Int.natAbs_mul,Ja];exact Nat.mul_lt_mul'' hx hy
theorem Xe.sg{s:Nat}{q:Rat}(h:Xe s q)(i:Nat):Xe s (Hp.sg i*q):=by
 obtain⟨x,rfl,hx⟩:=h;unfold Hp.sg
 split
 ·exact⟨x,Ah,hx⟩
 ·exact⟨-x,by rw[Rat.intCast_neg];grind,by rw[Int.natAbs_neg];exact hx⟩
theorem Xe.up{s t:Nat}{q:Rat}(h:Xe s q)(k:s<=t):Xe t q:=by
 obtain⟨x,rfl,hx⟩:=h;exact⟨x,rfl,Nat.lt_of_lt_of_le hx (Gh k)⟩
theorem Xe.zero(s:Nat):Xe s 0:=⟨0,rfl,Ig s⟩
/-! ### the resultant with the derivative -/
theorem Dn{F:Nat->Rat}(h:ZI F):ZI (pd F):=fun i=>by
 obtain⟨n,e⟩:=h (i+1);exact⟨((i+1:Nat):Int)*n,by unfold pd;rw[e,Rat.intCast_mul];rfl⟩
theorem Qg{F:Nat->Rat}{n:Nat}(h:BA (n+1) F):BA n (pd F):=fun i hi=>by unfold pd;rw[h (i+1) Aa];exact Rat.mul_zero _
theorem IX{F:Nat->Rat}(fF:Ae F):pl (pd F)=pl F - 1:=by
 by_cases h:pl F=0
 ·rw[(Bt fF).1 h]
  have:pd pz=pz:=by funext i;exact Rat.mul_zero _
  rw[this,BH]
 ·obtain⟨m,hm⟩:∃ m,pl F=m+1:=⟨pl F - 1,Aa⟩
  have hs:BA (m+1) F:=hm▸AJ fF;have ht:=Ez fF Aa;rw[hm]at ht ⊢;refine L6 (Qg hs) fun h0=>?_;obtain⟨k,rfl⟩:∃ k,m=k+1:=⟨m - 1,Aa⟩
  show((k+1:Nat):Rat)*F (k+1)≠0;intro e;rcases Rat.mul_eq_zero.1 e with e | e
  ·have:((k+1:Nat):Rat)=((0:Nat):Rat):=e
   have:=Rat.natCast_inj.1 this;omega
  ·exact ht e
structure BB(F:Nat->Rat):Prop where
 z:ZI F
 f:Ae F
 n:F≠pz
 l:0 < ld F
 c:cn F=1
theorem BB.pp{F:Nat->Rat}(hz:ZI F)(h:Ae F)(h0:F≠pz):BB (Hp.pp F):=⟨IY hz h,Dl h,XL hz h h0,MB hz h h0,Sz hz h h0⟩
theorem BB.pcn{F:Nat->Rat}(h:BB F):Hp.pcn F=1:=by
 have:=h.l;unfold Hp.pcn;rw[if_neg Ah,h.c];rfl
theorem BB.self{F:Nat->Rat}(h:BB F):Hp.pp F=F:=by
 have e:=Pk h.z h.f h.n;rw[h.pcn]at e;rw[show(((1:Int)):Rat)=1 from rfl,Cq]at e;exact e.symm
theorem BB.pos{F:Nat->Rat}(h:BB F):0 < pl F:=AZ h.f h.n
theorem DJ{F:Nat->Rat}(h:Ae F):∃ S,∀ i,qsz (F i)<=S:=by
 obtain⟨n,h⟩:=h;induction n generalizing F with
 | zero=>exact⟨1,fun i=>by rw[h i (Nat.zero_le _)];decide⟩
 | succ n ih =>
  obtain⟨S,hS⟩:=ih h.tl;refine⟨max S (qsz (F 0)),fun i=>?_⟩
  match i with
  | 0=>exact Nat.le_max_right _ _
  | i+1=>exact Nat.le_trans (hS i) (Nat.le_max_left _ _)
theorem FH{F G:Nat->Rat}(fF:Ae F)(fG:Ae G)(zF:ZI F)(zG:ZI G):Ip F G (D7 F G):=by
 obtain⟨S,hS⟩:=DJ fF;obtain⟨T,hT⟩:=DJ fG;exact(bD fF fG zF zG (S:=max S T) (fun i=>Nat.le_trans (hS i) (Nat.le_max_left _ _)) (fun i=>Nat.le_trans (hT i) (Nat.le_max_right _ _))).1
theorem d9{F G:Nat->Rat}(h:Ae F)(k:Ae G)(hF:F≠pz)(hG:G≠pz):ld (cv F G)=ld F*ld G:=by
 have h1:=EW h k hF hG;have h2:=AZ h hF;have h3:=AZ k hG;unfold ld;rw[h1];have:=Tw (n:=pl F - 1) (m:=pl G - 1) (by rw[show pl F - 1+1=pl F by omega];exact AJ h) (by rw[show pl G - 1+1=pl G by omega];exact AJ k);rw[show pl F+pl G - 1 - 1=pl F - 1+(pl G - 1) by omega];exact this
theorem BB.mul{F G:Nat->Rat}(h:BB F)(k:BB G):BB (cv F G):=
 ⟨h.z.cv k.z,h.f.cv k.f,fun e=>by rcases Ky h.f k.f e with e | e;exact h.n e;exact k.n e,by rw[d9 h.f k.f h.n k.n];exact Rat.mul_pos h.l k.l,by rw[Pf h.z k.z h.f k.f,h.c,k.c]⟩
theorem Jk:BB pone:=by
 have e:pl pone=1:=L6 Ev fun _=>by show(1:Rat)≠0;decide
 refine⟨fun i=>?_,DC,PX,?_,?_⟩
 ·match i with
  | 0=>exact⟨1,rfl⟩
  | i+1=>exact⟨0,rfl⟩
 ·unfold ld;rw[e];show(0:Rat) < 1;decide
 ·unfold cn;rw[e];rfl
theorem BB.one{F:Nat->Rat}(h:BB F)(h1:pl F<=1):F=pone:=by
 have hp:=h.pos;have e1:pl F=1:=by omega
 have hc:=h.c;have hl:=h.l;unfold ld at hl;unfold cn at hc;rw[e1]at hl hc;have hc':Int.gcd ((0:Nat):Int) (F 0).num=1:=hc;obtain⟨z,hz⟩:=h.z 0;rw[hz]at hc' hl;have hn:((z:Int):Rat).num=z:=rfl;rw[hn]at hc';have hz0:0 < z:=by exact_mod_cast hl
 have h2:z.natAbs=1:=by simpa[Int.gcd] using hc'
 have h3:z=1:=by omega
 funext i
 match i with
 | 0=>rw[hz,h3];rfl
 | i+1=>exact(AJ h.f) (i+1) Aa
theorem BB.gcd{F G:Nat->Rat}(h:BB F)(zG:ZI G)(fG:Ae G):BB (D7 F G)/\Ie F (D7 F G)/\Ie G (D7 F G)/\Dv (D7 F G) F/\Dv (D7 F G) G/\∃ U V,Ae U/\Ae V/\pad (cv U F) (cv V G)=D7 F G:=by
 have k:=FH h.f fG h.z zG;obtain⟨D,hD⟩:∃ D,D=D7 F G:=⟨_,rfl⟩
 rw[<-hD]at k ⊢;obtain⟨f1,z1,l1,c1,g1⟩:=k;have k':Ip F G D:=⟨f1,z1,l1,c1,g1⟩
 have hn:D≠pz:=fun e=>by
  have:=g1.2.2.1;rw[e,Me]at this;exact h.n (Mm this)
 refine⟨⟨z1,f1,hn,l1 hn,by rw[c1,h.c,Nat.gcd_one_left]⟩,k'.zdv h.z h.f hn,k'.symm_.zdv zG fG hn,(GU D).trans g1.2.2.1,(GU D).trans g1.2.2.2.1,?_⟩;obtain⟨U,V,fU,fV,e⟩:=g1.bez h.f fG;refine⟨psc (ld D) U,psc (ld D) V,fU.psc _,fV.psc _,?_⟩;have e2:psc (ld D) (pad (cv U F) (cv V G))=psc (ld D) (mn D):=by rw[e]
 have e3:psc (ld D) (mn D)=D:=by
  unfold mn;rw[Ci];have:=Dh f1 hn;rw[show ld D*(1 / ld D)=1 by grind,Cq]
 rw[e3]at e2;rw[Df,Df,<-e2]
 funext n;simp only[pad,psc];grind
theorem Sb{F D:Nat->Rat}(fD:Ae D)(nD:D≠pz)(h:Ie F D):ZI (pq F D)/\Ae (pq F D)/\F=cv (pq F D) D:=by
 obtain⟨Q,zQ,fQ,e⟩:=h;have:=(Oj fQ fD nD).1;rw[<-e]at this;rw[this];exact⟨zQ,fQ,e⟩
theorem BB.quot{F D:Nat->Rat}(h:BB F)(k:BB D)(hd:Ie F D):BB (pq F D)/\F=cv (pq F D) D:=by
 obtain⟨zQ,fQ,e⟩:=Sb k.f k.n hd;have nQ:pq F D≠pz:=fun e2=>h.n (by rw[e,e2,Cx]);have h1:ld F=ld (pq F D)*ld D:=by rw[<-d9 fQ k.f nQ k.n,<-e]
 have h2:cn F=cn (pq F D)*cn D:=by rw[<-Pf zQ k.z fQ k.f,<-e]
 refine⟨⟨zQ,fQ,nQ,?_,?_⟩,e⟩
 ·have a:=h.l;have b:=k.l
  rw[h1]at a;rcases Std.lt_trichotomy 0 (ld (pq F D))with c | c | c
  ·exact c
  ·rw[<-c]at a;rw[Rat.zero_mul]at a;exact absurd a Ab
  ·exfalso
   have:=Rat.mul_neg_iff_of_pos_right b |>.2 c
   grind
 ·rw[h.c,k.c]at h2;omega
def DR(F G:Nat->Rat):Prop:=∃ U V,Ae U/\Ae V/\pad (cv U F) (cv V G)=pone
theorem DR.symm{F G:Nat->Rat}(h:DR F G):DR G F:=by
 obtain⟨U,V,a,b,e⟩:=h;exact⟨V,U,b,a,by rw[<-e];funext n;simp only[pad];grind⟩
theorem DR.dv{F G D:Nat->Rat}(h:DR F G)(k:Dv D F):DR D G:=by
 obtain⟨U,V,a,b,e⟩:=h;obtain⟨Q,fQ,rfl⟩:=k;exact⟨cv U Q,V,a.cv fQ,b,by rw[AA];exact e⟩
theorem DR.euclid{F G H:Nat->Rat}(h:DR F G)(fH:Ae H)(k:Dv F (cv G H)):Dv F H:=by
 obtain⟨U,V,a,b,e⟩:=h;have h1:Dv F (cv (pad (cv U F) (cv V G)) H):=by
  rw[Dw];refine Dv.pad ?_ ?_
  ·rw[AA,Bn F H,<-AA]
   exact(Dv.refl F).mul (a.cv fH)
  ·rw[AA];exact k.mul b
 rw[e,D8]at h1;exact h1
theorem DR.self{F:Nat->Rat}(fF:Ae F)(h:DR F F):pl F=1:=by
 obtain⟨U,V,a,b,e⟩:=h;have h1:Dv F pone:=by rw[<-e];exact((Dv.refl F).mul a).pad ((Dv.refl F).mul b)
 have hn:F≠pz:=fun e2=>PX (Mm (by rw[e2]at h1;exact h1));have h2:=Dv.le fF DC PX h1;have h3:pl pone<=1:=Bj Ev;have:=AZ fF hn;omega
theorem DR.of_gcd{F G:Nat->Rat}(h:BB F)(zG:ZI G)(fG:Ae G)(h1:pl (D7 F G)<=1):DR F G:=by
 obtain⟨k,-,-,-,-,U,V,a,b,e⟩:=h.gcd zG fG;rw[k.one h1]at e;exact⟨U,V,a,b,e⟩
theorem DR.gcd{F G:Nat->Rat}(c:DR F G)(h:BB F)(zG:ZI G)(fG:Ae G):D7 F G=pone:=by
 obtain⟨k,-,-,d1,d2,-⟩:=h.gcd zG fG;have h1:=DR.self k.f ((c.dv d1).symm.dv d2);exact k.one Aa
theorem BR{F:Nat->Rat}(h:Ae F):Ae (pd F):=by
 obtain⟨n,h⟩:=h;exact⟨n,Qg (h.mono (Nat.le_succ n))⟩
theorem lC{F:Nat->Rat}(fF:Ae F)(hn:F≠pz)(h:Dv F (pd F)):pl F=1:=by
 have h1:=IX fF;have h2:=AZ fF hn;rcases Nat.lt_or_ge 1 (pl F)with h3 | h3
 ·have h4:pd F≠pz:=fun e=>by rw[e,BH]at h1;omega
  have:=Dv.le fF (BR fF) h4 h;omega
 ·omega
def pw(F:Nat->Rat):Nat->Nat->Rat
 | 0=>pone
 | n+1=>cv (pw F n) F
theorem O1{F:Nat->Rat}(h:Ae F):∀ n,Ae (pw F n)
 | 0=>DC
 | n+1=>(O1 h n).cv h
theorem aC(n:Nat):pw pone n=pone:=by
 induction n with
 | zero=>rfl
 | succ n ih=>show cv (pw pone n) pone=pone;rw[ih,JC]
theorem U8{F:Nat->Rat}(h:BB F):∀ n,BB (pw F n)
 | 0=>Jk
 | n+1=>(U8 h n).mul h
theorem dO{F:Nat->Rat}(h:BB F):∀ n,pl (pw F n)=n*(pl F - 1)+1
 | 0=>by show pl pone=_;rw[show pl pone=1 from L6 Ev fun _=>by show(1:Rat)≠0;decide];omega
 | n+1=>by
  have h1:=EW (U8 h n).f h.f (U8 h n).n h.n;have h2:=h.pos;show pl (cv (pw F n) F)=_;rw[h1,dO h n,Nat.succ_mul];omega
/-! ### the rounds -/
noncomputable def yw(W C:Nat->Rat):Nat->(Nat->Rat)×(Nat->Rat)
 | 0=>(W,C)
 | k+1=>(D7 (yw W C k).1 (yw W C k).2,pq (yw W C k).2 (D7 (yw W C k).1 (yw W C k).2))
noncomputable def ya(W C:Nat->Rat)(k:Nat):Nat->Rat:=pq (yw W C k).1 (yw W C (k+1)).1
section
variable{W C:Nat->Rat}
theorem QD(hW:BB W)(hC:BB C):∀ k,BB (yw W C k).1/\BB (yw W C k).2
 | 0=>⟨hW,hC⟩
 | k+1=>by
  obtain⟨h1,h2⟩:=QD hW hC k;obtain⟨k1,k2,k3,-⟩:=h1.gcd h2.z h2.f;exact⟨k1,(h2.quot k1 k3).1⟩
theorem kT(hW:BB W)(hC:BB C)(k:Nat):BB (ya W C k)/\(yw W C k).1=cv (ya W C k) (yw W C (k+1)).1/\(yw W C k).2=cv (yw W C (k+1)).2 (yw W C (k+1)).1/\Ie (yw W C k).1 (yw W C (k+1)).1/\Ie (yw W C k).2 (yw W C (k+1)).1:=by
 obtain⟨h1,h2⟩:=QD hW hC k;obtain⟨k1,k2,k3,-⟩:=h1.gcd h2.z h2.f;have q1:=h1.quot k1 k2;have q2:=h2.quot k1 k3;exact⟨q1.1,q1.2,q2.2,k2,k3⟩
theorem JP{A B D:Nat->Rat}(h:Ie A B)(k:Ie B D):Ie A D:=by
 obtain⟨Q,a,b,rfl⟩:=h;obtain⟨R,c,d,rfl⟩:=k;exact⟨cv Q R,a.cv c,b.cv d,(AA _ _ _).symm⟩
theorem LM{A B:Nat->Rat}(h:Ie A B):Dv B A:=by
 obtain⟨Q,a,b,rfl⟩:=h;exact⟨Q,b,rfl⟩
theorem Zk(hW:BB W)(hC:BB C):∀ k,Ie W (yw W C k).1/\Ie C (yw W C k).2
 | 0=>⟨⟨pone,Jk.z,DC,(D8 _).symm⟩,⟨pone,Jk.z,DC,(D8 _).symm⟩⟩
 | k+1=>by
  obtain⟨h1,h2⟩:=Zk hW hC k;obtain⟨p,e1,e2,d1,d2⟩:=kT hW hC k;have q:=(QD hW hC (k+1)).1;exact⟨JP h1 d1,JP h2 ⟨(yw W C (k+1)).1,q.z,q.f,by rw[Bn];exact e2⟩⟩
end
noncomputable def rd(F:Nat->Rat):Nat->Rat:=psc (1 / ((cn F:Nat):Rat)) F
theorem Vs:rd pz=pz:=Fa _
theorem L9(F:Nat->Rat):rd F=psc (if ld F < 0 then -1 else 1) (pp F):=by
 unfold rd pp pcn
 split
 ·rw[Ci]
  congr 1;have:(((-(cn F:Int):Int)):Rat) = -((cn F:Nat):Rat):=by simp;rfl
  rw[this];grind
 ·rw[Cq];rfl
theorem FD(p:Prop)[Decidable p]:(if p then(-1:Rat)else 1)=1\/(if p then(-1:Rat)else 1) = -1:=by split;exact .inr rfl;exact .inl rfl
theorem F3{e:Rat}(h:e=1\/e = -1):e≠0:=by rcases h with rfl | rfl<;>decide
theorem YG{e:Rat}{F:Nat->Rat}(h:e=1\/e = -1)(z:ZI F):ZI (psc e F):=by
 rcases h with rfl | rfl
 ·rw[Cq];exact z
 ·exact z.psc (-1)
theorem Kk{e:Rat}{F:Nat->Rat}(h:e=1\/e = -1)(i:Nat):qsz (psc e F i)=qsz (F i):=by
 rcases h with rfl | rfl
 ·rw[Cq]
 ·have:psc (-1) F i = - F i:=by show -1*F i=_;grind
  rw[this,Gu]
noncomputable def nx(A B:Nat->Rat):Nat->Rat:=
 open Classical in if pr A B=pz then pz else psc (if 0 < ld (pr A B)then -1 else 1) (pp (CQ (pl (pr A B)) (pr A B)))
theorem I9{A B:Nat->Rat}(h:pr A B=pz):nx A B=pz:=by unfold nx;rw[if_pos h]
theorem Rt{A B:Nat->Rat}(h:pr A B≠pz):nx A B=psc (if 0 < ld (pr A B)then -1 else 1) (pp (CQ (pl (pr A B)) (pr A B))):=by unfold nx;rw[if_neg h]
section
variable{A B:Nat->Rat}
theorem Vw{R:Nat->Rat}{n:Nat}(hs:BA n R)(h0:R≠pz):(0 < KU n R↔0 < ld R)/\KU n R≠0:=by
 have fR:Ae R:=⟨n,hs⟩
 obtain⟨-,e⟩:=TC hs h0;have hp:=MB (Ep hs) (DT (n:=n) fR) (NA (n:=n) fR h0);have hc:KU n R≠0:=fun e0=>h0 (by rw[<-e,e0,Ra]);have hl:ld R=KU n R*ld (pp (CQ n R)):=by
  conv=>lhs;rw[<-e]
  exact Kv hc (Dl (DT (n:=n) fR))
 refine⟨?_,hc⟩;rw[hl];constructor
 ·intro h;exact Rat.mul_pos h hp
 ·intro h
  rcases Std.lt_trichotomy 0 (KU n R)with a | a | a
  ·exact a
  ·exact absurd a.symm hc
  ·exfalso
   have:=(Rat.mul_neg_iff_of_pos_right hp).2 a;grind
theorem Km(fA:Ae A)(fB:Ae B)(h0:B≠pz):ZI (nx A B)/\Ae (nx A B)/\pl (nx A B)=pl (pr A B)/\pl (nx A B) < pl B/\(pr A B≠pz->∃ c:Rat,0 < c/\pr A B=psc (-c) (nx A B)):=by
 have hp:=AZ fB h0;have hs:=Eo fA fB h0;have fR:=ES fA fB;have hlt:=Bj hs;by_cases hR:pr A B=pz
 ·rw[I9 hR,hR]
  exact⟨ZI.pz,Ae.pz,rfl,by rw[BH];omega,fun h=>absurd rfl h⟩
 ·obtain⟨R,hRe⟩:∃ R,R=pr A B:=⟨_,rfl⟩
  rw[Rt hR];rw[<-hRe]at hR fR hlt ⊢;have hsR:=AJ fR;have zc:=Ep hsR;have fc:=DT (n:=pl R) fR;have nc:=NA (n:=pl R) fR hR;have hpm:=FD (0 < ld R);have hpl:pl (psc (if 0 < ld R then(-1:Rat)else 1) (pp (CQ (pl R) R)))=pl R:=by
   rw[CV (F3 hpm) (Dl fc),Dq zc fc,LD fR]
  refine⟨YG hpm (IY zc fc),(Dl fc).psc _,hpl,by rw[hpl];omega,fun _=>?_⟩;obtain⟨-,e⟩:=TC hsR hR;obtain⟨k1,k2⟩:=Vw hsR hR;by_cases hl:0 < ld R
  ·refine⟨KU (pl R) R,k1.2 hl,?_⟩
   rw[if_pos hl,Ci]
   conv=>lhs;rw[<-e]
   congr 1;grind
  ·refine⟨-KU (pl R) R,?_,?_⟩
   ·have:¬ 0 < KU (pl R) R:=fun q=>hl (k1.1 q)
    grind
   ·rw[if_neg hl,Ci]
    conv=>lhs;rw[<-e]
    congr 1;grind
end
theorem Q7{P Q:Nat->Rat}{q:Rat}(zP:ZI P)(zQ:ZI Q)(fQ:Ae Q)(nQ:Q≠pz)(hq:q≠0)(e:P=psc q Q):pp P=pp Q:=by
 have fP:Ae P:=by rw[e];exact fQ.psc q
 have nP:P≠pz:=fun h=>nQ ((Bt fQ).1 (by rw[<-CV hq fQ,<-e,h,BH]));have h1:=BB.pp zP fP nP;have h2:=BB.pp zQ fQ nQ;have hcP:(pcn P:Rat)≠0:=fun h=>ED zP fP nP (by exact_mod_cast h);have hcQ:(pcn Q:Rat)≠0:=fun h=>ED zQ fQ nQ (by exact_mod_cast h);obtain⟨r,hr⟩:∃ r:Rat,r=1 / (pcn P:Rat)*q*(pcn Q:Rat):=⟨_,rfl⟩
 have hr0:r≠0:=by rw[hr];grind
 have e2:pp P=psc r (pp Q):=by
  have e3:=Pk zQ fQ nQ
  conv=>lhs;unfold pp;rw[e,e3]
  rw[Ci,Ci,hr];congr 1;rw[<-e3,<-e]
 have hrp:0 < r:=by
  have a:=h1.l;rw[e2,Kv hr0 h2.f]at a;have b:=h2.l;rcases Std.lt_trichotomy 0 r with c | c | c
  ·exact c
  ·exact absurd c.symm hr0
  ·exfalso
   have:=(Rat.mul_neg_iff_of_pos_right b).2 c;grind
 have e4:psc ((r.den:Int):Rat) (pp P)=psc ((r.num:Int):Rat) (pp Q):=by
  rw[e2,Ci];congr 1;have:=K9 r;have hd:((r.den:Nat):Rat)≠0:=JV r.den_pos;have h5:(((r.den:Int)):Rat)=((r.den:Nat):Rat):=rfl;rw[h5]
  conv=>lhs;rw[this]
  grind
 have hn:r.num≠0:=fun h=>hr0 (Rat.num_eq_zero.1 h);have hdn:(r.den:Int)≠0:=by have:=r.den_pos;omega
 have c1:=Im hdn h1.z h1.f;have c2:=Im hn h2.z h2.f;rw[e4,c2,h1.c,h2.c]at c1;have hnp:0<=r.num:=Rat.num_nonneg.2 Ah;have hr1:r=1:=by
  have h3:r.num=(r.den:Int):=by omega
  rw[K9 r,h3];have hd:((r.den:Nat):Rat)≠0:=JV r.den_pos;show((r.den:Nat):Rat) / ((r.den:Nat):Rat)=1;grind
 rw[e2,hr1,Cq]
theorem Yx{A B:Nat->Rat}(fA:Ae A)(fB:Ae B)(h0:B≠pz)(e:Rat){d:Rat}(hd:d≠0):pr (psc e A) (psc d B)=psc e (pr A B):=by
 have h1:psc d B≠pz:=fun h=>h0 ((Bt fB).1 (by rw[<-CV hd fB,h,BH]));have h2:=(Ib (fA.psc e) (fB.psc d) h1 (Q:=psc (e / d) (pq A B)) (R:=psc e (pr A B)) ((Ea A B).psc _) (by
  rw[Df,Qf,Ci,show e / d*d=e by grind]
  funext i
  have:=congrFun (Lb A B) i;simp only[psc,pad]at this ⊢;rw[this];grind) (by rw[CV hd fB];exact(Eo fA fB h0).psc e)).2
 exact h2.symm
def Fx(F0 G0:Nat->Rat)(D S:Nat)(A B:Nat->Rat):Prop:=∃ A' B' e d,GH F0 G0 D S A' B'/\A=psc e A'/\B=psc d B'/\(e=1\/e = -1)/\(d=1\/d = -1)
section
variable{F0 G0 A B:Nat->Rat}{D S:Nat}
theorem Fx.start(fF:Ae F0)(fG:Ae G0)(zF:ZI F0)(zG:ZI G0)(qF:∀ i,qsz (F0 i)<=S)(qG:∀ i,qsz (G0 i)<=S):Fx F0 G0 (pl F0+pl G0) S (rd F0) (rd G0):=
 ⟨_,_,_,_,GH.start fF fG zF zG qF qG,L9 F0,L9 G0,FD _,FD _⟩
theorem Fx.facts(h:Fx F0 G0 D S A B):Ae A/\Ae B/\ZI A/\ZI B/\pl A+pl B<=D/\(∀ i,qsz (A i)<=(S+1)*2^D)/\(∀ i,qsz (B i)<=(S+1)*2^D):=by
 obtain⟨A',B',e,d,h,rfl,rfl,he,hd⟩:=h;have hr:=h.room rfl;refine⟨h.fA.psc _,h.fB.psc _,YG he h.zA,YG hd h.zB,?_,fun i=>by rw[Kk he];exact hr.1 i,fun i=>by rw[Kk hd];exact hr.2.1 i⟩;rw[CV (F3 he) h.fA,CV (F3 hd) h.fB];exact h.deg
theorem Fx.step(h:Fx F0 G0 D S A B)(h0:B≠pz):Fx F0 G0 D S B (nx A B):=by
 obtain⟨A',B',e,d,h,rfl,rfl,he,hd⟩:=h;have hB':B'≠pz:=fun q=>h0 (by rw[q,Fa]);have hst:=(h.step hB' (R:=Dj A' B' (pl A'+1 - pl B')) rfl).1;have hend:=(Jv h.fA h.fB hB').2;have hl:=QI (Dh h.fB hB') (pl A'+1 - pl B');have hpr:=Yx h.fA h.fB hB' e (F3 hd);by_cases hR:pr A' B'=pz
 ·have e1:nx (psc e A') (psc d B')=pz:=I9 (by rw[hpr,hR,Fa])
  rw[hend,hR,Fa,I4]at hst;exact⟨B',pz,d,1,hst,rfl,by rw[e1,Fa],hd,.inl rfl⟩
 ·have fR:=ES h.fA h.fB
  have hR2:pr (psc e A') (psc d B')≠pz:=fun q=>hR (by
   rw[hpr]at q;exact(Bt fR).1 (by rw[<-CV (F3 he) fR,q,BH]))
  refine⟨B',_,d,_,hst,rfl,?_,hd,FD (0 < ld (pr (psc e A') (psc d B')))⟩;rw[Rt hR2];congr 1;have fR2:Ae (pr (psc e A') (psc d B')):=by rw[hpr];exact fR.psc e
  refine Q7 (q:=((dl (pl (pr (psc e A') (psc d B'))) (pr (psc e A') (psc d B')):Nat):Rat)*e*(1 / ld B'^(pl A'+1 - pl B'))) (Ep (AJ fR2)) (Fe h.zA h.zB _) (QK h.fA h.fB hB') (fun q=>hR ?_) ?_ ?_
  ·rw[q]at hend
   exact(Bt fR).1 (by rw[<-CV hl fR,<-hend,BH])
  ·have h1:=RQ (pl (pr (psc e A') (psc d B'))) (pr (psc e A') (psc d B'))
   have h2:=F3 he;grind
  ·rw[hend,Ci]
   unfold CQ
   conv=>lhs;arg 2;rw[hpr]
   rw[Ci];congr 1;grind
end
noncomputable def mF(F G:Nat->Rat):Nat->(Nat->Rat)×(Nat->Rat)
 | 0=>(rd F,rd G)
 | k+1=>((mF F G k).2,nx (mF F G k).1 (mF F G k).2)
noncomputable def Ca(F G:Nat->Rat)(k:Nat):Nat->Rat:=(mF F G k).1
theorem Ji(F G:Nat->Rat)(k:Nat):Ca F G (k+2)=nx (Ca F G k) (Ca F G (k+1)):=rfl
noncomputable def EH(F G:Nat->Rat)(K:Nat):List (Nat->Rat):=(List.range K).map (Ca F G)
theorem CL(F G:Nat->Rat)(K:Nat):(EH F G K).length=K:=by simp[EH]
theorem RF(F G:Nat->Rat)(K:Nat):EH F G (K+1)=EH F G K ++ [Ca F G K]:=by simp[EH,List.range_succ]
theorem Uw{F G:Nat->Rat}{K i:Nat}(h:i < (EH F G K).length):(EH F G K)[i]=Ca F G i:=by simp[EH]
def MM(F G:Nat->Rat)(K:Nat):Prop:=1<=K/\Ca F G K=pz/\∀ j,1<=j->j < K->Ca F G j≠pz
theorem MM.uniq{F G:Nat->Rat}{K L:Nat}(h:MM F G K)(k:MM F G L):K=L:=by
 rcases Nat.lt_trichotomy K L with a | a | a
 ·exact absurd h.2.1 (k.2.2 K h.1 a)
 ·exact a
 ·exact absurd k.2.1 (h.2.2 L k.1 a)
theorem IG{F G:Nat->Rat}{S:Nat}(fF:Ae F)(fG:Ae G)(zF:ZI F)(zG:ZI G)(qF:∀ i,qsz (F i)<=S)(qG:∀ i,qsz (G i)<=S):∀ k,(∀ j,1<=j->j<=k->Ca F G j≠pz)->Fx F G (pl F+pl G) S (Ca F G k) (Ca F G (k+1))
 | 0,_=>Fx.start fF fG zF zG qF qG
 | k+1,h=>(IG fF fG zF zG qF qG k fun j a b=>h j a Aa).step (h (k+1) Aa Aa)
theorem ME{F G:Nat->Rat}{S:Nat}(fF:Ae F)(fG:Ae G)(zF:ZI F)(zG:ZI G)(qF:∀ i,qsz (F i)<=S)(qG:∀ i,qsz (G i)<=S)(k:Nat)(h:∀ j,1<=j->j<=k->Ca F G j≠pz):pl (Ca F G (k+1))+k<=pl G:=by
 induction k with
 | zero =>
  show pl (rd G)+0<=_;by_cases h0:G=pz
  ·rw[h0,Vs,BH];omega
  ·rw[L9,CV (F3 (FD _)) (Dl fG),Dq zG fG];omega
 | succ k ih =>
  have h1:=ih fun j a b=>h j a Aa;obtain⟨f1,f2,-⟩:=(IG fF fG zF zG qF qG k fun j a b=>h j a Aa).facts;have h2:=(Km f1 f2 (h (k+1) Aa Aa)).2.2.2.1;rw[Ji];omega
theorem Fq{F G:Nat->Rat}{S:Nat}(fF:Ae F)(fG:Ae G)(zF:ZI F)(zG:ZI G)(qF:∀ i,qsz (F i)<=S)(qG:∀ i,qsz (G i)<=S):∃ K,MM F G K/\K<=pl G+1:=by
 have hx:∃ k,Ca F G (k+1)=pz:=Classical.byContradiction fun hn=>by
  have h1:=ME fF fG zF zG qF qG (pl G) fun j a b=>fun e=>hn ⟨j - 1,by rw[show j - 1+1=j by omega];exact e⟩;exact hn ⟨pl G,by
   obtain⟨f1,f2,-⟩:=(IG fF fG zF zG qF qG (pl G) fun j a b=>fun e=>hn ⟨j - 1,by rw[show j - 1+1=j by omega];exact e⟩).facts;exact(Bt f2).1 Aa⟩
 obtain⟨k,h1,h2⟩:=OW hx;have hne:∀ j,1<=j->j < k+1->Ca F G j≠pz:=fun j a b e=>h2 (j - 1) Aa (by rw[show j - 1+1=j by omega];exact e);refine⟨k+1,⟨Aa,h1,hne⟩,?_⟩;have:=ME fF fG zF zG qF qG k fun j a b=>hne j a Aa;omega
def SI:Value->Bool
 | .bool _=>true
 | _=>false
def OP(w:World)(v:Value):Prop:=∀ g∈blk v,∀ i c,w.cell? ⟨g,i,none⟩≠some (.bool c)
theorem PU{w:World}{g:Nat}{t:TypeId}{cur:Array Value}{n c:Nat}(hb:w.heap[g]? = some (.cells cur t (0,0)))(h:∀ u∈cur.toList,SI u=false):OP w (.slice (some ⟨g,0,none⟩) n c):=by
 intro g' hg i b e;have:g'=g:=by simpa[blk,Value.ownBlock] using hg
 subst this;rw[cell_of_row w g' i cur t (0,0) hb]at e;have:=h (.bool b) (by
  have:=Array.mem_of_getElem? e;simpa using this)
 cases this
theorem YR{w:World}{g:Nat}{t:TypeId}{cur:Array Value}{n c:Nat}(hb:w.heap[g]? = some (.cells cur t (0,0)))(h:OP w (.slice (some ⟨g,0,none⟩) n c)):∀ u∈cur.toList,SI u=false:=by
 intro u hu;obtain⟨i,hi,rfl⟩:=List.getElem_of_mem hu;have h1:=h g (by simp[blk,Value.ownBlock]) i;rw[cell_of_row w g i cur t (0,0) hb]at h1;have hi':i < cur.size:=by simpa using hi
 rw[Array.getElem?_eq_getElem hi']at h1;rw[Array.getElem_toList];cases hc:cur[i]with
 | bool b=>exact absurd (by rw[hc]) (h1 b)
 | _=>rfl
section
variable{P:Program}
theorem Ni(w:World)(k base:Nat)(t ty e:TypeId)(i:TypeInfo)(z:Value)(bytes:Nat)(ht:P.underlying t=some (.slice e))(hi:P.info? e=some i)(hz:i.zero=some z)
  (hsize:i.size=k) (hby:i.bytes=bytes) (hzs:z.cells.size=k) (hzd:nodig z.cells=true) (hsz:0 < k)
  (v:Value) (n:Nat) (xs:List Value) (hown:Mv k base e w v n xs)
  (a:Addr) (c:Nat) (news:List Value) (hl:news.length=k) (hnews:∀ j u,news[j]? = some u->w.cell? (a.add j)=some u) (h1:∀ u∈news,u.oneCell'=true) (hnd:∀ u∈news,Af u=false)
  (h63:n+1<=maxLen) (hbytes:(n+1)*bytes<=140737488355328) (hbase:base<=w.heap.size) (hvb:OP w v) (hnb:∀ u∈news,SI u=false) (hzB:∀ u∈z.cells.toList,SI u=false) :
  ∃ v' w',(Builtin.append_ #[t,t] ty #[v,.slice (some a) 1 c]).run P w = .ok v' w'/\Mv k base e w' v' (n+1) (xs ++ news)/\Cu (blk v) w w'/\OP w' v':=by
 subst hsize;subst hby;have hl':news.length=1*i.size:=by rw[Nat.one_mul];exact hl
 have hlen:(xs ++ news).length=(n+1)*i.size:=by rw[List.length_append,hown.1,hl,Nat.succ_mul]
 have hsmall:n+1<=9223372036854775807:=by simp only[maxLen]at h63;omega
 have hzl:=Cb.1 hzd;have hzc:∀ m,∀ u∈(Builtin.zeroCells z.cells m).toList,Af u=false:=by
  intro m u hu;simp only[Builtin.zeroCells,Array.toList_map,Array.toList_range,List.mem_map,List.mem_range]at hu;obtain⟨j,hj,rfl⟩:=hu;have:j % z.cells.size < z.cells.size:=Nat.mod_lt _ Aa;rw[getElem!_pos z.cells _ this];exact hzl _ Ac
 have hzb:∀ m,∀ u∈(Builtin.zeroCells z.cells m).toList,SI u=false:=by
  intro m u hu;simp only[Builtin.zeroCells,Array.toList_map,Array.toList_range,List.mem_map,List.mem_range]at hu;obtain⟨j,hj,rfl⟩:=hu;have:j % z.cells.size < z.cells.size:=Nat.mod_lt _ Aa;rw[getElem!_pos z.cells _ this];exact hzB _ Ac
 have hxb:∀ u∈xs,SI u=false:=by
  rcases hown.2 with⟨_,h0⟩ | ⟨g,cap,cur,ev,_,hb,_,_,_,htake⟩
  ·intro u hu
   have:xs=[]:=List.eq_nil_of_length_eq_zero (by rw[hown.1,h0,Nat.zero_mul]);rw[this]at hu;cases hu
  ·intro u hu
   rw[<-htake]at hu;exact YR hb.1 (by rw[ev]at hvb;exact hvb) _ (List.mem_of_mem_take hu)
 have hxd:∀ u∈xs,Af u=false:=by
  rcases hown.2 with⟨_,h0⟩ | ⟨g,cap,cur,_,_,hb,_,_,_,htake⟩
  ·intro u hu
   have:xs=[]:=List.eq_nil_of_length_eq_zero (by rw[hown.1,h0,Nat.zero_mul]);rw[this]at hu;cases hu
  ·intro u hu
   rw[<-htake]at hu;exact Cb.1 hb.2 _ (List.mem_of_mem_take hu)
 have grown:∀(old:Nat),old < n+1 ->
   Mv i.size base e (w.drew.alloc (.cells (xs.toArray ++ news.toArray ++ Builtin.zeroCells z.cells (grownCap w (n+1) old e - (n+1))) e)) (.slice (some ⟨w.heap.size,0,none⟩) (n+1) (grownCap w (n+1) old e)) (n+1) (xs ++ news) /\
   (∀ G,Cu G w (w.drew.alloc (.cells (xs.toArray ++ news.toArray ++ Builtin.zeroCells z.cells (grownCap w (n+1) old e - (n+1))) e))) /\
   OP (w.drew.alloc (.cells (xs.toArray ++ news.toArray ++ Builtin.zeroCells z.cells (grownCap w (n+1) old e - (n+1))) e)) (.slice (some ⟨w.heap.size,0,none⟩) (n+1) (grownCap w (n+1) old e)):=by
  intro old ho;have hge:=grownCap_ge w (n+1) old e;have hcm:grownCap w (n+1) old e<=maxLen:=grownCap_le_maxLen w (n+1) old e h63;refine⟨⟨hlen,.inr ⟨w.heap.size,_,_,rfl,hbase,⟨heap_alloc_new w.drew _,?_⟩,hge,hcm,?_,?_⟩⟩,fun G=>Cu.of_ext ((Ext.refl w).drew.alloc _),PU (heap_alloc_new w.drew _) ?_⟩
  ·rw[Cb]
   intro u hu;simp only[Array.toList_append,List.mem_append]at hu;rcases hu with(hu | hu) | hu
   ·exact hxd u (by simpa using hu)
   ·exact hnd u (by simpa using hu)
   ·exact hzc _ u hu
  ·simp only[Array.size_append,List.size_toArray,size_zeroCells,hzs,hown.1,hl]
   rw[<-Nat.succ_mul,<-Nat.add_mul];congr 1;omega
  ·simp only[Array.toList_append,List.append_assoc]
   rw[<-List.append_assoc,<-hlen];exact List.take_left
  ·intro u hu
   simp only[Array.toList_append,List.mem_append]at hu;rcases hu with(hu | hu) | hu
   ·exact hxb u (by simpa using hu)
   ·exact hnb u (by simpa using hu)
   ·exact hzb _ u hu
 rcases hown.2 with⟨rfl,rfl⟩ | ⟨g,cap,cur,rfl,hbg,hb,hnc,hcm,hcs,htake⟩
 ·have hx:xs=[]:=List.eq_nil_of_length_eq_zero (by simpa using hown.1)
  subst hx;have hr:=run_append_nil (P:=P) w t ty e i z ht hi hz a 1 c news hl' hnews Aa Aa (by have hb:=hbytes;simp only[Nat.zero_add]at hb;omega);have hgr:=grown 0 Aa;simp only[Nat.zero_add,List.nil_append,Array.empty_append]at hgr ⊢;exact⟨_,_,hr,hgr.1,hgr.2.1 _,hgr.2.2⟩
 ·have hg:=hb.1
  by_cases hroom:n+1<=cap
  ·have hfit:n*i.size+news.length<=cur.size:=by rw[hl,hcs,<-Nat.succ_mul];exact Nat.mul_le_mul_right _ hroom
   have hr:=run_append_room (P:=P) w t ty e i ht hi g n cap cur hg a 1 c news hl' hnews h1 hroom hfit;have hnew:∀ u∈cur.toList.take (n*i.size) ++ news ++ cur.toList.drop (n*i.size+news.length),Af u=false:=by
    intro u hu;simp only[List.mem_append]at hu;rcases hu with(hu | hu) | hu
    ·exact Cb.1 hb.2 _ (List.mem_of_mem_take hu)
    ·exact hnd u hu
    ·exact Cb.1 hb.2 _ (List.mem_of_mem_drop hu)
   have hbx:Bh (w.setRow g (cur.toList.take (n*i.size) ++ news ++ cur.toList.drop (n*i.size+news.length)).toArray) g e _:=⟨setRow_heap w g cur _ e _ hg,Cb.2 (by simpa using hnew)⟩
   refine⟨_,_,hr,⟨hlen,.inr ⟨g,cap,_,rfl,hbg,hbx,hroom,hcm,?_,?_⟩⟩,⟨fun g' o hg' ho=>?_,Ov hb fun h hne _=>setRow_other w g h _ hne,fun a' ha hG=>?_⟩,PU hbx.1 ?_⟩
   ·simp only[List.size_toArray,List.length_append,List.length_take,List.length_drop,Array.length_toList]
    omega
   ·rw[htake,<-hlen]
    exact List.take_left
   ·rw[setRow_other w g g' _ (fun e=>hg' (by simp[blk,Value.ownBlock,e]))];exact ho
   ·have hga:a'.heap.size<=g:=hG g (by simp[blk,Value.ownBlock])
    exact ha.grown (row:=some g) ⟨rfl,rfl,rfl,by simp[World.setRow],fun k _ hk=>setRow_other w g k _ (fun e=>hk (by rw[e]))⟩ (fun k hk=>by cases hk;exact hga)
   ·intro u hu
    have hcb:=YR hb.1 hvb;have hu':u∈cur.toList.take (n*i.size) ++ news ++ cur.toList.drop (n*i.size+news.length):=by simpa using hu
    simp only[List.mem_append]at hu';rcases hu' with(hu | hu) | hu
    ·exact hcb _ (List.mem_of_mem_take hu)
    ·exact hnb u hu
    ·exact hcb _ (List.mem_of_mem_drop hu)
  ·have holds:∀ j u,xs[j]? = some u->w.cell? ((⟨g,0,none⟩:Addr).add j)=some u:=hown.owns.cells (g:=g) rfl
   have hr:=run_append_grow (P:=P) w t ty e i z ht hi hz ⟨g,0,none⟩ n cap xs hown.1 holds a 1 c news hl' hnews Aa Aa (growslice_fits Aa hbytes);have hgr:=grown cap Aa;exact⟨_,_,hr,hgr.1,hgr.2.1 _,hgr.2.2⟩
end
section
variable{α:Type}{k:Nat}{rd:World->Value->α->Prop}{base:Nat}{e:TypeId}{w w':World}{v:Value}{l:List α}
theorem BJ.append_blk{P:Program}(h:BJ k rd base e w v l)(t ty:TypeId)(i:TypeInfo)(z:Value)(bytes:Nat)(ht:P.underlying t=some (.slice e))(hi:P.info? e=some i)(hz:i.zero=some z)
  (hsize:i.size=k) (hby:i.bytes=bytes) (hzs:z.cells.size=k) (hzd:nodig z.cells=true) (hsz:0 < k) {x:α}
  (a:Addr) (c:Nat) (news:Array Value) (hl:news.size=k) (hx:rd w (.agg news) x) (hnews:∀ j u,news.toList[j]? = some u->w.cell? (a.add j)=some u) (h1:∀ u∈news.toList,u.oneCell'=true) (hnd:nodig news=true)
  (h63:l.length+1<=maxLen) (hbytes:(l.length+1)*bytes<=140737488355328) (hbase:base<=w.heap.size) (hr:∀ w' u y,KD w w'->rd w u y->rd w' u y) (hvb:OP w v) (hnb:∀ u∈news.toList,SI u=false) (hzB:∀ u∈z.cells.toList,SI u=false) :
  ∃ v' w',(Builtin.append_ #[t,t] ty #[v,.slice (some a) 1 c]).run P w = .ok v' w'/\BJ k rd base e w' v' (l ++ [x])/\Cu (blk v) w w'/\OP w' v':=by
 obtain⟨ess,g1,g2,g3,g5⟩:=h;obtain⟨v',w',hrun,hown,hupd,hblk⟩:=Ni (P:=P) w k base t ty e i z bytes ht hi hz hsize hby hzs hzd hsz v l.length _ g3 a c news.toList (by simpa using hl) hnews h1 (Cb.1 hnd) h63 hbytes hbase hvb hnb hzB;refine⟨v',w',hrun,⟨ess ++ [news],by simp[g1],?_,?_,?_⟩,hupd,hblk⟩
 ·intro d hd
  rcases List.mem_append.1 hd with hd | hd
  ·exact g2 d hd
  ·simp at hd;subst hd;exact hl
 ·have e1:(ess ++ [news]).flatMap Array.toList=ess.flatMap Array.toList ++ news.toList:=by simp
  rw[e1,List.length_append];exact hown
 ·intro j hj hj'
  rcases Nat.lt_or_ge j l.length with hlt | hge
  ·rw[List.getElem_append_left hlt,List.getElem_append_left Aa]
   exact hr _ _ _ hupd.kd (g5 j hlt Aa)
  ·have:j=l.length:=by simp at hj;omega
   subst this;rw[List.getElem_append_right Aa,List.getElem_append_right Aa];simpa using hr _ _ _ hupd.kd hx
end
theorem KD.own{A B:World}{row:Option Nat}(hg:A.grownBy B row)(hr:∀ r,row=some r->∃ o:Obj,A.heap[r]? = some o/\o.isCells=false):KD A B:=fun _ _ e=>cell_kept e hg hr
theorem Bh.own{A B:World}{row:Option Nat}{g:Nat}{t:TypeId}{cs:Array Value}(h:Bh A g t cs)(hg:A.grownBy B row)(hr:∀ r,row=some r->∃ o:Obj,A.heap[r]? = some o/\o.isCells=false):Bh B g t cs:=
 ⟨(hg.block g h.lt (fun e=>by obtain⟨o,h1,h2⟩:=hr g e.symm;rw[h.1]at h1;cases h1;cases h2)).trans h.1,h.2⟩
theorem kF{A B C:World}{g:Nat}{u v x y:Value}(B0:Nat)(e:Ext A B)(h:C=(((B.setCell ⟨g,0,none⟩ u).setCell ⟨g,1,none⟩ v).setCell ⟨g,2,none⟩ x).setCell ⟨g,3,none⟩ y):KeepsFrom B0 A C:=by
 subst h;have k1:KeepsFrom B0 A B:=⟨e.size,fun k o _ h0 _=>e.blk h0⟩
 exact k1.trans (((((KeepsOthers.setCell _ _ _).trans (KeepsOthers.setCell _ _ _)).trans (KeepsOthers.setCell _ _ _)).trans (KeepsOthers.setCell _ _ _)).from _)
theorem jL{A B C:World}{g n₀:Nat}{u v x y:Value}(e:Below n₀ A B)(h:C=(((B.setCell ⟨g,0,none⟩ u).setCell ⟨g,1,none⟩ v).setCell ⟨g,2,none⟩ x).setCell ⟨g,3,none⟩ y)(hg:n₀<=g):Below n₀ A C:=by
 subst h;exact(((e.setCell (p:=⟨g,0,none⟩) hg _).setCell (p:=⟨g,1,none⟩) hg _).setCell (p:=⟨g,2,none⟩) hg _).setCell (p:=⟨g,3,none⟩) hg _
theorem Sc{A B:World}{G:List Nat}{g i:Nat}{v:Value}(U:Cu G A B)(hg:g∉G)(h:A.cell? ⟨g,i,none⟩=some v):B.cell? ⟨g,i,none⟩=some v:=by
 obtain⟨o,ho,hc⟩:=cells_of_cell h;exact(World.cell?_of_block ((U.1 g o hg ho).trans ho.symm)).trans h
theorem DL.own{A B:World}{row:Option Nat}{g:Nat}{t:TypeId}{q:Rat}(h:DL A g t q)(hg:A.grownBy B row)(hr:∀ r,row=some r->∃ o:Obj,A.heap[r]? = some o/\o.isCells=false):DL B g t q:=by
 obtain⟨b,A1,n,c,b',A1',n',c',h1,h2⟩:=h;exact DL.mk (h1.own hg hr) (h2.kd (KD.own hg hr))
theorem iW{F:Nat->Rat}(z:ZI F)(x:Int):∀ n,∃ y:Int,CZ n F (x:Rat)=(y:Rat):=by
 intro n;induction n generalizing F with
 | zero=>exact⟨0,rfl⟩
 | succ n ih =>
  obtain⟨y,hy⟩:=ih (F:=tl F) fun i=>z (i+1);obtain⟨a,ha⟩:=z 0;exact⟨a+x*y,by rw[En,hy,ha];simp⟩
theorem ND{F:Nat->Rat}(z:ZI F)(x:Int):∃ y:Int,ev F (x:Rat)=(y:Rat):=iW z x _
theorem OY{F:Nat->Rat}{n:Nat}(fF:Ae F)(h0:F≠pz)(hn:pl F<=n):∃ X:Nat->Rat,Mc X n/\∀ k,k < n->ev F (X k)≠0/\∃ m:Nat,m < 2*n/\X k=((m:Int):Rat):=by
 classical
 obtain⟨l,hl⟩:∃ l,l=(List.range (2*n)).map (fun k:Nat=>(((k:Nat):Int):Rat)):=⟨_,rfl⟩
 have hnd:l.Nodup:=by
  rw[hl,List.nodup_iff_pairwise_ne,List.pairwise_map];refine List.Pairwise.imp (R:=fun a b=>a < b) ?_ List.pairwise_lt_range;intro a b hab e;have:((a:Nat):Int)=((b:Nat):Int):=by exact_mod_cast e
  omega
 obtain⟨R,hR⟩:∃ R,R=l.filter fun x=>decide (ev F x=0):=⟨_,rfl⟩
 obtain⟨N,hN⟩:∃ N,N=l.filter fun x=>!decide (ev F x=0):=⟨_,rfl⟩
 have hlen:R.length+N.length=2*n:=by
  have h1:R.length+N.length=l.length:=by
   rw[hR,hN];clear hR hN hl hnd;induction l with
   | nil=>rfl
   | cons a l ih =>
    simp only[List.filter_cons];by_cases e:ev F a=0
    ·simp[e];omega
    ·simp[e];omega
  rw[h1,hl];simp
 have hRl:R.length < pl F:=by
  rcases Nat.lt_or_ge R.length (pl F)with a | a
  ·exact a
  ·exact absurd (IM ((AJ fF).mono a) (by rw[hR];exact hnd.sublist (List.filter_sublist)) (fun x hx=>by rw[hR,List.mem_filter]at hx;simpa using hx.2)) h0
 have hNn:N.Nodup:=by rw[hN];exact hnd.sublist (List.filter_sublist)
 have hNg:∀ k (h:k < n),∃ h':k < N.length,N.getD k 0=N[k]:=fun k h=>⟨Aa,by rw[List.getD_eq_getElem?_getD,List.getElem?_eq_getElem Aa];rfl⟩
 refine⟨fun k=>N.getD k 0,fun i k hi hk=>?_,fun k hk=>?_⟩
 ·obtain⟨a1,a2⟩:=hNg i hi
  obtain⟨b1,b2⟩:=hNg k Aa;show N.getD i 0≠N.getD k 0;rw[a2,b2];intro e;rw[List.nodup_iff_pairwise_ne,List.pairwise_iff_getElem]at hNn;exact hNn k i b1 a1 hk e.symm
 ·obtain⟨a1,a2⟩:=hNg k hk
  show ev F (N.getD k 0)≠0/\∃ m:Nat,m < 2*n/\N.getD k 0=_;rw[a2];obtain⟨y,hy⟩:∃ y,y=N[k]:=⟨_,rfl⟩
  have hm:y∈N:=by rw[hy];exact List.getElem_mem a1
  rw[<-hy];clear hy a2;rw[hN,List.mem_filter,hl]at hm;obtain⟨b1,b2⟩:=hm;obtain⟨m,c1,c2⟩:=List.mem_map.1 b1;refine⟨by simpa using b2,m,List.mem_range.1 c1,c2.symm⟩
theorem Ux{F D:Nat->Rat}{n s:Nat}(zF:ZI F)(fF:Ae F)(h0:F≠pz)(zD:ZI D)(fD:Ae D)(hd:Ie F D)(hn:pl F<=n)(hn9:n<=16)(hs:∀ i,qsz (F i)<=s)(hs9:s<=5)(i:Nat):qsz (D i)<=36000:=by
 obtain⟨X,hA,hX⟩:=OY fF h0 hn;have hX1:∀ k,k < n->qsz (X k)<=1:=fun k hk=>by
  obtain⟨-,m,h1,h2⟩:=hX k hk;have h3:bp 1=4294967296:=rfl;have h4:sz ((m:Nat):Int).natAbs<=1:=Cm (by rw[h3];omega);rw[h2,Bi];omega
 have hX2:∀ k,k < n->qsz (X k)<=2:=fun k hk=>Nat.le_trans (hX1 k hk) Aa;obtain⟨Q,zQ,fQ,e⟩:=hd;have hY:∀ k,k < n->qsz (ev D (X k))<=113:=fun k hk=>by
  have h1:=LH ((AJ fF).mono hn) hs (hX1 k hk);have h2:n*(s+1+1)<=16*7:=Nat.mul_le_mul hn9 Aa;obtain⟨h3,m,-,h4⟩:=hX k hk;have h5:ev F (X k)=ev Q (X k)*ev D (X k):=by rw[e,EN fQ fD]
  rw[h4]at h1 h3 h5 ⊢;obtain⟨a,ha⟩:=ND zF (m:Int);obtain⟨b,hb⟩:=ND zQ (m:Int);obtain⟨c,hc⟩:=ND zD (m:Int);rw[ha]at h1 h3;rw[ha,hb,hc]at h5;rw[hc];have h6:a=b*c:=by exact_mod_cast h5
  have h7:a≠0:=fun e=>h3 (by rw[e];rfl);rw[Bi]at h1 ⊢;have h8:c.natAbs<=a.natAbs:=Nat.le_of_dvd Aa (Int.natAbs_dvd_natAbs.2 ⟨b,by rw[h6,Int.mul_comm]⟩);have:=Bl h8;omega
 have hDn:D≠pz:=fun e2=>h0 (by rw[e,e2,IR]);have hDl:pl D<=pl F:=Dv.le fD fF h0 ⟨Q,fQ,e⟩;obtain⟨Y,hYe⟩:∃ Y,Y=fun k=>ev D (X k):=⟨_,rfl⟩
 have hD:D=bB X Y n n:=KS hA ((AJ fD).mono Aa) (Q8 X Y n n (Nat.le_refl _)) fun k hk=>by
  rw[YL hA hk n (Nat.le_refl _),if_pos hk,hYe]
 have hc:∀ j,j < n->CD 2235 (iL X Y n j):=fun j hj=>by
  have h1:=jR j n hX2 Aa;have h2:=LH (Q9 X j n).1 (fun j=>h1.elem j) (hX1 j hj);have h3:(n+1)*(3+7*n+1+1)<=17*117:=Nat.mul_le_mul Aa Aa;have h4:=IK (Y j) (ev (lgp X j n) (X j));have h5:=hY j hj;have h6:qsz (Y j)<=113:=by rw[hYe];exact h5
  exact(h1.psc _).mono Aa
 have hl:∀ m,m<=n->CD (1+m*2236) (bB X Y n m):=by
  intro m;induction m with
  | zero=>intro _;exact CD.pz
  | succ m ih=>intro h;exact((ih Aa).pad (hc m h)).mono Aa
 rw[hD];have h9:n*2236<=16*2236:=Nat.mul_le_mul_right _ hn9;exact Nat.le_trans ((hl n (Nat.le_refl _)).elem i) Aa
theorem DR.mul{F G H:Nat->Rat}(fF:Ae F)(fG:Ae G)(fH:Ae H)(h:DR F G)(k:DR F H):DR F (cv G H):=by
 obtain⟨U,V,a,b,e⟩:=h;obtain⟨X,Y,c,d,e'⟩:=k;refine⟨pad (cv (pad (cv U F) (cv V G)) X) (cv U (cv Y H)),cv V Y,(((a.cv fF).pad (b.cv fG)).cv c).pad (a.cv (d.cv fH)),b.cv d,?_⟩;have h1:cv (pad (cv U F) (cv V G)) (pad (cv X F) (cv Y H))=pone:=by rw[e,e',D8]
 rw[<-h1,Gd,Dw (cv U F) (cv V G) (cv Y H),Dw _ _ F];have e1:cv (cv (pad (cv U F) (cv V G)) X) F=cv (pad (cv U F) (cv V G)) (cv X F):=AA _ _ _;have e2:cv (cv U (cv Y H)) F=cv (cv U F) (cv Y H):=by rw[AA,Bn (cv Y H) F,<-AA]
 have e3:cv (cv V Y) (cv G H)=cv (cv V G) (cv Y H):=by rw[AA,AA,<-AA Y G H,Bn Y G,AA]
 rw[e1,e2,e3]
 funext n;simp only[pad];grind
theorem DR.one(F:Nat->Rat):DR F pone:=⟨pz,pone,Ae.pz,DC,by rw[Cx,D8];funext n;simp only[pad,pz];grind⟩
theorem DR.pw{F G:Nat->Rat}(fF:Ae F)(fG:Ae G)(h:DR F G):∀ n,DR F (pw G n)
 | 0=>DR.one F
 | n+1=>DR.mul fF (O1 fG n) fG (DR.pw fF fG h n) h
theorem Wy{W:Nat->Rat}(hW:BB W):∀(n:Nat) {C:Nat->Rat},BB C->pl C<=n->∃ P R N,BB P/\BB R/\C=cv P R/\DR P W/\Dv R (pw W N):=by
 intro n;induction n with
 | zero=>intro C hC hn;have:=hC.pos;omega
 | succ n ih =>
  intro C hC hn;obtain⟨k,z1,-,-,d2,-⟩:=hC.gcd hW.z hW.f;by_cases h1:pl (D7 C W)<=1
  ·exact⟨C,pone,0,hC,Jk,(JC C).symm,DR.of_gcd hC hW.z hW.f h1,Dv.refl _⟩
  ·obtain⟨q1,q2⟩:=hC.quot k z1
   have h2:=EW q1.f k.f q1.n k.n;rw[<-q2]at h2;obtain⟨P,R,N,a,b,c,d,e⟩:=ih q1 Aa;refine⟨P,cv R (D7 C W),N+1,a,b.mul k,by rw[<-AA,<-c];exact q2,d,?_⟩;obtain⟨X,fX,eX⟩:=e;obtain⟨Y,fY,eY⟩:=d2;refine⟨cv X Y,fX.cv fY,?_⟩;show cv (pw W N) W=_;rw[eX]
   conv=>lhs;rw[eY]
   rw[AA,AA X Y,<-AA R Y,Bn R Y,AA Y R]
theorem VG{D A B:Nat->Rat}(fD:Ae D)(nD:D≠pz)(fA:Ae A)(fB:Ae B)(h:cv D A=cv D B):A=B:=by
 have h1:=(Oj fA fD nD).1;have h2:=(Oj fB fD nD).1;rw[Bn]at h1 h2;rw[h]at h1;exact h1.symm.trans h2
noncomputable def yc(g:Nat->Rat):Nat->Rat:=D7 g (pd g)
noncomputable def y0(g:Nat->Rat):Nat->Rat:=pq g (yc g)
section
variable{g:Nat->Rat}
theorem DW(h:BB g):BB (yc g)/\BB (y0 g)/\g=cv (y0 g) (yc g)/\Ie g (yc g)/\Ie (pd g) (yc g):=by
 obtain⟨k,z1,z2,-⟩:=h.gcd (Dn h.z) (BR h.f);obtain⟨q1,q2⟩:=h.quot k z1;exact⟨k,q1,q2,z1,z2⟩
theorem iE(h:BB g):∃ V,Ae V/\pd g=cv V (yc g)/\DR (y0 g) V:=by
 obtain⟨k,z1,z2,d1,d2,U,V,a,b,e⟩:=h.gcd (Dn h.z) (BR h.f);obtain⟨q1,q2⟩:=h.quot k z1;obtain⟨zQ,fQ,eQ⟩:=Sb k.f k.n z2;refine⟨pq (pd g) (yc g),fQ,eQ,U,V,a,b,?_⟩;refine VG k.f k.n ((a.cv q1.f).pad (b.cv fQ)) DC ?_;rw[JC];show cv (yc g) (pad (cv U (y0 g)) (cv V (pq (pd g) (yc g))))=yc g
 conv=>rhs;unfold yc;rw[<-e]
 rw[Gd];congr 1
 ·rw[Bn,AA];congr 1;exact q2.symm
 ·rw[Bn,AA];congr 1;exact eQ.symm
theorem kD(h:BB g):Dv (yc g) (cv (y0 g) (pd (yc g))):=by
 obtain⟨k,q1,q2,z1,z2⟩:=DW h;have h1:=LM z2;rw[q2,Mq,<-q2]at h1;have h2:Dv (yc g) (psb (pad (cv (pd (y0 g)) (yc g)) (cv (y0 g) (pd (yc g)))) (cv (pd (y0 g)) (yc g))):=h1.psb ((Dv.refl _).mul (BR q1.f));have e:psb (pad (cv (pd (y0 g)) (yc g)) (cv (y0 g) (pd (yc g)))) (cv (pd (y0 g)) (yc g))=cv (y0 g) (pd (yc g)):=by
  funext n;simp only[psb,pad];grind
 rw[e]at h2;exact h2
theorem Sv(h:BB g):∃ N,Dv (yc g) (pw (y0 g) N):=by
 obtain⟨k,q1,q2,z1,z2⟩:=DW h;obtain⟨P,R,N,a,b,c,d,e⟩:=Wy q1 _ k (Nat.le_refl _);have h1:=kD h;have hP:Dv P (cv (y0 g) (cv (pd P) R)):=by
  have h2:Dv P (cv (y0 g) (pd (yc g))):=Dv.trans ⟨R,b.f,by rw[Bn];exact c⟩ h1;rw[c,Mq,Gd]at h2;have h3:Dv P (cv (y0 g) (cv P (pd R))):=by
   rw[Bn P,<-AA];exact(Dv.refl P).mul (q1.f.cv (BR b.f))
  have h4:=h2.psb h3;have e4:psb (pad (cv (y0 g) (cv (pd P) R)) (cv (y0 g) (cv P (pd R)))) (cv (y0 g) (cv P (pd R)))=cv (y0 g) (cv (pd P) R):=by
   funext n;simp only[psb,pad];grind
  rw[e4]at h4;exact h4
 have h5:=d.euclid ((BR a.f).cv b.f) hP;have h6:DR P R:=((DR.pw a.f q1.f d N).symm.dv e).symm;rw[Bn]at h5;have h7:=h6.euclid (BR a.f) h5;have h8:=a.one (by have:=lC a.f a.n h7;omega);refine⟨N,?_⟩;rw[c,h8,D8];exact e
theorem dN(E:Nat->Rat)(fE:Ae E):∀ k:Nat,cv E (pd (pw E k))=psc ((k:Nat):Rat) (cv (pw E k) (pd E))
 | 0=>by
  have e:pd (pw E 0)=pz:=by
   funext i;show((i+1:Nat):Rat)*pone (i+1)=0
   show((i+1:Nat):Rat)*0=0;exact Rat.mul_zero _
  rw[e,IR]
  funext i;simp only[psc,pz];grind
 | k+1=>by
  show cv E (pd (cv (pw E k) E))=psc _ (cv (cv (pw E k) E) (pd E));rw[Mq,Gd];have e1:cv E (cv (pd (pw E k)) E)=psc ((k:Nat):Rat) (cv (cv (pw E k) E) (pd E)):=by
   rw[<-AA,dN E fE k,Df,AA,AA,Bn (pd E) E]
  have e2:cv E (cv (pw E k) (pd E))=cv (cv (pw E k) E) (pd E):=by rw[<-AA,Bn E]
  rw[e1,e2]
  funext i;simp only[pad,psc]
  have:(((k+1:Nat)):Rat)=(k:Rat)+1:=by push_cast;rfl
  rw[this];grind
theorem Zd{E C:Nat->Rat}(fE:Ae E){k:Nat}(h:Dv (pw E k) C):Dv (pw E k) (cv E (pd C)):=by
 obtain⟨H,fH,rfl⟩:=h;rw[Mq,Gd];refine Dv.pad ?_ ?_
 ·rw[<-AA]
  exact(Dv.refl _).mul (fE.cv (BR fH))
 ·rw[Bn H,<-AA,dN E fE,Df]
  refine Dv.psc _ ?_;rw[AA,Bn];exact(Dv.refl _).mul ((BR fE).cv fH)
theorem ZZ(h:BB g){E:Nat->Rat}(hE:BB E)(hd:Dv (cv E E) (y0 g)):pl E=1:=by
 obtain⟨k,q1,q2,z1,z2⟩:=DW h;obtain⟨V,fV,eV,cV⟩:=iE h;have hE0:Dv E (y0 g):=Dv.trans ⟨E,hE.f,rfl⟩ hd;have cE:DR E V:=cV.dv hE0;have hE1:Dv E (pd (y0 g)):=by
  obtain⟨U,fU,e⟩:=hd;rw[e,Mq];refine Dv.pad ?_ ?_
  ·rw[<-AA];exact(Dv.refl E).mul ((BR fU).cv hE.f)
  ·rw[Mq,Gd]
   exact((Dv.refl E).mul (BR hE.f)).mul fU |>.pad ((by rw[Bn E];exact(Dv.refl E).mul (BR hE.f):Dv E (cv E (pd E))).mul fU)
 have key:∀ n,Dv (pw E n) (yc g):=by
  intro n;induction n with
  | zero=>exact⟨yc g,k.f,(JC _).symm⟩
  | succ n ih =>
   have h1:Dv (pw E (n+1)) (cv V (yc g)):=by
    rw[<-eV,q2,Mq];refine Dv.pad ?_ ?_
    ·obtain⟨X,fX,eX⟩:=hE1
     obtain⟨Y,fY,eY⟩:=ih;refine⟨cv X Y,fX.cv fY,?_⟩;show cv (pd (y0 g)) (yc g)=cv (cv X Y) (cv (pw E n) E);rw[eX]
     conv=>lhs;rw[eY]
     rw[AA,AA X Y,<-AA E Y,Bn E Y,AA Y E,Bn E (pw E n)]
    ·obtain⟨X,fX,eX⟩:=hd
     obtain⟨Y,fY,eY⟩:=Zd hE.f ih;refine⟨cv X Y,fX.cv fY,?_⟩;show cv (y0 g) (pd (yc g))=cv (cv X Y) (cv (pw E n) E);rw[eX,AA,AA,eY,AA X Y];congr 1;rw[<-AA,Bn E Y,AA,Bn E (pw E n)]
   exact(DR.pw fV hE.f cE.symm (n+1)).symm.euclid k.f h1
 have h1:=Dv.le (O1 hE.f (pl (yc g))) k.f k.n (key (pl (yc g)));rw[dO hE]at h1;have h2:=hE.pos;rcases Nat.lt_or_ge 1 (pl E)with h3 | h3
 ·have:pl (yc g)*1<=pl (yc g)*(pl E - 1):=Nat.mul_le_mul_left _ Aa
  omega
 ·omega
end
def nM:World->Value->Value×Nat->Prop:=fun _ c u=>c = .agg #[u.1,.int .i64 (u.2:Nat)]/\∃ A n k,u.1 = .slice A n k
theorem AC.updB{b:Nat}{G:List Nat}{w w':World}{v:Value}{F:Nat->Rat}(h:AC b w v F)(U:Cu G w w')(hG:∀ g∈G,∀ i c,w.cell? ⟨g,i,none⟩≠some (.bool c)):AC b w' v F:=by
 obtain⟨l,⟨A,c,h1,h2,h3,h4⟩,h5,rfl⟩:=h;refine⟨l,⟨A,c,h1,h2,h3,fun h0=>?_⟩,h5,rfl⟩;obtain⟨g,o,ha,hb,hc⟩:=h4 h0;have hg:g∉G:=fun hm=>by
  obtain⟨cs,q1,q2,q3⟩:=hc 0 h0;obtain⟨b,A1,n,c1,e⟩:=q3.cells;obtain rfl:=Ue e;exact hG g hm _ b (q2 0 Aa)
 refine⟨g,o,ha,hb,fun j hj=>?_⟩;obtain⟨cs,q1,q2,q3⟩:=hc j hj;refine⟨cs,q1,fun i hi=>?_,q3.kd U.kd⟩;have e:cs[i]? = some (cs[i]'(Aa)):=Array.getElem?_eq_getElem Aa;rw[e];exact Sc U hg ((q2 i hi).trans e)
structure TE(base:Nat)(t:TypeId)(w:World)(v:Value)(us:List (Value×Nat))(l:List ((Nat->Rat)×Nat)):Prop where
 out:BJ 2 nM base t w v us
 len:us.length=l.length
 nb:OP w v
 el:∀ i (h:i < us.length) (h':i < l.length),us[i].2=l[i].2/\AC 0 w us[i].1 l[i].1
section
variable{base:Nat}{t:TypeId}{w w':World}{v:Value}{us:List (Value×Nat)}{l:List ((Nat->Rat)×Nat)}
theorem OP.nil(w:World):OP w (.slice none 0 0):=fun g hg=>by simp[blk,Value.ownBlock]at hg
theorem TE.nil(base:Nat)(t:TypeId)(w:World):TE base t w (.slice none 0 0) [] []:=⟨BJ.nil _ _ _ _ _,rfl,OP.nil w,fun i h=>by simp at h⟩
theorem OP.ext{k:Nat}{α:Type}{rd:World->Value->α->Prop}{b:Nat}{m:List α}(h:OP w v)(o:BJ k rd b t w v m)(x:Ext w w'):OP w' v:=fun g hg i c e=>by
 have:=(BJ.blk_ge o g hg).2;rw[x.cells g i this]at e;exact h g hg i c e
theorem TE.ext(h:TE base t w v us l)(x:Ext w w'):TE base t w' v us l:=
 ⟨h.out.ext x fun _ _ q=>q,h.len,h.nb.ext h.out x,fun i a b=>⟨(h.el i a b).1,(h.el i a b).2.ext x⟩⟩
theorem TE.base_le{b:Nat}(h:TE base t w v us l)(hb:b<=base):TE b t w v us l:=by
 obtain⟨⟨ess,h1,h2,⟨h3,h4⟩,h5⟩,k2,k3,k4⟩:=h;refine⟨⟨ess,h1,h2,⟨h3,?_⟩,h5⟩,k2,k3,k4⟩;rcases h4 with h4 | ⟨g,cap,cur,a,c,d⟩
 ·exact .inl h4
 ·exact .inr ⟨g,cap,cur,a,Nat.le_trans hb c,d⟩
theorem TE.shape(h:TE base t w v us l):∃ A c,v = .slice A l.length c:=by
 obtain⟨A,c,e⟩:=h.out.len;exact⟨A,c,by rw[e,h.len]⟩
theorem TE.at_{A:Option Addr}{n c:Nat}(h:TE base t w (.slice A n c) us l){i:Nat}(hi:i < l.length) :
  ∃ g o E d,A=some ⟨g,o,none⟩/\w.cell? ⟨g,o+i*2,none⟩=some (.slice E (pl l[i].1) d)/\w.cell? ⟨g,o+i*2+1,none⟩=some (.int .i64 (l[i].2:Nat))/\AC 0 w (.slice E (pl l[i].1) d) l[i].1:=by
 obtain⟨h0,h1,-,h2⟩:=h;have hi':i < us.length:=by omega
 obtain⟨A',c',e,-,-,hA⟩:=BJ.row h0;have eA:A'=A:=by injection e with h1;exact h1.symm
 subst eA;obtain⟨g,o,ha,hb,hc⟩:=hA Aa;obtain⟨cs,q1,q2,q3,-⟩:=hc i hi';obtain⟨k1,k2⟩:=h2 i hi' hi;obtain⟨E,d,e2,-⟩:=AC.shape k2;have e3:cs=#[us[i].1,.int .i64 (us[i].2:Nat)]:=by injection q3
 refine⟨g,o,E,d,ha,?_,?_,by rw[<-e2];exact k2⟩
 ·have:=q2 0 Aa
  rw[e3,e2]at this;exact this
 ·have:=q2 1 Aa
  rw[e3,k1]at this;exact this
theorem TE.append{P:Program}{A:Option Addr}{n c:Nat}{F:Nat->Rat}(h:TE base t w v us l)(hu:AC 0 w (.slice A n c) F)(e:Nat)
  (tt ty:TypeId) (i:TypeInfo) (z:Value) (bytes:Nat) (hT:P.underlying tt=some (.slice t)) (hi:P.info? t=some i) (hz:i.zero=some z) (hsize:i.size=2) (hby:i.bytes=bytes) (hzs:z.cells.size=2) (hzd:nodig z.cells=true) (hzB:∀ u∈z.cells.toList,SI u=false)
  (h63:l.length+1<=maxLen) (hbytes:(l.length+1)*bytes<=140737488355328) (hbase:base<=w.heap.size) :
  ∃ v' w',(Builtin.append_ #[tt,tt] ty #[v,.slice (some ⟨w.heap.size,0,none⟩) 1 1]).run P (w.alloc (.cells #[.slice A n c,.int .i64 (e:Nat)] t)) = .ok v' w'/\TE base t w' v' (us ++ [(.slice A n c,e)]) (l ++ [(F,e)]) /\
   Cu (blk v) (w.alloc (.cells #[.slice A n c,.int .i64 (e:Nat)] t)) w'/\OP (w.alloc (.cells #[.slice A n c,.int .i64 (e:Nat)] t)) v:=by
 have hb:=Bh.new w t #[.slice A n c,.int .i64 (e:Nat)] (by simp[Af]);have x:=(Ext.refl w).alloc (.cells #[.slice A n c,.int .i64 (e:Nat)] t);have h':=h.ext x;have hu':=hu.ext x;have hl:=h.len;obtain⟨v',w',a,b,U,B⟩:=BJ.append_blk (P:=P) (x:=((Value.slice A n c),e)) h'.out tt ty i z bytes hT hi hz hsize hby hzs hzd Ab ⟨w.heap.size,0,none⟩ 1 #[.slice A n c,.int .i64 (e:Nat)] rfl ⟨rfl,_,_,_,rfl⟩ (O7 w t _) (by simp[Value.oneCell']) (by simp[nodig,Af]) Aa (by rw[hl];exact hbytes) (Nat.le_trans hbase x.size) (fun _ _ _ _ q=>q) h'.nb (by simp[SI]) hzB
 refine⟨v',w',a,⟨b,by simp[hl],B,fun j a1 a2=>?_⟩,U,h'.nb⟩;by_cases hj:j < us.length
 ·rw[List.getElem_append_left hj,List.getElem_append_left Aa]
  obtain⟨k1,k2⟩:=h'.el j hj Aa;exact⟨k1,k2.updB U h'.nb⟩
 ·rw[List.getElem_append_right Aa,List.getElem_append_right Aa]
  have e0:j - us.length=0:=by simp at a1;omega
  have e1:j - l.length=0:=by omega
  simp only[e0,e1,List.getElem_cons_zero];exact⟨trivial,hu'.updB U h'.nb⟩
end
def nN:World->Value->Value->Prop:=fun _ c u=>c = .agg #[u]/\∃ A n k,u = .slice A n k
structure GZ(base eb:Nat)(t:TypeId)(w:World)(v:Value)(us:List Value)(l:List (Nat->Rat)):Prop where
 out:BJ 1 nN base t w v us
 len:us.length=l.length
 nb:OP w v
 el:∀ i (h:i < us.length) (h':i < l.length),AC eb w us[i] l[i]
section
variable{base eb:Nat}{t:TypeId}{w w':World}{v:Value}{us:List Value}{l:List (Nat->Rat)}
theorem GZ.nil(base eb:Nat)(t:TypeId)(w:World):GZ base eb t w (.slice none 0 0) [] []:=⟨BJ.nil _ _ _ _ _,rfl,OP.nil w,fun i h=>by simp at h⟩
theorem GZ.ext(h:GZ base eb t w v us l)(x:Ext w w'):GZ base eb t w' v us l:=
 ⟨h.out.ext x fun _ _ q=>q,h.len,h.nb.ext h.out x,fun i a b=>(h.el i a b).ext x⟩
theorem GZ.base_le{b:Nat}(h:GZ base eb t w v us l)(hb:b<=base):GZ b eb t w v us l:=by
 obtain⟨⟨ess,h1,h2,⟨h3,h4⟩,h5⟩,k2,k3,k4⟩:=h;refine⟨⟨ess,h1,h2,⟨h3,?_⟩,h5⟩,k2,k3,k4⟩;rcases h4 with h4 | ⟨g,cap,cur,a,c,d⟩
 ·exact .inl h4
 ·exact .inr ⟨g,cap,cur,a,Nat.le_trans hb c,d⟩
theorem GZ.el_le{b:Nat}(h:GZ base eb t w v us l)(hb:b<=eb):GZ base b t w v us l:=⟨h.out,h.len,h.nb,fun i h1 h2=>(h.el i h1 h2).base_le hb⟩
theorem GZ.shape(h:GZ base eb t w v us l):∃ A c,v = .slice A l.length c:=by
 obtain⟨A,c,e⟩:=h.out.len;exact⟨A,c,by rw[e,h.len]⟩
theorem GZ.at_{A:Option Addr}{n c:Nat}(h:GZ base eb t w (.slice A n c) us l){i:Nat}(hi:i < l.length) :
  ∃ g o E d,A=some ⟨g,o,none⟩/\w.cell? ⟨g,o+i,none⟩=some (.slice E (pl l[i]) d)/\AC 0 w (.slice E (pl l[i]) d) l[i]:=by
 obtain⟨h0,h1,-,h2⟩:=h;have hi':i < us.length:=by omega
 obtain⟨A',c',e,-,-,hA⟩:=BJ.row h0;have eA:A'=A:=by injection e with h1;exact h1.symm
 subst eA;obtain⟨g,o,ha,hb,hc⟩:=hA Aa;obtain⟨cs,q1,q2,q3,-⟩:=hc i hi';have k2:=h2 i hi' hi;obtain⟨E,d,e2,-⟩:=AC.shape k2;have e3:cs=#[us[i]]:=by injection q3
 refine⟨g,o,E,d,ha,?_,by rw[<-e2];exact k2.base_le (Nat.zero_le _)⟩;have:=q2 0 Aa;rw[e3,e2,Nat.mul_one]at this;exact this
theorem GZ.append{P:Program}{A:Option Addr}{n c:Nat}{F:Nat->Rat}(h:GZ base eb t w v us l)(hu:AC eb w (.slice A n c) F)
  (tt ty:TypeId) (i:TypeInfo) (z:Value) (bytes:Nat) (hT:P.underlying tt=some (.slice t)) (hi:P.info? t=some i) (hz:i.zero=some z) (hsize:i.size=1) (hby:i.bytes=bytes) (hzs:z.cells.size=1) (hzd:nodig z.cells=true) (hzB:∀ u∈z.cells.toList,SI u=false)
  (h63:l.length+1<=maxLen) (hbytes:(l.length+1)*bytes<=140737488355328) (hbase:base<=w.heap.size) :
  ∃ v' w',(Builtin.append_ #[tt,tt] ty #[v,.slice (some ⟨w.heap.size,0,none⟩) 1 1]).run P (w.alloc (.cells #[.slice A n c] t)) = .ok v' w'/\GZ base eb t w' v' (us ++ [.slice A n c]) (l ++ [F]) /\
   Cu (blk v) (w.alloc (.cells #[.slice A n c] t)) w'/\OP (w.alloc (.cells #[.slice A n c] t)) v:=by
 have hb:=Bh.new w t #[.slice A n c] (by simp[Af]);have x:=(Ext.refl w).alloc (.cells #[.slice A n c] t);have h':=h.ext x;have hu':=hu.ext x;have hl:=h.len;obtain⟨v',w',a,b,U,B⟩:=BJ.append_blk (P:=P) (x:=Value.slice A n c) h'.out tt ty i z bytes hT hi hz hsize hby hzs hzd Ab ⟨w.heap.size,0,none⟩ 1 #[.slice A n c] rfl ⟨rfl,_,_,_,rfl⟩ (O7 w t _) (by simp[Value.oneCell']) (by simp[nodig,Af]) Aa (by rw[hl];exact hbytes) (Nat.le_trans hbase x.size) (fun _ _ _ _ q=>q) h'.nb (by simp[SI]) hzB
 refine⟨v',w',a,⟨b,by simp[hl],B,fun j a1 a2=>?_⟩,U,h'.nb⟩;by_cases hj:j < us.length
 ·rw[List.getElem_append_left hj,List.getElem_append_left Aa]
  exact(h'.el j hj Aa).updB U h'.nb
 ·rw[List.getElem_append_right Aa,List.getElem_append_right Aa]
  have e0:j - us.length=0:=by simp at a1;omega
  have e1:j - l.length=0:=by omega
  simp only[e0,e1,List.getElem_cons_zero];exact hu'.updB U h'.nb
end
theorem Da.updN{α:Type}{k:Nat}{rd:World->Value->α->Prop}{base g o n c:Nat}{w w':World}{l:List α}{G:List Nat}(h:Da k rd base w (.slice (some ⟨g,o,none⟩) n c) l)(U:Cu G w w')(hg:g∉G)(hr:∀ u x,rd w u x->rd w' u x):Da k rd base w' (.slice (some ⟨g,o,none⟩) n c) l:=by
 obtain⟨A,c,h1,h2,h3,h4⟩:=h;refine⟨A,c,h1,h2,h3,fun h0=>?_⟩;obtain⟨g',o',ha,hb,hc⟩:=h4 h0;have e:A=some ⟨g,o,none⟩:=by injection h1 with h5;exact h5.symm
 rw[e]at ha;injection ha with ha;injection ha with ha1 ha2;subst ha1;refine⟨g,o',by rw[e,ha2],hb,fun j hj=>?_⟩;obtain⟨cs,q1,q2,q3⟩:=hc j hj;refine⟨cs,q1,fun i hi=>?_,hr _ _ q3⟩;rw[<-q2 i hi];have hs:cs[i]? = some cs[i]:=Array.getElem?_eq_getElem Aa;have hcell:=(q2 i hi).trans hs;have hlt:=World.block_lt_of_cell? w _ hcell;have hblk:=U.1 g w.heap[g] hg (Array.getElem?_eq_getElem hlt);unfold World.cell?
 simp only[hblk,Array.getElem?_eq_getElem hlt]
def NU(G:List Nat)(w:World)(v:Value)(F:Nat->Rat):Prop:=AC 0 w v F/\∃ g o c,v = .slice (some ⟨g,o,none⟩) (pl F) c/\c<=9223372036854775807/\g∉G
theorem NU.ext{G:List Nat}{w w':World}{v:Value}{F:Nat->Rat}(h:NU G w v F)(e:Ext w w'):NU G w' v F:=⟨h.1.ext e,h.2⟩
theorem NU.upd{L G:List Nat}{w w':World}{v:Value}{F:Nat->Rat}(h:NU G w v F)(U:Cu L w w')(hL:∀ g∈L,g∈G):NU G w' v F:=by
 obtain⟨⟨l,h1,h2,h3⟩,g,o,c,rfl,hc,hg⟩:=h;exact⟨⟨l,Da.updN h1 U (fun hm=>hg (hL g hm)) fun _ _ q=>q.kd U.kd,h2,h3⟩,g,o,c,rfl,hc,hg⟩
theorem AC.off{base:Nat}{G:List Nat}{w:World}{v:Value}{F:Nat->Rat}(h:AC base w v F)(h0:0 < pl F)(hG:∀ g∈G,base<=g->g < w.heap.size->False):NU G w v F:=by
 have h':=h.base_le (Nat.zero_le _);obtain⟨A,c,l,rfl,k1,k2,hA,k3,k4,k5⟩:=h.form;obtain⟨g,o,b,A1,n,c1,rfl,hb,q0,q1,hq⟩:=hA.at_ (j:=0) Aa;exact⟨h',g,o,c,rfl,k2,fun hm=>hG g hm hb (World.block_lt_of_cell? w _ q0)⟩
theorem JQ.sizes{F0 G0 F G:Nat->Rat}{D S:Nat}{x y:Int}(h:JQ F0 G0 D S F G x y){M:Nat}(hM:M=(S+1)*2^D)(hB:8+8*((D+1)*((D+1)*M))<=1099511627776) :
  (∀ i,qsz (F i)<=M)/\(∀ i,qsz (G i)<=M)/\sz x.natAbs+2*(D*M)+2<=549755813888/\sz y.natAbs+D*(D*M)+2<=549755813888/\M+(pl F+1)*(M+1)+M<=549755813888/\1+D*(D*M)<=549755813888/\1+D*M<=549755813888/\M<=549755813888/\D*D<=549755813888/\D<=549755813888:=by
 have up:∀ a:Nat,a<=D->(S+1)*2^a<=M:=fun a ha=>by rw[hM];exact Nat.mul_le_mul_left _ (Nat.pow_le_pow_right Ab ha)
 have h1:=up (D - (pl F+pl G)) Aa;have hlen:=h.len;have sx:=h.sx;have sy:=h.sy;rw[<-hM]at sx sy;have e1:(D - (pl F+pl G))*(D*M)<=D*(D*M):=Nat.mul_le_mul_right _ Aa;have e2:(D+1)*((D+1)*M)=D*(D*M)+2*(D*M)+M:=by rw[Nat.succ_mul,Nat.succ_mul,Nat.mul_add];omega
 have e3:(pl F+1)*(M+1)<=(D+1)*(M+1):=Nat.mul_le_mul_right _ Aa;have e4:(D+1)*(M+1)=D*M+M+D+1:=by rw[Nat.succ_mul,Nat.mul_succ];omega
 have hM1:1<=M:=by rw[hM];exact Nat.mul_pos Aa (Nat.pow_pos Ab)
 have e5:D*1<=D*M:=Nat.mul_le_mul_left _ hM1;have e6:D*D<=D*(D*M):=Nat.mul_le_mul_left _ (by rw[Nat.mul_one]at e5;exact e5);refine⟨fun i=>by have:=h.qF i;omega,fun i=>by have:=h.qG i;omega,?_,?_,?_,?_,?_,?_,?_,?_⟩<;>omega
theorem JQ.more{F0 G0 F G:Nat->Rat}{D S:Nat}{x y:Int}(h:JQ F0 G0 D S F G x y){M:Nat}(hM:M=(S+1)*2^D)(hB:8+8*((D+1)*((D+1)*M))<=1099511627776)(h1:1 < pl G)(hl:pl G<=pl F){R:Nat->Rat}(hR:R=Dj F G (pl F+1 - pl G))(h0:R≠pz){b d k n:Nat}(hb:b=pl G - 1)(hd:d=pl F - 1 - (pl R - 1))(hk:k=(pl F+1 - pl G)*(pl G - 1)) :
  (∀ i,qsz (R i)<=M)/\sz (pcn R).natAbs<=M/\sz (ld G).num.natAbs<=M/\(1+b*M<=1099511627776/\b<=1099511627776)/\(1+d*M<=1099511627776/\d<=1099511627776)/\(1+k*M<=1099511627776/\k<=1099511627776)/\sz (aN n x*pcn R^b).natAbs<=1099511627776/\sz (pcn R^b).natAbs<=1099511627776/\sz ((ld G).num^d).natAbs<=1099511627776/\sz ((ld G).num^k).natAbs<=1099511627776/\sz (aN n x).natAbs<=1099511627776:=by
 obtain⟨s1,s2,s3,s4,s5,s6,s7,s8,s9,s10⟩:=h.sizes hM hB;obtain⟨-,-,r3⟩:=h.room hl hR;have hlen:=h.len;have up:∀ a:Nat,a<=D->(S+1)*2^a<=M:=fun a ha=>by rw[hM];exact Nat.mul_le_mul_left _ (Nat.pow_le_pow_right Ab ha)
 have hRq:∀ i,qsz (R i)<=M:=fun i=>by have a:=r3 i;have b:=up (D - (pl F+pl G)+(pl F+1 - pl G)) Aa;omega
 have p1:sz (pcn R).natAbs<=M:=by rw[Fh];exact G5 hRq _
 have p2:sz (ld G).num.natAbs<=M:=Nat.le_trans (F6 _) (s2 (pl G - 1));have c1:b*M<=D*M:=Nat.mul_le_mul_right _ Aa;have c2:d*M<=D*M:=Nat.mul_le_mul_right _ Aa;have c3:k<=D*D:=by rw[hk];exact Nat.mul_le_mul Aa Aa
 have c4:k*M<=D*(D*M):=by rw[<-Nat.mul_assoc];exact Nat.mul_le_mul_right _ c3
 have t1:=Gw _ _ p1 b;have t2:=Gw _ _ p2 d;have t3:=Gw _ _ p2 k;have t4:=Cg (aN n x).natAbs (pcn R^b).natAbs;rw[<-Int.natAbs_mul]at t4;rw[MV]at t4;refine⟨hRq,p1,p2,⟨Aa,Aa⟩,⟨Aa,Aa⟩,⟨Aa,Aa⟩,Aa,Aa,Aa,Aa,by rw[MV];omega⟩
theorem RB(n:Nat):((n:Int).tmod 2==1)=decide (n % 2=1):=by
 rw[show((n:Int).tmod 2)=((n % 2:Nat):Int)from by simp[Int.tmod]];rcases Nat.mod_two_eq_zero_or_one n with h | h<;>rw[h]<;>rfl
def OO:Value->Nat
 | .slice _ n _=>n
 | _=>0
theorem Iz.of{l:List Rat}(h:co l (l.length - 1)≠0):Iz l:=fun h0=>by rw[<-El];exact h
end Go.Hp
namespace Go.Proofs.YtmhgnigpmompmaaGreat
open Go.RowKit Go.Hp
set_option maxRecDepth 20000 in
theorem Xp(v u:Value)(F G:Nat->Rat)(s t:Nat)(w:World)(hv:Di 0 w v F)(hu:Di 0 w u G)(h0:G≠pz)(hF:CD s F)(hG:CD t G)(hb:pl F<=1099511627776)(hK:s+(pl F+2)*(t+1)+2*t+2<=274877906944) :
  Bc 157 #[v,u] w (fun r w'=>∃ a b,r = .tuple #[a,b]/\Di w.heap.size w' a (pq F G)/\Di w.heap.size w' b (pr F G)):=by
 have hFf:=hv.fin;have hGf:=hu.fin;have hpG:=AZ hGf h0;obtain⟨lf,hfv,hfl,hft,hfc⟩:=hv.hs (fun i=>by have:=hF.elem i;have:0 < (pl F+2)*(t+1):=Nat.mul_pos Aa Aa;omega);obtain⟨E,d,lg,rfl,hgd,hd,hE,hgl,hgt,hgc⟩:=hu.form;obtain⟨A,c,hve⟩:=hfv.len;have Hn:=Ad (Ng v lf w hfv Aa);have hft':BV lf=lf:=(FQ lf).uniq hft (GV lf);subst hve;rw[hfl]at Hn ⊢;have HE:=Ad hE;have HX:=Ad (Ai hFf (Ai hGf (Ai h0 (Ai hF (Ai hG hK)))))
 have HL:=Ad (Ai hfl (Ai hfc (Ai hgl (Ai hgc hft'))));clear hv hu h0 hF hG hK hFf hGf hE hgl hgt hgc hfv hfl hft hfc hft'
 go_enter Tryz.func157,Tryz.ntmps157
 go_wp2_with fail
 refine AB Hn.out ?_;rintro r w1 ⟨rfl,er⟩ hx1;rw[HL.out.2.2.2.2,HL.out.1];rw[QT,HL.out.1,HL.out.2.1]at er;clear Hn;by_cases hlt:pl F < pl G
 ·go_wp2
  go_ret2
  have hdl:=KP (F:=F) (G:=G) ((AJ HX.out.1).mono Aa) HX.out.2.1 HX.out.2.2.1;rw[hdl.1,hdl.2];exact Ag.mk ⟨_,_,rfl,Di.nil _ _,er.isP (AJ HX.out.1) (Nat.le_refl _) (Nat.le_refl _) Aa⟩ hx1
 obtain⟨n,hn⟩:∃ n,n=pl F - pl G+1:=⟨_,rfl⟩
 have hnF:n+pl G=pl F+1:=by omega
 have hn1:1<=n:=by omega
 have hn40:n<=1099511627776:=by omega
 obtain⟨W0,hmk,eq,hxq⟩:=LG n ((pl F:Int) - pl G+1) Aa hn40 w1;have HN:=Ad hnF;clear hnF hn;have hg12:=er.lt;replace er:=er.ext hxq;replace hx1:=hx1.trans hxq;clear hxq;go_wp2
 go_loopw [6] (fun iv wr=>∃ (i:Nat) (Q Rm:Nat->Rat) (la:List (Option Rat)),i<=n/\(∃ z:Int,z+1=i/\iv = .int .i64 z)/\CE wr w.heap.size 28 (Ec (pl F) Rm)/\CE wr w1.heap.size 28 la/\J8 F G n s t i la Q Rm/\Ext w wr) (fun iv _=>(intOf iv+1).toNat)
 case atStart=>exact⟨n,pz,F,_,Nat.le_refl _,⟨_,Aa,rfl⟩,er,eq,J8.start ((AJ HX.out.1).mono (by have:=HN.out;omega)) HX.out.2.2.2.1,hx1⟩
 case round =>
  clear er eq hx1;obtain⟨i,Q,Rm,la,hi,⟨z,hz,rfl⟩,er,eq,hst,hx⟩:=hrel;have HR:=Ad hst;clear hst;by_cases hi0:0 < i
  ·obtain⟨k,rfl⟩:∃ k,i=k+1:=⟨i - 1,Aa⟩
   obtain rfl:z=(k:Int):=by omega
   clear hz hi0;have hkn:k < n:=by omega
   have hkp:k+pl G - 1 < pl F:=by have:=HN.out;omega
   have HL2:=HL.out.2.2.1;obtain⟨z1,Z1,zn,zc,z2,Z2,zn',zc',ca0,ca1,ca2,ca3,hza⟩:=er.full_at (j:=k+pl G - 1) hkp;obtain⟨g,o,b,A1,m1,c1,b',A1',m1',c1',rfl,_,q0,q1,q2,q3,hq⟩:=HE.out.at_ (j:=pl G - 1) Aa;replace q0:=hx.cell q0;replace q1:=hx.cell q1;replace q2:=hx.cell q2;replace q3:=hx.cell q3;have hlead:lg[pl G - 1]'(Aa)=ld G:=by rw[<-El,HL.out.2.2.2.1];rfl
   rw[hlead]at hq;have Hq:=Ad (Ai hza hq);clear hza hq hlead HL2;have HB:=Ad (show qsz (Rm (k+pl G - 1))<=274877906944/\qsz (ld G)<=274877906944/\ld G≠0 by
    have h0:=HN.out;have h1:=HR.out.2.2.2.2.2.2.elem (k+pl G - 1);have h2:qsz (ld G)<=t:=HX.out.2.2.2.2.1.elem _;have h3:=HX.out.2.2.2.2.2;have h4:(n - (k+1))*(t+1)<=(pl F+2)*(t+1):=Nat.mul_le_mul_right _ Aa;exact⟨Aa,Aa,Dh HX.out.2.1 HX.out.2.2.1⟩)
   obtain⟨c0,hc0⟩:∃ c0,c0=Rm (k+pl G - 1) / ld G:=⟨_,rfl⟩
   have Hc0:=Ad hc0;clear hc0;have hkla:k < la.length:=by have:=HR.out.1;omega
   have Hkla:=Ad hkla
   go_wp2_with fail
   go_cut [] (fun wx=>CE wx w1.heap.size 28 (la.set k (some c0))/\CE wx w.heap.size 28 (Ec (pl F) Rm)/\Ext w wx)
   case first =>
    refine Bu 20 [19] (fun x=>22) [32,33,34,35,36,37,38,39,40,41,42,43,44,45,46,47,48,31,49,50] [[],[],[],[],[],[4],[3,4,5],[3,4,5,6],[2,3,4,5,6,7],[2,3,4,5,6,7,8],[],[],[11],[11,12],[10,11,12,13],[10,11,12,13,14],[2,3,4,5,6,7,8,9,10,11,12,13,14,15],[2,3,4,5,6,7,8,9,10,11,12,13,14,15,16],[2,3,4,5,6,7,8,9,10,11,12,13,14,15,16,17],[2,3,4,5,6,7,8,9,10,11,12,13,14,15,16,17],[0,1,2,3,4,5,6,7,8,9,10,11,12,13,14,15,16,17,18],[0,1,2,3,4,5,6,7,8,9,10,11,12,13,14,15,16,17,18,20]] [4,6,5,1] [_,_,_,_] [(kv ?_),(kv ?_),(kv ?_),(kv ?_),(kv ?_),(kv ?_),(kv ?_),(kv ?_),(kv ?_),(kv ?_),(kv ?_),(kv ?_),(kv ?_),(kv ?_),(kv ?_),(kv ?_),(fun γ=>γ 16),(fun γ=>γ 16),(fun γ=>γ 18),(kv ?_)] (fun γ w'=>[True,True,True,True,True,True,True,True,True,True,True,True,True,True,True,True,Kh w' (γ 16) c0,True,Bz w' (γ 18) c0,True]) Ko BP BP BP BP BP LJ BP Ka ?m1 ?s1 ?_ ?l1
    case s1 =>
     iterate 20 refine⟨?_,?_⟩
     trivial
     iterate 16 focus
      refine AY fun _ w' he R hR=>?_;have hc:=he.cells;have cq0:=he.cell ca0;have cq1:=he.cell ca1;have cq2:=he.cell ca2;have cq3:=he.cell ca3;have cq4:=he.cell q0;have cq5:=he.cell q1;have cq6:=he.cell q2;have cq7:=he.cell q3;go_simp;(try go_ints);(try(rw[if_neg Aa]));(try(rw[if_pos Aa]));(try go_simp);(try go_ints)
      exact Br hR
     ·refine AY fun _ w' he R hR=>?_
      go_simp;exact Bf (Hc0.out▸YP _ _ _ _ w' ((Hq.out.1.ext he).has HB.out.1) ((Hq.out.2.ext (hx.trans he)).has HB.out.2.1) HB.out.2.2) hR
     ·refine AY fun _ w' he R hR=>?_
      have hc:=he.cells;go_simp
      (try go_ints);(try(rw[if_neg Aa]));(try(rw[if_pos Aa]));(try go_simp);(try go_ints)
      exact Br hR
     ·refine EF fun γ w' he hf R hR=>?_;have f16:Kh w' (γ 16) c0:=hf 16 Ab;clear hf
      obtain⟨a,e,ha⟩:=f16;go_simp;exact hR _ _ (Ext.refl _) rfl ha
     ·refine EF fun γ w' he hf R hR=>?_;have f16:Kh w' (γ 16) c0:=hf 16 Ab;clear hf
      obtain⟨a,e,ha⟩:=f16;have hc:=he.cells;go_simp
      (try go_ints);(try(rw[if_neg Aa]));(try(rw[if_pos Aa]));(try go_simp);(try go_ints)
      exact Br hR
    case m1 =>
     exact⟨⟨⟨⟨⟨⟨⟨⟨⟨⟨⟨⟨⟨⟨⟨⟨⟨⟨⟨⟨trivial,(fun γ wA w' e h=>h)⟩,(fun γ wA w' e h=>h)⟩,(fun γ wA w' e h=>h)⟩,(fun γ wA w' e h=>h)⟩,(fun γ wA w' e h=>h)⟩,(fun γ wA w' e h=>h)⟩,(fun γ wA w' e h=>h)⟩,(fun γ wA w' e h=>h)⟩,(fun γ wA w' e h=>h)⟩,(fun γ wA w' e h=>h)⟩,(fun γ wA w' e h=>h)⟩,(fun γ wA w' e h=>h)⟩,(fun γ wA w' e h=>h)⟩,(fun γ wA w' e h=>h)⟩,(fun γ wA w' e h=>h)⟩,(fun γ wA w' e h=>h)⟩,(fun γ wA w' e h=>(show Kh wA (γ 16) c0 from h).ext e)⟩,(fun γ wA w' e h=>h)⟩,(fun γ w w' e h=>Bz.ext h e)⟩,(fun γ wA w' e h=>h)⟩
    case l1 =>
     intro Pn hPs hPn;obtain rfl:=Gr hPs hPn;clear hPs hPn
     ·intro γ w2 hx2 hF hA
      clear hA;have p16:Kh w2 (γ 16) c0:=(Ak.get hF 16 Ab).resolve_left Ab;have p18:Bz w2 (γ 18) c0:=(Ak.get hF 18 Ab).resolve_left Ab;clear hF;show AV _ _ _ _ 3 [19] 20 _ _;simp only[Bg,Nat.reduceAdd,Co,SN];generalize γ 16=g16 at *;generalize γ 18=g18 at *;clear γ;obtain⟨a16,rfl,-⟩:=p16;obtain⟨b5,A5,n5,c5,b6,A6,n6,c6,rfl⟩:=p18.cells;clear ca0 ca1 ca2 ca3 q0 q1 q2 q3;replace er:=er.ext hx2;replace eq:=eq.ext hx2
      replace hx:=hx.trans hx2;clear hx2;obtain⟨_,_,_,_,_,_,_,_,ca0,ca1,ca2,ca3,-⟩:=eq.at_ (j:=k) (by first | omega | (simp;omega));have fa0:=eq.frozen (k*4);have fa1:=eq.frozen (k*4+1);have fa2:=eq.frozen (k*4+2);have fa3:=eq.frozen (k*4+3)
      repeat' first
       | (refine AV.nil ?_;simp only[Gj];go_wp2;done)
       | (refine AV.nil ?_;(try simp only[Gj]);go_wp2)
       | (refine AV.mk _ ⟨?_,trivial⟩ (fun h=>?_)<;>first | exact absurd h Ab | ((try clear h);simp only[CX,Gj];go_wp2;first | show AV _ _ _ _ _ [19] _ _ _ | show AV _ _ _ _ _ [] _ _ _))
      all_goals
       skip;obtain⟨W3,eW,eq',U⟩:=eq.put (k:=k) (by first | omega | (simp;omega)) p18;rw[<-eW];clear eW eq;replace er:=er.upd U Aj;replace hx:=U.from_ hx Aj;have eq:=eq';clear U eq'
       go_meet
       case rel=>exact⟨eq,er,hx⟩
    intro γ w2 hx2 hF hA;clear hA;have p16:Kh w2 (γ 16) c0:=Ak.get hF 16 Ab;have p18:Bz w2 (γ 18) c0:=Ak.get hF 18 Ab;clear hF;simp only[Bg,Nat.reduceAdd];generalize γ 16=g16 at *;generalize γ 18=g18 at *;clear γ;obtain⟨a16,rfl,-⟩:=p16;obtain⟨b5,A5,n5,c5,b6,A6,n6,c6,rfl⟩:=p18.cells;clear ca0 ca1 ca2 ca3 q0 q1 q2 q3;replace er:=er.ext hx2;replace eq:=eq.ext hx2;replace hx:=hx.trans hx2;clear hx2;obtain⟨_,_,_,_,_,_,_,_,ca0,ca1,ca2,ca3,-⟩:=eq.at_ (j:=k) (by first | omega | (simp;omega))
    have fa0:=eq.frozen (k*4);have fa1:=eq.frozen (k*4+1);have fa2:=eq.frozen (k*4+2);have fa3:=eq.frozen (k*4+3);go_wp2;skip;obtain⟨W3,eW,eq',U⟩:=eq.put (k:=k) (by first | omega | (simp;omega)) p18;rw[<-eW];clear eW eq;replace er:=er.upd U Aj;replace hx:=U.from_ hx Aj;have eq:=eq';clear U eq'
    go_meet
    case rel=>exact⟨eq,er,hx⟩
   case rest =>
    clear er eq hx ca0 ca1 ca2 ca3 q0 q1 q2 q3;obtain⟨eq,er,hx⟩:=hcut;have HB2:=Ad (show qsz c0<=274877906944/\(∀ j m,qsz (EA k j c0 Rm G m)<=274877906944)/\∀ j (hj:j < lg.length),qsz lg[j]<=274877906944/\qsz (c0*lg[j])<=274877906944 by
     have h0:=HN.out;have h1:=fun m=>HR.out.2.2.2.2.2.2.elem m;have h1':=h1 (k+pl G - 1);have h2:qsz (ld G)<=t:=HX.out.2.2.2.2.1.elem _;have h3:=HX.out.2.2.2.2.2;have h4:(n - (k+1))*(t+1)+(t+1)<=(pl F+2)*(t+1):=by rw[<-Nat.succ_mul];exact Nat.mul_le_mul_right _ Aa
     have h5:=fun m=>(HR.out.2.2.2.2.2.2.step (n:=k) HX.out.2.1 HX.out.2.2.1 HX.out.2.2.2.2.1).elem m;rw[<-Hc0.out]at h5;have h6:qsz c0<=s+(n - (k+1))*(t+1)+t:=by rw[Hc0.out];have:=IK (Rm (k+pl G - 1)) (ld G);omega
     refine⟨Aa,fun j m=>RL (AJ HX.out.2.1) (fun m=>by have:=h1 m;omega) (fun m=>by have:=h5 m;omega) m,fun j hj=>?_⟩;have h7:qsz lg[j]<=t:=by rw[<-El hj,HL.out.2.2.2.1];exact HX.out.2.2.2.2.1.elem _
     have:=BS c0 lg[j];exact⟨Aa,Aa⟩)
    have HST:=Ad (HR.out.step HX.out.2.1 HX.out.2.2.1 HX.out.2.2.2.2.1 hkn Hc0.out);obtain⟨y1,Y1,yn,yc,y2,Y2,yn',yc',ca0,ca1,ca2,ca3,hy⟩:=eq.at_ (j:=k) (by rw[List.length_set];exact hkla);rw[List.getElem_set_self]at hy;have Hy:Hid (Bz wc _ c0):=Ad hy;clear hy hkla
    go_wp2_with fail
    refine AB (jQ _ c0 _ (Hy.out.has HB2.out.1)) ?_;rintro r w3 rfl hx2;replace er:=er.ext hx2;replace eq:=eq.ext hx2;replace hx:=hx.trans hx2;clear hx2;clear ca0 ca1 ca2 ca3 Hy;by_cases hz:c0=0
    ·have hb:=Xv hz
     have Hz:=Ad hz;clear hz;go_wp2;have Hkn:=Ad HST.out;rw[OB Hz.out]at Hkn
     go_roundw
     case rel=>exact⟨k,_,Rm,_,Aa,⟨(k:Int) - 1,Aa,by go_num⟩,er,eq,Hkn.out,hx⟩
     case measure=>simp[intOf]<;>omega
    ·have hb:=YN hz
     clear hz;go_wp2;obtain⟨wq,rfl⟩:∃ wq:World,wq=wr:=⟨_,rfl⟩
     go_loopw [59] (fun jv wx=>∃ (j:Nat),j<=pl G/\jv = .int .i64 j/\CE wx w.heap.size 28 (Ec (pl F) (EA k j c0 Rm G))/\CE wx w1.heap.size 28 (la.set k (some c0))/\Ext w wx) (fun jv _=>pl G - (intOf jv).toNat)
     case atStart=>exact⟨0,Nat.zero_le _,rfl,by rw[LV];exact er,eq,hx⟩
     case round =>
      clear er eq hx;obtain⟨j,hj,rfl,er,eq,hx⟩:=hrel;by_cases hjm:j < pl G
      ·have hjl:j < lg.length:=by have:=HL.out.2.2.1;omega
       obtain⟨g',o',bb,B1,nn,cc1,bb',B1',nn',cc1',hE',_,q0,q1,q2,q3,hq⟩:=HE.out.at_ (j:=j) hjl;cases hE';replace q0:=hx.cell q0;replace q1:=hx.cell q1;replace q2:=hx.cell q2;replace q3:=hx.cell q3;have Hq':=Ad hq;clear hq;have hkj:k+j < pl F:=by have:=HN.out;omega
       have hne8:=er.lt;have hne9:=eq.lt
       go_wp2_with fail
       obtain⟨W10,eW10,e10,x10⟩:=Bh.made wr 28 #[.bool bb,.slice B1 nn cc1,.bool bb',.slice B1' nn' cc1'] (by simp[Af]);rw[<-eW10];clear eW10 q0 q1 q2 q3;replace er:=er.ext x10;replace eq:=eq.ext x10;replace hx:=hx.trans x10;clear x10;obtain⟨z1,Z1,zn,zc,z2,Z2,zn',zc',ca0,ca1,ca2,ca3,hza⟩:=er.full_at hkj;obtain⟨y1,Y1,yn,yc,y2,Y2,yn',yc',cb0,cb1,cb2,cb3,hy⟩:=eq.at_ (j:=k) (by rw[List.length_set];exact Hkla.out)
       rw[List.getElem_set_self]at hy;have Hy:Hid (Bz W10 _ c0):=Ad hy;have Hza:=Ad hza;clear hza hy;have ce10:=e10.cells4;have fe10:=e10.frozen;refine CP 17 [64,65,66,67,68,69,70,71,72,73,74,75,76,77,78,79,80] [5,6,7,4,8] [_,_,_,_,_] [(kv ?_),(kv ?_),(kv ?_),(kv ?_),(kv ?_),(kv ?_),(kv ?_),(kv ?_),(kv ?_),(kv ?_),(kv ?_),(kv ?_),(kv ?_),(kv ?_),(kv ?_),(fun γ=>γ 15),(fun γ=>γ 16)] (fun γ w'=>[True,True,True,True,True,True,True,True,True,True,True,True,True,True,True,Bz w' (γ 15) (c0*lg[j]),Bz w' (γ 16) (EA k j c0 Rm G (k+j) - c0*lg[j])]) ?s2 ?_
       case s2 =>
        iterate 17 refine⟨?_,?_⟩
        trivial
        iterate 15 focus
         refine AY fun _ w' he R hR=>?_;have hc:=he.cells;have cq0:=he.cell ca0;have cq1:=he.cell ca1;have cq2:=he.cell ca2;have cq3:=he.cell ca3;have cq4:=he.cell cb0;have cq5:=he.cell cb1;have cq6:=he.cell cb2;have cq7:=he.cell cb3;have cq8:=(e10.ext he).cells4;go_simp;(try go_ints);(try(rw[if_neg Aa]));(try(rw[if_pos Aa]));(try go_simp);(try go_ints)
         exact Br hR
        ·refine AY fun _ w' he R hR=>?_
         go_simp;exact Bf (Z6 _ _ _ _ w' ((Hy.out.ext he).has HB2.out.1) ((Hq'.out.ext (hx.trans he)).has (HB2.out.2.2 j hjl).1)) hR
        ·refine EF fun γ w' he hf R hR=>?_;have f15:Bz w' (γ 15) (c0*lg[j]):=hf 15 Ab;clear hf
         go_simp;exact Bf (eO _ _ _ _ w' ((Hza.out.ext he).has (HB2.out.2.1 _ _)) (f15.has (HB2.out.2.2 j hjl).2)) hR
       intro γ w6 hx6 hF;have p15:Bz w6 (γ 15) (c0*lg[j]):=Ak.get hF 15 Ab;have p16:Bz w6 (γ 16) (EA k j c0 Rm G (k+j) - c0*lg[j]):=Ak.get hF 16 Ab;clear hF;simp only[Bg,Nat.reduceAdd];generalize γ 15=g15 at *;generalize γ 16=g16 at *;clear γ;clear ca0 ca1 ca2 ca3 cb0 cb1 cb2 cb3 ce10 fe10 e10 p15 Hza Hy;replace er:=er.ext hx6;replace eq:=eq.ext hx6;replace hx:=hx.trans hx6;clear hx6;obtain⟨b5,A5,n5,c5,b6,A6,n6,c6,rfl⟩:=p16.cells
       have hkf:k+j < (Ec (pl F) (EA k j c0 Rm G)).length:=by rw[O4];exact hkj
       have Hkf:=Ad hkf;obtain⟨_,_,_,_,_,_,_,_,ca0,ca1,ca2,ca3,-⟩:=er.at_ (j:=k+j) (by first | omega | (simp;omega));have fa0:=er.frozen ((k+j)*4);have fa1:=er.frozen ((k+j)*4+1);have fa2:=er.frozen ((k+j)*4+2);have fa3:=er.frozen ((k+j)*4+3);clear hkf;go_wp2;have hkf:=Hkf.out;obtain⟨W7,eW,er',U⟩:=er.put (k:=k+j) (by first | omega | (simp;omega)) p16;rw[<-eW];clear eW er;replace eq:=eq.upd U Aj;replace hx:=U.from_ hx Aj
       have er:=er';clear U er'
       go_roundw
       case rel=>exact⟨j+1,Aa,by go_num,by
        rw[SE (G:=EA k (j+1) c0 Rm G) (fun n=>by
         have e:lg[j]=G j:=by rw[<-El hjl,HL.out.2.2.2.1]
         rw[M9,e];split<;>simp_all)]at er
        exact er,eq,hx⟩
       case measure=>simp[intOf];omega
      ·obtain rfl:j=pl G:=by omega
       rw[Js (AJ HX.out.2.1)]at er;have Hkn:=Ad HST.out;go_wp2
       go_roundw
       case rel=>exact⟨k,_,_,_,Aa,⟨(k:Int) - 1,Aa,by go_num⟩,er,eq,Hkn.out,hx⟩
       case measure=>simp[intOf]<;>omega
  ·obtain rfl:i=0:=by omega
   have hz1:z < 0:=by omega
   have HE2:=Ad (HR.out.end_ HX.out.1 HX.out.2.1 HX.out.2.2.1);have hla:=HE2.out.1;rw[hla,HE2.out.2.1]at eq;rw[HE2.out.2.2.1]at er;have Hz:=Ad hz;clear hz hla HR;have hrq:=eq.row (KL n _) (base:=w.heap.size) Aa;have hrr:=er.row (KL (pl F) _) (Nat.le_refl _);have hTq:=fun W (e:wr=W)=>IL w.heap.size (some ⟨w1.heap.size,0,none⟩) n ((List.range n).map (pq F G)) W (by rw[Eh];omega) Aa (e▸hrq);have hTr:=fun W (e:wr=W)=>IL w.heap.size (some ⟨w.heap.size,0,none⟩) (pl F) ((List.range (pl F)).map (pr F G)) W (by rw[Eh];omega) Aa (e▸hrr)
   rw[Eh]at hTq hTr;have HT:=Ad (Ai hTq hTr);have HS2:=Ad (show BA (pl F) (pr F G)from(Eo HX.out.1 HX.out.2.1 HX.out.2.2.1).mono (by have:=HN.out;omega));have HP:=Ad (Ai (eq.isP (base:=w.heap.size) (HE2.out.2.1▸HE2.out.2.2.2) Aa (Nat.le_refl _) Aa) (er.isP (base:=w.heap.size) (N:=pl F) HS2.out (Nat.le_refl _) (Nat.le_refl _) Aa));clear hTq hTr hrq hrr er eq
   go_wp2_with fail
   refine Calls.mono (HT.out.1 _ rfl) ?_;rintro e w4 ⟨rfl,rfl⟩
   go_wp2_with fail
   refine Calls.mono (HT.out.2 _ rfl) ?_;rintro e w5 ⟨rfl,rfl⟩;go_wp2
   go_ret2
   rw[Je,Je,JM (HE2.out.2.1▸HE2.out.2.2.2),JM HS2.out];exact Ag.mk ⟨_,_,rfl,HP.out.1,HP.out.2⟩ hx
theorem Px(W:World)(base ty g:Nat)(v:Value)(l:List Rat)(q:Rat){b b':Bool}{A A':Option Addr}{n c n' c':Nat}(h:EB base 28 W v l)(hq:Bz W (.agg #[.bool b,.slice A n c,.bool b',.slice A' n' c']) q)(hn:l.length<=1099511627776)(hb:base<=W.heap.size)(hg:g=W.heap.size) :
  ∃ v' w',(Builtin.append_ #[43,43] ty #[v,.slice (some ⟨g,0,none⟩) 1 1]).run Tryz.prog (W.alloc (.cells #[.bool b,.slice A n c,.bool b',.slice A' n' c'] 28)) = .ok v' w'/\(EB base 28 w' v' (l ++ [q])/\Cu (blk v) (W.alloc (.cells #[.bool b,.slice A n c,.bool b',.slice A' n' c'] 28)) w'):=by
 subst hg;obtain⟨g,cs,e1,h1,h2,h3,h4⟩:=Sm.mk hq (base:=W.heap.size) (Nat.le_refl _) 28;cases e1;obtain⟨i0,hi,hz0,hz1,hz2⟩:=info_parts NH;have ho:=Bz.one h4;have hx:=(Ext.refl W).alloc (.cells #[.bool b,.slice A n c,.bool b',.slice A' n' c'] 28);obtain⟨v',w',a,b,c⟩:=BJ.append (P:=Tryz.prog) (h.ext hx) 43 ty i0 _ 64 Tryz.underlying43 hi hz0 hz1 hz2 rfl (by simp[nodig,Af,Value.cells]) Ab ⟨W.heap.size,0,none⟩ 1 cs h3 h4 h2.news ho.1 ho.2.1 (WI hn) Aa (Nat.le_trans hb hx.size) (fun _ _ _ k hq=>Bz.kd hq k)
 exact⟨v',w',a,b,c⟩
theorem LP(v:Value)(l:List Rat)(w:World)(hv:Lv 0 w v l)(hn:l.length<=1099511627776):Bc 127 #[v] w (fun r w'=>Di w.heap.size w' r (co l)/\jX w.heap.size w' r 28 (co l)):=by
 have hqs:=hv.qsz;obtain⟨A,c,rfl,hl,hc,hA⟩:=hv;have HA:Hid (Ry 0 w A l):=Ad hA;clear hA;have HQ:=Ad hqs;clear hqs
 go_enter Tryz.func127,Tryz.ntmps127
 go_wp2
 go_loopw [3,4] (fun ov iv wr=>∃ (k:Nat),k<=l.length/\iv = .int .i64 k/\EB w.heap.size 28 wr ov ((List.range k).map (co l))/\Ext w wr) (fun _ iv _=>l.length - (intOf iv).toNat)
 case atStart=>exact⟨0,Nat.zero_le _,rfl,BJ.nil _ _ _ _ _,Ext.refl _⟩
 case round =>
  obtain⟨k,hk,rfl,hown,hx⟩:=hrel;by_cases hkl:k < l.length
  ·obtain⟨g,o,b,A1,n,c1,b',A1',n',c1',rfl,_,q0,q1,q2,q3,hq⟩:=HA.out.at_ (j:=k) hkl
   replace q0:=hx.cell q0;replace q1:=hx.cell q1;replace q2:=hx.cell q2;replace q3:=hx.cell q3;rw[<-El hkl]at hq;have Hq:=Ad hq;clear hq
   go_wp2_with fail
   refine AB (DI _ _ _ (Hq.out.ext hx)) ?_;rintro r w2 hr hx2;obtain⟨b5,A5,n5,c5,b6,A6,n6,c6,rfl⟩:=hr.cells;have Hr:=Ad hr;clear hr;replace hown:=hown.ext hx2;replace hx:=hx.trans hx2;have Hown:=Ad hown;clear hown;have hsz:=hx.size;clear hx2 q0 q1 q2 q3
   go_wp2_with (at_builtin;refine Av rfl _ _ 43 rfl u3 (.slice (some ⟨w2.heap.size,0,none⟩) 1 1) rfl rfl (Px w2 w.heap.size _ _ _ _ _ Hown.out Hr.out (by first | (rw[List.length_map,List.length_range];omega) | omega) hsz rfl) ?_)
   first | intro v' w5 hown U | rintro v' w5 ⟨hown,U⟩
   replace hx:=(Hown.out.ext ((Ext.refl w2).alloc _)).from_ U (hx.alloc _) (Nat.le_refl _);have Hown':=Ad hown;clear hown U;go_wp2
   go_roundw
   case rel=>exact⟨k+1,Aa,by go_num,by rw[Jj];exact Hown'.out,hx⟩
   case measure=>simp[intOf]<;>omega
  ·obtain rfl:k=l.length:=by omega
   have hlen:((List.range l.length).map (co l)).length=l.length:=by simp
   have hco:(List.range l.length).map (co l)=l:=by
    apply List.ext_getElem
    ·simp
    ·intro i h1 h2;simp[El h2]
   rw[hco]at hown;have harr:=EB.arr hown;obtain⟨A2,c2,rfl,h2,h3,h4⟩:=EB.row hown;have Harr:=Ad harr;clear harr;have Hrow:Hid (LY w.heap.size wr A2 l):=Ad h4;clear h4 hco hlen hown;have hx0:=hx;go_wp2;clear hx
   go_loopw [5] (fun nv wx=>∃ m:Nat,m<=l.length/\nv = .int .i64 m/\(∀ j,m<=j->(h:j < l.length)->l[j]=0)/\Ext wr wx) (fun nv _=>(intOf nv).toNat)
   case atStart=>exact⟨l.length,Nat.le_refl _,rfl,fun j h1 h2=>Aa,Ext.refl _⟩
   case round =>
    obtain⟨m,hm,rfl,hz,hx⟩:=hrel;have Hz:=Ad hz;clear hz;by_cases h0:0 < m
    ·obtain⟨m,rfl⟩:∃ k,m=k+1:=⟨m - 1,Aa⟩
     have hml:m < l.length:=by omega
     have Hrow':Hid (LY w.heap.size _ A2 l):=Ad Hrow.out;obtain⟨g,o,b,A1,n,c1,b',A1',n',c1',rfl,hb,q0,q1,q2,q3,hq⟩:=Hrow'.out.at_ (j:=m) hml;replace q0:=hx.cell q0;replace q1:=hx.cell q1;replace q2:=hx.cell q2;replace q3:=hx.cell q3;have Hq:=Ad hq;clear hq
     go_wp2_with fail
     refine AB (Jy _ l[m] _ ((Hq.out.ext hx).has (HQ.out _ (List.getElem_mem hml)))) ?_;rintro r w2 rfl hx2;by_cases hd0:l[m]'(Aa)=0
     ·have hb:=Xv hd0
      have Hd:=Ad hd0;clear hd0;go_wp2
      go_roundw
      case rel=>exact⟨m,Aa,by go_num,fun j h1 h2=>by
       rcases Nat.eq_or_lt_of_le h1 with e | e
       ·subst e;exact Hd.out
       ·exact Hz.out j Aa h2,hx.trans hx2⟩
      case measure=>simp[intOf]<;>omega
     ·have hb:=YN hd0
      have Hd:=Ad hd0;clear hd0;go_wp2
      go_ret
      have ht:=G6 hm Hz.out (fun h _=>by simpa using Hd.out);have hlen:(BV l).length=m+1:=by rw[ht,List.length_take];omega
      have hR:=(Qi.trim (Hrow.out.ext (hx.trans hx2)) h2 h3)
      rw[hlen]at hR;exact Ag.mk ⟨Di.of_trim hR rfl,hlen▸Harr.out.fin (hx.trans hx2)⟩ ((hx0.trans hx).trans hx2)
    ·obtain rfl:m=0:=by omega
     have ht:=G6 hm Hz.out (fun h hh=>Aa);have hlen:(BV l).length=0:=by rw[ht];rfl
     have hR:=(Qi.trim (Hrow.out.ext hx) h2 h3)
     rw[hlen]at hR;have HR:=Ad (Ai hR hlen);clear hR hlen ht;go_wp2
     go_ret
     exact Ag.mk ⟨Di.of_trim HR.out.1 rfl,HR.out.2▸Harr.out.fin hx⟩ (hx0.trans hx)
theorem FT(v:Value)(l:List Rat)(w:World)(hv:Lv 0 w v l)(hn:l.length<=1099511627776):Bc 127 #[v] w (fun r w'=>Di w.heap.size w' r (co l)):=
 Ag.imp (LP v l w hv hn) fun _ _ h=>h.1
theorem WN(v:Value)(l:List Rat)(w:World)(hv:Lv 0 w v l)(hn:l.length<=1099511627776):Bc 166 #[v] w (fun r _=>r = .int .i64 ((pl (co l):Int) - 1)):=by
 have HV:=Ad hv;obtain⟨A,c,rfl⟩:=hv.len;clear hv;have hpl:pl (co l)<=l.length:=Bj (Gi l)
 go_enter Tryz.func166,Tryz.ntmps166
 go_wp2_with fail
 refine AB (FT _ l _ HV.out hn) ?_;rintro r w1 hr hx1;obtain⟨A2,c2,l2,rfl,-⟩:=hr.form;clear hr;go_wp2
 go_ret
 exact Ag.mk rfl hx1
theorem jV(v:Value)(l:List Rat)(k:Nat)(w:World)(hv:Lv 0 w v l)(hk:k<=9223372036854775807):Bc 165 #[v,.int .i64 (k:Nat)] w (fun r w'=>Bz w' r (co l k)):=by
 obtain⟨A,c,rfl,hl,hc,hA⟩:=hv;by_cases hkl:k < l.length
 ·obtain⟨g,o,b,A1,n,c1,b',A1',n',c1',rfl,_,q0,q1,q2,q3,hq⟩:=Ry.at_ hA (j:=k) hkl
  rw[<-El hkl]at hq;have Hq:=Ad hq;clear hq hA;have hkc:(k:Int) < l.length:=by omega
  replace q0:=((Ext.refl w).alloc (.cells #[.bool false,.slice none 0 0,.bool false,.slice none 0 0] 28)).cell q0;replace q1:=((Ext.refl w).alloc (.cells #[.bool false,.slice none 0 0,.bool false,.slice none 0 0] 28)).cell q1;replace q2:=((Ext.refl w).alloc (.cells #[.bool false,.slice none 0 0,.bool false,.slice none 0 0] 28)).cell q2;replace q3:=((Ext.refl w).alloc (.cells #[.bool false,.slice none 0 0,.bool false,.slice none 0 0] 28)).cell q3
  go_enter Tryz.func165,Tryz.ntmps165
  go_wp2_with fail
  refine AB (DI _ _ _ (Hq.out.ext ((Ext.refl w).alloc _))) ?_;rintro r w1 hr hx1;clear q0 q1 q2 q3;obtain⟨b5,A5,n5,c5,b6,A6,n6,c6,rfl⟩:=hr.cells;have hc1:=hx1.cells;have hf1:=hx1.frozens;have Hfin:=Ad (CO hr hx1.a1 (AU.at_ hx1 (g:=w.heap.size+0) Ac (by simp[Af])) Aa);clear hr;go_wp2;refine bodyPost_ret (v := .agg #[.bool b5,.slice A5 n5 c5,.bool b6,.slice A6 n6 c6]) (by simp[results,Tryz.results165,go_sem,hc1]) rfl ?_
  exact Hfin.out
 ·have hz:co l k=((0:Int):Rat):=R9 Aa
  have hkc:¬ (k:Int) < l.length:=by omega
  have Hz:=Ad hz;clear hz hA
  go_enter Tryz.func165,Tryz.ntmps165
  go_wp2_with fail
  refine AB (P6 0 _ Aa Aa) ?_;rintro r w1 hr hx1;rw[<-Hz.out]at hr;obtain⟨b5,A5,n5,c5,b6,A6,n6,c6,rfl⟩:=hr.cells;have hc1:=hx1.cells;have hf1:=hx1.frozens;have Hfin:=Ad (CO hr hx1.a1 (AU.at_ hx1 (g:=w.heap.size+0) Ac (by simp[Af])) Aa);clear hr;go_wp2;refine bodyPost_ret (v := .agg #[.bool b5,.slice A5 n5 c5,.bool b6,.slice A6 n6 c6]) (by simp[results,Tryz.results165,go_sem,hc1]) rfl ?_;exact Hfin.out
theorem jA(v:Value)(l:List Rat)(w:World)(hv:Lv 0 w v l):Bc 165 #[v,.int .i64 (-1)] w (fun r w'=>Bz w' r 0):=by
 obtain⟨A,c,rfl,hl,hc,hA⟩:=hv;clear hA
 go_enter Tryz.func165,Tryz.ntmps165
 go_wp2_with fail
 refine AB (P6 0 _ Aa Aa) ?_;rintro r w1 hr hx1;obtain⟨b5,A5,n5,c5,b6,A6,n6,c6,rfl⟩:=hr.cells;have hc1:=hx1.cells;have hf1:=hx1.frozens;have Hfin:=Ad (CO hr hx1.a1 (AU.at_ hx1 (g:=w.heap.size+0) Ac (by simp[Af])) Aa);clear hr;go_wp2;refine bodyPost_ret (v := .agg #[.bool b5,.slice A5 n5 c5,.bool b6,.slice A6 n6 c6]) (by simp[results,Tryz.results165,go_sem,hc1]) rfl ?_;exact Hfin.out
theorem TB(n:Nat)(x:Int)(hx:x=n)(hn:n<=1099511627776)(w:World):∃ W,(Instr.makeSlice 43 (.int .i64 x) (.int .i64 x)).run Tryz.prog w = .ok (.slice (some ⟨w.heap.size,0,none⟩) n n) W/\CE W w.heap.size 28 (List.replicate n none)/\Ext w W:=by
 subst hx;obtain⟨i0,hi,hz0,hz1,hz2⟩:=info_parts NH;have h:=run_make (P:=Tryz.prog) w 43 28 i0 (.agg #[.bool false,.slice none 0 0,.bool false,.slice none 0 0]) Tryz.underlying43 hi hz0 .i64 .i64 (n:Int) (n:Int) Aa Aa (by rw[hz2];omega) Aa;rw[h,hz1,Int.toNat_natCast];exact⟨_,rfl,CE.new w _ n,(Ext.refl w).alloc _⟩
set_option maxRecDepth 20000 in
theorem Wn(v u:Value)(l m:List Rat)(s t:Nat)(w:World)(hv:Lv 0 w v l)(hu:Lv 0 w u m)(h0:co m≠pz)(hF:CD s (co l))(hG:CD t (co m))(hn:l.length<=274877906944)(hm:m.length<=274877906944)(hK:s+(pl (co l)+2)*(t+1)+2*t+2<=274877906944) :
  Bc 70 #[v,u] w (fun r w'=>∃ a b,r = .tuple #[a,b]/\Di w.heap.size w' a (pq (co l) (co m))/\Di w.heap.size w' b (pr (co l) (co m))):=by
 have HV:=Ad hv;have HU:=Ad hu;obtain⟨A,c,rfl⟩:=hv.len;obtain⟨E,d,rfl⟩:=hu.len;clear hv hu;have hp0:=Bj (Gi l);have hq0:=Bj (Gi m);have hFf:=Ae.co l;have hGf:=Ae.co m;have hN1:=LP _ l w HV.out Aa;have hN2:=fun w' (e:Ext w w')=>LP _ m w' (HU.out.ext e) Aa;obtain⟨F,hFe⟩:∃ F,F=co l:=⟨_,rfl⟩
 obtain⟨G,hGe⟩:∃ G,G=co m:=⟨_,rfl⟩
 rw[<-hFe]at hF hp0 hK hFf hN1;rw[<-hGe]at hG hq0 h0 hGf hN2;rw[<-hFe,<-hGe];have hpG:=AZ hGf h0;have HN0:=Ad (Ai hN1 hN2);clear hN1 hN2;have HX:=Ad (Ai hFf (Ai hGf (Ai h0 (Ai hF (Ai hG hK)))));clear HV HU hFe hGe h0 hF hG hK hFf hGf
 go_enter Tryz.func70,Tryz.ntmps70
 go_wp2_with fail
 refine AB HN0.out.1 ?_;rintro r1 w1 ⟨hr1,ha1⟩ hx1;have H1:=Ad (Ai hr1 ha1);clear hr1 ha1
 go_wp2_with fail
 refine AB (HN0.out.2 w1 hx1) ?_;rintro r2 w2 ⟨hr2,ha2⟩ hx2;obtain⟨g2,cap2,rfl,hg2,hc2,hm2,eg⟩:=ha2.resolve_left Aa;clear HN0 hr2;by_cases hlt:pl F < pl G
 ·obtain⟨A1,c1,la,rfl,k1,k2,-⟩:=H1.out.1.form
  have Hx:=Ad (hx1.trans hx2);clear hx1;have Hx2:=Ad hx2;clear hx2 ha2 eg;go_wp2
  go_ret2
  have hdl:=KP (F:=F) (G:=G) ((AJ HX.out.1).mono Aa) HX.out.2.1 HX.out.2.2.1;rw[hdl.1,hdl.2];exact Ag.mk ⟨_,_,rfl,Di.nil _ _,H1.out.1.ext Hx2.out⟩ Hx.out
 obtain⟨g1,cap1,rfl,hg1,hc1,hm1,er⟩:=H1.out.2.resolve_left Aa;have hg1w:=er.lt;replace er:=er.ext hx2;replace hx1:=hx1.trans hx2;have hsz2:=hx2.size;have hg2w:=eg.lt;clear H1 hx2 ha2;obtain⟨n,hn'⟩:∃ n,n=pl F - pl G+1:=⟨_,rfl⟩
 have hnF:n+pl G=pl F+1:=by omega
 have hn1:1<=n:=by omega
 have hn40:n<=274877906944:=by omega
 have hpF:pl F<=274877906944:=by omega
 have hpG2:pl G<=274877906944:=by omega
 obtain⟨W0,hmk,eq,hxq⟩:=TB n ((pl F:Int) - pl G+1) Aa Aa w2;have HN:=Ad hnF;clear hnF hn';replace er:=er.ext hxq;replace eg:=eg.ext hxq;replace hx1:=hx1.trans hxq;have hne1:g1 < g2:=by omega
 have hne2:g2 < w2.heap.size:=by omega
 clear hxq hp0 hq0 hg1w hg2w hsz2 hg2;go_wp2
 go_loopw [9] (fun iv wr=>∃ (i:Nat) (Q Rm:Nat->Rat) (la:List (Option Rat)),i<=n/\(∃ z:Int,z+1=i/\iv = .int .i64 z)/\CE wr g1 28 (Ec (pl F) Rm)/\CE wr g2 28 (Ec (pl G) G)/\CE wr w2.heap.size 28 la/\J8 F G n s t i la Q Rm/\Ext w wr) (fun iv _=>(intOf iv+1).toNat)
 case atStart=>exact⟨n,pz,F,_,Nat.le_refl _,⟨_,by have:=HN.out;omega,rfl⟩,er,eg,eq,J8.start ((AJ HX.out.1).mono (by have:=HN.out;omega)) HX.out.2.2.2.1,hx1⟩
 case round =>
  clear er eq eg hx1;obtain⟨i,Q,Rm,la,hi,⟨z,hz,rfl⟩,er,eg,eq,hst,hx⟩:=hrel;have HR:=Ad hst;clear hst;by_cases hi0:0 < i
  ·obtain⟨k,rfl⟩:∃ k,i=k+1:=⟨i - 1,Aa⟩
   obtain rfl:z=(k:Int):=by omega
   clear hz hi0;have hkn:k < n:=by omega
   have hkp:k+pl G - 1 < pl F:=by have:=HN.out;omega
   obtain⟨z1,Z1,zn,zc,z2,Z2,zn',zc',ca0,ca1,ca2,ca3,hza⟩:=er.full_at (j:=k+pl G - 1) hkp;obtain⟨y1,Y1,yn,yc,y2,Y2,yn',yc',cb0,cb1,cb2,cb3,hzb⟩:=eg.full_at (j:=pl G - 1) Aa;have Hq:=Ad (Ai hza hzb);clear hza hzb;have HB:=Ad (show qsz (Rm (k+pl G - 1))<=274877906944/\qsz (G (pl G - 1))<=274877906944 by
    have h0:=HN.out;have h1:=HR.out.2.2.2.2.2.2.elem (k+pl G - 1);have h2:qsz (G (pl G - 1))<=t:=HX.out.2.2.2.2.1.elem _;have h3:=HX.out.2.2.2.2.2;have h4:(n - (k+1))*(t+1)<=(pl F+2)*(t+1):=Nat.mul_le_mul_right _ Aa;exact⟨Aa,Aa⟩)
   obtain⟨c0,hc0⟩:∃ c0,c0=Rm (k+pl G - 1) / G (pl G - 1):=⟨_,rfl⟩
   have Hc0:=Ad hc0;clear hc0;have hkla:k < la.length:=by have:=HR.out.1;omega
   have Hkla:=Ad hkla;clear hkla
   go_wp2_with fail
   refine CP 16 [38,39,40,41,42,43,44,45,46,47,48,49,50,51,52,10] [6,9,7] [_,_,_] [(kv ?_),(kv ?_),(kv ?_),(kv ?_),(kv ?_),(kv ?_),(kv ?_),(kv ?_),(kv ?_),(kv ?_),(kv ?_),(kv ?_),(kv ?_),(kv ?_),(fun γ=>γ 14),(fun γ=>γ 15)] (fun γ w'=>[True,True,True,True,True,True,True,True,True,True,True,True,True,True,Bz w' (γ 14) c0,Bb w' (γ 15) wr.heap.size #[.bool false,.slice none 0 0,.bool false,.slice none 0 0] 28]) ?s1 ?_
   case s1 =>
    iterate 16 refine⟨?_,?_⟩
    trivial
    iterate 14 focus
     refine AY fun _ w' he R hR=>?_;have hc:=he.cells;have cq0:=he.cell ca0;have cq1:=he.cell ca1;have cq2:=he.cell ca2;have cq3:=he.cell ca3;have cq4:=he.cell cb0;have cq5:=he.cell cb1;have cq6:=he.cell cb2;have cq7:=he.cell cb3;go_simp;(try go_ints);(try(rw[if_neg Aa]));(try(rw[if_pos Aa]));(try go_simp);(try go_ints)
     exact Br hR
    ·refine AY fun _ w' he R hR=>?_
     go_simp;exact Bf (Hc0.out▸NK _ _ _ _ w' ((Hq.out.1.ext he).has HB.out.1) ((Hq.out.2.ext he).has HB.out.2)) hR
    ·refine AY fun _ w' he R hR=>?_
     go_simp;exact hR _ _ ((Ext.refl _).alloc _) rfl (Bb.mk (Nat.le_trans Ac he.size) (by simp[Af]))
   intro γ w3 hx3 hF;have p14:Bz w3 (γ 14) c0:=Ak.get hF 14 Ab;have p15:Bb w3 (γ 15) wr.heap.size #[.bool false,.slice none 0 0,.bool false,.slice none 0 0] 28:=Ak.get hF 15 Ab;clear hF;simp only[Bg,Nat.reduceAdd];generalize γ 14=g14 at *;generalize γ 15=g15 at *;clear γ;obtain⟨gc,rfl,hgc,ec⟩:=p15;obtain⟨b5,A5,n5,c5,b6,A6,n6,c6,rfl⟩:=p14.cells;have hlt2:=eq.lt;have hszw:=hx.size;clear ca0 ca1 ca2 ca3 cb0 cb1 cb2 cb3 Hq HB
   replace er:=er.ext hx3;replace eg:=eg.ext hx3;replace eq:=eq.ext hx3;replace hx:=hx.trans hx3;clear hx3;have cec:=ec.cells4;have fec:=ec.frozen
   go_upto_region 9 with(fail)
   have hge:w.heap.size<=gc:=by omega
   obtain⟨W4,eW,ec',U⟩:=ec.put4 (.bool b5) (.slice A5 n5 c5) (.bool b6) (.slice A6 n6 c6);rw[<-eW];clear eW ec;replace p14:=p14.kd U.kd;replace er:=er.upd U Aj;replace eg:=eg.upd U Aj;replace eq:=eq.upd U Aj;replace hx:=U.from_ hx Aj;have ec:=ec';clear U ec';clear cec fec;have cec:=ec.cells4;have fec:=ec.frozen;have hkla:=Hkla.out;obtain⟨_,_,_,_,_,_,_,_,ca0,ca1,ca2,ca3,-⟩:=eq.at_ (j:=k) (by first | omega | (simp;omega))
   have fa0:=eq.frozen (k*4);have fa1:=eq.frozen (k*4+1);have fa2:=eq.frozen (k*4+2);have fa3:=eq.frozen (k*4+3);clear hkla;go_wp2;have hkla:=Hkla.out;obtain⟨W5,eW,eq',U⟩:=eq.put (k:=k) (by first | omega | (simp;omega)) p14;rw[<-eW];clear eW eq;replace p14:=p14.kd U.kd;replace er:=er.upd U Aj;replace eg:=eg.upd U Aj;replace ec:=ec.upd U Aj;replace hx:=U.from_ hx Aj;have eq:=eq';clear U eq';have eb:=DL.mk ec p14
   have hlt3:gc≠w2.heap.size:=by omega
   clear cec fec p14 ec hkla;have HB2:=Ad (show qsz c0<=274877906944/\(∀ j m,qsz (EA k j c0 Rm G m)<=274877906944)/\∀ j,qsz (G j)<=274877906944/\qsz (c0*G j) < 274877906944 by
    have h0:=HN.out;have h1:=fun m=>HR.out.2.2.2.2.2.2.elem m;have h1':=h1 (k+pl G - 1);have h2:qsz (G (pl G - 1))<=t:=HX.out.2.2.2.2.1.elem _;have h3:=HX.out.2.2.2.2.2;have h4:(n - (k+1))*(t+1)+(t+1)<=(pl F+2)*(t+1):=by rw[<-Nat.succ_mul];exact Nat.mul_le_mul_right _ Aa
    have h5:=fun m=>(HR.out.2.2.2.2.2.2.step (n:=k) HX.out.2.1 HX.out.2.2.1 HX.out.2.2.2.2.1).elem m;have h5':∀ m,qsz (psb Rm (cv (mono k c0) G) m)<=s+(n - (k+1))*(t+1)+t+1:=fun m=>by have:=h5 m;rw[Hc0.out];exact this
    have h6:qsz c0<=s+(n - (k+1))*(t+1)+t:=by rw[Hc0.out];have:=IK (Rm (k+pl G - 1)) (G (pl G - 1));omega
    refine⟨Aa,fun j m=>RL (AJ HX.out.2.1) (fun m=>by have:=h1 m;omega) (fun m=>by have:=h5' m;omega) m,fun j=>?_⟩;have h7:qsz (G j)<=t:=HX.out.2.2.2.2.1.elem _;have:=BS c0 (G j);exact⟨Aa,Aa⟩)
   have HST:=Ad (HR.out.step HX.out.2.1 HX.out.2.2.1 HX.out.2.2.2.2.1 hkn Hc0.out);clear HR;obtain⟨wq,rfl⟩:∃ wq:World,wq=wr:=⟨_,rfl⟩
   go_loopw [11] (fun jv wx=>∃ (j:Nat),j<=pl G/\jv = .int .i64 j/\CE wx g1 28 (Ec (pl F) (EA k j c0 Rm G))/\CE wx g2 28 (Ec (pl G) G)/\CE wx w2.heap.size 28 (la.set k (some c0))/\DL wx gc 28 c0/\Ext w wx) (fun jv _=>pl G - (intOf jv).toNat)
   case atStart=>exact⟨0,Nat.zero_le _,rfl,by rw[LV];exact er,eg,eq,eb,hx⟩
   case round =>
    clear er eq eg eb hx;obtain⟨j,hj,rfl,er,eg,eq,eb,hx⟩:=hrel;by_cases hjm:j < pl G
    ·have hkj:k+j < pl F:=by have:=HN.out;omega
     obtain⟨x1,X1,xn,xc,x2,X2,xn',xc',ec,hc⟩:=eb;obtain⟨z1,Z1,zn,zc,z2,Z2,zn',zc',ca0,ca1,ca2,ca3,hza⟩:=er.full_at hkj;obtain⟨y1,Y1,yn,yc,y2,Y2,yn',yc',cb0,cb1,cb2,cb3,hzb⟩:=eg.full_at hjm;have Hc:=Ad hc;have Hza:=Ad hza;have Hzb:=Ad hzb;clear hc hza hzb;have cec:=ec.cells4;have fec:=ec.frozen
     go_wp2_with fail
     refine CP 17 [63,64,65,66,67,68,69,70,71,72,73,74,75,76,77,78,79] [6,9,11,10,7] [_,_,_,_,_] [(kv ?_),(kv ?_),(kv ?_),(kv ?_),(kv ?_),(kv ?_),(kv ?_),(kv ?_),(kv ?_),(kv ?_),(kv ?_),(kv ?_),(kv ?_),(kv ?_),(kv ?_),(fun γ=>γ 15),(fun γ=>γ 16)] (fun γ w'=>[True,True,True,True,True,True,True,True,True,True,True,True,True,True,True,Bz w' (γ 15) (c0*G j),Bz w' (γ 16) (EA k j c0 Rm G (k+j) - c0*G j)]) ?s2 ?_
     case s2 =>
      iterate 17 refine⟨?_,?_⟩
      trivial
      iterate 15 focus
       refine AY fun _ w' he R hR=>?_;have hc:=he.cells;have cq0:=he.cell ca0;have cq1:=he.cell ca1;have cq2:=he.cell ca2;have cq3:=he.cell ca3;have cq4:=he.cell cb0;have cq5:=he.cell cb1;have cq6:=he.cell cb2;have cq7:=he.cell cb3;have cq8:=(ec.ext he).cells4;go_simp;(try go_ints);(try(rw[if_neg Aa]));(try(rw[if_pos Aa]));(try go_simp);(try go_ints)
       exact Br hR
      ·refine AY fun _ w' he R hR=>?_
       go_simp;exact Bf (Yj _ _ _ _ w' ((Hc.out.ext he).has HB2.out.1) ((Hzb.out.ext he).has (HB2.out.2.2 j).1)) hR
      ·refine EF fun γ w' he hf R hR=>?_;have f15:Bz w' (γ 15) (c0*G j):=hf 15 Ab;clear hf
       go_simp;exact Bf (Xy _ _ _ _ w' ((Hza.out.ext he).has (HB2.out.2.1 _ _)) (f15.has (Nat.le_of_lt (HB2.out.2.2 j).2)) (by have h1:=HB2.out.2.1 j (k+j);have h2:=(HB2.out.2.2 j).2;omega)) hR
     intro γ w6 hx6 hF;have p15:Bz w6 (γ 15) (c0*G j):=Ak.get hF 15 Ab;have p16:Bz w6 (γ 16) (EA k j c0 Rm G (k+j) - c0*G j):=Ak.get hF 16 Ab;clear hF;simp only[Bg,Nat.reduceAdd];generalize γ 15=g15 at *;generalize γ 16=g16 at *;clear γ;clear ca0 ca1 ca2 ca3 cb0 cb1 cb2 cb3 cec fec p15 Hza Hzb;have hk:=Hc.out.ext hx6;clear Hc;replace er:=er.ext hx6;replace eg:=eg.ext hx6;replace eq:=eq.ext hx6;replace ec:=ec.ext hx6
     replace hx:=hx.trans hx6;clear hx6;obtain⟨b5,A5,n5,c5,b6,A6,n6,c6,rfl⟩:=p16.cells;have Hk:=Ad hk;have hkf:k+j < (Ec (pl F) (EA k j c0 Rm G)).length:=by rw[O4];exact hkj
     have Hkf:=Ad hkf;obtain⟨_,_,_,_,_,_,_,_,ca0,ca1,ca2,ca3,-⟩:=er.at_ (j:=k+j) (by first | omega | (simp;omega));have fa0:=er.frozen ((k+j)*4);have fa1:=er.frozen ((k+j)*4+1);have fa2:=er.frozen ((k+j)*4+2);have fa3:=er.frozen ((k+j)*4+3);clear hkf hk;go_wp2;have hkf:=Hkf.out;have hk:=Hk.out;obtain⟨W7,eW,er',U⟩:=er.put (k:=k+j) (by first | omega | (simp;omega)) p16;rw[<-eW];clear eW er;replace hk:=hk.kd U.kd
     replace eg:=eg.upd U Aj;replace eq:=eq.upd U Aj;replace ec:=ec.upd U Aj;replace hx:=U.from_ hx Aj;have er:=er';clear U er';have eb:=DL.mk ec hk;clear ec hk Hk
     go_roundw
     case rel=>exact⟨j+1,Aa,by go_num,by
      rw[SE (G:=EA k (j+1) c0 Rm G) (fun n=>by
       rw[M9];split<;>simp_all)]at er
      exact er,eg,eq,eb,hx⟩
     case measure=>simp[intOf]<;>omega
    ·obtain rfl:j=pl G:=by omega
     rw[Js (AJ HX.out.2.1)]at er;clear eb;go_wp2
     go_roundw
     case rel=>exact⟨k,_,_,_,Aa,⟨(k:Int) - 1,Aa,by go_num⟩,er,eg,eq,HST.out,hx⟩
     case measure=>simp[intOf]<;>omega
  ·obtain rfl:i=0:=by omega
   have hz1:z < 0:=by omega
   have HE2:=Ad (HR.out.end_ HX.out.1 HX.out.2.1 HX.out.2.2.1);rw[HE2.out.1,HE2.out.2.1]at eq;rw[HE2.out.2.2.1]at er;have Hz:=Ad hz;clear hz HR eg;have hsq:BA n (pq F G):=HE2.out.2.1▸HE2.out.2.2.2;have hsr:BA (pl F) (pr F G):=(Eo HX.out.1 HX.out.2.1 HX.out.2.2.1).mono (by have:=HN.out;omega);have hFs:BA (n+pl G - 1) F:=(AJ HX.out.1).mono (by have:=HN.out;omega);have hnt:n*(t+1)<=(pl F+2)*(t+1):=Nat.mul_le_mul_right _ (by have:=HN.out;omega)
   have hvq:=eq.hs (c:=n) (fun i _=>by have:=Oi hFs HX.out.2.1 HX.out.2.2.1 HX.out.2.2.2.1 HX.out.2.2.2.2.1 i;have:=HX.out.2.2.2.2.2;omega) (Nat.le_refl _) Aa;have hvr:=er.hs (c:=cap1) (fun i _=>by have:=(CD.pr hFs HX.out.2.1 HX.out.2.2.1 HX.out.2.2.2.1 HX.out.2.2.2.2.1).elem i;have:=HX.out.2.2.2.2.2;omega) hc1 hm1;have HT:=Ad (Ai (FT _ _ wr hvq (by rw[Eh];omega)) (fun w' (e:Ext wr w')=>FT _ _ w' (hvr.ext e) (by rw[Eh];omega)))
   rw[JM hsq,JM hsr]at HT;clear hvq hvr hsq hsr hFs er eq;have Hx:=Ad hx;clear hx
   go_wp2_with fail
   refine AB HT.out.1 ?_;rintro r4 w4 h4 hx4;have H4:=Ad h4;clear h4
   go_wp2_with fail
   refine AB (HT.out.2 _ hx4) ?_;rintro r5 w5 h5 hx5;have H5:=Ad h5;clear h5;go_wp2
   go_ret2
   have s1:=Hx.out.size;have s2:=hx4.size;exact Ag.mk ⟨_,_,rfl,(H4.out.ext hx5).base_le Aa,H5.out.base_le Aa⟩ ((Hx.out.trans hx4).trans hx5)
theorem ZX(v:Value)(l:List Rat)(w:World)(hv:Lv 0 w v l)(hn:l.length<=1099511627776):Bc 130 #[v] w (fun r w'=>Bz w' r (ld (co l))):=by
 have HV:=Ad hv;obtain⟨A,c,rfl⟩:=hv.len;have hple:=Bj (Gi l);have H:=Ad (show ∀ w1,Ext w w1->Bc 165 #[.slice A l.length c,.int .i64 ((pl (co l):Int) - 1)] w1 (fun r w'=>Bz w' r (ld (co l))) by
  intro w1 e;by_cases h0:pl (co l)=0
  ·have:co l=pz:=(Bt (Ae.co l)).1 h0
   have e2:ld (co l)=0:=by rw[this];rfl
   rw[h0,e2];exact jA _ l w1 (HV.out.ext e)
  ·have e2:((pl (co l):Int) - 1)=((pl (co l) - 1:Nat):Int):=by omega
   rw[e2];exact jV _ l (pl (co l) - 1) w1 (HV.out.ext e) Aa)
 clear hv
 go_enter Tryz.func130,Tryz.ntmps130
 go_wp2_with fail
 refine AB (WN _ l _ (HV.out.ext ((Ext.refl w).alloc _)) hn) ?_;rintro r w1 rfl hx1
 go_wp2_with fail
 refine AB (H.out _ hx1.a1) ?_;rintro r w2 hr hx2;replace hx1:=hx1.trans hx2;clear hx2;obtain⟨b5,A5,n5,c5,b6,A6,n6,c6,rfl⟩:=hr.cells;have hc1:=hx1.cells;have hf1:=hx1.frozens;have Hfin:=Ad (CO hr hx1.a1 (AU.at_ hx1 (g:=w.heap.size+0) Ac (by simp[Af])) Aa);clear hr;go_wp2;refine bodyPost_ret (v := .agg #[.bool b5,.slice A5 n5 c5,.bool b6,.slice A6 n6 c6]) (by simp[results,Tryz.results130,go_sem,hc1]) rfl ?_
 exact Hfin.out
/-! ### over polynomials -/
theorem VO(v u:Value)(F G:Nat->Rat)(s t:Nat)(w:World)(hv:Di 0 w v F)(hu:Di 0 w u G)(h0:G≠pz)(hF:CD s F)(hG:CD t G)(hn:pl F<=274877906944)(hm:pl G<=274877906944)(hK:s+(pl F+2)*(t+1)+2*t+2<=274877906944) :
  Bc 70 #[v,u] w (fun r w'=>∃ a b,r = .tuple #[a,b]/\Di w.heap.size w' a (pq F G)/\Di w.heap.size w' b (pr F G)):=by
 obtain⟨l,h1,h2,h3,rfl⟩:=hv.hs (fun i=>by have:=hF.elem i;have h:0 < (pl F+2)*(t+1):=Nat.mul_pos Aa Aa;omega);obtain⟨m,k1,k2,k3,rfl⟩:=hu.hs (fun i=>by have:=hG.elem i;omega);exact Wn v u l m s t w h1 k1 h0 hF hG Aa Aa hK
theorem KH(v:Value)(l:List Rat)(w:World)(hv:Lv 0 w v l)(hn:l.length<=1099511627776):Bc 156 #[v] w (fun r w'=>Di w.heap.size w' r (co l)):=
 Ag.imp (WW v l w hv hn) fun _ _ h=>Di.of_trim h rfl
theorem XN(v u:Value)(l m:List Rat)(s t:Nat)(w:World)(hv:Lv 0 w v l)(hu:Lv 0 w u m)(h0:co m≠pz)(hF:CD s (co l))(hG:CD t (co m))(hn:l.length<=274877906944)(hm:m.length<=274877906944)(hK:s+(pl (co l)+2)*(t+1)+2*t+2<=274877906944) :
  Bc 114 #[v,u] w (fun r w'=>∃ a b,r = .tuple #[a,b,.int .i64 0]/\Di w.heap.size w' a (pq (co l) (co m))/\Di w.heap.size w' b (pr (co l) (co m))):=by
 have HV:=Ad hv;have HU:=Ad hu;obtain⟨A,c,rfl⟩:=hv.len;obtain⟨E,d,rfl⟩:=hu.len;clear hv hu;have hp0:=Bj (Gi l);have HX:=Ad (Ai h0 (Ai hF (Ai hG (Ai hK (AZ (Ae.co m) h0)))));clear h0 hF hG hK
 go_enter Tryz.func114,Tryz.ntmps114
 go_wp2_with fail
 refine AB (KH _ m _ HU.out Aa) ?_;rintro r1 w1 hr1 hx1;have Hr1:=Ad hr1;obtain⟨A1,c1,l1,rfl,k1,k2,-⟩:=hr1.form;have b0:((pl (co m):Int)==0)=false:=by have:=HX.out.2.2.2.2;simp;omega
 clear hr1
 go_wp2_with fail
 refine AB (KH _ l _ (HV.out.ext hx1) Aa) ?_;rintro r2 w2 hr2 hx2;have Hr2:=Ad hr2;clear hr2
 go_wp2_with fail
 refine AB (Xp _ _ (co l) (co m) s t _ (Hr2.out.base_le (Nat.zero_le _)) ((Hr1.out.ext hx2).base_le (Nat.zero_le _)) HX.out.1 HX.out.2.1 HX.out.2.2.1 Aa HX.out.2.2.2.1) ?_;rintro r3 w3 ⟨a,b,rfl,ha,hb⟩ hx3;have Hab:=Ad (Ai ha hb);clear ha hb;have s1:=hx1.size;have s2:=hx2.size;go_wp2
 go_ret3
 exact Ag.mk ⟨_,_,rfl,Hab.out.1.base_le Aa,Hab.out.2.base_le Aa⟩ ((hx1.trans hx2).trans hx3)
theorem mX(n:Int)(w:World)(h1 : -4294967296 < n)(h2:n < 4294967296):Bc 58 #[.int .i64 n] w (fun r w'=>AP w' r n):=by
 go_enter Tryz.func58,Tryz.ntmps58
 by_cases hneg:n < 0
 ·have hb:decide (n < 0)=true:=by simpa using hneg
  have Hw:=Ad (NZ (x:=n) Aa hneg);obtain⟨N,hN⟩:∃ N,N=n.natAbs:=⟨_,rfl⟩
  have HN:=Ad hN;have hNb:N < 4294967296:=by omega
  clear hN;go_wp2;obtain⟨W9,eW9,e9,x9⟩:=Bh.made (w.alloc (.cells #[.bool false,.slice none 0 0] 26)) 26 #[.bool true,.slice none 0 0] (by simp[Af]);rw[<-eW9];clear eW9;rw[World.size_alloc]at e9
  go_loopw [3] (fun uv wx=>∃ m:Nat,uv = .int .u64 m/\m < 4294967296/\((m=N/\Bh wx (w.heap.size+1) 26 #[.bool true,.slice none 0 0])\/(m=0/\N≠0/\∃ A c,Bh wx (w.heap.size+1) 26 #[.bool true,.slice A 1 c]/\BM wx (.slice A 1 c) [N]))/\Ext (w.alloc (.cells #[.bool false,.slice none 0 0] 26)) wx) (fun uv _=>(intOf uv).toNat)
  case atStart=>exact⟨N,by rw[Hw.out,HN.out],hNb,.inl ⟨rfl,e9⟩,x9⟩
  case round =>
   clear e9 x9;obtain⟨m,rfl,hm,hst,hx⟩:=hrel;by_cases h0:m=0
   ·have hr:∃ A k c,Bh wr (w.heap.size+1) 26 #[.bool true,.slice A k c]/\AP wr (.agg #[.bool true,.slice A k c]) n:=by
     rcases hst with⟨e,hb⟩ | ⟨_,hne,A,c,hb,hd⟩
     ·exact⟨_,_,_,hb,by have h3:=HN.out;omega⟩
     ·exact⟨_,_,_,hb,AP.of_one hd hne (by have h3:=HN.out;(simp;omega))⟩
    obtain⟨A5,n5,c5,ez,hr⟩:=hr;have H0:=Ad h0;clear h0;have Hr:=Ad hr;clear hr hst;have hm0:¬ (0 < (m:Int)):=by have:=H0.out;omega
    have cez:=ez.cells2;have fez:=ez.frozen;have hx1:=hx;clear hx;have hc1:=hx1.cells;have hf1:=hx1.frozens;have Hfin:=Ad (Ck Hr.out hx1.a1 (AU.at_ hx1 (g:=w.heap.size+0) Ac (by simp[Af])) Aa);go_wp2;refine bodyPost_ret (v := .agg #[.bool true,.slice A5 n5 c5]) (by simp[results,Tryz.results58,go_sem,hc1]) rfl ?_;exact Hfin.out
   ·obtain⟨rfl,ez⟩:m=N/\Bh wr (w.heap.size+1) 26 #[.bool true,.slice none 0 0]:=by
     rcases hst with⟨e,hb⟩ | ⟨e,_⟩
     ·exact⟨e,hb⟩
     ·exact absurd e h0
    have hm0:0 < m:=by omega
    have hsz:w.heap.size<=wr.heap.size:=hx.a1.size;clear hst;have cez:=ez.cells2;have fez:=ez.frozen
    go_wp2_with (at_builtin;refine Av rfl _ _ 24 rfl (.slice none 0 0) (.slice (some ⟨wr.heap.size,0,none⟩) 1 1) rfl rfl (DF wr w.heap.size _ _ [] m _ _ (FU.nil _ _) (by first | rfl | omega) Ac hsz rfl) ?_)
    rintro v' w5 hown hg;have xa:Ext wr w5:=((Ext.refl wr).alloc _).grown hg (fun k hk=>by simp[Value.ownBlock]at hk);have hd:=hown.digv (Be.cons hm Be.nil);have hd2:=hd;obtain⟨A5,c5,rfl,-,-,-⟩:=hd2;clear hown hg;have ez5:=ez.ext xa;replace hx:=hx.trans xa;clear ez xa cez fez;have cez5:=ez5.cells2;have fez5:=ez5.frozen;have Hd:=Ad hd;clear hd;have H0:=Ad h0;clear h0;go_wp2;have eb:=ez5.set_ 1 (u := .slice A5 1 c5) rfl
    have U:=Cu.set_ ez5.nodig 1 (.slice A5 1 c5);replace hx:=U.from_ hx Ac;have Hdd:=Ad (show BM _ _ _ from BM.kd Hd.out U.kd)
    go_roundw
    case rel=>exact⟨0,by go_num,Aa,.inr ⟨rfl,H0.out,A5,c5,eb,Hdd.out⟩,hx⟩
    case measure=>simp[intOf]<;>omega
 ·have hb:decide (n < 0)=false:=by simpa using hneg
  have Hw:=Ad (Y7 (x:=n) Aa Aa);obtain⟨N,hN⟩:∃ N,N=n.natAbs:=⟨_,rfl⟩
  have HN:=Ad hN;have hNb:N < 4294967296:=by omega
  clear hN;go_wp2;obtain⟨W9,eW9,e9,x9⟩:=Bh.made (w.alloc (.cells #[.bool false,.slice none 0 0] 26)) 26 #[.bool false,.slice none 0 0] (by simp[Af]);rw[<-eW9];clear eW9;rw[World.size_alloc]at e9
  go_loopw [3] (fun uv wx=>∃ m:Nat,uv = .int .u64 m/\m < 4294967296/\((m=N/\Bh wx (w.heap.size+1) 26 #[.bool false,.slice none 0 0])\/(m=0/\N≠0/\∃ A c,Bh wx (w.heap.size+1) 26 #[.bool false,.slice A 1 c]/\BM wx (.slice A 1 c) [N]))/\Ext (w.alloc (.cells #[.bool false,.slice none 0 0] 26)) wx) (fun uv _=>(intOf uv).toNat)
  case atStart=>exact⟨N,by(congr 1;have h3:=HN.out;omega),hNb,.inl ⟨rfl,e9⟩,x9⟩
  case round =>
   clear e9 x9;obtain⟨m,rfl,hm,hst,hx⟩:=hrel;by_cases h0:m=0
   ·have hr:∃ A k c,Bh wr (w.heap.size+1) 26 #[.bool false,.slice A k c]/\AP wr (.agg #[.bool false,.slice A k c]) n:=by
     rcases hst with⟨e,hb⟩ | ⟨_,hne,A,c,hb,hd⟩
     ·exact⟨_,_,_,hb,by have h3:=HN.out;(have e5:n=0:=by omega) ; rw[e5];exact AP.of_nil⟩
     ·exact⟨_,_,_,hb,AP.of_one hd hne (by have h3:=HN.out;(simp;omega))⟩
    obtain⟨A5,n5,c5,ez,hr⟩:=hr;have H0:=Ad h0;clear h0;have Hr:=Ad hr;clear hr hst;have hm0:¬ (0 < (m:Int)):=by have:=H0.out;omega
    have cez:=ez.cells2;have fez:=ez.frozen;have hx1:=hx;clear hx;have hc1:=hx1.cells;have hf1:=hx1.frozens;have Hfin:=Ad (Ck Hr.out hx1.a1 (AU.at_ hx1 (g:=w.heap.size+0) Ac (by simp[Af])) Aa);go_wp2;refine bodyPost_ret (v := .agg #[.bool false,.slice A5 n5 c5]) (by simp[results,Tryz.results58,go_sem,hc1]) rfl ?_;exact Hfin.out
   ·obtain⟨rfl,ez⟩:m=N/\Bh wr (w.heap.size+1) 26 #[.bool false,.slice none 0 0]:=by
     rcases hst with⟨e,hb⟩ | ⟨e,_⟩
     ·exact⟨e,hb⟩
     ·exact absurd e h0
    have hm0:0 < m:=by omega
    have hsz:w.heap.size<=wr.heap.size:=hx.a1.size;clear hst;have cez:=ez.cells2;have fez:=ez.frozen
    go_wp2_with (at_builtin;refine Av rfl _ _ 24 rfl (.slice none 0 0) (.slice (some ⟨wr.heap.size,0,none⟩) 1 1) rfl rfl (DF wr w.heap.size _ _ [] m _ _ (FU.nil _ _) (by first | rfl | omega) Ac hsz rfl) ?_)
    rintro v' w5 hown hg;have xa:Ext wr w5:=((Ext.refl wr).alloc _).grown hg (fun k hk=>by simp[Value.ownBlock]at hk);have hd:=hown.digv (Be.cons hm Be.nil);have hd2:=hd;obtain⟨A5,c5,rfl,-,-,-⟩:=hd2;clear hown hg;have ez5:=ez.ext xa;replace hx:=hx.trans xa;clear ez xa cez fez;have cez5:=ez5.cells2;have fez5:=ez5.frozen;have Hd:=Ad hd;clear hd;have H0:=Ad h0;clear h0;go_wp2;have eb:=ez5.set_ 1 (u := .slice A5 1 c5) rfl
    have U:=Cu.set_ ez5.nodig 1 (.slice A5 1 c5);replace hx:=U.from_ hx Ac;have Hdd:=Ad (show BM _ _ _ from BM.kd Hd.out U.kd)
    go_roundw
    case rel=>exact⟨0,by go_num,Aa,.inr ⟨rfl,H0.out,A5,c5,eb,Hdd.out⟩,hx⟩
    case measure=>simp[intOf]<;>omega
theorem nI(n:Int)(w:World)(h1 : -4294967296 < n)(h2:n < 4294967296):Bc 38 #[.int .i64 n] w (fun r w'=>Bz w' r (n:Rat)):=by
 go_enter Tryz.func38,Tryz.ntmps38
 go_wp2_with fail
 refine AB (mX n _ h1 h2) ?_;rintro r w1 hn hx1
 go_wp2_with fail
 refine AB (mX 1 _ Aa Aa) ?_;rintro r w2 h1' hx2;replace hn:=hn.ext hx2;replace hx1:=hx1.trans hx2;clear hx2;obtain⟨b5,A5,n5,c5,rfl⟩:=hn.cells;obtain⟨b6,A6,n6,c6,rfl⟩:=h1'.cells;have hr:=Bz.mk_ hn h1' (q:=(n:Rat)) rfl rfl;clear hn h1';have hc1:=hx1.cells;have hf1:=hx1.frozens;have Hfin:=Ad (CO hr hx1.a1 (AU.at_ hx1 (g:=w.heap.size+0) Ac (by simp[Af])) Aa);clear hr;go_wp2;refine bodyPost_ret (v := .agg #[.bool b5,.slice A5 n5 c5,.bool b6,.slice A6 n6 c6]) (by simp[results,Tryz.results38,go_sem,hc1]) rfl ?_
 exact Hfin.out
theorem SK(v:Value)(x:Int)(w:World)(hv:Bq w v x):Bc 174 #[v] w (fun r _=>∃ b:Nat,r = .int .i64 b/\BL x.natAbs b):=by
 obtain⟨neg,A,n,c,N,rfl,h1,h2,h3,hN,hx⟩:=hv.form;have HN:=Ad hN;clear hN hv;have Hx:=Ad (show x.natAbs=N by rw[hx];cases neg<;>simp);clear hx
 go_enter Tryz.func174,Tryz.ntmps174
 go_wp2_with fail
 refine AB (BN _ N n _ (HN.out.ext ((Ext.refl w).alloc _))) ?_;rintro r w1 hr hx1;obtain⟨ds,hd,hnv,ht,hl⟩:=hr.len;obtain⟨E,p1,rfl,hl1,hc1,hE⟩:=hd;have HX:=Ad (show x.natAbs=nv ds by rw[Hx.out,<-hnv]);have hx:=hx1.a1;have hm:ds.length<=1099511627776:=by rw[hl];exact Nat.le_trans HN.out.sz h3
 clear hx1 hr hl HN Hx hnv h1 h2 h3;rcases Nat.eq_zero_or_pos ds.length with h0 | h0
 ·have hb:(((ds.length:Nat):Int)==0)=true:=by rw[h0];rfl
  have:ds=[]:=List.eq_nil_of_length_eq_zero h0;clear h0;have Hd:=Ad this;clear this;go_wp2
  go_ret
  exact Ag.mk ⟨0,rfl,by rw[HX.out,Hd.out];exact BL.zero⟩ hx
 ·have hb:(((ds.length:Nat):Int)==0)=false:=beq_eq_false_iff_ne.2 Aa
  obtain⟨a,ha,hca⟩:=BU hE (k:=ds.length - 1) Aa;have x1:=Bd hE.1 (ds.length - 1);have hd0:dg ds (ds.length - 1)≠0:=by
   rw[DD Aa];have:=ht (List.ne_nil_of_length_pos h0);rwa[List.getLast_eq_getElem]at this
  obtain⟨d,hdd⟩:∃ d,d=dg ds (ds.length - 1):=⟨_,rfl⟩
  rw[<-hdd]at hca x1 hd0;obtain⟨q1,q2⟩:=GG d d (Nat.le_refl _) Aa;have q3:=Yv hd0 x1 q1 (q2 hd0);have Hd:=Ad (Ai hdd (Ai ht (Ai q1 q3)));clear hdd ht q1 q2 q3;have hbl:=Lib.bitLen_le d 32 Ab Aa;obtain⟨m,hmm⟩:∃ m,ds.length=m+1:=⟨ds.length - 1,Aa⟩
  rw[hmm]at hca hb hl1 hm ⊢;clear h0;have Hm:=Ad hmm;clear hmm;subst ha;rw[Nat.add_sub_cancel]at hca;clear hd0
  go_wp2_with (go_at_call 188;refine(Pb _ _ Aa Aa).mono ?_;rintro e w' ⟨rfl,rfl⟩;rw[Int.toNat_natCast])
  go_ret
  refine Ag.mk ⟨32*m+Lib.bitLen d,by congr 1,?_⟩ hx;have:=BL.top (ds:=ds) (j:=Lib.bitLen d) hE.1 (by have:=Hm.out;omega) (by rw[<-Hd.out.1];exact Hd.out.2.2.1) Hd.out.2.2.2.1 (by rw[<-Hd.out.1];exact Hd.out.2.2.2.2);rw[Hm.out,Nat.add_sub_cancel]at this;rw[HX.out];exact this
theorem dJ(v u:Value)(x y:Int)(w:World)(hv:Bq w v x)(hu:Bq w u y):Bc 189 #[v,u] w (fun r _=>r = .int .i64 (x - y).sign):=by
 have HV:=Ad hv;have HU:=Ad hu;obtain⟨neg,A,n,c,N,rfl,h1,h2,h3,hN,hx⟩:=hv.form;obtain⟨neg',A',n',c',M,rfl,k1,k2,k3,kN,hy⟩:=hu.form;have HN:=Ad hN;have HM:=Ad kN;clear hN hv hu kN;have Hx:=Ad (show x.natAbs=N/\y.natAbs=M by rw[hx,hy];cases neg<;>cases neg'<;>simp);clear hx hy;have r1:=Ke x;have r2:=Ke y
 go_enter Tryz.func189,Tryz.ntmps189
 go_wp2;refine CP 4 [7,8,9,10] [2,3] [_,_] [(kv ?_),(kv (.int .i64 x.sign)),(kv ?_),(kv (.int .i64 y.sign))] (fun γ w'=>[True,True,True,True]) ?s1 ?_
 case s1 =>
  iterate 4 refine⟨?_,?_⟩
  trivial
  iterate 1 focus
   refine AY fun _ w' he R hR=>?_;have hc:=he.cells;go_simp;exact Br hR
  ·refine AY fun _ w' he R hR=>?_
   go_simp;exact LW (Jh _ x w' (HV.out.ext he.a2)) hR
  iterate 1 focus
   refine AY fun _ w' he R hR=>?_;have hc:=he.cells;go_simp;exact Br hR
  ·refine AY fun _ w' he R hR=>?_
   go_simp;exact LW (Jh _ y w' (HU.out.ext he.a2)) hR
 intro γ w1 hx1 hF;clear hF;simp only[Bg,Nat.reduceAdd];clear γ;by_cases hs:x.sign=y.sign
 ·have hb:(x.sign != y.sign)=false:=by simp[hs]
  have Hs:=Ad (Rk hs);clear hs;have ea:=((Bh.new w 26 #[.bool neg,.slice A n c] (by simp[Af])).alloc (.cells #[.bool neg',.slice A' n' c'] 26)).ext hx1;have eb:=(Bh.new (w.alloc (.cells #[.bool neg,.slice A n c] 26)) 26 #[.bool neg',.slice A' n' c'] (by simp[Af])).ext hx1;rw[World.size_alloc]at eb;have cea:=ea.cells2;have fea:=ea.frozen;have ceb:=eb.cells2;have feb:=eb.frozen
  go_wp2_with fail
  refine CP 8 [18,19,20,21,22,23,24,25] [5,2,3] [_,_,_] [(kv ?_),(kv ?_),(kv ?_),(fun γ=>γ 3),(kv ?_),(kv ?_),(fun γ=>γ 6),(kv (.int .i64 (cmp N M)))] (fun γ w'=>[True,True,True,Bw w' (γ 3) N,True,True,Bw w' (γ 6) M,True]) ?s2 ?_
  case s2 =>
   iterate 8 refine⟨?_,?_⟩
   trivial
   iterate 3 focus
    refine AY fun _ w' he R hR=>?_;have hc:=he.cells;have cq0:=(ea.ext he).cells2;have cq1:=(eb.ext he).cells2;go_simp;exact Br hR
   ·refine AY fun _ w' he R hR=>?_
    go_simp;exact Bf (BN _ N n w' (HN.out.ext (hx1.a2.trans he))) hR
   iterate 2 focus
    refine AY fun _ w' he R hR=>?_;have hc:=he.cells;have cq0:=(ea.ext he).cells2;have cq1:=(eb.ext he).cells2;go_simp;exact Br hR
   ·refine AY fun _ w' he R hR=>?_
    go_simp;exact Bf (BN _ M n' w' (HM.out.ext (hx1.a2.trans he))) hR
   ·refine EF fun γ w' he hf R hR=>?_;have f3:Bw w' (γ 3) N:=hf 3 Ab;have f6:Bw w' (γ 6) M:=hf 6 Ab;clear hf
    go_simp;exact LW (Mi _ _ N M w' f3 f6 (Nat.le_trans HN.out.sz Aa) (Nat.le_trans HM.out.sz Aa)) hR
  intro γ w2 hx2 hF;have p3:Bw w2 (γ 3) N:=Ak.get hF 3 Ab;have p6:Bw w2 (γ 6) M:=Ak.get hF 6 Ab;clear hF;simp only[Bg,Nat.reduceAdd];generalize γ 3=g3 at *;generalize γ 6=g6 at *;clear γ;have:=Hs.out;rw[Hx.out.1,Hx.out.2]at this;go_wp2
  go_ret
  have hr:=Ke (x - y);have hw:wrap64 (x.sign*cmp N M)=(x - y).sign:=by
   rw[show x.sign*cmp N M=(x - y).sign from this];exact IntWalk.wrap64_in _ ⟨Aa,Aa⟩
  exact Ag.mk (by show Value.int .i64 (wrap64 (x.sign*cmp N M))=_;rw[hw]) (hx1.a2.trans hx2)
 ·have hb:(x.sign != y.sign)=true:=by simp[hs]
  have Hs:=Ad (U5 hs);clear hs
  go_wp2_with fail
  refine Calls.mono (RY _ _ Aa Aa) ?_;rintro e w' ⟨rfl,rfl⟩;go_wp2
  go_ret
  exact Ag.mk (by rw[Hs.out];rfl) hx1.a2
set_option maxRecDepth 100000 in
theorem WV(x:Int)(w:World)(h0:0<=x)(h1:x < 65536) :
  Calls Tryz.prog 194 #[.int .u64 x] w fun e w'=>e = .returned (.int .i64 (Lib.bitLen x.toNat))/\w'=w:=by
 have ts:=Tryz.underlying9;by_cases c2:x < 256
 ·have c3:x<=255:=by omega
  go_enter Tryz.func194,Tryz.ntmps194
  go_wp2
  go_ret
  refine⟨EO ?_,rfl⟩;have e:=EE x h0 c3;show wrap64 (wrap64 (Lib.len8 x))=_;rw[e];have:=Lib.bitLen_le8' x h0 c3;exact IntWalk.wrap64_in _ ⟨Aa,Aa⟩
 ·have c3:x / 256<=255:=by omega
  have c4:0<=x / 256:=by omega
  go_enter Tryz.func194,Tryz.ntmps194
  go_wp2
  go_ret
  refine⟨EO ?_,rfl⟩;show wrap64 (8+wrap64 (Lib.len8 (x / 256)))=_;have l:=Lib.bitLen_le8' (x / 256) c4 c3;have s:=Lib.bitLen_shift8 x.toNat Aa Aa;rw[EE _ c4 c3,IntWalk.wrap64_in _ ⟨Aa,Aa⟩,s,show(x / 256).toNat=x.toNat / 256 from by omega];omega
theorem Wq(x:Nat)(w:World)(h:x < 65536) :
  Calls Tryz.prog 190 #[.int .u64 (x:Nat)] w fun e w'=>e = .returned (.int .i64 (Lib.bitLen x:Nat))/\w'=w:=by
 have hb:=Lib.bitLen_le x 16 Ab Aa
 go_enter Tryz.func190,Tryz.ntmps190
 go_wp2_with (go_at_call 194;refine(WV _ _ Aa Aa).mono ?_;rintro e w' ⟨rfl,rfl⟩;rw[Int.toNat_natCast])
 go_ret
 exact⟨rfl,rfl⟩
/-- zpoly.trimmed: without the zeros at the end,in place. -/
theorem EC(base:Nat)(A:Option Addr)(c:Nat)(l:List Int)(w:World)(hl:l.length<=c)(hc:c<=9223372036854775807)(hA:Mw base w A l) :
  Calls Tryz.prog 119 #[.slice A l.length c] w fun e w'=>e = .returned (.slice A (BV (zq l)).length c)/\w=w':=by
 go_enter Tryz.func119,Tryz.ntmps119
 go_wp2
 go_loop [0] (fun v=>∃ m:Nat,m<=l.length/\v = .slice A m c/\∀ j,m<=j->(h:j < l.length)->l[j]=0) (fun v=>match v with | .slice _ m _=>m | _=>0)
 case atStart=>exact⟨l.length,Nat.le_refl _,rfl,fun j h1 h2=>Aa⟩
 case round =>
  obtain⟨m,hm,rfl,hz⟩:=hrel;by_cases h0:0 < m
  ·obtain⟨m,rfl⟩:∃ k,m=k+1:=⟨m - 1,Aa⟩
   obtain⟨g,o,b,A1,n,c1,rfl,hb,q0,q1,hq⟩:=hA.at_ (j:=m) Aa;have hn:=hq.two.1;by_cases hd0:l[m]'(Aa)=0
   ·have hb:(((n:Nat):Int)==0)=true:=by rw[hn,hd0];rfl
    clear hA hn;go_wp2
    go_round
    case rel=>exact⟨m,Aa,rfl,fun j h1 h2=>by
     rcases Nat.eq_or_lt_of_le h1 with e | e
     ·subst e;exact hd0
     ·exact hz j Aa h2⟩
    case measure=>simp
   ·have hb:(((n:Nat):Int)==0)=false:=by
     have:=Er (n:=l[m].natAbs) Aa;rw[<-hn]at this;simp;omega
    clear hA hn;go_wp2
    go_ret
    have hlen:=Io hm hz (fun h _=>by simpa using hd0);exact⟨by rw[hlen];rfl,rfl⟩
  ·obtain rfl:m=0:=by omega
   go_wp2
   go_ret
   have hlen:=Io hm hz (fun h hh=>Aa);exact⟨by rw[hlen];rfl,rfl⟩
theorem I6:(Tryz.prog.info? 26).map (fun i=>(i.zero,i.size,i.bytes))=some (some (.agg #[.bool false,.slice none 0 0]),2,32):=by kernel_rfl
theorem JE(n:Nat)(x:Int)(hx:x=n)(hn:n<=1099511627776)(w:World):∃ W,(Instr.makeSlice 23 (.int .i64 x) (.int .i64 x)).run Tryz.prog w = .ok (.slice (some ⟨w.heap.size,0,none⟩) n n) W/\Cw W w.heap.size 26 (List.replicate n 0)/\Ext w W:=by
 subst hx;obtain⟨i0,hi,hz0,hz1,hz2⟩:=info_parts I6;have h:=run_make (P:=Tryz.prog) w 23 26 i0 (.agg #[.bool false,.slice none 0 0]) Tryz.underlying23 hi hz0 .i64 .i64 (n:Int) (n:Int) Aa Aa (by rw[hz2];omega) Aa;rw[h,hz1,Int.toNat_natCast];exact⟨_,rfl,Cw.new w _ n,(Ext.refl w).alloc _⟩
theorem YE{la m:List Int}{k n:Nat}(h:la=m.take k ++ List.replicate (n - k) 0)(hk:k < n)(hm:m.length=n){q:Int}(hq:q=m[k]'(by omega)):la.set k q=m.take (k+1) ++ List.replicate (n - (k+1)) 0:=by
 subst h;have h1:(m.take k).length=k:=by simp;omega
 rw[List.set_append,if_neg (by rw[h1];omega),h1,Nat.sub_self,show n - k=(n - (k+1))+1 from Aa,List.replicate_succ,List.set_cons_zero,List.take_succ_eq_append_getElem Aa,hq,List.append_assoc];rfl
theorem Fv(v:Value)(l:List Int)(w:World)(hv:De 0 w v l)(hn:l.length<=1099511627776):Bc 84 #[v] w (fun r w'=>r = .slice (some ⟨w.heap.size,0,none⟩) (BV (zq l)).length l.length/\Cw w' w.heap.size 26 l):=by
 obtain⟨A,c,rfl,hl,hc,hA⟩:=hv;obtain⟨W0,hmk,ea,hx⟩:=JE l.length (l.length:Int) rfl hn w;have HA:Hid (GL 0 w A l):=Ad hA;clear hA
 go_enter Tryz.func84,Tryz.ntmps84
 go_wp2
 go_loopw [11] (fun iv wr=>∃ (k:Nat) (la:List Int),k<=l.length/\iv = .int .i64 k/\Cw wr w.heap.size 26 la/\la.length=l.length/\la=l.take k ++ List.replicate (l.length - k) 0/\Ext w wr) (fun iv _=>l.length - (intOf iv).toNat)
 case atStart=>exact⟨0,_,Nat.zero_le _,rfl,ea,Ac,Ac,hx⟩
 case round =>
  obtain⟨k,la,hk,rfl,ea,hlen,hla,hx⟩:=hrel;have Hla:=Ad hla;clear hla;have Hlen:=Ad hlen;clear hlen;by_cases hkl:k < l.length
  ·obtain⟨g,o,b,A1,n,c1,rfl,_,q0,q1,hq⟩:=HA.out.at_ (j:=k) hkl
   replace q0:=hx.cell q0;replace q1:=hx.cell q1;have Hq:=Ad hq;clear hq
   go_wp2_with fail
   refine AB (Jm _ _ _ (Hq.out.kd (hx.alloc _).kd)) ?_;rintro r w2 hr hx2;replace ea:=ea.ext hx2.a1;replace hx:=hx.trans hx2.a1;clear hx2 q0 q1;obtain⟨b5,A5,n5,c5,rfl⟩:=hr.cells;have hkla:k < la.length:=by have:=Hlen.out;omega
   obtain⟨_,_,_,_,ca0,ca1,-⟩:=ea.at_ (j:=k) (by first | omega | (simp;omega));have fa0:=ea.frozen (k*2);have fa1:=ea.frozen (k*2+1);go_wp2;obtain⟨W3,eW,ea',U⟩:=ea.put (k:=k) (by first | omega | (simp;omega)) hr;rw[<-eW];clear eW ea;replace hx:=U.from_ hx Aj;have ea:=ea';clear U ea'
   go_roundw
   case rel=>exact⟨k+1,_,Aa,by go_num,ea,by simpa using Hlen.out,YE Hla.out hkl rfl rfl,hx⟩
   case measure=>simp[intOf];omega
  ·obtain rfl:k=l.length:=by omega
   replace ea:Cw wr w.heap.size 26 l:=by
    have:=Hla.out;rw[Nat.sub_self,List.replicate_zero,List.append_nil,List.take_of_length_le (Nat.le_refl _)]at this;rw[<-this];exact ea
   have hrow:=ea.row (Nat.le_refl _)
   go_wp2_with fail
   refine Calls.mono (EC w.heap.size _ _ l _ (Nat.le_refl _) Aa hrow) ?_;rintro e w2 ⟨rfl,rfl⟩;go_wp2
   go_ret
   exact Ag.mk ⟨rfl,ea⟩ hx
theorem LQ(v:Value)(l:List Int)(w:World)(hv:De 0 w v l)(hn:l.length<=1099511627776):Bc 84 #[v] w (fun r w'=>AC w.heap.size w' r (cz l)):=
 Ag.imp (Fv v l w hv hn) fun _ _ ⟨e,h⟩=>by subst e;exact h.isZP rfl (Nat.le_refl _) (Nat.le_refl _) Aa
theorem eG(v u:Value)(x y:Int)(w:World)(hv:Bq w v x)(hu:Bq w u y):Bc 137 #[v,u] w (fun r w'=>AP w' r (x - y)):=by
 have Hv:=Ad hv;obtain⟨neg,A,n,c,N,rfl,h1,h2,h3,hN,hx⟩:=hv.form;obtain⟨neg',A',n',c',M,rfl,k1,k2,k3,kN,hy⟩:=hu.form;have HN:=Ad kN;clear hN hv hu kN hx;have hs:sz M<=n':=HN.out.sz;have Hy:=Ad (show x+(if (!neg')=true then -(M:Int)else M)=x - y by rw[hy];cases neg'<;>simp<;>omega);clear hy
 go_enter Tryz.func137,Tryz.ntmps137
 go_wp2_with fail
 refine CP 7 [5,6,7,8,9,10,11] [2,3] [_,_] [(kv ?_),(kv ?_),(kv ?_),(kv ?_),(kv ?_),(kv ?_),(fun γ=>γ 6)] (fun γ w'=>[True,True,True,True,True,True,Bw w' (γ 6) M]) ?s1 ?_
 case s1 =>
  iterate 7 refine⟨?_,?_⟩
  trivial
  iterate 6 focus
   refine AY fun _ w' he R hR=>?_;have hc:=he.cells;go_simp;(try go_ints);(try(rw[if_neg Aa]));(try(rw[if_pos Aa]));(try go_simp);(try go_ints)
   exact Br hR
  ·refine AY fun _ w' he R hR=>?_
   go_simp;exact Bf (BN _ M n' w' (HN.out.ext he.a3)) hR
 intro γ w1 hx1 hF;have p6:Bw w1 (γ 6) M:=Ak.get hF 6 Ab;clear hF;simp only[Bg,Nat.reduceAdd];generalize γ 6=g6 at *;clear γ
 go_wp2_with fail
 refine AB (Yq _ _ (!neg') x M w1 (Hv.out.ext hx1.a3) p6 Aa) ?_;rintro r w2 hr hx2;rw[Hy.out]at hr;obtain⟨b,A2,n2,c2,rfl⟩:=hr.cells;replace hx1:=hx1.trans hx2;have hc1:=hx1.cells;have hf1:=hx1.frozens;have Hfin:=Ad (Ck hr hx1.a3 (AU.at_ hx1 (g:=w.heap.size+2) Ac (by simp[Af])) Aa);clear hr p6;go_wp2;refine bodyPost_ret (v := .agg #[.bool b,.slice A2 n2 c2]) (by simp[results,Tryz.results137,go_sem,hc1]) rfl ?_
 exact Hfin.out
theorem Yb(v u:Value)(x a:Int)(gb:Nat)(b:Bool)(A:Option Addr)(n c:Nat)(w:World)(hv:Bq w v x)(hu:Bq w u 0)(h0:w.cell? ⟨gb,0,none⟩=some (.bool b))(h1:w.cell? ⟨gb,1,none⟩=some (.slice A n c))(ha:Bq w (.agg #[.bool b,.slice A n c]) a) :
  Bc 146 #[v,u,.pointer (some ⟨gb,0,none⟩)] w (fun r w'=>AP w' r (x*a)):=by
 have HV:=Ad hv;have HA:=Ad ha;obtain⟨b1,A1,n1,c1,rfl⟩:=hv.cells;obtain⟨b2,A2,n2,c2,rfl⟩:=hu.cells;clear hv hu ha;have k0:=fun o o' o''=>((((Ext.refl w).alloc o).alloc o').alloc o'').cell h0;have k1:=fun o o' o''=>((((Ext.refl w).alloc o).alloc o').alloc o'').cell h1;clear h0 h1
 go_enter Tryz.func146,Tryz.ntmps146
 go_wp2_with fail
 refine AB (E8 _ _ x a _ (HV.out.ext ((((Ext.refl w).alloc _).alloc _).alloc _)) (HA.out.ext ((((Ext.refl w).alloc _).alloc _).alloc _))) ?_;rintro r w1 hr hx1;obtain⟨b5,A5,n5,c5,rfl⟩:=hr.cells;have hc1:=hx1.cells;have hf1:=hx1.frozens;have Hfin:=Ad (Ck hr hx1.a3 (AU.at_ hx1 (g:=w.heap.size+2) Ac (by simp[Af])) Aa);clear hr;go_wp2;refine bodyPost_ret (v := .agg #[.bool b5,.slice A5 n5 c5]) (by simp[results,Tryz.results146,go_sem,hc1]) rfl ?_
 exact Hfin.out
set_option maxRecDepth 20000 in
theorem QM(v:Value)(l:List Int)(a:Int)(gb:Nat)(bb0:Bool)(B0:Option Addr)(m0 d0:Nat)(w:World)(hv:De 0 w v l)(k0:w.cell? ⟨gb,0,none⟩=some (.bool bb0))(k1:w.cell? ⟨gb,1,none⟩=some (.slice B0 m0 d0))(ha:Bq w (.agg #[.bool bb0,.slice B0 m0 d0]) a)(hn:l.length<=1099511627776) :
  Bc 145 #[v,.slice none 0 0,.func (.func 146) #[] #[.pointer (some ⟨gb,0,none⟩)]] w (fun r w'=>AC w.heap.size w' r (psc (a:Rat) (cz l))):=by
 obtain⟨A,c,rfl,hl,hc,hA⟩:=hv;obtain⟨N,hN⟩:∃ N,N=l.length:=⟨_,rfl⟩
 obtain⟨W0,hmk,ea,hx⟩:=JE N (l.length:Int) Aa Aa w;have hlN:l.length<=N:=by omega
 have hN40:N<=1099511627776:=by omega
 have HN:=Ad hN;clear hN;have HA:Hid (GL 0 w A l):=Ad hA;clear hA;have HC:=Ad (Ai k0 (Ai k1 ha));clear k0 k1 ha;obtain⟨F,hF⟩:∃ F:Nat->Rat,F=psc (a:Rat) (cz l):=⟨_,rfl⟩
 rw[<-hF];have HZ:=Ad (show ZI F/\BA N F from⟨by rw[hF];exact(ZI.cz l).psc a,by rw[hF];exact((BG l).mono hlN).psc _⟩);have HF:=Ad hF;clear hF;have HL:=Ad (AX N F)
 go_enter Tryz.func145,Tryz.ntmps145
 go_wp2
 go_loopw [19] (fun iv wr=>∃ (k:Nat) (la:List Int),k<=N/\iv = .int .i64 k/\Cw wr w.heap.size 26 la/\la.length=N/\la=(DN N F).take k ++ List.replicate (N - k) 0/\Ext w wr) (fun iv _=>N - (intOf iv).toNat)
 case atStart=>exact⟨0,_,Nat.zero_le _,rfl,ea,Ac,Ac,hx⟩
 case round =>
  obtain⟨k,la,hk,rfl,ea,hlen,hla,hx⟩:=hrel;have Hla:=Ad hla;clear hla;have Hlen:=Ad hlen;clear hlen;have hbk:k < N\/k=N:=by omega
  rcases hbk with hkl | hkl
  ·have hk1:k < l.length:=by have:=HN.out;omega
   have hk2:¬ (k:Int) < 0:=by omega
   obtain⟨g,o,b,A1,n,c1,rfl,_,q0,q1,hq⟩:=HA.out.at_ (j:=k) hk1;replace q0:=fun o o'=>(((Ext.refl wr).alloc o).alloc o').cell (hx.cell q0);replace q1:=fun o o'=>(((Ext.refl wr).alloc o).alloc o').cell (hx.cell q1);have Hq:=Ad hq;clear hq
   go_wp2_with fail
   refine AB (Yb _ _ l[k] a gb bb0 B0 m0 d0 _ (Hq.out.ext ((hx.alloc _).alloc _)) (Bq.zero _) (((hx.alloc _).alloc _).cell HC.out.1) (((hx.alloc _).alloc _).cell HC.out.2.1) (HC.out.2.2.ext ((hx.alloc _).alloc _))) ?_;rintro r w2 hr hx2;replace ea:=ea.ext hx2.a2;replace hx:=hx.trans hx2.a2;clear hx2;obtain⟨b5,A5,n5,c5,rfl⟩:=hr.cells;have hkla:k < la.length:=by have:=Hlen.out;omega
   obtain⟨_,_,_,_,ca0,ca1,-⟩:=ea.at_ (j:=k) (by first | omega | (simp;omega));have fa0:=ea.frozen (k*2);have fa1:=ea.frozen (k*2+1);go_wp2;obtain⟨W3,eW,ea',U⟩:=ea.put (k:=k) (by first | omega | (simp;omega)) hr;rw[<-eW];clear eW ea;replace hx:=U.from_ hx Aj;have ea:=ea';clear U ea'
   go_roundw
   case rel=>exact⟨k+1,_,Aa,by go_num,ea,by simpa using Hlen.out,YE Hla.out hkl HL.out (by rw[Ch,HF.out];show _=((a:Rat)*cz l k).num;rw[Cn hk1,num_mul,Int.mul_comm]),hx⟩
   case measure=>simp[intOf];omega
  ·obtain rfl:N=k:=hkl.symm
   replace ea:Cw wr w.heap.size 26 (DN N F):=by
    have:=Hla.out;rw[Nat.sub_self,List.replicate_zero,List.append_nil,List.take_of_length_le (by rw[HL.out];omega)]at this;rw[<-this];exact ea
   have hrow:=ea.row (Nat.le_refl _);have hT:=EC w.heap.size (some ⟨w.heap.size,0,none⟩) N (DN N F) wr (by rw[HL.out];omega) Aa hrow;rw[HL.out]at hT;have Hrow:=Ad hrow;clear hrow
   go_wp2_with fail
   refine Calls.mono hT ?_;rintro e w2 ⟨rfl,rfl⟩;go_wp2
   go_ret
   exact Ag.mk (AC.of_trim (Mo.trim Hrow.out (by rw[HL.out];omega)) (EU HZ.out.1 HZ.out.2)) hx
theorem R7(v u:Value)(l:List Int)(a:Int)(w:World)(hv:De 0 w v l)(hu:Bq w u a)(hn:l.length<=1099511627776) :
  Bc 96 #[v,u] w (fun r w'=>AC w.heap.size w' r (psc (a:Rat) (cz l))):=by
 have HV:=Ad hv;have HU:=Ad hu;obtain⟨A,c,rfl⟩:=hv.len;obtain⟨b1,A1,n1,c1,rfl⟩:=hu.cells;clear hv hu;have hb:=Bh.new w 26 #[.bool b1,.slice A1 n1 c1] (by simp[Af]);have HB:=Ad hb.cells2;clear hb
 go_enter Tryz.func96,Tryz.ntmps96
 go_wp2_with fail
 refine AB (QM _ l a w.heap.size b1 A1 n1 c1 _ (HV.out.ext ((Ext.refl w).alloc _)) HB.out.1 HB.out.2 (HU.out.ext ((Ext.refl w).alloc _)) hn) ?_;rintro r w1 hr hx1;go_wp2
 go_ret
 exact Ag.mk (hr.base_le Ac) hx1.a1
theorem QH(v:Value)(base:Nat)(F:Nat->Rat)(w:World)(hv:AC base w v F)(h0:F≠pz):Bc 87 #[v] w (fun r w'=>AP w' r (ld F).num):=by
 have hp:=AZ hv.fin h0;obtain⟨A,c,l,rfl,k1,k2,hA,k3,k4,k5⟩:=hv.form;obtain⟨g,o,b,A1,n,c1,rfl,_,q0,q1,hq⟩:=hA.at_ (j:=pl F - 1) Aa;have hl:l[pl F - 1]'(by omega)=(ld F).num:=by
  have h1:=congrFun k5 (pl F - 1);rw[Cn (show pl F - 1 < l.length by omega)]at h1;show _=(F (pl F - 1)).num;rw[<-h1];rfl
 rw[hl]at hq;have Hq:=Ad hq;clear hq hA hl k4 k5 hv;have x0:=(Ext.refl w).alloc (.cells #[.bool false,.slice none 0 0] 26);replace q0:=x0.cell q0;replace q1:=x0.cell q1
 go_enter Tryz.func87,Tryz.ntmps87
 go_wp2;have ez:=Bh.new w 26 #[.bool b,.slice A1 n c1] (by simp[Af]);have x1:=(Ext.refl w).alloc (.cells #[.bool b,.slice A1 n c1] 26);have hz:=Hq.out.kd x1.kd;have cez:=ez.cells2;have fez:=ez.frozen;refine bodyPost_ret (v := .agg #[.bool b,.slice A1 n c1]) (by simp[results,Tryz.results87,go_sem,cez]) rfl ?_;exact Ag.mk hz x1
theorem Kg(v:Value)(l:List Int)(w:World)(hv:De 0 w v l)(hn:l.length<=1099511627776):Bc 94 #[v] w (fun r w'=>AP w' r (cn (cz l):Nat)):=by
 have hsz:=fun i=>Qn hv.sz Aa i;obtain⟨A,c,rfl,hl,hc,hA⟩:=hv;have HA:Hid (GL 0 w A l):=Ad hA;clear hA;have HS:=Ad hsz;clear hsz;rw[fK (BG l)]
 go_enter Tryz.func94,Tryz.ntmps94
 go_wp2
 go_loopw [8] (fun iv wr=>∃ k:Nat,k<=l.length/\iv = .int .i64 k/\Bh wr w.heap.size 26 #[.bool false,.slice none 0 0]/\Bp wr (w.heap.size+1) 26 (ct k (cz l):Nat)/\Ext w wr) (fun iv _=>l.length - (intOf iv).toNat)
 case atStart=>exact⟨0,Nat.zero_le _,rfl,(Bh.new w _ _ (by simp[Af])).alloc _,Bp.zero (by have:=Bh.new (w.alloc (.cells #[.bool false,.slice none 0 0] 26)) 26 #[.bool false,.slice none 0 0] (by simp[Af]);rw[World.size_alloc]at this;exact this),((Ext.refl w).alloc _).alloc _⟩
 case round =>
  obtain⟨k,hk,rfl,ea,⟨b,B,bn,bc,eb,hb⟩,hx⟩:=hrel;have Hb:=Ad hb;clear hb;by_cases hkl:k < l.length
  ·obtain⟨g,o,b1,A1,n,c1,rfl,_,q0,q1,hq⟩:=HA.out.at_ (j:=k) hkl
   replace q0:=hx.cell q0;replace q1:=hx.cell q1;have Hq:=Ad (hq.kd hx.kd);clear hq;have hsk:=G5 HS.out k;have HK:=Ad hsk;clear hsk;have xa:=fun o=>(Ext.refl wr).alloc o;have ceb:=eb.cells2;obtain⟨r0,r1⟩:=ceb;replace r0:=fun o=>(xa o).cell r0;replace r1:=fun o=>(xa o).cell r1;clear xa
   go_wp2_with fail
   refine AB (UV _ _ (ct k (cz l):Nat) l[k] _ ((Hb.out.kd ((Ext.refl _).alloc _).kd).has (by have:=HK.out;simp;omega)) (Hq.out.kd ((Ext.refl _).alloc _).kd)) ?_;rintro r w2 hr hx2;have e1:Int.gcd (ct k (cz l):Nat) l[k]=ct (k+1) (cz l):=by rw[Gx,Cn hkl];rfl
   rw[e1]at hr;obtain⟨b5,A5,n5,c5,rfl⟩:=hr.cells;replace ea:=ea.ext hx2.a1;replace eb:=eb.ext hx2.a1;replace hx:=hx.trans hx2.a1;clear hx2 q0 q1 r0 r1 e1 HK Hb Hq;obtain⟨ceb0,ceb1⟩:=eb.cells2;have feb:=eb.frozen;go_wp2;obtain⟨W3,eW,eb',U⟩:=eb.put2 (.bool b5) (.slice A5 n5 c5);rw[<-eW];clear eW eb;replace hr:=hr.kd U.kd;replace ea:=ea.upd U Aj;replace hx:=U.from_ hx Aj;have eb:=eb';clear U eb'
   go_roundw
   case rel=>exact⟨k+1,Aa,by go_num,ea,Bp.mk eb hr,hx⟩
   case measure=>simp[intOf];omega
  ·obtain rfl:k=l.length:=by omega
   have cea:=ea.cells2;have fea:=ea.frozen;obtain⟨ceb0,ceb1⟩:=eb.cells2;have feb:=eb.frozen;go_wp2;have hr:=Hb.out;obtain⟨W3,eW,ea',U⟩:=ea.put2 (.bool b) (.slice B bn bc);rw[<-eW];clear eW ea;replace hr:=hr.kd U.kd;replace hx:=U.from_ hx Aj;have ea:=ea';clear U ea';clear cea;have cea:=ea.cells2;have fea:=ea.frozen;refine bodyPost_ret (v := .agg #[.bool b,.slice B bn bc]) (by simp[results,Tryz.results94,go_sem,cea]) rfl ?_
   exact Ag.mk hr hx
set_option maxRecDepth 20000 in
theorem FJ(v:Value)(l:List Int)(w:World)(hv:De 0 w v l)(hn:l.length<=1099511627776):Bc 85 #[v] w (fun r w'=>AC w.heap.size w' r (pp (cz l))):=by
 have hsz:=fun i=>Qn hv.sz Aa i;have HV:=Ad hv;obtain⟨A0,c0,rfl⟩:=hv.len;have hfin:=Ae.cz l;have hzi:=ZI.cz l;have hpl:=Bj (BG l);obtain⟨F,hF⟩:∃ F,F=cz l:=⟨_,rfl⟩
 have hNorm:=LQ _ l w HV.out hn;rw[<-hF]at hsz hfin hzi hNorm hpl;rw[<-hF];have HX:=Ad (Ai hsz (Ai hfin hzi));clear hsz hfin hzi HV hv hF;have HN:=Ad hNorm;clear hNorm
 go_enter Tryz.func85,Tryz.ntmps85
 go_wp2_with fail
 refine AB HN.out ?_;rintro r1 w1 hr1 hx1;have Hr1:=Ad hr1;obtain⟨A,c,l1,rfl,k1,k2,hA,k3,k4,k5⟩:=hr1.form;obtain⟨l2,h21,h22,-,h24⟩:=hr1.hz HX.out.1;have H2:=Ad (Ai h21 (Ai h22 h24));clear h21 h22 h24;have HA:=Ad (Ai hA (Ai k3 k5));clear hr1 hA k3 k4 k5 HN;have hpl40:pl F<=1099511627776:=by omega
 go_wp2_with fail
 refine AB (Kg _ l2 _ H2.out.1 (by have:=H2.out.2.1;omega)) ?_;rintro r2 w2 hr2 hx2;rw[H2.out.2.2]at hr2;obtain⟨b5,A5,n5,c5,rfl⟩:=hr2.cells;have hs1:=hx1.size;have hs2:=hx2.size;obtain⟨W0,eW,eb,x0⟩:=Bh.made w2 26 #[.bool b5,.slice A5 n5 c5] (by simp[Af]);replace hr2:=hr2.kd x0.kd;replace hx2:=hx2.trans x0;by_cases hp:0 < pl F
 ·obtain⟨g,o,b,A1,n,c1,rfl,_,q0,q1,hq⟩:=HA.out.1.at_ (j:=pl F - 1) (by have:=HA.out.2.1;omega)
  have hbb:=hq.two.2;have hld:ld F=(l1[pl F - 1]'(by have:=HA.out.2.1;omega):Rat):=by rw[<-Cn,HA.out.2.2];rfl
  have hpc:pcn F=if b=true then -(cn F:Int)else cn F:=by
   unfold pcn;rw[hld,hbb];by_cases hneg:l1[pl F - 1]'(by have:=HA.out.2.1;omega) < 0
   ·rw[if_pos (by exact_mod_cast hneg),if_pos (by simpa using hneg)]
   ·rw[if_neg (fun h=>hneg (by exact_mod_cast h)),if_neg (by simpa using hneg)]
  have Hpc:=Ad hpc;clear hpc hld hbb hq q1;replace q0:=hx2.cell q0;subst eW;clear x0
  go_upto_if 22 with(fail)
  generalize w2.alloc (.cells #[.bool b5,.slice A5 n5 c5] 26)=W0 at *;generalize w2.heap.size=gb at *
  go_cut [] (fun wx=>Bp wx gb 26 (pcn F)/\Ext w1 wx)
  case first =>
   have ceb:=eb.cells2;have feb:=eb.frozen;cases b with
   | true =>
    have hcz:sz ((cn F:Nat):Int).natAbs<=1099511627776:=by have:=G5 HX.out.1 (pl F);simpa[cn] using this
    have Hr2:=Ad (hr2.has hcz);clear hcz hr2
    go_wp2_with fail
    refine AB (UE _ (cn F:Nat) _ Hr2.out) ?_;rintro r3 w3 hr3 hx3;obtain⟨b6,A6,n6,c6,rfl⟩:=hr3.cells;replace eb:=eb.ext hx3;replace hx2:=hx2.trans hx3;clear ceb feb hx3 q0;have ceb:=eb.cells2;have feb:=eb.frozen;go_wp2;obtain⟨W3,eW,eb',U⟩:=eb.put2 (.bool b6) (.slice A6 n6 c6);rw[<-eW];clear eW eb;replace hr3:=hr3.kd U.kd;replace hx2:=U.from_ hx2 Aj;have eb:=eb';clear U eb'
    go_meet
    case rel=>exact⟨by have:=Hpc.out;simp at this;rw[this];exact Bp.mk eb hr3,hx2⟩
   | false =>
    have Hr2:=Ad hr2;clear hr2;go_wp2
    go_meet
    case rel=>exact⟨by have:=Hpc.out;simp at this;rw[this];exact Bp.mk eb Hr2.out,hx2⟩
  case rest =>
   clear q0 eb hr2 hx2;obtain⟨⟨b,B,bn,bc,eb,hb⟩,hx2⟩:=hcut;have hbc:=eb.lt;have hsc:=hx2.size;have hf0:F≠pz:=fun e=>by rw[e,BH]at hp;omega
   have hppl:=Dq HX.out.2.2 HX.out.2.1;have HB:=Ad (Ai hb (Ai hf0 hppl));clear hb hf0 hppl;obtain⟨m,hm⟩:∃ m,m=DN (pl F) (pp F):=⟨_,rfl⟩
   have hml:m.length=pl F:=by rw[hm,AX]
   have HM:=Ad (Ai hm hml);clear hm hml;obtain⟨W0,hmk,ea,hxa⟩:=JE (pl F) (pl F:Int) rfl hpl40 wc;replace eb:=eb.ext hxa;replace hx2:=hx2.trans hxa;have HB':=Ad (HB.out.1.kd hxa.kd);generalize wc.heap.size=ga at *;go_wp2;clear hmk hxa
   go_loopw [30] (fun iv wr=>∃ (k:Nat) (la:List Int),k<=pl F/\iv = .int .i64 k/\Cw wr ga 26 la/\la.length=pl F/\la=m.take k ++ List.replicate (pl F - k) 0/\Bh wr gb 26 #[.bool b,.slice B bn bc]/\AP wr (.agg #[.bool b,.slice B bn bc]) (pcn F)/\Ext w1 wr) (fun iv _=>pl F - (intOf iv).toNat)
   case atStart=>exact⟨0,_,Nat.zero_le _,rfl,ea,Ac,Ac,eb,HB'.out,hx2⟩
   case round =>
    clear hx2 ea eb HB';obtain⟨k,la,hk,rfl,ea,hlen,hla,eb,hb,hx2⟩:=hrel;have Hla:=Ad hla;clear hla;have Hlen:=Ad hlen;clear hlen;by_cases hkl:k < pl F
    ·have hkl1:k < l1.length:=by have:=HA.out.2.1;omega
     obtain⟨g',o',b1,B1,n1,d1,hgo,_,q0,q1,hq⟩:=HA.out.1.at_ (j:=k) hkl1;simp only[Option.some.injEq,Addr.mk.injEq,and_true]at hgo;obtain⟨rfl,rfl⟩:=hgo;replace q0:=hx2.cell q0;replace q1:=hx2.cell q1;have hFk:F k=(l1[k]:Rat):=by rw[<-HA.out.2.2,Cn hkl1]
     have hqz:sz l1[k].natAbs<=1099511627776:=by have:=HX.out.1 k;rw[hFk,Bi]at this;omega
     have hdv:pcn F∣l1[k]:=by have:=Il HX.out.2.1 k;rw[hFk]at this;exact this
     have hpz:=ED HX.out.2.2 HX.out.2.1 HB.out.2.1;have hps:sz (pcn F).natAbs<=1099511627776:=by rw[Fh];exact G5 HX.out.1 (pl F)
     have hval:m[k]'(by rw[HM.out.2];exact hkl)=l1[k] / pcn F:=by
      simp only[HM.out.1,Ch];rw[Nl HX.out.2.2 HX.out.2.1 HB.out.2.1,hFk];rfl
     have Hq:=Ad (Ai ((hq.has hqz).kd hx2.kd) (Ai (hb.has hps) (Ai hdv (Ai hpz hval))));clear hq hqz hdv hpz hps hval hFk;have xa:=fun o=>(Ext.refl wr).alloc o;obtain⟨r0,r1⟩:=eb.cells2;replace r0:=fun o=>(xa o).cell r0;replace r1:=fun o=>(xa o).cell r1;have Hb:=Ad hb;clear xa hb
     go_wp2_with fail
     refine AB (II _ _ l1[k] (pcn F) _ (Hq.out.1.kd ((Ext.refl _).alloc _).kd) (Hq.out.2.1.kd ((Ext.refl _).alloc _).kd) Hq.out.2.2.2.1 Hq.out.2.2.1) ?_;rintro r w3 ⟨a,rfl,hr⟩ hx3;obtain⟨b6,A6,n6,c6,rfl⟩:=hr.cells;replace ea:=ea.ext hx3.a1;replace eb:=eb.ext hx3.a1;have Hb':=Ad (Hb.out.kd hx3.a1.kd);replace hx2:=hx2.trans hx3.a1;clear hx3 q0 q1 r0 r1 Hb;have hkla:k < la.length:=by have:=Hlen.out;omega
     obtain⟨_,_,_,_,ca0,ca1,-⟩:=ea.at_ (j:=k) (by first | omega | (simp;omega));have fa0:=ea.frozen (k*2);have fa1:=ea.frozen (k*2+1);go_wp2;have hb:=Hb'.out;obtain⟨W3,eW,ea',U⟩:=ea.put (k:=k) (by first | omega | (simp;omega)) hr;rw[<-eW];clear eW ea;replace hb:=hb.kd U.kd;replace eb:=eb.upd U Aj;replace hx2:=U.from_ hx2 Aj;have ea:=ea';clear U ea'
     go_roundw
     case rel=>exact⟨k+1,_,Aa,by go_num,ea,by simpa using Hlen.out,YE Hla.out hkl HM.out.2 Hq.out.2.2.2.2.symm,eb,hb,hx2⟩
     case measure=>simp[intOf];omega
    ·obtain rfl:k=pl F:=by omega
     have hla:=Hla.out;rw[Nat.sub_self,List.replicate_zero,List.append_nil,List.take_of_length_le (by rw[HM.out.2];exact Nat.le_refl _),HM.out.1]at hla;have hw:AC w.heap.size wr (.slice (some ⟨ga,0,none⟩) (pl F) (pl F)) (pp F):=by
      have h1:=Cw.whole (base:=w.heap.size) (G:=pp F) (c:=pl F) (by rw[HB.out.2.2,<-hla];exact ea) (IY HX.out.2.2 HX.out.2.1) (Dl HX.out.2.1) Aa (by rw[HB.out.2.2];exact Nat.le_refl _) Aa;rw[HB.out.2.2]at h1;exact h1
     have Hw:=Ad hw;clear hw hla;go_wp2
     go_ret
     exact Ag.mk Hw.out (hx1.trans hx2)
 ·have hp0:pl F=0:=by omega
  have hpz:=(Bt HX.out.2.1).1 hp0;have Hz:=Ad (Ai hpz hp0);clear hpz;have hb:decide ((0:Int) < (pl F:Int))=false:=by simp;omega
  obtain⟨W1,hmk,ea,hxa⟩:=JE (pl F) (pl F:Int) rfl hpl40 W0;subst eW;clear x0 hp0;go_wp2;clear hmk
  go_loopw [30] (fun iv wr=>iv = .int .i64 0/\Ext w1 wr) (fun iv _=>0)
  case atStart=>exact⟨rfl,hx2.trans hxa⟩
  case round =>
   clear hx2;obtain⟨rfl,hx2⟩:=hrel;have hb2:¬ (0:Int) < (pl F:Int):=by omega
   go_wp2
   go_ret
   rw[Hz.out.1,I4,BH];exact Ag.mk (AC.empty _ _ _ _ Aa) (hx1.trans hx2)
set_option maxRecDepth 40000 in
theorem iY(v u:Value)(l m:List Int)(s t:Nat)(w:World)(hv:De 0 w v l)(hu:De 0 w u m)(hs:∀ i,qsz (cz l i)<=s)(ht:∀ i,qsz (cz m i)<=t)(hn:l.length<=549755813888)(hm:m.length<=549755813888)(h0:cz m≠pz)(hst:s+(l.length+1)*(t+1)+t<=1099511627776) :
  Bc 95 #[v,u] w ((dM w.heap.size (Gl (cz l) (cz m) (pl (cz l)+1 - pl (cz m))) (Dj (cz l) (cz m) (pl (cz l)+1 - pl (cz m))))):=by
 have HV:=Ad hv;have HU:=Ad hu;obtain⟨A0,c0,rfl⟩:=hv.len;obtain⟨A1,c1,rfl⟩:=hu.len;clear hv hu;have hN1:=Fv _ l w HV.out Aa;rw[I1]at hN1;have hN2:=fun W (x:Ext w W)=>Fv _ m W (HU.out.ext x) Aa;simp only[I1]at hN2;have hc1:=Bj (BG l);have hc2:=Bj (BG m);have hfF:=Ae.cz l;have hzF:=ZI.cz l;have hfG:=Ae.cz m;have hzG:=ZI.cz m;have hL:=AZ hfG h0;have ht1:=KF l;have ht2:=KF m;obtain⟨F,hF⟩:∃ F,F=cz l:=⟨_,rfl⟩
 obtain⟨G,hG⟩:∃ G,G=cz m:=⟨_,rfl⟩
 rw[<-hF]at hN1 hs hc1 hfF hzF ht1;rw[<-hG]at hc2 hfG hzG hL ht h0 ht2;simp only[<-hG]at hN2;rw[<-hF,<-hG];obtain⟨P,hP⟩:∃ P,P=pl F:=⟨_,rfl⟩
 obtain⟨L,hLe⟩:∃ L,L=pl G:=⟨_,rfl⟩
 obtain⟨K,hK⟩:∃ K,K=pl F+1 - pl G:=⟨_,rfl⟩
 have HB:=Ad (show(∀ k i,k<=K->sz (Dj F G k i).num.natAbs<=1099511627776)/\(∀ k i,k<=K->sz (psc (ld G) (Dj F G k) i).num.natAbs<=1099511627776)/\(∀ k i j,k<=K->sz ((Dj F G k i).num*(G j).num).natAbs<=1099511627776)/\(∀ k i,k<=K->pl G<=pl F->sz (Gl F G k i).num.natAbs<=1099511627776)/\sz (ld G).num.natAbs<=1099511627776/\(∀ j,sz (G j).num.natAbs<=1099511627776) by
  have key:∀ k,k<=K->k*(t+1)<=(l.length+1)*(t+1):=fun k hk=>Nat.mul_le_mul_right _ Aa;have g1:∀ j,sz (G j).num.natAbs<=t:=fun j=>Nat.le_trans (F6 _) (ht j);have g2:sz (ld G).num.natAbs<=t:=g1 _;refine⟨fun k i hk=>?_,fun k i hk=>?_,fun k i j hk=>?_,fun k i hk hle=>?_,Aa,fun j=>by have:=g1 j;omega⟩
  ·have a1:=Gz hzF hzG hs ht k i;have a2:=F6 (Dj F G k i);have a3:=key k hk;omega
  ·have a1:=Gz hzF hzG hs ht k i;have a2:=F6 (Dj F G k i);have a3:=key k hk
   rw[Qh (Fe hzF hzG k) hzG];have a4:=FK a2 g2;omega
  ·have a1:=Gz hzF hzG hs ht k i;have a2:=F6 (Dj F G k i);have a3:=key k hk
   have a4:=FK a2 (g1 j);omega
  ·have a1:=UY hzF hzG hs ht hle k Aa i;have a2:=F6 (Gl F G k i);have a3:=key k hk;omega)
 have HX:=Ad (Ai hfF (Ai hzF (Ai hfG (Ai hzG (Ai h0 (Ai hF hG))))));have HP:=Ad (Ai hP (Ai hLe hK));rw[<-hP]at hc1 hN1 ht1;rw[<-hLe]at hc2 hL ht2;simp only[<-hLe]at hN2;have HN1:=Ad hN1;have HN2:=Ad hN2;have HT:=Ad (Ai ht1 ht2);have hKe:K=P+1 - L:=by rw[hP,hLe];exact hK
 clear hs ht hst hfF hzF hfG hzG h0 hF hG hP hLe hK ht1 ht2 hN1 hN2;rw[<-HP.out.2.2];have hb1:((L:Int)==0)=false:=by simpa using(show L≠0 by omega)
 go_enter Tryz.func95,Tryz.ntmps95
 go_wp2_with fail
 refine AB HN1.out ?_;rintro r1 w1 ⟨rfl,er⟩ hx;have hg1:=er.lt
 go_wp2_with fail
 refine AB (HN2.out w1 hx) ?_;rintro r2 w2 ⟨rfl,eg⟩ hx2;have hg2:=eg.lt;replace er:=er.ext hx2;replace hx:=hx.trans hx2;clear hx2;by_cases hlt:P < L
 ·have hK0:K=0:=by omega
  have Hr:=Ad (show AC w.heap.size w2 (.slice (some ⟨w.heap.size,0,none⟩) P l.length) F by
   have h1:=er.isZP (F:=F) HX.out.2.2.2.2.2.1.symm (Nat.le_refl _) (c:=l.length) (Nat.le_refl _) Aa;rw[I1,<-HX.out.2.2.2.2.2.1,<-HP.out.1]at h1;exact h1)
  have hb2:decide ((P:Int) < L)=true:=by simpa using hlt
  clear er eg hKe;go_wp2
  go_ret3
  rw[hK0];exact Ag.mk ⟨_,_,rfl,AC.nil _ _,Hr.out⟩ hx
 ·have hb2:decide ((P:Int) < L)=false:=by simpa using hlt
  have hK1:P+1=K+L:=by omega
  have hKp:0 < K:=by omega
  have HK:=Ad hK1;replace er:=er.pre P;rw[HT.out.1]at er;replace eg:=eg.pre L;rw[HT.out.2]at eg;obtain⟨W0,hmk,eq,hxq⟩:=JE K ((P:Int) - L+1) Aa Aa w2;replace er:=er.ext hxq;replace eg:=eg.ext hxq;replace hx:=hx.trans hxq;have hg3:=eq.lt;rw[<-Vm]at eq;have hK40:K<=1099511627776:=by omega
  clear hK1 hKe;generalize hgG:w1.heap.size=gG at *;generalize hgq:w2.heap.size=gq at *;go_wp2;clear hmk hxq
  go_loopw [7] (fun iv wr=>∃ k:Nat,k<=K/\iv = .int .i64 ((K:Int) - 1 - k)/\Cw wr w.heap.size 26 (DN P (Dj F G k))/\Cw wr gq 26 (DN K (Gl F G k))/\Cw wr gG 26 (DN L G)/\Ext w wr) (fun iv _=>(intOf iv+1).toNat)
  case atStart=>exact⟨0,Nat.zero_le _,by go_num,er,eq,eg,hx⟩
  case round =>
   clear er eq eg hx;obtain⟨k,hk,rfl,er,eq,eg,hx⟩:=hrel;by_cases hkl:k < K
   ·obtain⟨i,hi⟩:∃ i,i=K - 1 - k:=⟨_,rfl⟩
    have hii:(K:Int) - 1 - k=(i:Int):=by omega
    rw[hii];have hik:i < K:=by omega
    have HI:=Ad (show i=pl F - pl G - k/\i+L - 1=pl F - 1 - k/\(i:Int) - 1=(K:Int) - 1 - (k+1:Nat)/\i+L<=P/\i+k < pl F+1 - pl G/\pl G<=pl F by
     have h1:=HK.out;have h2:=HP.out.1;have h3:=HP.out.2.1;refine⟨?_,?_,?_,?_,?_,?_⟩<;>omega)
    clear hi hii;have hiL:i+L - 1 < P:=by have:=HI.out.2.2.2.1;omega
    obtain⟨z0,Z0,zn0,zc0,cr0,cr1,hzc⟩:=er.at_ (j:=i+L - 1) (by rw[AX];exact hiL);rw[Ch]at hzc;have hgc:=eq.lt;have hLP:((i:Int)+L - 1).toNat=i+L - 1:=by omega
    go_wp2_with fail
    obtain⟨W8,eW8,e8,x8⟩:=Bh.made wr 26 #[.bool z0,.slice Z0 zn0 zc0] (by simp[Af]);rw[<-eW8];clear eW8 cr0 cr1 hLP;have ec:=Bp.mk e8 (hzc.kd x8.kd);replace er:=er.ext x8;replace eq:=eq.ext x8;replace eg:=eg.ext x8;replace hx:=hx.trans x8;clear x8;clear hzc e8;generalize wr.heap.size=gc at *;generalize hcv:(Dj F G k (i+L - 1)).num=cv at *;have HC:=Ad (show cv=(Dj F G k (pl F - 1 - k)).num/\sz cv.natAbs<=1099511627776/\∀ j,sz (cv*(G j).num).natAbs<=1099511627776 by
     subst hcv;exact⟨by rw[HI.out.2.1],HB.out.1 _ _ hk,fun j=>HB.out.2.2.1 _ _ j hk⟩)
    clear hcv hiL
    go_loopw [50] (fun jv wx=>∃ j:Nat,j<=P/\jv = .int .i64 j/\Cw wx w.heap.size 26 (DN P (mx j (psc (ld G) (Dj F G k)) (Dj F G k)))/\Cw wx gq 26 (DN K (Gl F G k))/\Cw wx gG 26 (DN L G)/\Bp wx gc 26 cv/\Ext w wx) (fun jv _=>P - (intOf jv).toNat)
    case atStart=>exact⟨0,Nat.zero_le _,rfl,by rw[UJ];exact er,eq,eg,ec,hx⟩
    case round =>
     clear er eq eg ec hx;obtain⟨j,hj,rfl,er,eq,eg,ec,hx⟩:=hrel;by_cases hjl:j < P
     ·obtain⟨z1,Z1,zn1,zc1,ca0,ca1,hz⟩:=er.at_ (j:=j) (by rw[AX];exact hjl)
      rw[Ch,Yt]at hz;have Hz:=Ad (Ai hz (show AC w.heap.size _ (.slice (some ⟨gG,0,none⟩) L m.length) G by
       have h1:=eg;have h2:=HP.out.2.1;rw[h2]at h1;rw[h2];exact h1.whole HX.out.2.2.2.1 HX.out.2.2.1 Aa Aa Aa))
      clear hz
      go_wp2_with fail
      refine CP 9 [53,54,55,56,57,58,59,60,61] [5,9,1] [_,_,_] [(kv ?_),(kv ?_),(kv ?_),(kv ?_),(kv ?_),(kv ?_),(kv ?_),(fun γ=>γ 7),(fun γ=>γ 8)] (fun γ w'=>[True,True,True,True,True,True,True,AP w' (γ 7) (ld G).num,AP w' (γ 8) ((Dj F G k j).num*(ld G).num)]) ?s1 ?_
      case s1 =>
       iterate 9 refine⟨?_,?_⟩
       trivial
       iterate 7 focus
        refine AY fun _ w' he R hR=>?_;have hc:=he.cells;have cq0:=he.cell ca0;have cq1:=he.cell ca1;go_simp;(try go_ints);(try(rw[if_neg Aa]));(try(rw[if_pos Aa]));(try go_simp);(try go_ints)
        exact Br hR
       ·refine AY fun _ w' he R hR=>?_
        go_simp;exact Bf (QH _ w.heap.size G w' (Hz.out.2.ext he) HX.out.2.2.2.2.1) hR
       ·refine EF fun γ w' he hf R hR=>?_;have f7:AP w' (γ 7) (ld G).num:=hf 7 Ab;clear hf
        go_simp;exact Bf (E8 _ _ _ _ w' ((Hz.out.1.kd he.kd).has (HB.out.1 _ _ hk)) (f7.has HB.out.2.2.2.2.1)) hR
      intro γ w6 hx6 hF;have p7:AP w6 (γ 7) (ld G).num:=Ak.get hF 7 Ab;have p8:AP w6 (γ 8) ((Dj F G k j).num*(ld G).num):=Ak.get hF 8 Ab;clear hF;simp only[Bg,Nat.reduceAdd];generalize γ 7=g7 at *;generalize γ 8=g8 at *;clear γ;clear p7 Hz ca0 ca1;replace er:=er.ext hx6;replace eq:=eq.ext hx6;replace eg:=eg.ext hx6;replace ec:=ec.ext hx6;replace hx:=hx.trans hx6;clear hx6;obtain⟨b5,A5,n5,c5,rfl⟩:=p8.cells
      have hkf:j < (DN P (mx j (psc (ld G) (Dj F G k)) (Dj F G k))).length:=by rw[AX];exact hjl
      have Hkf:=Ad hkf;obtain⟨_,_,_,_,ca0,ca1,-⟩:=er.at_ (j:=j) (by first | omega | (simp;omega));have fa0:=er.frozen (j*2);have fa1:=er.frozen (j*2+1);clear hkf;go_wp2;have hkf:=Hkf.out;obtain⟨W7,eW,er',U⟩:=er.put (k:=j) (by first | omega | (simp;omega)) p8;rw[<-eW];clear eW er;replace eq:=eq.upd U Aj;replace eg:=eg.upd U Aj;replace ec:=ec.upd U Aj;replace hx:=U.from_ hx Aj;have er:=er';clear U er'
      go_roundw
      case rel=>exact⟨j+1,Aa,by go_num,by
       rw[<-Qh (Fe HX.out.2.1 HX.out.2.2.2.1 k) HX.out.2.2.2.1,Uk]at er;exact er,eq,eg,ec,hx⟩
      case measure=>simp[intOf];omega
     ·obtain rfl:P=j:=by omega
      rw[XK (Nat.le_refl _)]at er;go_wp2
      go_loopw [66] (fun jv wx=>∃ j:Nat,j<=K/\jv = .int .i64 j/\Cw wx w.heap.size 26 (DN P (psc (ld G) (Dj F G k)))/\Cw wx gq 26 (DN K (mx j (psc (ld G) (Gl F G k)) (Gl F G k)))/\Cw wx gG 26 (DN L G)/\Bp wx gc 26 cv/\Ext w wx) (fun jv _=>K - (intOf jv).toNat)
      case atStart=>exact⟨0,Nat.zero_le _,rfl,er,by rw[UJ];exact eq,eg,ec,hx⟩
      case round =>
       clear er eq eg ec hx hjl hj;obtain⟨j,hj,rfl,er,eq,eg,ec,hx⟩:=hrel;by_cases hjl:j < K
       ·obtain⟨z1,Z1,zn1,zc1,ca0,ca1,hz⟩:=eq.at_ (j:=j) (by rw[AX];exact hjl)
        rw[Ch,Yt]at hz;have Hz:=Ad (Ai hz (show AC w.heap.size _ (.slice (some ⟨gG,0,none⟩) L m.length) G by
         have h1:=eg;have h2:=HP.out.2.1;rw[h2]at h1;rw[h2];exact h1.whole HX.out.2.2.2.1 HX.out.2.2.1 Aa Aa Aa))
        clear hz
        go_wp2_with fail
        refine CP 9 [69,70,71,72,73,74,75,76,77] [4,10,1] [_,_,_] [(kv ?_),(kv ?_),(kv ?_),(kv ?_),(kv ?_),(kv ?_),(kv ?_),(fun γ=>γ 7),(fun γ=>γ 8)] (fun γ w'=>[True,True,True,True,True,True,True,AP w' (γ 7) (ld G).num,AP w' (γ 8) ((Gl F G k j).num*(ld G).num)]) ?s2 ?_
        case s2 =>
         iterate 9 refine⟨?_,?_⟩
         trivial
         iterate 7 focus
          refine AY fun _ w' he R hR=>?_;have hc:=he.cells;have cq0:=he.cell ca0;have cq1:=he.cell ca1;go_simp;(try go_ints);(try(rw[if_neg Aa]));(try(rw[if_pos Aa]));(try go_simp);(try go_ints)
          exact Br hR
         ·refine AY fun _ w' he R hR=>?_
          go_simp;exact Bf (QH _ w.heap.size G w' (Hz.out.2.ext he) HX.out.2.2.2.2.1) hR
         ·refine EF fun γ w' he hf R hR=>?_;have f7:AP w' (γ 7) (ld G).num:=hf 7 Ab;clear hf
          go_simp;exact Bf (E8 _ _ _ _ w' ((Hz.out.1.kd he.kd).has (HB.out.2.2.2.1 _ _ hk HI.out.2.2.2.2.2)) (f7.has HB.out.2.2.2.2.1)) hR
        intro γ w6 hx6 hF;have p7:AP w6 (γ 7) (ld G).num:=Ak.get hF 7 Ab;have p8:AP w6 (γ 8) ((Gl F G k j).num*(ld G).num):=Ak.get hF 8 Ab;clear hF;simp only[Bg,Nat.reduceAdd];generalize γ 7=g7 at *;generalize γ 8=g8 at *;clear γ;clear p7 Hz ca0 ca1;replace er:=er.ext hx6;replace eq:=eq.ext hx6;replace eg:=eg.ext hx6;replace ec:=ec.ext hx6;replace hx:=hx.trans hx6;clear hx6;obtain⟨b5,A5,n5,c5,rfl⟩:=p8.cells
        have hkf:j < (DN K (mx j (psc (ld G) (Gl F G k)) (Gl F G k))).length:=by rw[AX];exact hjl
        have Hkf:=Ad hkf;obtain⟨_,_,_,_,ca0,ca1,-⟩:=eq.at_ (j:=j) (by first | omega | (simp;omega));have fa0:=eq.frozen (j*2);have fa1:=eq.frozen (j*2+1);clear hkf;go_wp2;have hkf:=Hkf.out;obtain⟨W7,eW,eq',U⟩:=eq.put (k:=j) (by first | omega | (simp;omega)) p8;rw[<-eW];clear eW eq;replace er:=er.upd U Aj;replace eg:=eg.upd U Aj;replace ec:=ec.upd U Aj;replace hx:=U.from_ hx Aj;have eq:=eq';clear U eq'
        go_roundw
        case rel=>exact⟨j+1,Aa,by go_num,er,by
         rw[<-Qh (Uj HX.out.2.1 HX.out.2.2.2.1 k) HX.out.2.2.2.1,Uk]at eq;exact eq,eg,ec,hx⟩
        case measure=>simp[intOf];omega
       ·obtain rfl:K=j:=by omega
        rw[XK (Nat.le_refl _)]at eq;obtain⟨b,B,bn,bc,e8,hb⟩:=ec;have Hb:=Ad hb;clear hb;have ce8:=e8.cells2;have fe8:=e8.frozen
        go_wp2_with fail
        refine AB (Jm _ _ _ (Hb.out.has HC.out.2.1)) ?_;rintro r w3 hr hx3;have hb:=Hb.out.kd hx3.kd;clear ce8 fe8 Hb;replace er:=er.ext hx3;replace eq:=eq.ext hx3;replace eg:=eg.ext hx3;replace e8:=e8.ext hx3;replace hx:=hx.trans hx3;clear hx3;obtain⟨b5,A5,n5,c5,rfl⟩:=hr.cells;have hkf:i < (DN K (psc (ld G) (Gl F G k))).length:=by rw[AX];exact hik
        have Hkf:=Ad hkf;have Hb:=Ad hb;clear hb;obtain⟨_,_,_,_,ca0,ca1,-⟩:=eq.at_ (j:=i) (by first | omega | (simp;omega));have fa0:=eq.frozen (i*2);have fa1:=eq.frozen (i*2+1);clear hkf;go_wp2;have hkf:=Hkf.out;have hb:=Hb.out;obtain⟨W7,eW,eq',U⟩:=eq.put (k:=i) (by first | omega | (simp;omega)) hr;rw[<-eW];clear eW eq;replace hb:=hb.kd U.kd;replace er:=er.upd U Aj;replace eg:=eg.upd U Aj;replace e8:=e8.upd U Aj
        replace hx:=U.from_ hx Aj;have eq:=eq';clear U eq';rw[QJ (G:=Gl F G (k+1)) (fun n=>by rw[Yc HI.out.1 ((Jr HI.out.2.2.2.2.2 k (by have:=HI.out.2.2.2.2.1;omega)).2 i HI.out.2.2.2.2.1),HC.out.1])]at eq;have ec:=Bp.mk e8 hb;clear e8 hb Hb Hkf hkf
        go_loopw [87] (fun jv wx=>∃ j:Nat,j<=L/\jv = .int .i64 j/\Cw wx w.heap.size 26 (DN P (mx (i+j) (Dj F G (k+1)) (psc (ld G) (Dj F G k))))/\Cw wx gq 26 (DN K (Gl F G (k+1)))/\Cw wx gG 26 (DN L G)/\Bp wx gc 26 cv/\Ext w wx) (fun jv _=>L - (intOf jv).toNat)
        case atStart=>exact⟨0,Nat.zero_le _,rfl,by rw[Nat.add_zero,aW (fun n hn=>ZL HI.out.1 hn)];exact er,eq,eg,ec,hx⟩
        case round =>
         clear er eq eg ec hx hj hjl;obtain⟨j,hj,rfl,er,eq,eg,ec,hx⟩:=hrel;by_cases hjl:j < L
         ·obtain⟨y1,Y1,yn1,yc1,q0,q1,hy⟩:=eg.at_ (j:=j) (by rw[AX];exact hjl)
          rw[Ch]at hy;have Hy:=Ad hy;clear hy;have hne:=ec.lt;have hne2:=eq.lt
          go_wp2_with fail
          obtain⟨W10,eW10,e10,x10⟩:=Bh.made wr 26 #[.bool y1,.slice Y1 yn1 yc1] (by simp[Af]);rw[<-eW10];clear eW10 q0 q1;have hy:=Hy.out.kd x10.kd;replace er:=er.ext x10;replace eq:=eq.ext x10;replace eg:=eg.ext x10;replace ec:=ec.ext x10;replace hx:=hx.trans x10;clear x10;obtain⟨b,B,bn,bc,e8,hb⟩:=ec;have hij:i+j < P:=by have:=HI.out.2.2.2.1;omega
          obtain⟨z1,Z1,zn1,zc1,ca0,ca1,hz⟩:=er.at_ (j:=i+j) (by rw[AX];exact hij);rw[Ch,Yt]at hz;have Hz:=Ad (Ai hz (Ai hb hy));clear hz hb hy Hy;have ce8:=e8.cells2;have fe8:=e8.frozen;have ce10:=e10.cells2;have fe10:=e10.frozen
          go_wp2_with fail
          refine CP 14 [92,93,94,95,96,97,98,99,100,101,102,103,104,105] [5,7,11,8,12] [_,_,_,_,_] [(kv ?_),(kv ?_),(kv ?_),(kv ?_),(kv ?_),(kv ?_),(kv ?_),(kv ?_),(kv ?_),(kv ?_),(kv ?_),(kv ?_),(fun γ=>γ 12),(fun γ=>γ 13)] (fun γ w'=>[True,True,True,True,True,True,True,True,True,True,True,True,AP w' (γ 12) (cv*(G j).num),AP w' (γ 13) ((psc (ld G) (Dj F G k) (i+j)).num - cv*(G j).num)]) ?s3 ?_
          case s3 =>
           iterate 14 refine⟨?_,?_⟩
           trivial
           iterate 12 focus
            refine AY fun _ w' he R hR=>?_;have hc:=he.cells;have cq0:=he.cell ca0;have cq1:=he.cell ca1;have cq2:=(e8.ext he).cells2;have cq3:=(e10.ext he).cells2;go_simp;(try go_ints);(try(rw[if_neg Aa]));(try(rw[if_pos Aa]));(try go_simp);(try go_ints)
            exact Br hR
           ·refine AY fun _ w' he R hR=>?_
            go_simp;exact Bf (E8 _ _ _ _ w' ((Hz.out.2.1.kd he.kd).has HC.out.2.1) ((Hz.out.2.2.kd he.kd).has (HB.out.2.2.2.2.2 _))) hR
           ·refine EF fun γ w' he hf R hR=>?_;have f12:AP w' (γ 12) (cv*(G j).num):=hf 12 Ab;clear hf
            go_simp;exact Bf (eG _ _ _ _ w' ((Hz.out.1.kd he.kd).has (HB.out.2.1 _ _ hk)) (f12.has (HC.out.2.2 j))) hR
          intro γ w6 hx6 hF;have p12:AP w6 (γ 12) (cv*(G j).num):=Ak.get hF 12 Ab;have p13:AP w6 (γ 13) ((psc (ld G) (Dj F G k) (i+j)).num - cv*(G j).num):=Ak.get hF 13 Ab;clear hF;simp only[Bg,Nat.reduceAdd];generalize γ 12=g12 at *;generalize γ 13=g13 at *;clear γ;have hb:=Hz.out.2.1.kd hx6.kd;clear p12 Hz ca0 ca1 ce8 fe8 ce10 fe10 e10;replace er:=er.ext hx6;replace eq:=eq.ext hx6;replace eg:=eg.ext hx6
          replace e8:=e8.ext hx6;replace hx:=hx.trans hx6;clear hx6;obtain⟨b5,A5,n5,c5,rfl⟩:=p13.cells;have hkf:i+j < (DN P (mx (i+j) (Dj F G (k+1)) (psc (ld G) (Dj F G k)))).length:=by rw[AX];exact hij
          have Hkf:=Ad hkf;have Hb:=Ad hb;clear hb;obtain⟨_,_,_,_,ca0,ca1,-⟩:=er.at_ (j:=i+j) (by first | omega | (simp;omega));have fa0:=er.frozen ((i+j)*2);have fa1:=er.frozen ((i+j)*2+1);clear hkf;go_wp2;have hkf:=Hkf.out;have hb:=Hb.out;obtain⟨W9,eW,er',U⟩:=er.put (k:=i+j) (by first | omega | (simp;omega)) p13;rw[<-eW];clear eW er;replace hb:=hb.kd U.kd;replace eq:=eq.upd U Aj;replace eg:=eg.upd U Aj
          replace e8:=e8.upd U Aj;replace hx:=U.from_ hx Aj;have er:=er';clear U er'
          go_roundw
          case rel=>exact⟨j+1,Aa,by go_num,by
           rw[HC.out.1,<-YF HX.out.2.1 HX.out.2.2.2.1 HI.out.1,Uk]at er;exact er,eq,eg,Bp.mk e8 hb,hx⟩
          case measure=>simp[intOf];omega
         ·obtain rfl:L=j:=by omega
          rw[bW (fun n hn=>Yz HX.out.2.2.1 HI.out.1 (by rw[<-HP.out.2.1];exact hn))]at er;go_wp2
          go_roundw
          case rel =>
           have hi1:=HI.out.2.2.1;exact⟨k+1,Aa,by rw[<-hi1],er,eq,eg,hx⟩
          case measure=>simp[intOf]
   ·obtain rfl:K=k:=by omega
    have hm1:(K:Int) - 1 - K = -1:=by omega
    rw[hm1];have hT1:=EC w.heap.size (some ⟨gq,0,none⟩) K (DN K (Gl F G K)) wr (by rw[AX];exact Nat.le_refl _) Aa (eq.row Aa);have hT2:=EC w.heap.size (some ⟨w.heap.size,0,none⟩) l.length (DN P (Dj F G K)) wr (by rw[AX];exact hc1) Aa (er.row (Nat.le_refl _));rw[AX]at hT1 hT2;have HE:=Ad (Ai (eq.row (base:=w.heap.size) Aa) (er.row (Nat.le_refl _)));clear er eq eg hm1
    go_wp2_with fail
    refine Calls.mono hT1 ?_;rintro e w3 ⟨rfl,rfl⟩
    go_wp2_with fail
    refine Calls.mono hT2 ?_;rintro e w3 ⟨rfl,rfl⟩;go_wp2
    go_ret3
    have hPG:pl G<=pl F:=by have:=HP.out;omega
    exact Ag.mk ⟨_,_,rfl,AC.of_trim (Mo.trim HE.out.1 (by rw[AX];exact Nat.le_refl _) Aa) (EU (Uj HX.out.2.1 HX.out.2.2.2.1 _) (by have h1:=(Jr hPG K (by rw[HP.out.2.2];exact Nat.le_refl _)).1;rw[<-HP.out.2.2]at h1;exact h1)),AC.of_trim (Mo.trim HE.out.2 (by rw[AX];exact hc1) Aa) (EU (Fe HX.out.2.1 HX.out.2.2.2.1 _) (by have h1:=KO HX.out.1 HX.out.2.2.1 HX.out.2.2.2.2.1 K (by rw[HP.out.2.2];exact Nat.le_refl _);exact h1.mono (by rw[<-HP.out.1];omega)))⟩ hx
theorem Xw(v u:Value)(x y:Int)(w:World)(hv:Bq w v x)(hu:Bq w u y)(h0:y≠0)(hd:¬ y∣x):Bc 86 #[v,u] w (fun r w'=>FE w' r 0 6):=by
 have Hv:=Ad hv;have Hu:=Ad hu;obtain⟨neg,A,n,c,N,rfl,h1,h2,h3,hN,hx⟩:=hv.form;obtain⟨neg',A',n',c',M,rfl,k1,k2,k3,kN,hy⟩:=hu.form;clear hN hx hv hu kN hy;have hz:x % y≠0:=fun e=>hd (Int.dvd_of_emod_eq_zero e);have hp:0 < sz (x % y).natAbs:=Nat.pos_of_ne_zero fun e=>hz (by have:=(F5 (n:=(x % y).natAbs) (k:=0)).1 Aa;rw[JH]at this;omega);have H0:=Ad (Ai h0 hp);clear h0 hd hz hp
 go_enter Tryz.func86,Tryz.ntmps86
 go_wp2_with fail
 refine AB (KJ _ _ x y _ (Hv.out.ext ((((Ext.refl w).alloc _).alloc _).alloc _)) (Hu.out.ext ((((Ext.refl w).alloc _).alloc _).alloc _))) ?_;rintro r w1 ⟨q,m,rfl,hq,hm⟩ hx1;rw[if_neg H0.out.1]at hm;rw[if_neg H0.out.1];obtain⟨b,A1,n1,c1,rfl⟩:=hq.cells;obtain⟨A2,c2,rfl,-⟩:=hm.form;obtain⟨n2,hn2⟩:∃ n2,n2=sz (x % y).natAbs:=⟨_,rfl⟩
 rw[<-hn2];have hn0:0 < n2:=by have:=H0.out.2;omega
 obtain⟨bb,hbb⟩:∃ bb,bb=decide (x % y < 0):=⟨_,rfl⟩
 rw[<-hbb];clear hq hm hn2 hbb;have hx2:=(hx1.alloc (Obj.cells #[Value.bool b,Value.slice A1 n1 c1] 26)).alloc (Obj.cells #[Value.bool bb,Value.slice A2 n2 c2] 26);have hc2:=hx2.cells;have hf2:=hx2.frozens;have Hfin:=Ad (Ck (Ld ((w1.alloc (Obj.cells #[Value.bool b,Value.slice A1 n1 c1] 26)).alloc (Obj.cells #[Value.bool bb,Value.slice A2 n2 c2] 26))) hx2.a3 (AU.at_ hx2 (g:=w.heap.size+1+1) Ac (by simp[Af])) Aa)
 have hc1:=hx1.cells;have hf1:=hx1.frozens;go_wp2;refine bodyPost_ret (v := .tuple #[.agg #[.bool false,.slice none 0 0],.int .i64 6]) (by simp[results,Tryz.results86,go_sem,hc2]) rfl ?_;obtain⟨r,e,hr,hx⟩:=Hfin.out;cases e;exact Ag.mk ⟨_,rfl,hr⟩ hx
theorem aM(v u:Value)(x y:Int)(w:World)(hv:Bq w v x)(hu:Bq w u y)(h0:y≠0)(hd:y∣x):Bc 86 #[v,u] w (fun r w'=>FE w' r (x / y) 0):=II v u x y w hv hu h0 hd
set_option maxRecDepth 20000 in
theorem WJ(v u:Value)(l m:List Int)(s t:Nat)(w:World)(hv:De 0 w v l)(hu:De 0 w u m)(hs:∀ i,qsz (cz l i)<=s)(ht:∀ i,qsz (cz m i)<=t)(hn:l.length<=549755813888)(hm:m.length<=549755813888)(h0:cz m≠pz)(hst:s+(l.length+2)*(t+1)+t<=1099511627776) :
  Bc 88 #[v,u] w ((fJ w.heap.size (cz l) (cz m))):=by
 have HV:=Ad hv;have HU:=Ad hu;obtain⟨A0,c0,rfl⟩:=hv.len;obtain⟨A1,c1,rfl⟩:=hu.len;clear hv hu;have hN1:=Fv _ l w HV.out Aa;rw[I1]at hN1;have hN2:=fun W (x:Ext w W)=>Fv _ m W (HU.out.ext x) Aa;simp only[I1]at hN2;have hc1:=Bj (BG l);have hc2:=Bj (BG m);have hfF:=Ae.cz l;have hzF:=ZI.cz l;have hfG:=Ae.cz m;have hzG:=ZI.cz m;have hL:=AZ hfG h0;have ht1:=KF l;have ht2:=KF m;obtain⟨F,hF⟩:∃ F,F=cz l:=⟨_,rfl⟩
 obtain⟨G,hG⟩:∃ G,G=cz m:=⟨_,rfl⟩
 rw[<-hF]at hN1 hs hc1 hfF hzF ht1;rw[<-hG]at hc2 hfG hzG hL ht h0 ht2;simp only[<-hG]at hN2;rw[<-hF,<-hG];obtain⟨P,hP⟩:∃ P,P=pl F:=⟨_,rfl⟩
 obtain⟨L,hLe⟩:∃ L,L=pl G:=⟨_,rfl⟩
 obtain⟨K,hK⟩:∃ K,K=pl F+1 - pl G:=⟨_,rfl⟩
 have HB:=Ad (show(∀ k,k<=K->∀ q,q<=s+k*(t+1)->q<=1099511627776/\q+t<=1099511627776)/\sz (ld G).num.natAbs<=1099511627776/\(∀ j,sz (G j).num.natAbs<=t)/\t<=1099511627776 by
  have key:∀ k,k<=K->k*(t+1)<=(l.length+2)*(t+1):=fun k hk=>Nat.mul_le_mul_right _ Aa;have g1:∀ j,sz (G j).num.natAbs<=t:=fun j=>Nat.le_trans (F6 _) (ht j);have g2:sz (ld G).num.natAbs<=t:=g1 _;exact⟨fun k hk q hq=>by have:=key k hk;omega,Aa,g1,Aa⟩)
 have HX:=Ad (Ai hfF (Ai hzF (Ai hfG (Ai hzG (Ai h0 (Ai hF (Ai hG (Ai hs ht))))))));have HP:=Ad (Ai hP (Ai hLe hK));rw[<-hP]at hc1 hN1 ht1;rw[<-hLe]at hc2 hL ht2;simp only[<-hLe]at hN2;have HN1:=Ad hN1;have HN2:=Ad hN2;have HT:=Ad (Ai ht1 ht2);have hKe:K=P+1 - L:=by rw[hP,hLe];exact hK
 clear hs ht hst hfF hzF hfG hzG h0 hF hG hP hLe hK ht1 ht2 hN1 hN2;have hb1:((L:Int)==0)=false:=by simpa using(show L≠0 by omega)
 go_enter Tryz.func88,Tryz.ntmps88
 go_wp2_with fail
 refine AB HN1.out ?_;rintro r1 w1 ⟨rfl,er⟩ hx;have hg1:=er.lt
 go_wp2_with fail
 refine AB (HN2.out w1 hx) ?_;rintro r2 w2 ⟨rfl,eg⟩ hx2;have hg2:=eg.lt;replace er:=er.ext hx2;replace hx:=hx.trans hx2;clear hx2;have hK1:P+1<=K+L/\(0 < K->P+1=K+L):=by omega
 have HK:=Ad hK1;replace er:=er.pre P;rw[HT.out.1]at er;replace eg:=eg.pre L;rw[HT.out.2]at eg;obtain⟨W0,hmk,eq,hxq⟩:=JE K (max ((P:Int) - L+1) 0) Aa Aa w2;replace er:=er.ext hxq;replace eg:=eg.ext hxq;replace hx:=hx.trans hxq;have hg3:=eq.lt;rw[<-Vm]at eq;have hK40:K<=1099511627776:=by omega
 clear hK1 hKe;have hst0:EZ F G K s t K pz F:=EZ.start ((AJ HX.out.1).mono (by have:=HK.out;have:=HP.out;omega)) HX.out.2.1 HX.out.2.2.2.2.2.2.2.1;have HS0:=Ad hst0;clear hst0;generalize hgG:w1.heap.size=gG at *;generalize hgq:w2.heap.size=gq at *;go_wp2;clear hmk hxq
 go_loopw [8] (fun iv wr=>∃ (i:Nat) (Q R:Nat->Rat),i<=K/\iv = .int .i64 ((i:Int) - 1)/\Cw wr w.heap.size 26 (DN P R)/\Cw wr gq 26 (DN K Q)/\Cw wr gG 26 (DN L G)/\EZ F G K s t i Q R/\BA P R/\Ext w wr) (fun iv _=>(intOf iv+1).toNat)
 case atStart=>exact⟨K,pz,F,Nat.le_refl _,by go_num,er,eq,eg,HS0.out,by rw[HP.out.1];exact AJ HX.out.1,hx⟩
 case round =>
  clear er eq eg hx;obtain⟨i,Q,R,hi,rfl,er,eq,eg,hst,hsP,hx⟩:=hrel;have HR:=Ad hst;have HSP:=Ad hsP;clear hst hsP;by_cases hi0:0 < i
  ·obtain⟨k,rfl⟩:∃ k,i=k+1:=⟨i - 1,Aa⟩
   have hii:((k+1:Nat):Int) - 1=(k:Int):=by omega
   rw[hii];clear hii hi0;have hkK:k < K:=by omega
   have hkP:k+L<=P:=by have:=HK.out.2;omega
   have hkL:k+L - 1 < P:=by omega
   obtain⟨z0,Z0,zn0,zc0,cr0,cr1,hzc⟩:=er.at_ (j:=k+L - 1) (by rw[AX];exact hkL);rw[Ch]at hzc;have hLP:((k:Int)+L - 1).toNat=k+L - 1:=by omega
   have HQ:=Ad (show(∀ n,sz (R n).num.natAbs<=1099511627776)/\(ld G).num≠0/\R (k+L - 1)=R (k+pl G - 1)from by
    refine⟨fun n=>?_,fun e=>?_,by rw[HP.out.2.1]⟩
    ·have h1:=HR.out.2.2.2.2.2.2 n
     have h2:=HB.out.1 _ (show K - (k+1)<=K by omega) _ h1;have h3:=F6 (R n);omega
    ·have:=Dh HX.out.2.2.1 HX.out.2.2.2.2.1
     exact this (by rw[show ld G=((ld G).num:Rat)from HX.out.2.2.2.1.num _,e];rfl))
   have Hz:=Ad (Ai hzc (show AC w.heap.size _ (.slice (some ⟨gG,0,none⟩) L m.length) G by
    have h1:=eg;have h2:=HP.out.2.1;rw[h2]at h1;rw[h2];exact h1.whole HX.out.2.2.2.1 HX.out.2.2.1 Aa Aa Aa))
   clear hzc;obtain⟨rv,hrv⟩:∃ rv,rv=(R (k+L - 1)).num:=⟨_,rfl⟩
   rw[<-hrv]at Hz;by_cases hd:(ld G).num∣rv
   ·obtain⟨z,hzz⟩:∃ z,z=rv / (ld G).num:=⟨_,rfl⟩
    have HD:=Ad (Ai hd (Ai hrv hzz));clear hd hzz
    go_wp2_with fail
    go_cut [9,10] (fun pv ev wx=>∃ gc,pv = .pointer (some ⟨gc,0,none⟩)/\ev = .int .i64 0/\Bp wx gc 26 z/\wr.heap.size<=gc/\Ext wr wx)
    case first =>
     refine Bu 15 [13] (fun x=>16) [36,37,38,39,40,41,42,43,44,45,46,35,47,48,9] [[],[],[],[2],[1,2,3],[1,2,3,4],[0,1,2,3,4,5],[0,1,2,3,4,5,6],[],[8],[0,1,2,3,4,5,6,7,8,9],[0,1,2,3,4,5,6,7,8,9,10],[0,1,2,3,4,5,6,7,8,9,10,11],[0,1,2,3,4,5,6,7,8,9,10,11],[],[0,1,2,3,4,5,6,7,8,9,10,11,12,14],[0,1,2,3,4,5,6,7,8,9,10,11,12,13,14,15]] [6,8,1] [_,_,_] [(kv ?_),(kv ?_),(kv ?_),(kv ?_),(kv ?_),(kv ?_),(kv ?_),(kv ?_),(kv ?_),(fun γ=>γ 9),(fun γ=>γ 10),(fun γ=>γ 10),(fun γ=>γ 12),(kv ?_),(fun γ=>γ 14)] (fun γ w'=>[True,True,True,True,True,True,True,True,True,AP w' (γ 9) (ld G).num,FE w' (γ 10) z 0,True,AP w' (γ 12) z,True,Bb w' (γ 14) wr.heap.size #[.bool false,.slice none 0 0] 26]) Ko BP BP BP BP BP LJ BP Ka ?m1 ?s1 ?_ ?l1
     case s1 =>
      iterate 15 refine⟨?_,?_⟩
      trivial
      iterate 9 focus
       refine AY fun _ w' he R hR=>?_;have hc:=he.cells;have cq0:=he.cell cr0;have cq1:=he.cell cr1;go_simp;(try go_ints);(try(rw[if_neg Aa]));(try(rw[if_pos Aa]));(try go_simp);(try go_ints)
       exact Br hR
      ·refine AY fun _ w' he R hR=>?_
       go_simp;exact Bf (QH _ w.heap.size G w' (Hz.out.2.ext he) HX.out.2.2.2.2.1) hR
      ·refine EF fun γ w' he hf R hR=>?_;have f9:AP w' (γ 9) (ld G).num:=hf 9 Ab;clear hf
       go_simp;exact Bf (HD.out.2.2▸aM _ _ _ _ w' ((Hz.out.1.kd he.kd).has (by rw[HD.out.2.1];exact HQ.out.1 _)) (f9.has HB.out.2.1) HQ.out.2.1 HD.out.1) hR
      ·refine AY fun _ w' he R hR=>?_
       have hc:=he.cells;go_simp
       (try go_ints);(try(rw[if_neg Aa]));(try(rw[if_pos Aa]));(try go_simp);(try go_ints)
       exact Br hR
      ·refine EF fun γ w' he hf R hR=>?_;have f10:FE w' (γ 10) z 0:=hf 10 Ab;clear hf
       obtain⟨a,e,ha⟩:=f10;go_simp;exact hR _ _ (Ext.refl _) rfl ha
      ·refine EF fun γ w' he hf R hR=>?_;have f10:FE w' (γ 10) z 0:=hf 10 Ab;clear hf
       obtain⟨a,e,ha⟩:=f10;have hc:=he.cells;go_simp
       (try go_ints);(try(rw[if_neg Aa]));(try(rw[if_pos Aa]));(try go_simp);(try go_ints)
       exact Br hR
      ·refine AY fun _ w' he R hR=>?_
       go_simp;exact hR _ _ ((Ext.refl _).alloc _) rfl (Bb.mk (Nat.le_trans Ac he.size) (by simp[Af]))
     case m1 =>
      exact⟨⟨⟨⟨⟨⟨⟨⟨⟨⟨⟨⟨⟨⟨⟨trivial,(fun γ wA w' e h=>h)⟩,(fun γ wA w' e h=>h)⟩,(fun γ wA w' e h=>h)⟩,(fun γ wA w' e h=>h)⟩,(fun γ wA w' e h=>h)⟩,(fun γ wA w' e h=>h)⟩,(fun γ wA w' e h=>h)⟩,(fun γ wA w' e h=>h)⟩,(fun γ wA w' e h=>h)⟩,(fun γ wA w' e h=>(show AP wA (γ 9) (ld G).num from h).ext e)⟩,(fun γ wA w' e h=>(show FE wA (γ 10) z 0 from h).ext e)⟩,(fun γ wA w' e h=>h)⟩,(fun γ w w' e h=>AP.ext_ h e)⟩,(fun γ wA w' e h=>h)⟩,(fun γ wA w' e h=>(show Bb wA (γ 14) wr.heap.size #[.bool false,.slice none 0 0] 26 from h).ext e)⟩
     case l1 =>
      intro Pn hPs hPn;obtain rfl:=Gr hPs hPn;clear hPs hPn
      ·intro γ w3 hx3 hF hA
       clear hA;have p9:AP w3 (γ 9) (ld G).num:=(Ak.get hF 9 Ab).resolve_left Ab;have p10:FE w3 (γ 10) z 0:=(Ak.get hF 10 Ab).resolve_left Ab;have p12:AP w3 (γ 12) z:=(Ak.get hF 12 Ab).resolve_left Ab;have p14:Bb w3 (γ 14) wr.heap.size #[.bool false,.slice none 0 0] 26:=(Ak.get hF 14 Ab).resolve_left Ab;clear hF;show AV _ _ _ _ 3 [13] 15 _ _;simp only[Bg,Nat.reduceAdd,Co,SN];generalize γ 9=g9 at *
       generalize γ 10=g10 at *;generalize γ 12=g12 at *;generalize γ 14=g14 at *;clear γ;obtain⟨a10,rfl,-⟩:=p10;obtain⟨gc,rfl,hgc,ec⟩:=p14;obtain⟨b5,A5,n5,c5,rfl⟩:=p12.cells;clear cr0 cr1 p9 hLP;have cec:=ec.cells2;have fec:=ec.frozen
       repeat' first
        | (refine AV.nil ?_;simp only[Gj];go_wp2;done)
        | (refine AV.nil ?_;(try simp only[Gj]);go_wp2)
        | (refine AV.mk _ ⟨?_,trivial⟩ (fun h=>?_)<;>first | exact absurd h Ab | ((try clear h);simp only[CX,Gj];go_wp2;first | show AV _ _ _ _ _ [13] _ _ _ | show AV _ _ _ _ _ [] _ _ _))
       all_goals
        skip;obtain⟨W4,eW,ec',U⟩:=ec.put2 (.bool b5) (.slice A5 n5 c5);rw[<-eW];clear eW ec;replace p12:=p12.kd U.kd;replace hx3:=U.from_ hx3 Aj;have ec:=ec';clear U ec'
        go_meet
        case rel=>exact⟨gc,rfl,rfl,Bp.mk ec p12,hgc,hx3⟩
     intro γ w3 hx3 hF hA;clear hA;have p9:AP w3 (γ 9) (ld G).num:=Ak.get hF 9 Ab;have p10:FE w3 (γ 10) z 0:=Ak.get hF 10 Ab;have p12:AP w3 (γ 12) z:=Ak.get hF 12 Ab;have p14:Bb w3 (γ 14) wr.heap.size #[.bool false,.slice none 0 0] 26:=Ak.get hF 14 Ab;clear hF;simp only[Bg,Nat.reduceAdd];generalize γ 9=g9 at *;generalize γ 10=g10 at *;generalize γ 12=g12 at *;generalize γ 14=g14 at *;clear γ;obtain⟨a10,rfl,-⟩:=p10
     obtain⟨gc,rfl,hgc,ec⟩:=p14;obtain⟨b5,A5,n5,c5,rfl⟩:=p12.cells;clear cr0 cr1 p9 hLP;have cec:=ec.cells2;have fec:=ec.frozen;go_wp2;skip;obtain⟨W4,eW,ec',U⟩:=ec.put2 (.bool b5) (.slice A5 n5 c5);rw[<-eW];clear eW ec;replace p12:=p12.kd U.kd;replace hx3:=U.from_ hx3 Aj;have ec:=ec';clear U ec'
     go_meet
     case rel=>exact⟨gc,rfl,rfl,Bp.mk ec p12,hgc,hx3⟩
    case rest =>
     clear cr0 cr1 hLP;obtain⟨gc,rfl,rfl,⟨b,B,bn,bc,e8,hb⟩,hgc,hx3⟩:=hcut;have hgq:=eq.lt;have hgr:=er.lt;have hgg:=eg.lt;replace er:=er.ext hx3;replace eq:=eq.ext hx3;replace eg:=eg.ext hx3;replace hx:=hx.trans hx3;clear hx3;have hzk:Q k=0:=HR.out.1 k Aa;have hzv:R (k+pl G - 1)=(z:Rat)*ld G:=by
      rw[<-HQ.out.2.2,HD.out.2.2,HD.out.2.1];exact HR.out.yes HX.out.2.2.2.1 (by rw[<-HD.out.2.1];exact HD.out.1)
     have HZ:=Ad (show EZ F G K s t k (pad Q (mono k (z:Rat))) (psb R (cv (mono k (z:Rat)) G))/\Q k=0/\sz z.natAbs<=1099511627776/\(∀ j,sz (z*(G j).num).natAbs<=1099511627776)/\∀ n,sz (R n).num.natAbs<=1099511627776 from by
      have hl:=Dh HX.out.2.2.1 HX.out.2.2.2.2.1;have h1:qsz (z:Rat)<=qsz (R (k+pl G - 1)):=Nt hl (HX.out.2.2.2.1 _) hzv;have h2:=HR.out.2.2.2.2.2.2 (k+pl G - 1);have h3:=HB.out.1 _ (show K - (k+1)<=K by omega) _ h2;have h4:sz z.natAbs<=qsz (z:Rat):=by rw[Bi];omega
      refine⟨HR.out.step HX.out.2.2.1 HX.out.2.2.2.2.1 HX.out.2.2.2.1 HX.out.2.2.2.2.2.2.2.2 hkK hzv,hzk,Aa,fun j=>?_,HQ.out.1⟩;have h5:=FK (x:=z) (y:=(G j).num) h4 (HB.out.2.2.1 j);omega)
     clear hzk hzv;have Hb:=Ad hb;clear hb;have hkl:k < (DN K Q).length:=by rw[AX];exact hkK
     have Hkl:=Ad hkl;have ce8:=e8.cells2;have fe8:=e8.frozen;obtain⟨_,_,_,_,ca0,ca1,-⟩:=eq.at_ (j:=k) (by first | omega | (simp;omega));have fa0:=eq.frozen (k*2);have fa1:=eq.frozen (k*2+1);clear hkl;go_wp2;have hkl:=Hkl.out;have hb:=Hb.out;obtain⟨W7,eW,eq',U⟩:=eq.put (k:=k) (by first | omega | (simp;omega)) hb;rw[<-eW];clear eW eq;replace hb:=hb.kd U.kd;replace er:=er.upd U Aj;replace eg:=eg.upd U Aj
     replace e8:=e8.upd U Aj;replace hx:=U.from_ hx Aj;have eq:=eq';clear U eq';rw[QJ (G:=pad Q (mono k (z:Rat))) (fun n=>Yw HR.out.2.2.2.2.1 HZ.out.2.1 n)]at eq;have ec:=Bp.mk e8 hb;clear e8 hb Hb Hkl hkl ce8 fe8
     go_loopw [57] (fun jv wx=>∃ j:Nat,j<=L/\jv = .int .i64 j/\Cw wx w.heap.size 26 (DN P (EA k j (z:Rat) R G))/\Cw wx gq 26 (DN K (pad Q (mono k (z:Rat))))/\Cw wx gG 26 (DN L G)/\Bp wx gc 26 z/\Ext w wx) (fun jv _=>L - (intOf jv).toNat)
     case atStart=>exact⟨0,Nat.zero_le _,rfl,by rw[LV];exact er,eq,eg,ec,hx⟩
     case round =>
      clear er eq eg ec hx;obtain⟨j,hj,rfl,er,eq,eg,ec,hx⟩:=hrel;by_cases hjl:j < L
      ·obtain⟨y1,Y1,yn1,yc1,q0,q1,hy⟩:=eg.at_ (j:=j) (by rw[AX];exact hjl)
       rw[Ch]at hy;have Hy:=Ad hy;clear hy;have hne:=ec.lt;have hne2:=eq.lt
       go_wp2_with fail
       obtain⟨W10,eW10,e10,x10⟩:=Bh.made wr 26 #[.bool y1,.slice Y1 yn1 yc1] (by simp[Af]);rw[<-eW10];clear eW10 q0 q1;have hy:=Hy.out.kd x10.kd;replace er:=er.ext x10;replace eq:=eq.ext x10;replace eg:=eg.ext x10;replace ec:=ec.ext x10;replace hx:=hx.trans x10;clear x10;obtain⟨b,B,bn,bc,e8,hb⟩:=ec;have hij:k+j < P:=by omega
       obtain⟨z1,Z1,zn1,zc1,ca0,ca1,hz⟩:=er.at_ (j:=k+j) (by rw[AX];exact hij);rw[Ch,Vf]at hz;obtain⟨rj,hrj⟩:∃ rj,rj=(R (k+j)).num:=⟨_,rfl⟩
       rw[<-hrj]at hz;have Hrj:=Ad hrj;clear hrj;have Hz':=Ad (Ai hz (Ai hb hy));clear hz hb hy Hy;have ce8:=e8.cells2;have fe8:=e8.frozen;have ce10:=e10.cells2;have fe10:=e10.frozen
       go_wp2_with fail
       refine CP 14 [62,63,64,65,66,67,68,69,70,71,72,73,74,75] [6,8,11,9,12] [_,_,_,_,_] [(kv ?_),(kv ?_),(kv ?_),(kv ?_),(kv ?_),(kv ?_),(kv ?_),(kv ?_),(kv ?_),(kv ?_),(kv ?_),(kv ?_),(fun γ=>γ 12),(fun γ=>γ 13)] (fun γ w'=>[True,True,True,True,True,True,True,True,True,True,True,True,AP w' (γ 12) (z*(G j).num),AP w' (γ 13) (rj - z*(G j).num)]) ?s2 ?_
       case s2 =>
        iterate 14 refine⟨?_,?_⟩
        trivial
        iterate 12 focus
         refine AY fun _ w' he R hR=>?_;have hc:=he.cells;have cq0:=he.cell ca0;have cq1:=he.cell ca1;have cq2:=(e8.ext he).cells2;have cq3:=(e10.ext he).cells2;go_simp;(try go_ints);(try(rw[if_neg Aa]));(try(rw[if_pos Aa]));(try go_simp);(try go_ints)
         exact Br hR
        ·refine AY fun _ w' he R hR=>?_
         go_simp;exact Bf (E8 _ _ _ _ w' ((Hz'.out.2.1.kd he.kd).has HZ.out.2.2.1) ((Hz'.out.2.2.kd he.kd).has (by have h1:=HB.out.2.2.1 j;have h2:=HB.out.2.2.2;omega))) hR
        ·refine EF fun γ w' he hf R hR=>?_;have f12:AP w' (γ 12) (z*(G j).num):=hf 12 Ab;clear hf
         go_simp;exact Bf (eG _ _ _ _ w' ((Hz'.out.1.kd he.kd).has (by rw[Hrj.out];exact HZ.out.2.2.2.2 _)) (f12.has (HZ.out.2.2.2.1 j))) hR
       intro γ w6 hx6 hF;have p12:AP w6 (γ 12) (z*(G j).num):=Ak.get hF 12 Ab;have p13:AP w6 (γ 13) (rj - z*(G j).num):=Ak.get hF 13 Ab;clear hF;simp only[Bg,Nat.reduceAdd];generalize γ 12=g12 at *;generalize γ 13=g13 at *;clear γ;have hb:=Hz'.out.2.1.kd hx6.kd;clear p12 Hz' ca0 ca1 ce8 fe8 ce10 fe10 e10;replace er:=er.ext hx6;replace eq:=eq.ext hx6;replace eg:=eg.ext hx6;replace e8:=e8.ext hx6;replace hx:=hx.trans hx6
       clear hx6;obtain⟨b5,A5,n5,c5,rfl⟩:=p13.cells;have hkf:k+j < (DN P (EA k j (z:Rat) R G)).length:=by rw[AX];exact hij
       have Hkf:=Ad hkf;have Hb:=Ad hb;clear hb;obtain⟨_,_,_,_,ca0,ca1,-⟩:=er.at_ (j:=k+j) (by first | omega | (simp;omega));have fa0:=er.frozen ((k+j)*2);have fa1:=er.frozen ((k+j)*2+1);clear hkf;go_wp2;have hkf:=Hkf.out;have hb:=Hb.out;obtain⟨W9,eW,er',U⟩:=er.put (k:=k+j) (by first | omega | (simp;omega)) p13;rw[<-eW];clear eW er;replace hb:=hb.kd U.kd;replace eq:=eq.upd U Aj;replace eg:=eg.upd U Aj
       replace e8:=e8.upd U Aj;replace hx:=U.from_ hx Aj;have er:=er';clear U er'
       go_roundw
       case rel=>exact⟨j+1,Aa,by go_num,by
        rw[Hrj.out,QJ (G:=EA k (j+1) (z:Rat) R G) (fun n=>Zp HR.out.2.2.2.2.2.1 HX.out.2.2.2.1 n)]at er;exact er,eq,eg,Bp.mk e8 hb,hx⟩
       case measure=>simp[intOf];omega
      ·obtain rfl:L=j:=by omega
       rw[Js (AJ HX.out.2.2.1 |>.mono (by rw[<-HP.out.2.1];exact Nat.le_refl _))]at er;go_wp2
       go_roundw
       case rel=>exact⟨k,_,_,Aa,by go_num,er,eq,eg,HZ.out.1,HSP.out.psb (((Dc k _).cv (AJ HX.out.2.2.1)).mono (by have:=HP.out.2.1;omega)),hx⟩
       case measure=>simp[intOf]<;>omega
   ·have hno:¬ Ie F G:=HR.out.no HX.out.2.2.1 HX.out.2.2.2.2.1 HX.out.2.2.2.1 (by rw[<-HQ.out.2.2,<-hrv];exact hd)
    have HD:=Ad (Ai hd (Ai hrv hno));clear hd hno
    go_wp2_with fail
    go_cut [9,10] (fun pv ev wx=>∃ gc,pv = .pointer (some ⟨gc,0,none⟩)/\ev = .int .i64 6/\Bp wx gc 26 0/\wr.heap.size<=gc/\Ext wr wx)
    case first =>
     refine Bu 15 [13] (fun x=>16) [36,37,38,39,40,41,42,43,44,45,46,35,47,48,9] [[],[],[],[2],[1,2,3],[1,2,3,4],[0,1,2,3,4,5],[0,1,2,3,4,5,6],[],[8],[0,1,2,3,4,5,6,7,8,9],[0,1,2,3,4,5,6,7,8,9,10],[0,1,2,3,4,5,6,7,8,9,10,11],[0,1,2,3,4,5,6,7,8,9,10,11],[],[0,1,2,3,4,5,6,7,8,9,10,11,12,14],[0,1,2,3,4,5,6,7,8,9,10,11,12,13,14,15]] [6,8,1] [_,_,_] [(kv ?_),(kv ?_),(kv ?_),(kv ?_),(kv ?_),(kv ?_),(kv ?_),(kv ?_),(kv ?_),(fun γ=>γ 9),(fun γ=>γ 10),(fun γ=>γ 10),(fun γ=>γ 12),(kv ?_),(fun γ=>γ 14)] (fun γ w'=>[True,True,True,True,True,True,True,True,True,AP w' (γ 9) (ld G).num,FE w' (γ 10) 0 6,True,AP w' (γ 12) 0,True,Bb w' (γ 14) wr.heap.size #[.bool false,.slice none 0 0] 26]) Ko BP BP BP BP BP LJ BP Ka ?m3 ?s3 ?_ ?l3
     case s3 =>
      iterate 15 refine⟨?_,?_⟩
      trivial
      iterate 9 focus
       refine AY fun _ w' he R hR=>?_;have hc:=he.cells;have cq0:=he.cell cr0;have cq1:=he.cell cr1;go_simp;(try go_ints);(try(rw[if_neg Aa]));(try(rw[if_pos Aa]));(try go_simp);(try go_ints)
       exact Br hR
      ·refine AY fun _ w' he R hR=>?_
       go_simp;exact Bf (QH _ w.heap.size G w' (Hz.out.2.ext he) HX.out.2.2.2.2.1) hR
      ·refine EF fun γ w' he hf R hR=>?_;have f9:AP w' (γ 9) (ld G).num:=hf 9 Ab;clear hf
       go_simp;exact Bf (Xw _ _ _ _ w' ((Hz.out.1.kd he.kd).has (by rw[HD.out.2.1];exact HQ.out.1 _)) (f9.has HB.out.2.1) HQ.out.2.1 HD.out.1) hR
      ·refine AY fun _ w' he R hR=>?_
       have hc:=he.cells;go_simp
       (try go_ints);(try(rw[if_neg Aa]));(try(rw[if_pos Aa]));(try go_simp);(try go_ints)
       exact Br hR
      ·refine EF fun γ w' he hf R hR=>?_;have f10:FE w' (γ 10) 0 6:=hf 10 Ab;clear hf
       obtain⟨a,e,ha⟩:=f10;go_simp;exact hR _ _ (Ext.refl _) rfl ha
      ·refine EF fun γ w' he hf R hR=>?_;have f10:FE w' (γ 10) 0 6:=hf 10 Ab;clear hf
       obtain⟨a,e,ha⟩:=f10;have hc:=he.cells;go_simp
       (try go_ints);(try(rw[if_neg Aa]));(try(rw[if_pos Aa]));(try go_simp);(try go_ints)
       exact Br hR
      ·refine AY fun _ w' he R hR=>?_
       go_simp;exact hR _ _ ((Ext.refl _).alloc _) rfl (Bb.mk (Nat.le_trans Ac he.size) (by simp[Af]))
     case m3 =>
      exact⟨⟨⟨⟨⟨⟨⟨⟨⟨⟨⟨⟨⟨⟨⟨trivial,(fun γ wA w' e h=>h)⟩,(fun γ wA w' e h=>h)⟩,(fun γ wA w' e h=>h)⟩,(fun γ wA w' e h=>h)⟩,(fun γ wA w' e h=>h)⟩,(fun γ wA w' e h=>h)⟩,(fun γ wA w' e h=>h)⟩,(fun γ wA w' e h=>h)⟩,(fun γ wA w' e h=>h)⟩,(fun γ wA w' e h=>(show AP wA (γ 9) (ld G).num from h).ext e)⟩,(fun γ wA w' e h=>(show FE wA (γ 10) 0 6 from h).ext e)⟩,(fun γ wA w' e h=>h)⟩,(fun γ w w' e h=>AP.ext_ h e)⟩,(fun γ wA w' e h=>h)⟩,(fun γ wA w' e h=>(show Bb wA (γ 14) wr.heap.size #[.bool false,.slice none 0 0] 26 from h).ext e)⟩
     case l3 =>
      intro Pn hPs hPn;obtain rfl:=Gr hPs hPn;clear hPs hPn
      ·intro γ w3 hx3 hF hA
       clear hA;have p9:AP w3 (γ 9) (ld G).num:=(Ak.get hF 9 Ab).resolve_left Ab;have p10:FE w3 (γ 10) 0 6:=(Ak.get hF 10 Ab).resolve_left Ab;have p12:AP w3 (γ 12) 0:=(Ak.get hF 12 Ab).resolve_left Ab;have p14:Bb w3 (γ 14) wr.heap.size #[.bool false,.slice none 0 0] 26:=(Ak.get hF 14 Ab).resolve_left Ab;clear hF;show AV _ _ _ _ 3 [13] 15 _ _;simp only[Bg,Nat.reduceAdd,Co,SN];generalize γ 9=g9 at *
       generalize γ 10=g10 at *;generalize γ 12=g12 at *;generalize γ 14=g14 at *;clear γ;obtain⟨a10,rfl,-⟩:=p10;obtain⟨gc,rfl,hgc,ec⟩:=p14;obtain⟨b5,A5,n5,c5,rfl⟩:=p12.cells;clear cr0 cr1 p9 hLP;have cec:=ec.cells2;have fec:=ec.frozen
       repeat' first
        | (refine AV.nil ?_;simp only[Gj];go_wp2;done)
        | (refine AV.nil ?_;(try simp only[Gj]);go_wp2)
        | (refine AV.mk _ ⟨?_,trivial⟩ (fun h=>?_)<;>first | exact absurd h Ab | ((try clear h);simp only[CX,Gj];go_wp2;first | show AV _ _ _ _ _ [13] _ _ _ | show AV _ _ _ _ _ [] _ _ _))
       all_goals
        skip;obtain⟨W4,eW,ec',U⟩:=ec.put2 (.bool b5) (.slice A5 n5 c5);rw[<-eW];clear eW ec;replace p12:=p12.kd U.kd;replace hx3:=U.from_ hx3 Aj;have ec:=ec';clear U ec'
        go_meet
        case rel=>exact⟨gc,rfl,rfl,Bp.mk ec p12,hgc,hx3⟩
     intro γ w3 hx3 hF hA;clear hA;have p9:AP w3 (γ 9) (ld G).num:=Ak.get hF 9 Ab;have p10:FE w3 (γ 10) 0 6:=Ak.get hF 10 Ab;have p12:AP w3 (γ 12) 0:=Ak.get hF 12 Ab;have p14:Bb w3 (γ 14) wr.heap.size #[.bool false,.slice none 0 0] 26:=Ak.get hF 14 Ab;clear hF;simp only[Bg,Nat.reduceAdd];generalize γ 9=g9 at *;generalize γ 10=g10 at *;generalize γ 12=g12 at *;generalize γ 14=g14 at *;clear γ;obtain⟨a10,rfl,-⟩:=p10
     obtain⟨gc,rfl,hgc,ec⟩:=p14;obtain⟨b5,A5,n5,c5,rfl⟩:=p12.cells;clear cr0 cr1 p9 hLP;have cec:=ec.cells2;have fec:=ec.frozen;go_wp2;skip;obtain⟨W4,eW,ec',U⟩:=ec.put2 (.bool b5) (.slice A5 n5 c5);rw[<-eW];clear eW ec;replace p12:=p12.kd U.kd;replace hx3:=U.from_ hx3 Aj;have ec:=ec';clear U ec'
     go_meet
     case rel=>exact⟨gc,rfl,rfl,Bp.mk ec p12,hgc,hx3⟩
    case rest =>
     clear cr0 cr1 hLP;obtain⟨gc,rfl,rfl,-,-,hx3⟩:=hcut;go_wp2
     go_ret2
     exact Ag.mk ⟨fun h=>absurd h HD.out.2.2,fun _=>rfl⟩ (hx.trans hx3)
  ·obtain rfl:i=0:=by omega
   have hm1:((0:Nat):Int) - 1 = -1:=by omega
   rw[hm1];have hfR:=HR.out.fin;have hcR:cz (DN P R)=R:=EU HR.out.2.2.2.2.2.1 HSP.out;have hend:=HR.out.end_ HX.out.1 HX.out.2.2.1 HX.out.2.2.2.2.1;have hout:=HR.out.out HX.out.1 HX.out.2.2.1 HX.out.2.2.2.2.1;have hcQ:cz (DN K Q)=Q:=EU hend.2.2.2 hend.2.2.1;have hT2:=EC w.heap.size (some ⟨w.heap.size,0,none⟩) l.length (DN P R) wr (by rw[AX];exact hc1) Aa (er.row (Nat.le_refl _));have hT1:=EC w.heap.size (some ⟨gq,0,none⟩) K (DN K Q) wr (by rw[AX];exact Nat.le_refl _) Aa (eq.row Aa)
   rw[AX]at hT1 hT2;rw[I1,hcR]at hT2;have HE:=Ad (Ai (eq.row (base:=w.heap.size) Aa) (Ai hcQ (Ai hend (Ai hout hfR))));clear er eq eg hm1 hcR hcQ hend hout hfR
   go_wp2_with fail
   refine Calls.mono hT2 ?_;rintro e w3 ⟨rfl,rfl⟩;by_cases hz:R=pz
   ·have h0:pl R=0:=by rw[hz,BH]
    have hyes:=HE.out.2.2.2.1.2 hz;have HY:=Ad hyes;clear hz hyes;rw[h0]
    go_wp2_with fail
    refine Calls.mono hT1 ?_;rintro e w3 ⟨rfl,rfl⟩;go_wp2
    go_ret2
    exact Ag.mk ⟨fun _=>⟨_,rfl,by
     rw[<-HE.out.2.2.1.1];exact AC.of_trim (Mo.trim HE.out.1 (by rw[AX];exact Nat.le_refl _) Aa) HE.out.2.1⟩,fun h=>absurd HY.out h⟩ hx
   ·have h0:0 < pl R:=AZ HE.out.2.2.2.2 hz
    have hno:¬ Ie F G:=fun h=>hz (HE.out.2.2.2.1.1 h);have HY:=Ad hno;clear hz hno;go_wp2
    go_ret2
    exact Ag.mk ⟨fun h=>absurd h HY.out,fun _=>rfl⟩ hx
theorem VT(v u:Value)(F G:Nat->Rat)(s t:Nat)(w:World)(hv:AC 0 w v F)(hu:AC 0 w u G)(hs:∀ i,qsz (F i)<=s)(ht:∀ i,qsz (G i)<=t)(hn:pl F<=549755813888)(hm:pl G<=549755813888)(h0:G≠pz)(hst:s+(pl F+2)*(t+1)+t<=1099511627776) :
  Bc 88 #[v,u] w ((fJ w.heap.size F G)):=by
 obtain⟨l,h1,h2,-,rfl⟩:=hv.hz (fun i=>by have:=hs i;omega);obtain⟨m,k1,k2,-,rfl⟩:=hu.hz (fun i=>by have:=ht i;omega);exact WJ v u l m s t w h1 k1 hs ht Aa Aa h0 (by rw[h2];exact hst)
set_option maxRecDepth 20000 in
theorem U6(v:Value)(n:Nat)(w:World)(hv:Bq w v 2)(hn:n < 65536):Bc 176 #[v,.int .i64 (n:Nat)] w (fun r w'=>FE w' r (2^n) 0):=by
 have HV:=Ad hv;obtain⟨b1,A1,n1,c1,rfl⟩:=hv.cells;clear hv;have hL:=Lib.bitLen_le n 16 Ab Aa;have HL:=Ad (GG n n (Nat.le_refl _) Aa).1
 go_enter Tryz.func176,Tryz.ntmps176
 go_wp2_with fail
 refine AB (SK _ 2 _ (HV.out.ext (((Ext.refl w).alloc _).alloc _))) ?_;rintro r1 w1 ⟨b,rfl,hb⟩ hx1;obtain rfl:b=2:=hb.uniq ⟨Ab,fun _=>Ab⟩;clear hb;have ea:=((Bh.new w 26 #[.bool b1,.slice A1 n1 c1] (by simp[Af])).alloc (.cells #[.bool false,.slice none 0 0] 26)).ext hx1;have ez:=(Bh.new (w.alloc (.cells #[.bool b1,.slice A1 n1 c1] 26)) 26 #[.bool false,.slice none 0 0] (by simp[Af])).ext hx1;rw[World.size_alloc]at ez
 have hx:=hx1.a2;clear hx1
 go_wp2_with fail
 refine AB (JR 1 _ Aa Aa) ?_;rintro r2 w2 hr2 hx2;obtain⟨b5,A5,n5,c5,rfl⟩:=hr2.cells;replace ea:=ea.ext hx2;replace ez:=ez.ext hx2;obtain⟨W0,eW,eb,x0⟩:=Bh.made w2 26 #[.bool b5,.slice A5 n5 c5] (by simp[Af]);have hb:=hr2.kd x0.kd;replace ea:=ea.ext x0;have hgb:=ez.lt;replace ez:=ez.ext x0;replace hx:=(hx.trans hx2).trans x0;have Hb:=Ad hb;clear hr2 hb hx2
 go_wp2_with (go_at_call 190;refine(Wq _ _ Aa).mono ?_;rintro e w' ⟨rfl,rfl⟩)
 rw[<-eW];clear eW x0;generalize w2.heap.size=gb at *
 go_loopw [8] (fun iv wr=>∃ (j:Nat),j<=Lib.bitLen n/\iv = .int .i64 ((j:Int) - 1)/\Bh wr w.heap.size 26 #[.bool b1,.slice A1 n1 c1]/\Bh wr (w.heap.size+1) 26 #[.bool false,.slice none 0 0]/\Bp wr gb 26 (2^(n / 2^j))/\Ext w wr) (fun iv _=>(intOf iv+1).toNat)
 case atStart=>exact⟨Lib.bitLen n,Nat.le_refl _,rfl,ea,ez,by rw[Nat.div_eq_of_lt HL.out];exact Bp.mk eb Hb.out,hx⟩
 case round =>
  clear ea ez eb hx Hb;obtain⟨j,hj,rfl,ea,ez,⟨b6,A6,n6,c6,eb,hb⟩,hx⟩:=hrel;have Hb:=Ad hb;clear hb;rcases j with _ | j
  ·have e1:(((0:Nat):Int) - 1) = -1:=rfl
   rw[e1];clear e1;have cez:=ez.cells2;have fez:=ez.frozen;have ceb:=eb.cells2;have feb:=eb.frozen;have hr:=Hb.out;go_wp2;obtain⟨W3,eW,ez',U⟩:=ez.put2 (.bool b6) (.slice A6 n6 c6);rw[<-eW];clear eW ez;replace hr:=hr.kd U.kd;replace hx:=U.from_ hx Aj;have ez:=ez';clear U ez';clear cez fez;have cez:=ez.cells2;have fez:=ez.frozen;refine bodyPost_ret (v := .tuple #[.agg #[.bool b6,.slice A6 n6 c6],.int .i64 0]) (by simp[results,Tryz.results176,go_sem,cez]) rfl ?_
   exact Ag.mk ⟨_,rfl,by simpa using hr⟩ hx
  ·have e1:(((j+1:Nat):Int) - 1)=(j:Nat):=by omega
   rw[e1];clear e1;have hsz:∀ m,m<=n->sz ((2:Int)^m).natAbs<=100000:=fun m hm=>by have:=JD m;omega
   have hd1:n / 2^(j+1)<=n:=Nat.div_le_self _ _;have hd2:n / 2^j<=n:=Nat.div_le_self _ _;have HS:=Ad (Ai (hsz _ hd1) (Ai (hsz _ hd2) (VU n j)));clear hsz hd1 hd2;have ceb:=eb.cells2;have feb:=eb.frozen
   go_wp2_with fail
   refine AB (E8 _ _ _ _ _ (Hb.out.has (by have:=HS.out.1;omega)) (Hb.out.has (by have:=HS.out.1;omega))) ?_;rintro r2 w2 hr2 hx2;obtain⟨b7,A7,n7,c7,rfl⟩:=hr2.cells;clear Hb ceb feb;replace ea:=ea.ext hx2;replace ez:=ez.ext hx2;replace eb:=eb.ext hx2;replace hx:=hx.trans hx2;clear hx2;have ceb:=eb.cells2;have feb:=eb.frozen
   go_upto_region 13 with(fail)
   obtain⟨W3,eW,eb',U⟩:=eb.put2 (.bool b7) (.slice A7 n7 c7);rw[<-eW];clear eW eb;replace hr2:=hr2.kd U.kd;replace ea:=ea.upd U Aj;replace ez:=ez.upd U Aj;replace hx:=U.from_ hx Aj;have eb:=eb';clear U eb';have Hb:=Ad hr2;clear hr2;obtain⟨q,hq⟩:∃ q,q=n / 2^j:=⟨_,rfl⟩
   have hqi:(n:Int) / 2^j=(q:Nat):=by rw[hq];simp
   have hq9:q<=n:=by rw[hq];exact Nat.div_le_self _ _
   have hbit:=QR q Aa;have Hq:=Ad HS.out.2;rw[<-hq]at Hq;have HQ:=Ad hq;clear HS hq;by_cases hodd:q % 2=1
   ·rw[hodd]at hbit
    have hp:=Hq.out.2;rw[if_pos hodd]at hp;have Hp:=Ad hp;clear hp hodd;have cea:=ea.cells2;have fea:=ea.frozen;have ceb:=eb.cells2;have feb:=eb.frozen
    go_wp2_with fail
    refine AB (E8 _ _ _ 2 _ (Hb.out.has (Nat.le_trans (PL Hp.out) (by have:=Hq.out.1;omega))) (HV.out.ext hx)) ?_;rintro r4 w4 hr4 hx4;rw[Hp.out]at hr4;obtain⟨b8,A8,n8,c8,rfl⟩:=hr4.cells;clear Hb cea fea ceb feb;replace ea:=ea.ext hx4;replace ez:=ez.ext hx4;replace eb:=eb.ext hx4;replace hx:=hx.trans hx4;clear hx4;have ceb:=eb.cells2;have feb:=eb.frozen;go_wp2;obtain⟨W5,eW,eb',U⟩:=eb.put2 (.bool b8) (.slice A8 n8 c8)
    rw[<-eW];clear eW eb;replace hr4:=hr4.kd U.kd;replace ea:=ea.upd U Aj;replace ez:=ez.upd U Aj;replace hx:=U.from_ hx Aj;have eb:=eb';clear U eb'
    go_roundw
    case rel=>exact⟨j,Aa,by go_num,ea,ez,by rw[<-HQ.out];exact Bp.mk eb hr4,hx⟩
    case measure=>simp[intOf]<;>omega
   ·rw[show q % 2=0 by omega]at hbit
    have hp:=Hq.out.2;rw[if_neg hodd,Int.mul_one]at hp;have hr4:=Hb.out;rw[hp]at hr4;clear hp Hb Hq;go_wp2
    go_roundw
    case rel=>exact⟨j,Aa,by go_num,ea,ez,by rw[<-HQ.out];exact Bp.mk eb hr4,hx⟩
    case measure=>simp[intOf]<;>omega
end Go.Proofs.YtmhgnigpmompmaaGreat

namespace Go.Proofs.YtmhgnigpmompmaaGreat
open Go.RowKit Go.Hp
theorem Z7{x y:Int}{v:Value}{w w':World}(h:Oo x y v w)(e:Ext w w'):Oo x y v w':=by
 obtain⟨a,b,h1,h2,h3⟩:=h;exact⟨a,b,h1,h2.ext_ e,h3.ext_ e⟩
set_option maxRecDepth 20000 in
theorem Yn(v:Value)(Y:Int)(w:World)(hv:Bq w v Y)(h0:0 < Y)(hs:sz Y.natAbs<=1000):Bc 175 #[v] w (fun r w'=>mJ w' r):=by
 have HV:=Ad hv;obtain⟨b1,A1,n1,c1,rfl⟩:=hv.cells;clear hv;obtain⟨b,hb⟩:=BL.ex Y.natAbs;have hb9:b<=32000:=by have:=hb.sz;omega
 obtain⟨k,hk⟩:∃ k,k=(b+1) / 2:=⟨_,rfl⟩
 have hk9:k<=16001:=by omega
 have hki:(((b:Nat):Int)+1) / 2=(k:Nat):=by omega
 have hbits:∀ W u,Bq W u Y->Bc 174 #[u] W (fun r _=>r = .int .i64 (b:Nat)):=fun W u hu =>
  Ag.imp (SK u Y W hu) fun _ _ ⟨c,e,h⟩=>by rw[e,h.uniq hb]
 have HB:=Ad hbits;clear hbits hb hk;have HA:=Ad (Ai h0 hs);clear h0 hs
 go_enter Tryz.func175,Tryz.ntmps175
 go_wp2_with fail
 refine AB (Jh _ Y _ (HV.out.ext (((Ext.refl w).alloc _).alloc _))) ?_;rintro r1 w1 rfl hx1;rw[Int.sign_eq_one_of_pos HA.out.1];have ea:=((Bh.new w 26 #[.bool b1,.slice A1 n1 c1] (by simp[Af])).alloc (.cells #[.bool false,.slice none 0 0] 26)).ext hx1;have ez:=(Bh.new (w.alloc (.cells #[.bool b1,.slice A1 n1 c1] 26)) 26 #[.bool false,.slice none 0 0] (by simp[Af])).ext hx1;rw[World.size_alloc]at ez
 have hx:=hx1.a2;clear hx1;obtain⟨cea0,cea1⟩:=ea.cells2;have fea:=ea.frozen;have hsz1:=ez.lt
 go_wp2_with fail
 go_cut [5,6] (fun xv ev wx=>∃ gc,xv = .pointer (some ⟨gc,0,none⟩)/\ev = .int .i64 0/\Bp wx gc 26 (2^k)/\w.heap.size+1 < gc/\Ext w1 wx)
 case first =>
  refine Bu 10 [8] (fun x=>11) [19,20,21,22,23,24,18,25,26,5] [[],[],[0,1],[0,1,2],[0,1,2,3],[0,1,2,3,4],[0,1,2,3,4,5],[0,1,2,3,4,5,6],[0,1,2,3,4,5,6],[],[0,1,2,3,4,5,6,7,9],[0,1,2,3,4,5,6,7,8,9,10]] [1] [_] [(fun γ=>γ 0),(kv ?_),(kv (.int .i64 (b:Nat))),(kv ?_),(kv ?_),(fun γ=>γ 5),(fun γ=>γ 5),(fun γ=>γ 7),(kv ?_),(fun γ=>γ 9)] (fun γ w'=>[AP w' (γ 0) 2,True,True,True,True,FE w' (γ 5) (2^k) 0,True,AP w' (γ 7) (2^k),True,Bb w' (γ 9) w1.heap.size #[.bool false,.slice none 0 0] 26]) Ko BP BP BP BP BP LJ BP Ka ?m1 ?s1 ?_ ?l1
  case s1 =>
   iterate 10 refine⟨?_,?_⟩
   trivial
   ·refine AY fun _ w' he R hR=>?_
    go_simp;exact Bf (JR 2 w' Aa Aa) hR
   iterate 1 focus
    refine AY fun _ w' he R hR=>?_;have hc:=he.cells;have cq0:=he.cell cea0;have cq1:=he.cell cea1;go_simp;exact Br hR
   ·refine AY fun _ w' he R hR=>?_
    go_simp;exact LW (HB.out w' _ (HV.out.ext (hx.trans he))) hR
   iterate 2 focus
    refine AY fun _ w' he R hR=>?_;have hc:=he.cells;go_simp;(try go_ints);(try(rw[if_neg Aa]));(try(rw[if_pos Aa]));(try go_simp);(try go_ints)
    exact Br hR
   ·refine EF fun γ w' he hf R hR=>?_;have f0:AP w' (γ 0) 2:=hf 0 Ab;clear hf
    go_simp;exact Bf (U6 _ k w' (f0.has Ab) Aa) hR
   ·refine AY fun _ w' he R hR=>?_
    have hc:=he.cells;go_simp
    (try go_ints);(try(rw[if_neg Aa]));(try(rw[if_pos Aa]));(try go_simp);(try go_ints)
    exact Br hR
   ·refine EF fun γ w' he hf R hR=>?_;have f5:FE w' (γ 5) (2^k) 0:=hf 5 Ab;clear hf
    obtain⟨a,e,ha⟩:=f5;go_simp;exact hR _ _ (Ext.refl _) rfl ha
   ·refine EF fun γ w' he hf R hR=>?_;have f5:FE w' (γ 5) (2^k) 0:=hf 5 Ab;clear hf
    obtain⟨a,e,ha⟩:=f5;have hc:=he.cells;go_simp
    (try go_ints);(try(rw[if_neg Aa]));(try(rw[if_pos Aa]));(try go_simp);(try go_ints)
    exact Br hR
   ·refine AY fun _ w' he R hR=>?_
    go_simp;exact hR _ _ ((Ext.refl _).alloc _) rfl (Bb.mk (Nat.le_trans Ac he.size) (by simp[Af]))
  case m1 =>
   exact⟨⟨⟨⟨⟨⟨⟨⟨⟨⟨trivial,(fun γ wA w' e h=>(show AP wA (γ 0) 2 from h).ext e)⟩,(fun γ wA w' e h=>h)⟩,(fun γ wA w' e h=>h)⟩,(fun γ wA w' e h=>h)⟩,(fun γ wA w' e h=>h)⟩,(fun γ wA w' e h=>(show FE wA (γ 5) (2^k) 0 from h).ext e)⟩,(fun γ wA w' e h=>h)⟩,(fun γ w w' e h=>AP.ext_ h e)⟩,(fun γ wA w' e h=>h)⟩,(fun γ wA w' e h=>(show Bb wA (γ 9) w1.heap.size #[.bool false,.slice none 0 0] 26 from h).ext e)⟩
  case l1 =>
   intro Pn hPs hPn;obtain rfl:=Gr hPs hPn;clear hPs hPn
   ·intro γ w2 hx2 hF hA
    clear hA;have p0:AP w2 (γ 0) 2:=(Ak.get hF 0 Ab).resolve_left Ab;have p5:FE w2 (γ 5) (2^k) 0:=(Ak.get hF 5 Ab).resolve_left Ab;have p7:AP w2 (γ 7) (2^k):=(Ak.get hF 7 Ab).resolve_left Ab;have p9:Bb w2 (γ 9) w1.heap.size #[.bool false,.slice none 0 0] 26:=(Ak.get hF 9 Ab).resolve_left Ab;clear hF;show AV _ _ _ _ 3 [8] 10 _ _;simp only[Bg,Nat.reduceAdd,Co,SN];generalize γ 0=g0 at *;generalize γ 5=g5 at *
    generalize γ 7=g7 at *;generalize γ 9=g9 at *;clear γ;obtain⟨a5,rfl,-⟩:=p5;obtain⟨gc,rfl,hgc,ec⟩:=p9;obtain⟨b5,A5,n5,c5,rfl⟩:=p7.cells;clear cea0 cea1 p0;have cec:=ec.cells2;have fec:=ec.frozen
    repeat' first
     | (refine AV.nil ?_;simp only[Gj];go_wp2;done)
     | (refine AV.nil ?_;(try simp only[Gj]);go_wp2)
     | (refine AV.mk _ ⟨?_,trivial⟩ (fun h=>?_)<;>first | exact absurd h Ab | ((try clear h);simp only[CX,Gj];go_wp2;first | show AV _ _ _ _ _ [8] _ _ _ | show AV _ _ _ _ _ [] _ _ _))
    all_goals
     skip;obtain⟨W4,eW,ec',U⟩:=ec.put2 (.bool b5) (.slice A5 n5 c5);rw[<-eW];clear eW ec;replace p7:=p7.kd U.kd;replace hx2:=U.from_ hx2 Aj;have ec:=ec';clear U ec'
     go_meet
     case rel=>exact⟨gc,rfl,rfl,Bp.mk ec p7,Aa,hx2⟩
  intro γ w2 hx2 hF hA;clear hA;have p0:AP w2 (γ 0) 2:=Ak.get hF 0 Ab;have p5:FE w2 (γ 5) (2^k) 0:=Ak.get hF 5 Ab;have p7:AP w2 (γ 7) (2^k):=Ak.get hF 7 Ab;have p9:Bb w2 (γ 9) w1.heap.size #[.bool false,.slice none 0 0] 26:=Ak.get hF 9 Ab;clear hF;simp only[Bg,Nat.reduceAdd];generalize γ 0=g0 at *;generalize γ 5=g5 at *;generalize γ 7=g7 at *;generalize γ 9=g9 at *;clear γ;obtain⟨a5,rfl,-⟩:=p5;obtain⟨gc,rfl,hgc,ec⟩:=p9
  obtain⟨b5,A5,n5,c5,rfl⟩:=p7.cells;clear cea0 cea1 p0;have cec:=ec.cells2;have fec:=ec.frozen;go_wp2;skip;obtain⟨W4,eW,ec',U⟩:=ec.put2 (.bool b5) (.slice A5 n5 c5);rw[<-eW];clear eW ec;replace p7:=p7.kd U.kd;replace hx2:=U.from_ hx2 Aj;have ec:=ec';clear U ec'
  go_meet
  case rel=>exact⟨gc,rfl,rfl,Bp.mk ec p7,Aa,hx2⟩
 case rest =>
  clear cea0 cea1 fea hsz1;obtain⟨gx,rfl,rfl,ex,hgx,hx2⟩:=hcut;replace ea:=ea.ext hx2;replace ez:=ez.ext hx2;replace hx:=hx.trans hx2;clear hx2;rename_i wx
  go_wp2_with fail
  refine AB (JR 2 _ Aa Aa) ?_;rintro r3 w3 hr3 hx3;obtain⟨b6,A6,n6,c6,rfl⟩:=hr3.cells;replace ea:=ea.ext hx3;replace ez:=ez.ext hx3;replace ex:=ex.ext hx3;replace hx:=hx.trans hx3;clear hx3;obtain⟨W0,eW,et,x0⟩:=Bh.made w3 26 #[.bool b6,.slice A6 n6 c6] (by simp[Af]);have ht:=Bp.mk et (hr3.kd x0.kd);have hgt:=ex.lt;replace ea:=ea.ext x0;replace ez:=ez.ext x0;replace ex:=ex.ext x0;replace hx:=hx.trans x0
  clear x0;clear et hr3;go_wp2;rw[<-eW];clear eW;generalize w3.heap.size=gt at *
  go_loopw [13] (fun _ wr=>∃ x:Int,0 < x/\sz x.natAbs<=20000/\Bh wr w.heap.size 26 #[.bool b1,.slice A1 n1 c1]/\Bh wr (w.heap.size+1) 26 #[.bool false,.slice none 0 0]/\Bp wr gx 26 x/\Bp wr gt 26 2/\Ext w wr) (fun _ wr=>mG wr gx 26)
  case atStart=>exact⟨2^k,Int.pow_pos Ab,by have:=JD k;omega,ea,ez,ex,ht,hx⟩
  case round =>
   clear ea ez ex ht hx;obtain⟨x,hx0,hxs,ea,ez,⟨b7,A7,n7,c7,ex,hxz⟩,ht,hx⟩:=hrel;have Hb2:=Ad (QL (Bp.mk ex hxz));have Hx:=Ad (Ai hx0 hxs);clear hx0 hxs;have Hxz:=Ad hxz;clear hxz;obtain⟨cea0,cea1⟩:=ea.cells2;have fea:=ea.frozen;obtain⟨cex0,cex1⟩:=ex.cells2;have fex:=ex.frozen
   go_wp2_with fail
   refine AB (KJ _ _ Y x _ (HV.out.ext hx) (Hxz.out.has (by have:=Hx.out.2;omega))) ?_;rintro r4 w4 ⟨q0,m0,rfl,hq,hm⟩ hx4;rw[if_neg (by have:=Hx.out.1;omega)];obtain⟨b8,A8,n8,c8,rfl⟩:=hq.cells;obtain⟨b9,A9,n9,c9,rfl⟩:=hm.cells;have HQ:=Ad hq;have HXZ:=Ad (Hxz.out.ext hx4);clear hm hq Hxz cea0 cea1 fea cex0 cex1 fex;replace ea:=ea.ext hx4;replace ez:=ez.ext hx4;replace ex:=ex.ext hx4;replace ht:=ht.ext hx4
   replace hx:=hx.trans hx4;clear hx4;obtain⟨W5,eW5,e8,x5⟩:=Bh.made w4 26 #[.bool b8,.slice A8 n8 c8] (by simp[Af]);obtain⟨W6,eW6,-,x6⟩:=Bh.made W5 26 #[.bool b9,.slice A9 n9 c9] (by simp[Af]);replace e8:=e8.ext x6;have x56:=x5.trans x6;have HQ6:=Ad (Ai (HQ.out.ext x56) (HXZ.out.ext x56));clear HQ HXZ;replace ea:=ea.ext x56;replace ez:=ez.ext x56;replace ex:=ex.ext x56;replace ht:=ht.ext x56;replace hx:=hx.trans x56
   clear x56;clear x5 x6
   go_upto_region 6 with(fail)
   rw[<-eW5,<-eW6];clear eW5 eW6;generalize w4.heap.size=g8 at *;obtain⟨b6,A6,n6,c6,et,htz⟩:=ht;have Htz:=Ad htz;clear htz;have hsum:sz (x+Y / x).natAbs<=30000:=by
    have h1:=Bl (Int.natAbs_add_le x (Y / x));have h2:=GA x.natAbs (Y / x).natAbs;have h3:=Bl (Int.natAbs_ediv_le_natAbs Y x);have:=Hx.out.2;have:=HA.out.2;omega
   have hq9:sz (Y / x).natAbs<=1000:=Nat.le_trans (Bl (Int.natAbs_ediv_le_natAbs Y x)) HA.out.2;have HS:=Ad (Ai hsum hq9);clear hsum hq9;have hlt6:=ez.lt;obtain⟨cex0,cex1⟩:=ex.cells2;have fex:=ex.frozen;have ce8:=e8.cells2;have fe8:=e8.frozen;have cet:=et.cells2;have fet:=et.frozen
   go_cut [11,12,13] (fun pv qv ev wx=>∃ gc,pv = .pointer (some ⟨gc,0,none⟩)/\Bp wx gc 26 ((x+Y / x) / 2)/\w.heap.size+1 < gc/\Ext W6 wx)
   case first =>
    refine Bu 11 [7,8] (fun x=>if x=7 then 12 else 13) [36,37,38,39,40,35,41,42,43,11,12] [[],[],[0,1],[],[0,1,2,3],[0,1,2,3,4],[0,1,2,3,4,5],[0,1,2,3,4,5],[0,1,2,3,4,5],[],[],[0,1,2,3,4,5,6,9,10],[0,1,2,3,4,5,6,7,9,10,11],[0,1,2,3,4,5,6,7,8,9,10,11,12]] [5,8,7] [_,_,_] [(kv ?_),(kv ?_),(fun γ=>γ 2),(kv ?_),(fun γ=>γ 4),(fun γ=>γ 4),(fun γ=>γ 6),(fun γ=>γ 7),(kv ?_),(fun γ=>γ 9),(fun γ=>γ 10)] (fun γ w'=>[True,True,AP w' (γ 2) (x+Y / x),True,Oo (x+Y / x) 2 (γ 4) w',True,AP w' (γ 6) ((x+Y / x) / 2),gY (γ 4) (γ 7),True,Bb w' (γ 9) W6.heap.size #[.bool false,.slice none 0 0] 26,Bb w' (γ 10) W6.heap.size #[.bool false,.slice none 0 0] 26]) Ko BP BP BP BP BP LJ BP Ka ?m2 ?s2 ?_ ?l2
    case s2 =>
     iterate 11 refine⟨?_,?_⟩
     trivial
     iterate 2 focus
      refine AY fun _ w' he R hR=>?_;have hc:=he.cells;have cq0:=he.cell cex0;have cq1:=he.cell cex1;have cq2:=(e8.ext he).cells2;have cq3:=(et.ext he).cells2;go_simp;exact Br hR
     ·refine AY fun _ w' he R hR=>?_
      go_simp;exact Bf (Ow _ _ x (Y / x) w' ((HQ6.out.2.ext he).has (by have:=Hx.out.2;omega)) ((HQ6.out.1.ext he).has (by have:=HS.out.2;omega))) hR
     iterate 1 focus
      refine AY fun _ w' he R hR=>?_;have hc:=he.cells;have cq0:=he.cell cex0;have cq1:=he.cell cex1;have cq2:=(e8.ext he).cells2;have cq3:=(et.ext he).cells2;go_simp;exact Br hR
     ·refine EF fun γ w' he hf R hR=>?_;have f2:AP w' (γ 2) (x+Y / x):=hf 2 Ab;clear hf
      go_simp;exact Bf (KJ _ _ _ 2 w' (f2.has (by have:=HS.out.1;omega)) ((Htz.out.ext he).has Ab)) hR
     ·refine AY fun _ w' he R hR=>?_
      have hc:=he.cells;go_simp
      (try go_ints);(try(rw[if_neg Aa]));(try(rw[if_pos Aa]));(try go_simp);(try go_ints)
      exact Br hR
     ·refine EF fun γ w' he hf R hR=>?_;have f4:Oo (x+Y / x) 2 (γ 4) w':=hf 4 Ab;clear hf
      obtain⟨q',m',e,ha,hb⟩:=f4;go_simp;exact hR _ _ (Ext.refl _) rfl ha
     ·refine EF fun γ w' he hf R hR=>?_;have f4:Oo (x+Y / x) 2 (γ 4) w':=hf 4 Ab;clear hf
      obtain⟨q',m',e,ha,hb⟩:=f4;go_simp;exact hR _ _ (Ext.refl _) rfl ⟨_,_,e⟩
     ·refine EF fun γ w' he hf R hR=>?_;have f4:Oo (x+Y / x) 2 (γ 4) w':=hf 4 Ab;clear hf
      obtain⟨q',m',e,ha⟩:=f4;have hc:=he.cells;go_simp
      (try go_ints);(try(rw[if_neg Aa]));(try(rw[if_pos Aa]));(try go_simp);(try go_ints)
      exact Br hR
     ·refine AY fun _ w' he R hR=>?_
      go_simp;exact hR _ _ ((Ext.refl _).alloc _) rfl (Bb.mk (Nat.le_trans Ac he.size) (by simp[Af]))
     ·refine AY fun _ w' he R hR=>?_
      go_simp;exact hR _ _ ((Ext.refl _).alloc _) rfl (Bb.mk (Nat.le_trans Ac he.size) (by simp[Af]))
    case m2 =>
     exact⟨⟨⟨⟨⟨⟨⟨⟨⟨⟨⟨trivial,(fun γ wA w' e h=>h)⟩,(fun γ wA w' e h=>h)⟩,(fun γ wA w' e h=>(show AP wA (γ 2) (x+Y / x)from h).ext e)⟩,(fun γ wA w' e h=>h)⟩,(fun γ w w' e h=>Z7 h e)⟩,(fun γ wA w' e h=>h)⟩,(fun γ w w' e h=>AP.ext_ h e)⟩,(fun γ w w' e h=>h)⟩,(fun γ wA w' e h=>h)⟩,(fun γ wA w' e h=>(show Bb wA (γ 9) W6.heap.size #[.bool false,.slice none 0 0] 26 from h).ext e)⟩,(fun γ wA w' e h=>(show Bb wA (γ 10) W6.heap.size #[.bool false,.slice none 0 0] 26 from h).ext e)⟩
    case l2 =>
     intro Pn hPs hPn;rcases lU hPs hPn with rfl | rfl | rfl<;>clear hPs hPn
     ·intro γ w7 hx7 hF hA
      have na9x10:γ 9≠γ 10:=hA 9 10 Ab Ab Ab Ab Ab ⟨_,_,rfl,rfl⟩ ⟨_,_,rfl,rfl⟩;clear hA;have p2:AP w7 (γ 2) (x+Y / x):=(Ak.get hF 2 Ab).resolve_left Ab;have p4:Oo (x+Y / x) 2 (γ 4) w7:=(Ak.get hF 4 Ab).resolve_left Ab;have p6:AP w7 (γ 6) ((x+Y / x) / 2):=(Ak.get hF 6 Ab).resolve_left Ab;have p9:Bb w7 (γ 9) W6.heap.size #[.bool false,.slice none 0 0] 26:=(Ak.get hF 9 Ab).resolve_left Ab;have p10:Bb w7 (γ 10) W6.heap.size #[.bool false,.slice none 0 0] 26:=(Ak.get hF 10 Ab).resolve_left Ab
      clear hF;show AV _ _ _ _ 4 [7] 11 _ _;simp only[Bg,Nat.reduceAdd,Co,SN];generalize γ 2=g2 at *;generalize γ 4=g4 at *;generalize γ 6=g6 at *;generalize γ 9=g9 at *;generalize γ 10=g10 at *;clear γ;obtain⟨q4,m4,rfl,ha4,hb4⟩:=p4;obtain⟨bm,Am,nm,cm,rfl⟩:=hb4.cells
      (try(obtain⟨_,_,h7⟩:=p7;cases h7))
      obtain⟨gc,rfl,hgc,ec⟩:=p9;obtain⟨gd,rfl,hgd,ed⟩:=p10;have hcd:gc≠gd:=fun e=>na9x10 (by rw[e]);clear na9x10;obtain⟨bq,Aq,nq,cq,rfl⟩:=p6.cells;clear cex0 cex1 ce8 cet p2 ha4 hb4;have cec:=ec.cells2;have fec:=ec.frozen;have ced:=ed.cells2;have fed:=ed.frozen
      repeat' first
       | (refine AV.nil ?_;simp only[Gj];go_wp2;done)
       | (refine AV.nil ?_;(try simp only[Gj]);go_wp2)
       | (refine AV.mk _ ⟨?_,trivial⟩ (fun h=>?_)<;>first | exact absurd h Ab | ((try clear h);simp only[CX,Gj];go_wp2;first | show AV _ _ _ _ _ [7] _ _ _ | show AV _ _ _ _ _ [8] _ _ _ | show AV _ _ _ _ _ [] _ _ _ | show AV _ _ _ _ _ [7,8] _ _ _))
      all_goals
       skip;obtain⟨W4,eW,ec',U⟩:=ec.put2 (.bool bq) (.slice Aq nq cq);rw[<-eW];clear eW ec;replace p6:=p6.kd U.kd;replace ed:=ed.upd U Aj;replace hx7:=U.from_ hx7 Aj;have ec:=ec';clear U ec';obtain⟨W8,eW,ed',U⟩:=ed.put2 (.bool bm) (.slice Am nm cm);rw[<-eW];clear eW ed;replace p6:=p6.kd U.kd;replace ec:=ec.upd U Aj;replace hx7:=U.from_ hx7 Aj;have ed:=ed';clear U ed'
       go_meet
       case rel=>exact⟨gc,rfl,Bp.mk ec p6,Aa,hx7⟩
     ·intro γ w7 hx7 hF hA
      have na9x10:γ 9≠γ 10:=hA 9 10 Ab Ab Ab Ab Ab ⟨_,_,rfl,rfl⟩ ⟨_,_,rfl,rfl⟩;clear hA;have p2:AP w7 (γ 2) (x+Y / x):=(Ak.get hF 2 Ab).resolve_left Ab;have p4:Oo (x+Y / x) 2 (γ 4) w7:=(Ak.get hF 4 Ab).resolve_left Ab;have p6:AP w7 (γ 6) ((x+Y / x) / 2):=(Ak.get hF 6 Ab).resolve_left Ab;have p7:gY (γ 4) (γ 7):=(Ak.get hF 7 Ab).resolve_left Ab;have p9:Bb w7 (γ 9) W6.heap.size #[.bool false,.slice none 0 0] 26:=(Ak.get hF 9 Ab).resolve_left Ab
      have p10:Bb w7 (γ 10) W6.heap.size #[.bool false,.slice none 0 0] 26:=(Ak.get hF 10 Ab).resolve_left Ab;clear hF;show AV _ _ _ _ 4 [8] 11 _ _;simp only[Bg,Nat.reduceAdd,Co,SN];generalize γ 2=g2 at *;generalize γ 4=g4 at *;generalize γ 6=g6 at *;generalize γ 7=g7 at *;generalize γ 9=g9 at *;generalize γ 10=g10 at *;clear γ;obtain⟨q4,m4,rfl,ha4,hb4⟩:=p4;obtain⟨bm,Am,nm,cm,rfl⟩:=hb4.cells
      (try(obtain⟨_,_,h7⟩:=p7;cases h7))
      obtain⟨gc,rfl,hgc,ec⟩:=p9;obtain⟨gd,rfl,hgd,ed⟩:=p10;have hcd:gc≠gd:=fun e=>na9x10 (by rw[e]);clear na9x10;obtain⟨bq,Aq,nq,cq,rfl⟩:=p6.cells;clear cex0 cex1 ce8 cet p2 ha4 hb4;have cec:=ec.cells2;have fec:=ec.frozen;have ced:=ed.cells2;have fed:=ed.frozen
      repeat' first
       | (refine AV.nil ?_;simp only[Gj];go_wp2;done)
       | (refine AV.nil ?_;(try simp only[Gj]);go_wp2)
       | (refine AV.mk _ ⟨?_,trivial⟩ (fun h=>?_)<;>first | exact absurd h Ab | ((try clear h);simp only[CX,Gj];go_wp2;first | show AV _ _ _ _ _ [7] _ _ _ | show AV _ _ _ _ _ [8] _ _ _ | show AV _ _ _ _ _ [] _ _ _ | show AV _ _ _ _ _ [7,8] _ _ _))
      all_goals
       skip;obtain⟨W4,eW,ec',U⟩:=ec.put2 (.bool bq) (.slice Aq nq cq);rw[<-eW];clear eW ec;replace p6:=p6.kd U.kd;replace ed:=ed.upd U Aj;replace hx7:=U.from_ hx7 Aj;have ec:=ec';clear U ec';obtain⟨W8,eW,ed',U⟩:=ed.put2 (.bool bm) (.slice Am nm cm);rw[<-eW];clear eW ed;replace p6:=p6.kd U.kd;replace ec:=ec.upd U Aj;replace hx7:=U.from_ hx7 Aj;have ed:=ed';clear U ed'
       go_meet
       case rel=>exact⟨gc,rfl,Bp.mk ec p6,Aa,hx7⟩
     ·intro γ w7 hx7 hF hA
      have na9x10:γ 9≠γ 10:=hA 9 10 Ab Ab Ab Ab Ab ⟨_,_,rfl,rfl⟩ ⟨_,_,rfl,rfl⟩;clear hA;have p2:AP w7 (γ 2) (x+Y / x):=(Ak.get hF 2 Ab).resolve_left Ab;have p4:Oo (x+Y / x) 2 (γ 4) w7:=(Ak.get hF 4 Ab).resolve_left Ab;have p6:AP w7 (γ 6) ((x+Y / x) / 2):=(Ak.get hF 6 Ab).resolve_left Ab;have p9:Bb w7 (γ 9) W6.heap.size #[.bool false,.slice none 0 0] 26:=(Ak.get hF 9 Ab).resolve_left Ab;have p10:Bb w7 (γ 10) W6.heap.size #[.bool false,.slice none 0 0] 26:=(Ak.get hF 10 Ab).resolve_left Ab
      clear hF;show AV _ _ _ _ 5 [7,8] 11 _ _;simp only[Bg,Nat.reduceAdd,Co,SN];generalize γ 2=g2 at *;generalize γ 4=g4 at *;generalize γ 6=g6 at *;generalize γ 9=g9 at *;generalize γ 10=g10 at *;clear γ;obtain⟨q4,m4,rfl,ha4,hb4⟩:=p4;obtain⟨bm,Am,nm,cm,rfl⟩:=hb4.cells
      (try(obtain⟨_,_,h7⟩:=p7;cases h7))
      obtain⟨gc,rfl,hgc,ec⟩:=p9;obtain⟨gd,rfl,hgd,ed⟩:=p10;have hcd:gc≠gd:=fun e=>na9x10 (by rw[e]);clear na9x10;obtain⟨bq,Aq,nq,cq,rfl⟩:=p6.cells;clear cex0 cex1 ce8 cet p2 ha4 hb4;have cec:=ec.cells2;have fec:=ec.frozen;have ced:=ed.cells2;have fed:=ed.frozen
      repeat' first
       | (refine AV.nil ?_;simp only[Gj];go_wp2;done)
       | (refine AV.nil ?_;(try simp only[Gj]);go_wp2)
       | (refine AV.mk _ ⟨?_,?_,trivial⟩ (fun h=>?_)<;>first | exact absurd h Ab | ((try clear h);simp only[CX,Gj];go_wp2;first | show AV _ _ _ _ _ [7] _ _ _ | show AV _ _ _ _ _ [8] _ _ _ | show AV _ _ _ _ _ [] _ _ _ | show AV _ _ _ _ _ [7,8] _ _ _))
       | (refine AV.mk _ ⟨?_,trivial⟩ (fun h=>?_)<;>first | exact absurd h Ab | ((try clear h);simp only[CX,Gj];go_wp2;first | show AV _ _ _ _ _ [7] _ _ _ | show AV _ _ _ _ _ [8] _ _ _ | show AV _ _ _ _ _ [] _ _ _ | show AV _ _ _ _ _ [7,8] _ _ _))
      all_goals
       skip;obtain⟨W4,eW,ec',U⟩:=ec.put2 (.bool bq) (.slice Aq nq cq);rw[<-eW];clear eW ec;replace p6:=p6.kd U.kd;replace ed:=ed.upd U Aj;replace hx7:=U.from_ hx7 Aj;have ec:=ec';clear U ec';obtain⟨W8,eW,ed',U⟩:=ed.put2 (.bool bm) (.slice Am nm cm);rw[<-eW];clear eW ed;replace p6:=p6.kd U.kd;replace ec:=ec.upd U Aj;replace hx7:=U.from_ hx7 Aj;have ed:=ed';clear U ed'
       go_meet
       case rel=>exact⟨gc,rfl,Bp.mk ec p6,Aa,hx7⟩
    intro γ w7 hx7 hF hA;have na9x10:γ 9≠γ 10:=hA 9 10 Ab Ab Ab ⟨_,_,rfl,rfl⟩ ⟨_,_,rfl,rfl⟩;clear hA;have p2:AP w7 (γ 2) (x+Y / x):=Ak.get hF 2 Ab;have p4:Oo (x+Y / x) 2 (γ 4) w7:=Ak.get hF 4 Ab;have p6:AP w7 (γ 6) ((x+Y / x) / 2):=Ak.get hF 6 Ab;have p7:gY (γ 4) (γ 7):=Ak.get hF 7 Ab;have p9:Bb w7 (γ 9) W6.heap.size #[.bool false,.slice none 0 0] 26:=Ak.get hF 9 Ab;have p10:Bb w7 (γ 10) W6.heap.size #[.bool false,.slice none 0 0] 26:=Ak.get hF 10 Ab
    clear hF;simp only[Bg,Nat.reduceAdd];generalize γ 2=g2 at *;generalize γ 4=g4 at *;generalize γ 6=g6 at *;generalize γ 7=g7 at *;generalize γ 9=g9 at *;generalize γ 10=g10 at *;clear γ;obtain⟨q4,m4,rfl,ha4,hb4⟩:=p4;obtain⟨bm,Am,nm,cm,rfl⟩:=hb4.cells
    (try(obtain⟨_,_,h7⟩:=p7;cases h7))
    obtain⟨gc,rfl,hgc,ec⟩:=p9;obtain⟨gd,rfl,hgd,ed⟩:=p10;have hcd:gc≠gd:=fun e=>na9x10 (by rw[e]);clear na9x10;obtain⟨bq,Aq,nq,cq,rfl⟩:=p6.cells;clear cex0 cex1 ce8 cet p2 ha4 hb4;have cec:=ec.cells2;have fec:=ec.frozen;have ced:=ed.cells2;have fed:=ed.frozen;go_wp2;skip;obtain⟨W4,eW,ec',U⟩:=ec.put2 (.bool bq) (.slice Aq nq cq);rw[<-eW];clear eW ec;replace p6:=p6.kd U.kd;replace ed:=ed.upd U Aj;replace hx7:=U.from_ hx7 Aj
    have ec:=ec';clear U ec';obtain⟨W8,eW,ed',U⟩:=ed.put2 (.bool bm) (.slice Am nm cm);rw[<-eW];clear eW ed;replace p6:=p6.kd U.kd;replace ec:=ec.upd U Aj;replace hx7:=U.from_ hx7 Aj;have ed:=ed';clear U ed'
    go_meet
    case rel=>exact⟨gc,rfl,Bp.mk ec p6,Aa,hx7⟩
   case rest =>
    clear cex0 cex1 fex ce8 fe8 cet fet hlt6;obtain⟨gc,rfl,⟨bq,Aq,nq,cq,ec,hy⟩,hgc,hx7⟩:=hcut;rename_i wy;have Hy:=Ad (Ai hy (Ai (HQ6.out.2.ext hx7) (Tm HA.out.1 Hx.out.1)));have HT:=Ad (Htz.out.ext hx7);clear hy HQ6 e8 Htz;replace ea:=ea.ext hx7;replace ez:=ez.ext hx7;replace ex:=ex.ext hx7;replace et:=et.ext hx7;replace hx:=hx.trans hx7;clear hx7;obtain⟨cex0,cex1⟩:=ex.cells2;have fex:=ex.frozen;have cec:=ec.cells2
    have fec:=ec.frozen
    go_wp2_with fail
    refine AB (dJ _ _ ((x+Y / x) / 2) x _ (Hy.out.1.has (by have h1:=Int.natAbs_ediv_le_natAbs (x+Y / x) 2;have h2:=Bl h1;have:=HS.out.1;omega)) (Hy.out.2.1.has (by have:=Hx.out.2;omega))) ?_;rintro r10 w10 rfl hx10;have Hy':=Ad (Hy.out.1.ext_ hx10);have Hx':=Ad (Hy.out.2.1.ext_ hx10);have HT':=Ad (HT.out.ext_ hx10);clear cex0 cex1 fex cec fec HT;replace ea:=ea.ext hx10;replace ez:=ez.ext hx10;replace ex:=ex.ext hx10
    replace et:=et.ext hx10;replace ec:=ec.ext hx10;replace hx:=hx.trans hx10;clear hx10;by_cases hge:(x+Y / x) / 2 < x
    ·have hsg:((x+Y / x) / 2 - x).sign = -1:=Int.sign_eq_neg_one_of_neg Aa
     rw[hsg];obtain⟨cex0,cex1⟩:=ex.cells2;have fex:=ex.frozen;have cec:=ec.cells2;have fec:=ec.frozen
     go_upto_region 8 with(fail)
     have hy:=Hy'.out;have ht:=HT'.out;go_wp2;have hxg:=ex.lt;obtain⟨W11,eW,ex',U⟩:=ex.put2 (.bool bq) (.slice Aq nq cq);rw[<-eW];clear eW ex;replace hy:=hy.kd U.kd;replace ht:=ht.kd U.kd;replace ea:=ea.upd U Aj;replace ez:=ez.upd U Aj;replace et:=et.upd U Aj;replace hx:=U.from_ hx Aj;have ex:=ex';clear U ex';have hb1:=QL (Bp.mk ex hy);have hpos:=Hy.out.2.2;have hx0:=Hx.out.1;have hmul:((x+Y / x) / 2).natAbs < x.natAbs:=by omega
     go_roundw
     case rel=>exact⟨(x+Y / x) / 2,hpos,Nat.le_trans (Bl (Nat.le_of_lt hmul)) Hx.out.2,ea,ez,Bp.mk ex hy,Bp.mk et ht,hx⟩
     case measure=>rw[hb1,Hb2.out];exact hmul
    ·have hsg:0<=((x+Y / x) / 2 - x).sign:=by
      rcases Int.lt_or_eq_of_le (show 0<=(x+Y / x) / 2 - x by omega)with q | q
      ·rw[Int.sign_eq_one_of_pos q];decide
      ·rw[<-q];decide
     generalize ((x+Y / x) / 2 - x).sign=sg at *;have hmz:sz (x*x).natAbs<=1099511627776:=by
      rw[Int.natAbs_mul];have:=Cg x.natAbs x.natAbs;have:=Hx.out.2;omega
     have HM:=Ad hmz;clear hmz;obtain⟨cex0,cex1⟩:=ex.cells2;have fex:=ex.frozen;obtain⟨cea0,cea1⟩:=ea.cells2;have fea:=ea.frozen;have cez:=ez.cells2;have fez:=ez.frozen
     go_upto_region 9 with(fail)
     have hxz:=Hx'.out;clear ec hge hgc;refine Bu 7 [6] (fun x=>8) [49,50,51,52,53,54,55] [[],[],[],[1,2],[],[1,2,3,4],[1,2,3,4,5],[0,1,2,3,4,5],[0,1,2,3,4,5,6,7],[0,1,2,3,4,5,6,7,8]] [5,1] [_,_] [(kv ?_),(kv ?_),(kv ?_),(fun γ=>γ 3),(kv ?_),(kv (.int .i64 (x*x - Y).sign)),(kv (.bool ((x*x - Y).sign==0)))] (fun γ w'=>[True,True,True,AP w' (γ 3) (x*x),True,True,True]) Ko BP BP BP BP BP LJ BP Ka Zx ?s3 ?_ ?l3
     case s3 =>
      iterate 7 refine⟨?_,?_⟩
      trivial
      iterate 3 focus
       refine AY fun _ w' he R hR=>?_;have hc:=he.cells;have cq0:=he.cell cex0;have cq1:=he.cell cex1;have cq2:=he.cell cea0;have cq3:=he.cell cea1;go_simp;exact Br hR
      ·refine AY fun _ w' he R hR=>?_
       go_simp;exact Bf (E8 _ _ x x w' ((Hx'.out.ext_ he).has (by have:=Hx.out.2;omega)) ((Hx'.out.ext_ he).has (by have:=Hx.out.2;omega))) hR
      iterate 1 focus
       refine AY fun _ w' he R hR=>?_;have hc:=he.cells;have cq0:=he.cell cex0;have cq1:=he.cell cex1;have cq2:=he.cell cea0;have cq3:=he.cell cea1;go_simp;exact Br hR
      ·refine EF fun γ w' he hf R hR=>?_;have f3:AP w' (γ 3) (x*x):=hf 3 Ab;clear hf
       go_simp;exact LW (dJ _ _ (x*x) Y w' (f3.has HM.out) (HV.out.ext (hx.trans he))) hR
      ·refine AY fun _ w' he R hR=>?_
       have hc:=he.cells;go_simp
       (try go_ints);(try(rw[if_neg Aa]));(try(rw[if_pos Aa]));(try go_simp);(try go_ints)
       exact Br hR
     case l3 =>
      intro Pn hPs hPn;obtain rfl:=Gr hPs hPn;clear hPs hPn
      ·intro γ w11 hx11 hF hA
       clear hA;have p3:AP w11 (γ 3) (x*x):=(Ak.get hF 3 Ab).resolve_left Ab;clear hF;show AV _ _ _ _ 4 [6] 7 _ _;simp only[Bg,Nat.reduceAdd,Co,SN];generalize γ 3=g3 at *;clear γ;skip;clear cex0 cex1 fex cea0 cea1 fea cez fez p3;replace hxz:=hxz.ext_ hx11;replace ez:=ez.ext hx11;replace hx:=hx.trans hx11;clear hx11;have cez:=ez.cells2;have fez:=ez.frozen
       repeat' first
        | (refine AV.nil ?_;simp only[Gj];go_wp2;done)
        | (refine AV.nil ?_;(try simp only[Gj]);go_wp2)
        | (refine AV.mk _ ⟨?_,trivial⟩ (fun h=>?_)<;>first | exact absurd h Ab | ((try clear h);simp only[CX,Gj];go_wp2;first | show AV _ _ _ _ _ [6] _ _ _ | show AV _ _ _ _ _ [] _ _ _))
       all_goals
        skip;obtain⟨W12,eW,ez',U⟩:=ez.put2 (.bool b7) (.slice A7 n7 c7);rw[<-eW];clear eW ez;replace hxz:=hxz.kd U.kd;replace hx:=U.from_ hx Aj;have ez:=ez';clear U ez';clear cez fez;have cez:=ez.cells2;have fez:=ez.frozen;refine bodyPost_ret (v := .tuple #[.agg #[.bool b7,.slice A7 n7 c7],.bool ((x*x - Y).sign==0),.int .i64 0]) (by simp[results,Tryz.results175,go_sem,cez]) rfl ?_;exact Ag.mk ⟨_,x,_,rfl,hxz,Hx.out.1,Hx.out.2⟩ hx
     intro γ w11 hx11 hF hA;clear hA;have p3:AP w11 (γ 3) (x*x):=Ak.get hF 3 Ab;clear hF;simp only[Bg,Nat.reduceAdd];generalize γ 3=g3 at *;clear γ;skip;clear cex0 cex1 fex cea0 cea1 fea cez fez p3;replace hxz:=hxz.ext_ hx11;replace ez:=ez.ext hx11;replace hx:=hx.trans hx11;clear hx11;have cez:=ez.cells2;have fez:=ez.frozen;go_wp2;skip;obtain⟨W12,eW,ez',U⟩:=ez.put2 (.bool b7) (.slice A7 n7 c7);rw[<-eW]
     clear eW ez;replace hxz:=hxz.kd U.kd;replace hx:=U.from_ hx Aj;have ez:=ez';clear U ez';clear cez fez;have cez:=ez.cells2;have fez:=ez.frozen;refine bodyPost_ret (v := .tuple #[.agg #[.bool b7,.slice A7 n7 c7],.bool ((x*x - Y).sign==0),.int .i64 0]) (by simp[results,Tryz.results175,go_sem,cez]) rfl ?_;exact Ag.mk ⟨_,x,_,rfl,hxz,Hx.out.1,Hx.out.2⟩ hx
theorem iH(v u:Value)(F G:Nat->Rat)(M:Nat)(w:World)(hv:AC 0 w v F)(hu:AC 0 w u G)(hs:∀ i,qsz (F i)<=M)(ht:∀ i,qsz (G i)<=M)(h0:G≠pz)(hn:pl F<=549755813888)(hm:pl G<=549755813888)(hst:M+(pl F+1)*(M+1)+M<=549755813888) :
  Bc 95 #[v,u] w ((dM w.heap.size (Gl F G (pl F+1 - pl G)) (Dj F G (pl F+1 - pl G)))):=by
 obtain⟨l,h1,h2,-,rfl⟩:=hv.hz (fun i=>by have:=hs i;omega);obtain⟨m,k1,k2,-,rfl⟩:=hu.hz (fun i=>by have:=ht i;omega);exact iY v u l m M M w h1 k1 hs ht Aa Aa h0 (by rw[h2];omega)
theorem Jn(v:Value)(F:Nat->Rat)(w:World)(hv:AC 0 w v F)(hs:∀ i,qsz (F i)<=1099511627776)(hn:pl F<=1099511627776) :
  Bc 85 #[v] w (fun r w'=>AC w.heap.size w' r (pp F)):=by
 obtain⟨l,h1,h2,-,rfl⟩:=hv.hz hs;exact FJ v l w h1 Aa
theorem Wv(v u:Value)(F:Nat->Rat)(a:Int)(w:World)(hv:AC 0 w v F)(hs:∀ i,qsz (F i)<=1099511627776)(hu:Bq w u a)(hn:pl F<=1099511627776) :
  Bc 96 #[v,u] w (fun r w'=>AC 0 w' r (psc (a:Rat) F)):=by
 obtain⟨l,h1,h2,-,rfl⟩:=hv.hz hs;exact Ag.imp (R7 v u l a w h1 hu Aa) fun _ _ h=>h.base_le (Nat.zero_le _)
end Go.Proofs.YtmhgnigpmompmaaGreat
